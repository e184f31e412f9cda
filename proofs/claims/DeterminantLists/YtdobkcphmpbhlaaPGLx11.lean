-- Written by a program of this session (hprint.py) out of the translation and of hand-proved parts. Lean checks it.
import Derived.Test.YtdobkcphmpbhlaaPGLx0
import Derived.Test.YtdobkcphmpbhlaaPGLx1
import Derived.Test.YtdobkcphmpbhlaaPGLx10
namespace Go.Proofs.Ytdobkcphmpbhlaa.PGL
open Go.RowKit Go.Proofs.YtdobkcphmpbhlaaW.PrintWords Go.Proofs.YtdobkcphmpbhlaaW.PrintLast Go.Proofs.YtdobkcphmpbhlaaW.PrintMore
attribute [local go_sem] max2_int min2_int max_two min_two max_three min_three max_four min_four   -- for this text's walks alone
set_option linter.unusedVariables false
set_option linter.unusedSimpArgs false

attribute [local go_sem high] eqA28
/-! ### rollbacknetref27_Merge: function 25 -/
mutual
def rollbacknetref27_Merge.l0 : Nat → List (S28) → List (S28) → List (S28) → Int → Option ((List (S28)))
 | 0, _, _, _, _ => none
 | k + 1, x0, x1, x5, x6 => if x6 < (wrap64 ((x0.length : Int) + (x1.length : Int))) then (if x6 < (x0.length : Int) then (if 0 ≤ x6 then (rollbacknetref27_Merge.j1 k x0 x1 x5 x6 ((rd_T28 x0 x6).f0) ((rd_T28 x0 x6).f1) ((rd_T28 x0 x6).f2.f0) ((rd_T28 x0 x6).f2.f1) ((rd_T28 x0 x6).f2.f2) ((rd_T28 x0 x6).f2.f3.f0) ((rd_T28 x0 x6).f2.f3.f1) ((rd_T28 x0 x6).f2.f4) ((rd_T28 x0 x6).f2.f5)) else (none)) else (if 0 ≤ (wrap64 (x6 - (x0.length : Int))) then (if (wrap64 (x6 - (x0.length : Int))) < (x1.length : Int) then (rollbacknetref27_Merge.j1 k x0 x1 x5 x6 ((rd_T28 x1 (wrap64 (x6 - (x0.length : Int)))).f0) ((rd_T28 x1 (wrap64 (x6 - (x0.length : Int)))).f1) ((rd_T28 x1 (wrap64 (x6 - (x0.length : Int)))).f2.f0) ((rd_T28 x1 (wrap64 (x6 - (x0.length : Int)))).f2.f1) ((rd_T28 x1 (wrap64 (x6 - (x0.length : Int)))).f2.f2) ((rd_T28 x1 (wrap64 (x6 - (x0.length : Int)))).f2.f3.f0) ((rd_T28 x1 (wrap64 (x6 - (x0.length : Int)))).f2.f3.f1) ((rd_T28 x1 (wrap64 (x6 - (x0.length : Int)))).f2.f4) ((rd_T28 x1 (wrap64 (x6 - (x0.length : Int)))).f2.f5)) else (none)) else (none))) else (some x5)
def rollbacknetref27_Merge.j1 : Nat → List (S28) → List (S28) → List (S28) → Int → Int → Int → Int → Int → Int → Int → Int → Int → Int → Option ((List (S28)))
 | 0, _, _, _, _, _, _, _, _, _, _, _, _, _ => none
 | k + 1, x0, x1, x5, x6, x287000, x287001, x287002, x287003, x287004, x287005, x287006, x287007, x287008 => rollbacknetref27_Merge.l1 k x0 x1 x5 x6 (x5.length : Int) x287000 x287001 x287002 x287003 x287004 x287005 x287006 x287007 x287008
def rollbacknetref27_Merge.l1 : Nat → List (S28) → List (S28) → List (S28) → Int → Int → Int → Int → Int → Int → Int → Int → Int → Int → Int → Option ((List (S28)))
 | 0, _, _, _, _, _, _, _, _, _, _, _, _, _, _ => none
 | k + 1, x0, x1, x5, x6, x8, x287000, x287001, x287002, x287003, x287004, x287005, x287006, x287007, x287008 => if x8 > 0 then (if 0 ≤ (wrap64 (x8 - 1)) then (if (wrap64 (x8 - 1)) < (x5.length : Int) then ((rollbacknetref27_Compare.f k ((rd_T28 x5 (wrap64 (x8 - 1))).f0) ((rd_T28 x5 (wrap64 (x8 - 1))).f1) ((rd_T28 x5 (wrap64 (x8 - 1))).f2.f0) ((rd_T28 x5 (wrap64 (x8 - 1))).f2.f1) ((rd_T28 x5 (wrap64 (x8 - 1))).f2.f2) ((rd_T28 x5 (wrap64 (x8 - 1))).f2.f3.f0) ((rd_T28 x5 (wrap64 (x8 - 1))).f2.f3.f1) ((rd_T28 x5 (wrap64 (x8 - 1))).f2.f4) ((rd_T28 x5 (wrap64 (x8 - 1))).f2.f5) x287000 x287001 x287002 x287003 x287004 x287005 x287006 x287007 x287008).bind fun t290 => (if t290 > 0 then (rollbacknetref27_Merge.l1 k x0 x1 x5 x6 (wrap64 (x8 - 1)) x287000 x287001 x287002 x287003 x287004 x287005 x287006 x287007 x287008) else (if (((rd_T28 x5 (wrap64 (x8 - 1))).f0) == x287000 && (((rd_T28 x5 (wrap64 (x8 - 1))).f1) == x287001 && ((((rd_T28 x5 (wrap64 (x8 - 1))).f2.f0) == x287002 && (((rd_T28 x5 (wrap64 (x8 - 1))).f2.f1) == x287003 && (((rd_T28 x5 (wrap64 (x8 - 1))).f2.f2) == x287004 && ((((rd_T28 x5 (wrap64 (x8 - 1))).f2.f3.f0) == x287005 && (((rd_T28 x5 (wrap64 (x8 - 1))).f2.f3.f1) == x287006)) && (((rd_T28 x5 (wrap64 (x8 - 1))).f2.f4) == x287007 && (((rd_T28 x5 (wrap64 (x8 - 1))).f2.f5) == x287008))))))))) = true then (rollbacknetref27_Merge.l0 k x0 x1 x5 (wrap64 (x6 + 1))) else (if x5.length < 1954687338268 then ((some (x5 ++ [(⟨0, 0, (⟨0, 0, 0, (⟨0, 0⟩ : S24), 0, 0⟩ : S26)⟩ : S28)] : List (S28))).bind fun y292 => (if 0 ≤ (wrap64 (x8 + 1)) then (if (wrap64 (x8 + 1)) ≤ (y292.length : Int) then (if 0 ≤ x8 then (if x8 ≤ (y292.length : Int) then (if x8 < (y292.length : Int) then (rollbacknetref27_Merge.l0 k x0 x1 ((shiftAt y292 (x8 : Int).toNat).set (x8 : Int).toNat (⟨x287000, x287001, (⟨x287002, x287003, x287004, (⟨x287005, x287006⟩ : S24), x287007, x287008⟩ : S26)⟩ : S28)) (wrap64 (x6 + 1))) else (none)) else (none)) else (none)) else (none)) else (none))) else (none))))) else (none)) else (none)) else (if x5.length < 1954687338268 then ((some (x5 ++ [(⟨0, 0, (⟨0, 0, 0, (⟨0, 0⟩ : S24), 0, 0⟩ : S26)⟩ : S28)] : List (S28))).bind fun y305 => (if 0 ≤ (wrap64 (x8 + 1)) then (if (wrap64 (x8 + 1)) ≤ (y305.length : Int) then (if 0 ≤ x8 then (if x8 ≤ (y305.length : Int) then (if x8 < (y305.length : Int) then (rollbacknetref27_Merge.l0 k x0 x1 ((shiftAt y305 (x8 : Int).toNat).set (x8 : Int).toNat (⟨x287000, x287001, (⟨x287002, x287003, x287004, (⟨x287005, x287006⟩ : S24), x287007, x287008⟩ : S26)⟩ : S28)) (wrap64 (x6 + 1))) else (none)) else (none)) else (none)) else (none)) else (none))) else (none))
end
def rollbacknetref27_Merge.f (k : Nat) (l0 : List (S28)) (l1 : List (S28)) : Option ((List (S28))) := rollbacknetref27_Merge.l0 k l0 l1 ([] : List (S28)) 0
theorem rollbacknetref27_Merge.mono_l : ∀ k, (∀ y0 y1 y2 y3, LeO (rollbacknetref27_Merge.l0 k y0 y1 y2 y3) (rollbacknetref27_Merge.l0 (k + 1) y0 y1 y2 y3)) ∧ (∀ y0 y1 y2 y3 y4 y5 y6 y7 y8 y9 y10 y11 y12, LeO (rollbacknetref27_Merge.j1 k y0 y1 y2 y3 y4 y5 y6 y7 y8 y9 y10 y11 y12) (rollbacknetref27_Merge.j1 (k + 1) y0 y1 y2 y3 y4 y5 y6 y7 y8 y9 y10 y11 y12)) ∧ (∀ y0 y1 y2 y3 y4 y5 y6 y7 y8 y9 y10 y11 y12 y13, LeO (rollbacknetref27_Merge.l1 k y0 y1 y2 y3 y4 y5 y6 y7 y8 y9 y10 y11 y12 y13) (rollbacknetref27_Merge.l1 (k + 1) y0 y1 y2 y3 y4 y5 y6 y7 y8 y9 y10 y11 y12 y13))
 | 0 => ⟨fun _ _ _ _ r h => by simp [rollbacknetref27_Merge.l0] at h, fun _ _ _ _ _ _ _ _ _ _ _ _ _ r h => by simp [rollbacknetref27_Merge.j1] at h, fun _ _ _ _ _ _ _ _ _ _ _ _ _ _ r h => by simp [rollbacknetref27_Merge.l1] at h⟩
 | k + 1 => by
  obtain ⟨ih0, ih1, ih2⟩ := rollbacknetref27_Merge.mono_l k
  refine ⟨?_, ?_, ?_⟩
  ·intro y0 y1 y2 y3
   unfold rollbacknetref27_Merge.l0
   repeat' first
   | (with_reducible exact ih0 _ _ _ _)
   | (with_reducible exact ih1 _ _ _ _ _ _ _ _ _ _ _ _ _)
   | (with_reducible exact ih2 _ _ _ _ _ _ _ _ _ _ _ _ _ _)
   | (with_reducible exact rollbacknetref27_Compare.mono _ _ _ _ _ _ _ _ _ _ _ _ _ _ _ _ _ _ _)
   | (with_reducible exact LeO.refl _)
   | (with_reducible exact LeO.none _)
   | (with_reducible refine LeO.ite ?_ ?_)
   | (with_reducible refine LeO.bind ?_ (fun _ => ?_))
   | exact ih0 _ _ _ _
   | exact ih1 _ _ _ _ _ _ _ _ _ _ _ _ _
   | exact ih2 _ _ _ _ _ _ _ _ _ _ _ _ _ _
   | exact rollbacknetref27_Compare.mono _ _ _ _ _ _ _ _ _ _ _ _ _ _ _ _ _ _ _
   | exact LeO.none _
   | refine LeO.ite ?_ ?_
   | refine LeO.bind ?_ (fun _ => ?_)
  ·intro y0 y1 y2 y3 y4 y5 y6 y7 y8 y9 y10 y11 y12
   unfold rollbacknetref27_Merge.j1
   repeat' first
   | (with_reducible exact ih0 _ _ _ _)
   | (with_reducible exact ih1 _ _ _ _ _ _ _ _ _ _ _ _ _)
   | (with_reducible exact ih2 _ _ _ _ _ _ _ _ _ _ _ _ _ _)
   | (with_reducible exact rollbacknetref27_Compare.mono _ _ _ _ _ _ _ _ _ _ _ _ _ _ _ _ _ _ _)
   | (with_reducible exact LeO.refl _)
   | (with_reducible exact LeO.none _)
   | (with_reducible refine LeO.ite ?_ ?_)
   | (with_reducible refine LeO.bind ?_ (fun _ => ?_))
   | exact ih0 _ _ _ _
   | exact ih1 _ _ _ _ _ _ _ _ _ _ _ _ _
   | exact ih2 _ _ _ _ _ _ _ _ _ _ _ _ _ _
   | exact rollbacknetref27_Compare.mono _ _ _ _ _ _ _ _ _ _ _ _ _ _ _ _ _ _ _
   | exact LeO.none _
   | refine LeO.ite ?_ ?_
   | refine LeO.bind ?_ (fun _ => ?_)
  ·intro y0 y1 y2 y3 y4 y5 y6 y7 y8 y9 y10 y11 y12 y13
   unfold rollbacknetref27_Merge.l1
   repeat' first
   | (with_reducible exact ih0 _ _ _ _)
   | (with_reducible exact ih1 _ _ _ _ _ _ _ _ _ _ _ _ _)
   | (with_reducible exact ih2 _ _ _ _ _ _ _ _ _ _ _ _ _ _)
   | (with_reducible exact rollbacknetref27_Compare.mono _ _ _ _ _ _ _ _ _ _ _ _ _ _ _ _ _ _ _)
   | (with_reducible exact LeO.refl _)
   | (with_reducible exact LeO.none _)
   | (with_reducible refine LeO.ite ?_ ?_)
   | (with_reducible refine LeO.bind ?_ (fun _ => ?_))
   | exact ih0 _ _ _ _
   | exact ih1 _ _ _ _ _ _ _ _ _ _ _ _ _
   | exact ih2 _ _ _ _ _ _ _ _ _ _ _ _ _ _
   | exact rollbacknetref27_Compare.mono _ _ _ _ _ _ _ _ _ _ _ _ _ _ _ _ _ _ _
   | exact LeO.none _
   | refine LeO.ite ?_ ?_
   | refine LeO.bind ?_ (fun _ => ?_)
theorem rollbacknetref27_Merge.mono : ∀ a0 a1 k, LeO (rollbacknetref27_Merge.f k a0 a1) (rollbacknetref27_Merge.f (k + 1) a0 a1) := by
 intro a0 a1 k
 obtain ⟨ih0, ih1, ih2⟩ := rollbacknetref27_Merge.mono_l k
 unfold rollbacknetref27_Merge.f
 repeat' first
   | (with_reducible exact ih0 _ _ _ _)
   | (with_reducible exact ih1 _ _ _ _ _ _ _ _ _ _ _ _ _)
   | (with_reducible exact ih2 _ _ _ _ _ _ _ _ _ _ _ _ _ _)
   | (with_reducible exact rollbacknetref27_Compare.mono _ _ _ _ _ _ _ _ _ _ _ _ _ _ _ _ _ _ _)
   | (with_reducible exact LeO.refl _)
   | (with_reducible exact LeO.none _)
   | (with_reducible refine LeO.ite ?_ ?_)
   | (with_reducible refine LeO.bind ?_ (fun _ => ?_))
   | exact ih0 _ _ _ _
   | exact ih1 _ _ _ _ _ _ _ _ _ _ _ _ _
   | exact ih2 _ _ _ _ _ _ _ _ _ _ _ _ _ _
   | exact rollbacknetref27_Compare.mono _ _ _ _ _ _ _ _ _ _ _ _ _ _ _ _ _ _ _
   | exact LeO.none _
   | refine LeO.ite ?_ ?_
   | refine LeO.bind ?_ (fun _ => ?_)
def rollbacknetref27_Merge.T10 : Bool × List (List Nat × List Nat) := (true, [([], []), ([0], [0]), ([1], [1]), ([2], [2]), ([2], [2]), ([4, 2], [2, 4]), ([3, 5, 2], [2, 3, 5]), ([6, 2], [2, 6]), ([2], [2]), ([7, 8, 2, 2], [2, 7, 8]), ([9, 2], [2, 9]), ([2, 10], [2, 10])])
def rollbacknetref27_Merge.B10 : List Nat := [0, 1, 3, 7, 7, 23, 63, 127, 7, 511, 1023, 2047]
theorem rollbacknetref27_Merge.tab10 : rtab .any (opsOf Try.f25 10) = rollbacknetref27_Merge.T10 := by kernel_rfl
theorem rollbacknetref27_Merge.bits10 : waitsOk rollbacknetref27_Merge.T10.2 rollbacknetref27_Merge.B10 = true := by kernel_rfl
def rollbacknetref27_Merge.T12 : Bool × List (List Nat × List Nat) := (true, [([], []), ([0], [0]), ([1], [1]), ([2], [2]), ([2], [2]), ([4, 2], [2, 4]), ([3, 5, 2], [2, 3, 5]), ([6, 2], [2, 6]), ([2], [2]), ([7, 8, 2], [2, 7, 8]), ([2, 9], [2, 9])])
def rollbacknetref27_Merge.B12 : List Nat := [0, 1, 3, 7, 7, 23, 63, 127, 7, 511, 1023]
theorem rollbacknetref27_Merge.tab12 : rtab .any (opsOf Try.f25 12) = rollbacknetref27_Merge.T12 := by kernel_rfl
theorem rollbacknetref27_Merge.bits12 : waitsOk rollbacknetref27_Merge.T12.2 rollbacknetref27_Merge.B12 = true := by kernel_rfl
def rollbacknetref27_Merge.T14 : Bool × List (List Nat × List Nat) := (true, [([], []), ([], []), ([1], [1]), ([0, 2], [0, 2]), ([], []), ([], []), ([4, 5], [4, 5]), ([3, 6], [3, 6])])
def rollbacknetref27_Merge.B14 : List Nat := [0, 0, 2, 7, 0, 0, 48, 127]
theorem rollbacknetref27_Merge.tab14 : rtab .any (opsOf Try.f25 14) = rollbacknetref27_Merge.T14 := by kernel_rfl
theorem rollbacknetref27_Merge.bits14 : waitsOk rollbacknetref27_Merge.T14.2 rollbacknetref27_Merge.B14 = true := by kernel_rfl
set_option maxHeartbeats 8000000 in
set_option maxRecDepth 100000 in
theorem rollbacknetref27_Merge.calls (k : Nat) (A0 : Option Addr) (c0 : Nat) (l0 : List (S28)) (A1 : Option Addr) (c1 : Nat) (l1 : List (S28)) (r : List (S28)) (w : World) (hr0 : Kd.C k28 w A0 l0.length l0) (hc0 : l0.length ≤ c0) (hr1 : Kd.C k28 w A1 l1.length l1) (hc1 : l1.length ≤ c1) (h : rollbacknetref27_Merge.f k l0 l1 = some r) :
  Calls Try.prog 25 #[.slice A0 l0.length c0, .slice A1 l1.length c1] w fun e w' => ∃ v0_ : Value, e = .returned (v0_) ∧ Kd.R k28 28 w' w.heap.size (fun _ => True) v0_ r ∧ Below w.heap.size w w' := by
 have hu28 := Try.underlying28
 have HR0 := Aside0.mk hr0
 have HC0 := Aside0.mk hc0
 clear hr0 hc0
 have HR1 := Aside0.mk hr1
 have HC1 := Aside0.mk hc1
 clear hr1 hc1
 have HB := Aside0.mk (Below.refl w.heap.size w)
 have H : (rollbacknetref27_Merge.l0 k l0 l1 ([] : List (S28)) 0) = some r := h
 clear h
 have H' := Aside0.mk H
 clear H
 go_enter Try.func25, Try.ntmps25
 go_wp2
 go_loopg [5, 6] k (fun kq v5 v6 w' => ∃ (x5_1 : List (S28)) (x6_1 : Int), v6 = .int .i64 x6_1 ∧ Aside0 (rollbacknetref27_Merge.l0 kq l0 l1 x5_1 x6_1 = some r) ∧ Aside0 (kq ≤ k) ∧ Aside0 (Kd.R k28 28 w' w.heap.size (fun _ => True) v5 x5_1) ∧ Aside0 (Below w.heap.size w w'))
 case atStart => exact ⟨(([] : List (S28))), (0), (by first | rfl | (simp; done) | (simp [*]; done)), H', ⟨Nat.le_refl _⟩, ⟨by first | exact Kd.R_nil _ _ _ _ _ | exact Kd.N_nil _ _ _ _ _ | exact Kd.V_nil _ _ _ _ _ | exact Kd.Q_nil _ _ _ _ _ | exact Kd.S_nil _ _ _ _ _⟩, ⟨bq HB.out⟩⟩
 case round =>(
 clear H'
 try clear c1
 try clear c2
 try clear p2
 obtain ⟨x5_1, x6_1, rfl, HA, HK1, HO_5, HB⟩ := hrel
 cases gk with
 | zero => exact absurd HA.out (by simp [rollbacknetref27_Merge.l0])
 | succ k1 =>(
 have H := HA.out
 clear HA
 simp only [rollbacknetref27_Merge.l0] at H
 by_cases c3 : x6_1 < (wrap64 ((l0.length : Int) + (l1.length : Int)))
 ·(
 rw [if_pos c3] at H
 have c3b0 : decide (x6_1 < (wrap64 ((l0.length : Int) + (l1.length : Int)))) = true := decide_eq_true c3
 clear c3
 have HC4 := Aside0.mk H
 clear H
 go_upto_if 22 with (first | ((with_reducible refine gate_dst (N := 7) rfl ?_); refine box_event ?hg (N := 7) ?hd (cs := #[.int .i64 0, .int .i64 0, .int .i64 0, .int .i64 0, .int .i64 0, .int .i64 0, .int .i64 0, .int .i64 0, .int .i64 0]) (t := 28) ?hr ?_; (case hd => rfl); (case hg => rfl); (case hr => first | (go_simp; done) | (go_simp; rfl)); intro gb286 hg w5 hbox hb; have n0_ := Aside0.mk (Kd.R_below (Kd.R_elderB (rq HO_5.out) gb286 (Nat.le_of_eq hg.symm)) hb); have n1_ := Aside0.mk (below_step (bq HB.out) hb); have n2_ := Aside0.mk (hbox); have n3_ := Aside0.mk ((by rw [hg]; exact (below_size (bq HB.out)) : w.heap.size ≤ gb286)); have n4_ := Aside0.mk ((by rw [hg]; exact (below_size (bq HB.out)) : w.heap.size ≤ gb286)); clear HO_5; clear HB; have HO_5 := n0_; have HB := n1_; have BK286 := n2_; have GW286 := n3_; have GE286 := n4_; clear n0_ n1_ n2_ n3_ n4_; clear hb hbox hg; have hcz6_0 : w5.cell? ⟨gb286, 0, none⟩ = some (.int .i64 0) := bc BK286.out 0; have hcz6_1 : w5.cell? ⟨gb286, 1, none⟩ = some (.int .i64 0) := bc BK286.out 1; have hcz6_2 : w5.cell? ⟨gb286, 2, none⟩ = some (.int .i64 0) := bc BK286.out 2; have hcz6_3 : w5.cell? ⟨gb286, 3, none⟩ = some (.int .i64 0) := bc BK286.out 3; have hcz6_4 : w5.cell? ⟨gb286, 4, none⟩ = some (.int .i64 0) := bc BK286.out 4; have hcz6_5 : w5.cell? ⟨gb286, 5, none⟩ = some (.int .i64 0) := bc BK286.out 5; have hcz6_6 : w5.cell? ⟨gb286, 6, none⟩ = some (.int .i64 0) := bc BK286.out 6; have hcz6_7 : w5.cell? ⟨gb286, 7, none⟩ = some (.int .i64 0) := bc BK286.out 7; have hcz6_8 : w5.cell? ⟨gb286, 8, none⟩ = some (.int .i64 0) := bc BK286.out 8; have hfz6_0 := blk_frozen BK286.out 0; have hfz6_1 := blk_frozen BK286.out 1; have hfz6_2 := blk_frozen BK286.out 2; have hfz6_3 := blk_frozen BK286.out 3; have hfz6_4 := blk_frozen BK286.out 4; have hfz6_5 := blk_frozen BK286.out 5; have hfz6_6 := blk_frozen BK286.out 6; have hfz6_7 := blk_frozen BK286.out 7; have hfz6_8 := blk_frozen BK286.out 8))
 (try simp only [Act.put, List.setIfInBounds_toArray, List.set_cons_zero, List.set_cons_succ])
 go_cut [] (fun wc => ∃ (kq : Nat) (x287000_3 : Int) (x287001_3 : Int) (x287002_3 : Int) (x287003_3 : Int) (x287004_3 : Int) (x287005_3 : Int) (x287006_3 : Int) (x287007_3 : Int) (x287008_3 : Int), Aside0 (rollbacknetref27_Merge.j1 kq l0 l1 x5_1 x6_1 x287000_3 x287001_3 x287002_3 x287003_3 x287004_3 x287005_3 x287006_3 x287007_3 x287008_3 = some r) ∧ Aside0 (kq ≤ k1) ∧ Aside0 (Kd.R k28 28 wc w.heap.size (fun k_ => k_ ≠ gb286) u5 x5_1) ∧ Aside0 (wc.heap[gb286]? = some (.cells #[.int .i64 x287000_3, .int .i64 x287001_3, .int .i64 x287002_3, .int .i64 x287003_3, .int .i64 x287004_3, .int .i64 x287005_3, .int .i64 x287006_3, .int .i64 x287007_3, .int .i64 x287008_3] 28 (0, 0))) ∧ Aside0 (Below w.heap.size w wc))
 case first =>(
 have H := HC4.out
 clear HC4
 by_cases c7 : x6_1 < (l0.length : Int)
 ·(
 rw [if_pos c7] at H
 have c7b0 : decide (x6_1 < (l0.length : Int)) = true := decide_eq_true c7
 clear c7
 (first | rw [c7b0] | (simp only [i64_w, i32_w]; rw [c7b0]) | skip)
 by_cases c8 : 0 ≤ x6_1
 ·(
 rw [if_pos c8] at H
 have c8b0 : decide (0 ≤ x6_1) = true := decide_eq_true c8
 clear c8
 have H' := Aside0.mk H
 clear H
 have p287 : 0 ≤ (x6_1 : Int) := of_decide_eq_true (by first | (with_reducible assumption) | assumption)
 have q287 : x6_1 < (l0.length : Int) := of_decide_eq_true (by first | (with_reducible assumption) | assumption)
 obtain ⟨ad287, e287, hx287_0, hx287_1, hx287_2, hx287_3, hx287_4, hx287_5, hx287_6, hx287_7, hx287_8⟩ := at_T28 HR0.out x6_1 p287 q287
 cases e287
 have hn287_0 : ad287.block ≠ gb286 := Nat.ne_of_lt (Nat.lt_of_lt_of_le (by have := World.block_lt_of_cell? _ _ hx287_0; first | rwa [add_block] at this | exact this) GW286.out)
 have hn287_1 : ad287.block ≠ gb286 := Nat.ne_of_lt (Nat.lt_of_lt_of_le (by have := World.block_lt_of_cell? _ _ hx287_0; first | rwa [add_block] at this | exact this) GW286.out)
 have hn287_2 : ad287.block ≠ gb286 := Nat.ne_of_lt (Nat.lt_of_lt_of_le (by have := World.block_lt_of_cell? _ _ hx287_0; first | rwa [add_block] at this | exact this) GW286.out)
 have hn287_3 : ad287.block ≠ gb286 := Nat.ne_of_lt (Nat.lt_of_lt_of_le (by have := World.block_lt_of_cell? _ _ hx287_0; first | rwa [add_block] at this | exact this) GW286.out)
 have hn287_4 : ad287.block ≠ gb286 := Nat.ne_of_lt (Nat.lt_of_lt_of_le (by have := World.block_lt_of_cell? _ _ hx287_0; first | rwa [add_block] at this | exact this) GW286.out)
 have hn287_5 : ad287.block ≠ gb286 := Nat.ne_of_lt (Nat.lt_of_lt_of_le (by have := World.block_lt_of_cell? _ _ hx287_0; first | rwa [add_block] at this | exact this) GW286.out)
 have hn287_6 : ad287.block ≠ gb286 := Nat.ne_of_lt (Nat.lt_of_lt_of_le (by have := World.block_lt_of_cell? _ _ hx287_0; first | rwa [add_block] at this | exact this) GW286.out)
 have hn287_7 : ad287.block ≠ gb286 := Nat.ne_of_lt (Nat.lt_of_lt_of_le (by have := World.block_lt_of_cell? _ _ hx287_0; first | rwa [add_block] at this | exact this) GW286.out)
 have hn287_8 : ad287.block ≠ gb286 := Nat.ne_of_lt (Nat.lt_of_lt_of_le (by have := World.block_lt_of_cell? _ _ hx287_0; first | rwa [add_block] at this | exact this) GW286.out)
 replace hx287_0 := hce HB hx287_0
 replace hx287_1 := hce HB hx287_1
 replace hx287_2 := hce HB hx287_2
 replace hx287_3 := hce HB hx287_3
 replace hx287_4 := hce HB hx287_4
 replace hx287_5 := hce HB hx287_5
 replace hx287_6 := hce HB hx287_6
 replace hx287_7 := hce HB hx287_7
 replace hx287_8 := hce HB hx287_8
 replace hx287_0 := cfu ⟨gb286, 0, none⟩ hn287_0 (.int .i64 0) hx287_0
 replace hx287_1 := cfu ⟨gb286, 0, none⟩ hn287_0 (.int .i64 0) hx287_1
 replace hx287_2 := cfu ⟨gb286, 0, none⟩ hn287_0 (.int .i64 0) hx287_2
 replace hx287_3 := cfu ⟨gb286, 0, none⟩ hn287_0 (.int .i64 0) hx287_3
 replace hx287_4 := cfu ⟨gb286, 0, none⟩ hn287_0 (.int .i64 0) hx287_4
 replace hx287_5 := cfu ⟨gb286, 0, none⟩ hn287_0 (.int .i64 0) hx287_5
 replace hx287_6 := cfu ⟨gb286, 0, none⟩ hn287_0 (.int .i64 0) hx287_6
 replace hx287_7 := cfu ⟨gb286, 0, none⟩ hn287_0 (.int .i64 0) hx287_7
 replace hx287_8 := cfu ⟨gb286, 0, none⟩ hn287_0 (.int .i64 0) hx287_8
 replace hx287_0 := cfu ⟨gb286, 1, none⟩ hn287_1 (.int .i64 0) hx287_0
 replace hx287_1 := cfu ⟨gb286, 1, none⟩ hn287_1 (.int .i64 0) hx287_1
 replace hx287_2 := cfu ⟨gb286, 1, none⟩ hn287_1 (.int .i64 0) hx287_2
 replace hx287_3 := cfu ⟨gb286, 1, none⟩ hn287_1 (.int .i64 0) hx287_3
 replace hx287_4 := cfu ⟨gb286, 1, none⟩ hn287_1 (.int .i64 0) hx287_4
 replace hx287_5 := cfu ⟨gb286, 1, none⟩ hn287_1 (.int .i64 0) hx287_5
 replace hx287_6 := cfu ⟨gb286, 1, none⟩ hn287_1 (.int .i64 0) hx287_6
 replace hx287_7 := cfu ⟨gb286, 1, none⟩ hn287_1 (.int .i64 0) hx287_7
 replace hx287_8 := cfu ⟨gb286, 1, none⟩ hn287_1 (.int .i64 0) hx287_8
 replace hx287_0 := cfu ⟨gb286, 2, none⟩ hn287_2 (.int .i64 0) hx287_0
 replace hx287_1 := cfu ⟨gb286, 2, none⟩ hn287_2 (.int .i64 0) hx287_1
 replace hx287_2 := cfu ⟨gb286, 2, none⟩ hn287_2 (.int .i64 0) hx287_2
 replace hx287_3 := cfu ⟨gb286, 2, none⟩ hn287_2 (.int .i64 0) hx287_3
 replace hx287_4 := cfu ⟨gb286, 2, none⟩ hn287_2 (.int .i64 0) hx287_4
 replace hx287_5 := cfu ⟨gb286, 2, none⟩ hn287_2 (.int .i64 0) hx287_5
 replace hx287_6 := cfu ⟨gb286, 2, none⟩ hn287_2 (.int .i64 0) hx287_6
 replace hx287_7 := cfu ⟨gb286, 2, none⟩ hn287_2 (.int .i64 0) hx287_7
 replace hx287_8 := cfu ⟨gb286, 2, none⟩ hn287_2 (.int .i64 0) hx287_8
 replace hx287_0 := cfu ⟨gb286, 3, none⟩ hn287_3 (.int .i64 0) hx287_0
 replace hx287_1 := cfu ⟨gb286, 3, none⟩ hn287_3 (.int .i64 0) hx287_1
 replace hx287_2 := cfu ⟨gb286, 3, none⟩ hn287_3 (.int .i64 0) hx287_2
 replace hx287_3 := cfu ⟨gb286, 3, none⟩ hn287_3 (.int .i64 0) hx287_3
 replace hx287_4 := cfu ⟨gb286, 3, none⟩ hn287_3 (.int .i64 0) hx287_4
 replace hx287_5 := cfu ⟨gb286, 3, none⟩ hn287_3 (.int .i64 0) hx287_5
 replace hx287_6 := cfu ⟨gb286, 3, none⟩ hn287_3 (.int .i64 0) hx287_6
 replace hx287_7 := cfu ⟨gb286, 3, none⟩ hn287_3 (.int .i64 0) hx287_7
 replace hx287_8 := cfu ⟨gb286, 3, none⟩ hn287_3 (.int .i64 0) hx287_8
 replace hx287_0 := cfu ⟨gb286, 4, none⟩ hn287_4 (.int .i64 0) hx287_0
 replace hx287_1 := cfu ⟨gb286, 4, none⟩ hn287_4 (.int .i64 0) hx287_1
 replace hx287_2 := cfu ⟨gb286, 4, none⟩ hn287_4 (.int .i64 0) hx287_2
 replace hx287_3 := cfu ⟨gb286, 4, none⟩ hn287_4 (.int .i64 0) hx287_3
 replace hx287_4 := cfu ⟨gb286, 4, none⟩ hn287_4 (.int .i64 0) hx287_4
 replace hx287_5 := cfu ⟨gb286, 4, none⟩ hn287_4 (.int .i64 0) hx287_5
 replace hx287_6 := cfu ⟨gb286, 4, none⟩ hn287_4 (.int .i64 0) hx287_6
 replace hx287_7 := cfu ⟨gb286, 4, none⟩ hn287_4 (.int .i64 0) hx287_7
 replace hx287_8 := cfu ⟨gb286, 4, none⟩ hn287_4 (.int .i64 0) hx287_8
 replace hx287_0 := cfu ⟨gb286, 5, none⟩ hn287_5 (.int .i64 0) hx287_0
 replace hx287_1 := cfu ⟨gb286, 5, none⟩ hn287_5 (.int .i64 0) hx287_1
 replace hx287_2 := cfu ⟨gb286, 5, none⟩ hn287_5 (.int .i64 0) hx287_2
 replace hx287_3 := cfu ⟨gb286, 5, none⟩ hn287_5 (.int .i64 0) hx287_3
 replace hx287_4 := cfu ⟨gb286, 5, none⟩ hn287_5 (.int .i64 0) hx287_4
 replace hx287_5 := cfu ⟨gb286, 5, none⟩ hn287_5 (.int .i64 0) hx287_5
 replace hx287_6 := cfu ⟨gb286, 5, none⟩ hn287_5 (.int .i64 0) hx287_6
 replace hx287_7 := cfu ⟨gb286, 5, none⟩ hn287_5 (.int .i64 0) hx287_7
 replace hx287_8 := cfu ⟨gb286, 5, none⟩ hn287_5 (.int .i64 0) hx287_8
 replace hx287_0 := cfu ⟨gb286, 6, none⟩ hn287_6 (.int .i64 0) hx287_0
 replace hx287_1 := cfu ⟨gb286, 6, none⟩ hn287_6 (.int .i64 0) hx287_1
 replace hx287_2 := cfu ⟨gb286, 6, none⟩ hn287_6 (.int .i64 0) hx287_2
 replace hx287_3 := cfu ⟨gb286, 6, none⟩ hn287_6 (.int .i64 0) hx287_3
 replace hx287_4 := cfu ⟨gb286, 6, none⟩ hn287_6 (.int .i64 0) hx287_4
 replace hx287_5 := cfu ⟨gb286, 6, none⟩ hn287_6 (.int .i64 0) hx287_5
 replace hx287_6 := cfu ⟨gb286, 6, none⟩ hn287_6 (.int .i64 0) hx287_6
 replace hx287_7 := cfu ⟨gb286, 6, none⟩ hn287_6 (.int .i64 0) hx287_7
 replace hx287_8 := cfu ⟨gb286, 6, none⟩ hn287_6 (.int .i64 0) hx287_8
 replace hx287_0 := cfu ⟨gb286, 7, none⟩ hn287_7 (.int .i64 0) hx287_0
 replace hx287_1 := cfu ⟨gb286, 7, none⟩ hn287_7 (.int .i64 0) hx287_1
 replace hx287_2 := cfu ⟨gb286, 7, none⟩ hn287_7 (.int .i64 0) hx287_2
 replace hx287_3 := cfu ⟨gb286, 7, none⟩ hn287_7 (.int .i64 0) hx287_3
 replace hx287_4 := cfu ⟨gb286, 7, none⟩ hn287_7 (.int .i64 0) hx287_4
 replace hx287_5 := cfu ⟨gb286, 7, none⟩ hn287_7 (.int .i64 0) hx287_5
 replace hx287_6 := cfu ⟨gb286, 7, none⟩ hn287_7 (.int .i64 0) hx287_6
 replace hx287_7 := cfu ⟨gb286, 7, none⟩ hn287_7 (.int .i64 0) hx287_7
 replace hx287_8 := cfu ⟨gb286, 7, none⟩ hn287_7 (.int .i64 0) hx287_8
 replace hx287_0 := cfu ⟨gb286, 8, none⟩ hn287_8 (.int .i64 0) hx287_0
 replace hx287_1 := cfu ⟨gb286, 8, none⟩ hn287_8 (.int .i64 0) hx287_1
 replace hx287_2 := cfu ⟨gb286, 8, none⟩ hn287_8 (.int .i64 0) hx287_2
 replace hx287_3 := cfu ⟨gb286, 8, none⟩ hn287_8 (.int .i64 0) hx287_3
 replace hx287_4 := cfu ⟨gb286, 8, none⟩ hn287_8 (.int .i64 0) hx287_4
 replace hx287_5 := cfu ⟨gb286, 8, none⟩ hn287_8 (.int .i64 0) hx287_5
 replace hx287_6 := cfu ⟨gb286, 8, none⟩ hn287_8 (.int .i64 0) hx287_6
 replace hx287_7 := cfu ⟨gb286, 8, none⟩ hn287_8 (.int .i64 0) hx287_7
 replace hx287_8 := cfu ⟨gb286, 8, none⟩ hn287_8 (.int .i64 0) hx287_8
 clear hn287_0
 clear hn287_1
 clear hn287_2
 clear hn287_3
 clear hn287_4
 clear hn287_5
 clear hn287_6
 clear hn287_7
 clear hn287_8
 replace p287 := eq_true p287
 replace q287 := eq_true q287
 have hcz9_0 : w5.cell? ⟨gb286, 0, none⟩ = some (.int .i64 0) := bc BK286.out 0
 have hcz9_1 : w5.cell? ⟨gb286, 1, none⟩ = some (.int .i64 0) := bc BK286.out 1
 have hcz9_2 : w5.cell? ⟨gb286, 2, none⟩ = some (.int .i64 0) := bc BK286.out 2
 have hcz9_3 : w5.cell? ⟨gb286, 3, none⟩ = some (.int .i64 0) := bc BK286.out 3
 have hcz9_4 : w5.cell? ⟨gb286, 4, none⟩ = some (.int .i64 0) := bc BK286.out 4
 have hcz9_5 : w5.cell? ⟨gb286, 5, none⟩ = some (.int .i64 0) := bc BK286.out 5
 have hcz9_6 : w5.cell? ⟨gb286, 6, none⟩ = some (.int .i64 0) := bc BK286.out 6
 have hcz9_7 : w5.cell? ⟨gb286, 7, none⟩ = some (.int .i64 0) := bc BK286.out 7
 have hcz9_8 : w5.cell? ⟨gb286, 8, none⟩ = some (.int .i64 0) := bc BK286.out 8
 have hfz9_0 := blk_frozen BK286.out 0
 have hfz9_1 := blk_frozen BK286.out 1
 have hfz9_2 := blk_frozen BK286.out 2
 have hfz9_3 := blk_frozen BK286.out 3
 have hfz9_4 := blk_frozen BK286.out 4
 have hfz9_5 := blk_frozen BK286.out 5
 have hfz9_6 := blk_frozen BK286.out 6
 have hfz9_7 := blk_frozen BK286.out 7
 have hfz9_8 := blk_frozen BK286.out 8
 go_wp2
 go_meet
 case rel => exact ⟨_, ((rd_T28 l0 x6_1).f0), ((rd_T28 l0 x6_1).f1), ((rd_T28 l0 x6_1).f2.f0), ((rd_T28 l0 x6_1).f2.f1), ((rd_T28 l0 x6_1).f2.f2), ((rd_T28 l0 x6_1).f2.f3.f0), ((rd_T28 l0 x6_1).f2.f3.f1), ((rd_T28 l0 x6_1).f2.f4), ((rd_T28 l0 x6_1).f2.f5), H', ⟨by have := HK1.out; first | omega | exact Nat.le_refl _⟩, ⟨by (with_reducible repeat (first | apply Kd.R_alloc | apply Kd.R_drewN | apply Kd.R_drew)); exact Kd.R_mono (Kd.R_far (p := ⟨gb286, 8, none⟩) (Kd.R_far (p := ⟨gb286, 7, none⟩) (Kd.R_far (p := ⟨gb286, 6, none⟩) (Kd.R_far (p := ⟨gb286, 5, none⟩) (Kd.R_far (p := ⟨gb286, 4, none⟩) (Kd.R_far (p := ⟨gb286, 3, none⟩) (Kd.R_far (p := ⟨gb286, 2, none⟩) (Kd.R_far (p := ⟨gb286, 1, none⟩) (Kd.R_far (p := ⟨gb286, 0, none⟩) (Kd.R_far (p := ⟨gb286, 8, none⟩) (Kd.R_far (p := ⟨gb286, 7, none⟩) (Kd.R_far (p := ⟨gb286, 6, none⟩) (Kd.R_far (p := ⟨gb286, 5, none⟩) (Kd.R_far (p := ⟨gb286, 4, none⟩) (Kd.R_far (p := ⟨gb286, 3, none⟩) (Kd.R_far (p := ⟨gb286, 2, none⟩) (Kd.R_far (p := ⟨gb286, 1, none⟩) (Kd.R_far (p := ⟨gb286, 0, none⟩) (Kd.R_mono HO_5.out (fun k_ hk => (⟨hk, hk.2⟩ : _ ∧ k_ ≠ gb286))) (fun _ hk => hk.2) (.int .i64 0)) (fun _ hk => hk.2) (.int .i64 0)) (fun _ hk => hk.2) (.int .i64 0)) (fun _ hk => hk.2) (.int .i64 0)) (fun _ hk => hk.2) (.int .i64 0)) (fun _ hk => hk.2) (.int .i64 0)) (fun _ hk => hk.2) (.int .i64 0)) (fun _ hk => hk.2) (.int .i64 0)) (fun _ hk => hk.2) (.int .i64 0)) (fun _ hk => hk.2) (.int .i64 ((rd_T28 l0 x6_1).f0))) (fun _ hk => hk.2) (.int .i64 ((rd_T28 l0 x6_1).f1))) (fun _ hk => hk.2) (.int .i64 ((rd_T28 l0 x6_1).f2.f0))) (fun _ hk => hk.2) (.int .i64 ((rd_T28 l0 x6_1).f2.f1))) (fun _ hk => hk.2) (.int .i64 ((rd_T28 l0 x6_1).f2.f2))) (fun _ hk => hk.2) (.int .i64 ((rd_T28 l0 x6_1).f2.f3.f0))) (fun _ hk => hk.2) (.int .i64 ((rd_T28 l0 x6_1).f2.f3.f1))) (fun _ hk => hk.2) (.int .i64 ((rd_T28 l0 x6_1).f2.f4))) (fun _ hk => hk.2) (.int .i64 ((rd_T28 l0 x6_1).f2.f5))) (fun _ hk => hk.1.2)⟩, ⟨pu BK286.out⟩, ⟨bq1 HB.out GE286.out⟩⟩)
 ·(
 rw [if_neg c8] at H
 exact absurd H (by simp)))
 ·(
 rw [if_neg c7] at H
 have c7b0 : decide (x6_1 < (l0.length : Int)) = false := decide_eq_false c7
 clear c7
 (first | rw [c7b0] | (simp only [i64_w, i32_w]; rw [c7b0]) | skip)
 obtain ⟨ji10, hji10⟩ : ∃ j_ : Int, (wrap64 (x6_1 - (l0.length : Int))) = j_ := ⟨_, rfl⟩
 replace H : (if 0 ≤ (ji10) then (if (ji10) < (l1.length : Int) then (rollbacknetref27_Merge.j1 k1 l0 l1 x5_1 x6_1 ((rd_T28 l1 (ji10)).f0) ((rd_T28 l1 (ji10)).f1) ((rd_T28 l1 (ji10)).f2.f0) ((rd_T28 l1 (ji10)).f2.f1) ((rd_T28 l1 (ji10)).f2.f2) ((rd_T28 l1 (ji10)).f2.f3.f0) ((rd_T28 l1 (ji10)).f2.f3.f1) ((rd_T28 l1 (ji10)).f2.f4) ((rd_T28 l1 (ji10)).f2.f5)) else (none)) else (none)) = some r := by first | (rw [hji10] at H; exact H) | (simp only [hji10] at H ⊢; exact H)
 have hji10w : (IntKind.i64.wrap (x6_1 - (l0.length : Int))) = ji10 := (i64_w _).trans hji10
 by_cases c11 : 0 ≤ (ji10)
 ·(
 rw [if_pos c11] at H
 have c11b0 : decide (0 ≤ (ji10)) = true := decide_eq_true c11
 clear c11
 by_cases c12 : (ji10) < (l1.length : Int)
 ·(
 rw [if_pos c12] at H
 have c12b0 : decide ((ji10) < (l1.length : Int)) = true := decide_eq_true c12
 clear c12
 have H' := Aside0.mk H
 clear H
 have p288 : 0 ≤ ((ji10) : Int) := of_decide_eq_true (by first | (with_reducible assumption) | assumption)
 have q288 : (ji10) < (l1.length : Int) := of_decide_eq_true (by first | (with_reducible assumption) | assumption)
 obtain ⟨ad288, e288, hx288_0, hx288_1, hx288_2, hx288_3, hx288_4, hx288_5, hx288_6, hx288_7, hx288_8⟩ := at_T28 HR1.out (ji10) p288 q288
 cases e288
 have hn288_0 : ad288.block ≠ gb286 := Nat.ne_of_lt (Nat.lt_of_lt_of_le (by have := World.block_lt_of_cell? _ _ hx288_0; first | rwa [add_block] at this | exact this) GW286.out)
 have hn288_1 : ad288.block ≠ gb286 := Nat.ne_of_lt (Nat.lt_of_lt_of_le (by have := World.block_lt_of_cell? _ _ hx288_0; first | rwa [add_block] at this | exact this) GW286.out)
 have hn288_2 : ad288.block ≠ gb286 := Nat.ne_of_lt (Nat.lt_of_lt_of_le (by have := World.block_lt_of_cell? _ _ hx288_0; first | rwa [add_block] at this | exact this) GW286.out)
 have hn288_3 : ad288.block ≠ gb286 := Nat.ne_of_lt (Nat.lt_of_lt_of_le (by have := World.block_lt_of_cell? _ _ hx288_0; first | rwa [add_block] at this | exact this) GW286.out)
 have hn288_4 : ad288.block ≠ gb286 := Nat.ne_of_lt (Nat.lt_of_lt_of_le (by have := World.block_lt_of_cell? _ _ hx288_0; first | rwa [add_block] at this | exact this) GW286.out)
 have hn288_5 : ad288.block ≠ gb286 := Nat.ne_of_lt (Nat.lt_of_lt_of_le (by have := World.block_lt_of_cell? _ _ hx288_0; first | rwa [add_block] at this | exact this) GW286.out)
 have hn288_6 : ad288.block ≠ gb286 := Nat.ne_of_lt (Nat.lt_of_lt_of_le (by have := World.block_lt_of_cell? _ _ hx288_0; first | rwa [add_block] at this | exact this) GW286.out)
 have hn288_7 : ad288.block ≠ gb286 := Nat.ne_of_lt (Nat.lt_of_lt_of_le (by have := World.block_lt_of_cell? _ _ hx288_0; first | rwa [add_block] at this | exact this) GW286.out)
 have hn288_8 : ad288.block ≠ gb286 := Nat.ne_of_lt (Nat.lt_of_lt_of_le (by have := World.block_lt_of_cell? _ _ hx288_0; first | rwa [add_block] at this | exact this) GW286.out)
 replace hx288_0 := hce HB hx288_0
 replace hx288_1 := hce HB hx288_1
 replace hx288_2 := hce HB hx288_2
 replace hx288_3 := hce HB hx288_3
 replace hx288_4 := hce HB hx288_4
 replace hx288_5 := hce HB hx288_5
 replace hx288_6 := hce HB hx288_6
 replace hx288_7 := hce HB hx288_7
 replace hx288_8 := hce HB hx288_8
 replace hx288_0 := cfu ⟨gb286, 0, none⟩ hn288_0 (.int .i64 0) hx288_0
 replace hx288_1 := cfu ⟨gb286, 0, none⟩ hn288_0 (.int .i64 0) hx288_1
 replace hx288_2 := cfu ⟨gb286, 0, none⟩ hn288_0 (.int .i64 0) hx288_2
 replace hx288_3 := cfu ⟨gb286, 0, none⟩ hn288_0 (.int .i64 0) hx288_3
 replace hx288_4 := cfu ⟨gb286, 0, none⟩ hn288_0 (.int .i64 0) hx288_4
 replace hx288_5 := cfu ⟨gb286, 0, none⟩ hn288_0 (.int .i64 0) hx288_5
 replace hx288_6 := cfu ⟨gb286, 0, none⟩ hn288_0 (.int .i64 0) hx288_6
 replace hx288_7 := cfu ⟨gb286, 0, none⟩ hn288_0 (.int .i64 0) hx288_7
 replace hx288_8 := cfu ⟨gb286, 0, none⟩ hn288_0 (.int .i64 0) hx288_8
 replace hx288_0 := cfu ⟨gb286, 1, none⟩ hn288_1 (.int .i64 0) hx288_0
 replace hx288_1 := cfu ⟨gb286, 1, none⟩ hn288_1 (.int .i64 0) hx288_1
 replace hx288_2 := cfu ⟨gb286, 1, none⟩ hn288_1 (.int .i64 0) hx288_2
 replace hx288_3 := cfu ⟨gb286, 1, none⟩ hn288_1 (.int .i64 0) hx288_3
 replace hx288_4 := cfu ⟨gb286, 1, none⟩ hn288_1 (.int .i64 0) hx288_4
 replace hx288_5 := cfu ⟨gb286, 1, none⟩ hn288_1 (.int .i64 0) hx288_5
 replace hx288_6 := cfu ⟨gb286, 1, none⟩ hn288_1 (.int .i64 0) hx288_6
 replace hx288_7 := cfu ⟨gb286, 1, none⟩ hn288_1 (.int .i64 0) hx288_7
 replace hx288_8 := cfu ⟨gb286, 1, none⟩ hn288_1 (.int .i64 0) hx288_8
 replace hx288_0 := cfu ⟨gb286, 2, none⟩ hn288_2 (.int .i64 0) hx288_0
 replace hx288_1 := cfu ⟨gb286, 2, none⟩ hn288_2 (.int .i64 0) hx288_1
 replace hx288_2 := cfu ⟨gb286, 2, none⟩ hn288_2 (.int .i64 0) hx288_2
 replace hx288_3 := cfu ⟨gb286, 2, none⟩ hn288_2 (.int .i64 0) hx288_3
 replace hx288_4 := cfu ⟨gb286, 2, none⟩ hn288_2 (.int .i64 0) hx288_4
 replace hx288_5 := cfu ⟨gb286, 2, none⟩ hn288_2 (.int .i64 0) hx288_5
 replace hx288_6 := cfu ⟨gb286, 2, none⟩ hn288_2 (.int .i64 0) hx288_6
 replace hx288_7 := cfu ⟨gb286, 2, none⟩ hn288_2 (.int .i64 0) hx288_7
 replace hx288_8 := cfu ⟨gb286, 2, none⟩ hn288_2 (.int .i64 0) hx288_8
 replace hx288_0 := cfu ⟨gb286, 3, none⟩ hn288_3 (.int .i64 0) hx288_0
 replace hx288_1 := cfu ⟨gb286, 3, none⟩ hn288_3 (.int .i64 0) hx288_1
 replace hx288_2 := cfu ⟨gb286, 3, none⟩ hn288_3 (.int .i64 0) hx288_2
 replace hx288_3 := cfu ⟨gb286, 3, none⟩ hn288_3 (.int .i64 0) hx288_3
 replace hx288_4 := cfu ⟨gb286, 3, none⟩ hn288_3 (.int .i64 0) hx288_4
 replace hx288_5 := cfu ⟨gb286, 3, none⟩ hn288_3 (.int .i64 0) hx288_5
 replace hx288_6 := cfu ⟨gb286, 3, none⟩ hn288_3 (.int .i64 0) hx288_6
 replace hx288_7 := cfu ⟨gb286, 3, none⟩ hn288_3 (.int .i64 0) hx288_7
 replace hx288_8 := cfu ⟨gb286, 3, none⟩ hn288_3 (.int .i64 0) hx288_8
 replace hx288_0 := cfu ⟨gb286, 4, none⟩ hn288_4 (.int .i64 0) hx288_0
 replace hx288_1 := cfu ⟨gb286, 4, none⟩ hn288_4 (.int .i64 0) hx288_1
 replace hx288_2 := cfu ⟨gb286, 4, none⟩ hn288_4 (.int .i64 0) hx288_2
 replace hx288_3 := cfu ⟨gb286, 4, none⟩ hn288_4 (.int .i64 0) hx288_3
 replace hx288_4 := cfu ⟨gb286, 4, none⟩ hn288_4 (.int .i64 0) hx288_4
 replace hx288_5 := cfu ⟨gb286, 4, none⟩ hn288_4 (.int .i64 0) hx288_5
 replace hx288_6 := cfu ⟨gb286, 4, none⟩ hn288_4 (.int .i64 0) hx288_6
 replace hx288_7 := cfu ⟨gb286, 4, none⟩ hn288_4 (.int .i64 0) hx288_7
 replace hx288_8 := cfu ⟨gb286, 4, none⟩ hn288_4 (.int .i64 0) hx288_8
 replace hx288_0 := cfu ⟨gb286, 5, none⟩ hn288_5 (.int .i64 0) hx288_0
 replace hx288_1 := cfu ⟨gb286, 5, none⟩ hn288_5 (.int .i64 0) hx288_1
 replace hx288_2 := cfu ⟨gb286, 5, none⟩ hn288_5 (.int .i64 0) hx288_2
 replace hx288_3 := cfu ⟨gb286, 5, none⟩ hn288_5 (.int .i64 0) hx288_3
 replace hx288_4 := cfu ⟨gb286, 5, none⟩ hn288_5 (.int .i64 0) hx288_4
 replace hx288_5 := cfu ⟨gb286, 5, none⟩ hn288_5 (.int .i64 0) hx288_5
 replace hx288_6 := cfu ⟨gb286, 5, none⟩ hn288_5 (.int .i64 0) hx288_6
 replace hx288_7 := cfu ⟨gb286, 5, none⟩ hn288_5 (.int .i64 0) hx288_7
 replace hx288_8 := cfu ⟨gb286, 5, none⟩ hn288_5 (.int .i64 0) hx288_8
 replace hx288_0 := cfu ⟨gb286, 6, none⟩ hn288_6 (.int .i64 0) hx288_0
 replace hx288_1 := cfu ⟨gb286, 6, none⟩ hn288_6 (.int .i64 0) hx288_1
 replace hx288_2 := cfu ⟨gb286, 6, none⟩ hn288_6 (.int .i64 0) hx288_2
 replace hx288_3 := cfu ⟨gb286, 6, none⟩ hn288_6 (.int .i64 0) hx288_3
 replace hx288_4 := cfu ⟨gb286, 6, none⟩ hn288_6 (.int .i64 0) hx288_4
 replace hx288_5 := cfu ⟨gb286, 6, none⟩ hn288_6 (.int .i64 0) hx288_5
 replace hx288_6 := cfu ⟨gb286, 6, none⟩ hn288_6 (.int .i64 0) hx288_6
 replace hx288_7 := cfu ⟨gb286, 6, none⟩ hn288_6 (.int .i64 0) hx288_7
 replace hx288_8 := cfu ⟨gb286, 6, none⟩ hn288_6 (.int .i64 0) hx288_8
 replace hx288_0 := cfu ⟨gb286, 7, none⟩ hn288_7 (.int .i64 0) hx288_0
 replace hx288_1 := cfu ⟨gb286, 7, none⟩ hn288_7 (.int .i64 0) hx288_1
 replace hx288_2 := cfu ⟨gb286, 7, none⟩ hn288_7 (.int .i64 0) hx288_2
 replace hx288_3 := cfu ⟨gb286, 7, none⟩ hn288_7 (.int .i64 0) hx288_3
 replace hx288_4 := cfu ⟨gb286, 7, none⟩ hn288_7 (.int .i64 0) hx288_4
 replace hx288_5 := cfu ⟨gb286, 7, none⟩ hn288_7 (.int .i64 0) hx288_5
 replace hx288_6 := cfu ⟨gb286, 7, none⟩ hn288_7 (.int .i64 0) hx288_6
 replace hx288_7 := cfu ⟨gb286, 7, none⟩ hn288_7 (.int .i64 0) hx288_7
 replace hx288_8 := cfu ⟨gb286, 7, none⟩ hn288_7 (.int .i64 0) hx288_8
 replace hx288_0 := cfu ⟨gb286, 8, none⟩ hn288_8 (.int .i64 0) hx288_0
 replace hx288_1 := cfu ⟨gb286, 8, none⟩ hn288_8 (.int .i64 0) hx288_1
 replace hx288_2 := cfu ⟨gb286, 8, none⟩ hn288_8 (.int .i64 0) hx288_2
 replace hx288_3 := cfu ⟨gb286, 8, none⟩ hn288_8 (.int .i64 0) hx288_3
 replace hx288_4 := cfu ⟨gb286, 8, none⟩ hn288_8 (.int .i64 0) hx288_4
 replace hx288_5 := cfu ⟨gb286, 8, none⟩ hn288_8 (.int .i64 0) hx288_5
 replace hx288_6 := cfu ⟨gb286, 8, none⟩ hn288_8 (.int .i64 0) hx288_6
 replace hx288_7 := cfu ⟨gb286, 8, none⟩ hn288_8 (.int .i64 0) hx288_7
 replace hx288_8 := cfu ⟨gb286, 8, none⟩ hn288_8 (.int .i64 0) hx288_8
 clear hn288_0
 clear hn288_1
 clear hn288_2
 clear hn288_3
 clear hn288_4
 clear hn288_5
 clear hn288_6
 clear hn288_7
 clear hn288_8
 replace p288 := eq_true p288
 replace q288 := eq_true q288
 have hcz13_0 : w5.cell? ⟨gb286, 0, none⟩ = some (.int .i64 0) := bc BK286.out 0
 have hcz13_1 : w5.cell? ⟨gb286, 1, none⟩ = some (.int .i64 0) := bc BK286.out 1
 have hcz13_2 : w5.cell? ⟨gb286, 2, none⟩ = some (.int .i64 0) := bc BK286.out 2
 have hcz13_3 : w5.cell? ⟨gb286, 3, none⟩ = some (.int .i64 0) := bc BK286.out 3
 have hcz13_4 : w5.cell? ⟨gb286, 4, none⟩ = some (.int .i64 0) := bc BK286.out 4
 have hcz13_5 : w5.cell? ⟨gb286, 5, none⟩ = some (.int .i64 0) := bc BK286.out 5
 have hcz13_6 : w5.cell? ⟨gb286, 6, none⟩ = some (.int .i64 0) := bc BK286.out 6
 have hcz13_7 : w5.cell? ⟨gb286, 7, none⟩ = some (.int .i64 0) := bc BK286.out 7
 have hcz13_8 : w5.cell? ⟨gb286, 8, none⟩ = some (.int .i64 0) := bc BK286.out 8
 have hfz13_0 := blk_frozen BK286.out 0
 have hfz13_1 := blk_frozen BK286.out 1
 have hfz13_2 := blk_frozen BK286.out 2
 have hfz13_3 := blk_frozen BK286.out 3
 have hfz13_4 := blk_frozen BK286.out 4
 have hfz13_5 := blk_frozen BK286.out 5
 have hfz13_6 := blk_frozen BK286.out 6
 have hfz13_7 := blk_frozen BK286.out 7
 have hfz13_8 := blk_frozen BK286.out 8
 go_wp2
 go_meet
 case rel => exact ⟨_, ((rd_T28 l1 (ji10)).f0), ((rd_T28 l1 (ji10)).f1), ((rd_T28 l1 (ji10)).f2.f0), ((rd_T28 l1 (ji10)).f2.f1), ((rd_T28 l1 (ji10)).f2.f2), ((rd_T28 l1 (ji10)).f2.f3.f0), ((rd_T28 l1 (ji10)).f2.f3.f1), ((rd_T28 l1 (ji10)).f2.f4), ((rd_T28 l1 (ji10)).f2.f5), H', ⟨by have := HK1.out; first | omega | exact Nat.le_refl _⟩, ⟨by (with_reducible repeat (first | apply Kd.R_alloc | apply Kd.R_drewN | apply Kd.R_drew)); exact Kd.R_mono (Kd.R_far (p := ⟨gb286, 8, none⟩) (Kd.R_far (p := ⟨gb286, 7, none⟩) (Kd.R_far (p := ⟨gb286, 6, none⟩) (Kd.R_far (p := ⟨gb286, 5, none⟩) (Kd.R_far (p := ⟨gb286, 4, none⟩) (Kd.R_far (p := ⟨gb286, 3, none⟩) (Kd.R_far (p := ⟨gb286, 2, none⟩) (Kd.R_far (p := ⟨gb286, 1, none⟩) (Kd.R_far (p := ⟨gb286, 0, none⟩) (Kd.R_far (p := ⟨gb286, 8, none⟩) (Kd.R_far (p := ⟨gb286, 7, none⟩) (Kd.R_far (p := ⟨gb286, 6, none⟩) (Kd.R_far (p := ⟨gb286, 5, none⟩) (Kd.R_far (p := ⟨gb286, 4, none⟩) (Kd.R_far (p := ⟨gb286, 3, none⟩) (Kd.R_far (p := ⟨gb286, 2, none⟩) (Kd.R_far (p := ⟨gb286, 1, none⟩) (Kd.R_far (p := ⟨gb286, 0, none⟩) (Kd.R_mono HO_5.out (fun k_ hk => (⟨hk, hk.2⟩ : _ ∧ k_ ≠ gb286))) (fun _ hk => hk.2) (.int .i64 0)) (fun _ hk => hk.2) (.int .i64 0)) (fun _ hk => hk.2) (.int .i64 0)) (fun _ hk => hk.2) (.int .i64 0)) (fun _ hk => hk.2) (.int .i64 0)) (fun _ hk => hk.2) (.int .i64 0)) (fun _ hk => hk.2) (.int .i64 0)) (fun _ hk => hk.2) (.int .i64 0)) (fun _ hk => hk.2) (.int .i64 0)) (fun _ hk => hk.2) (.int .i64 ((rd_T28 l1 (ji10)).f0))) (fun _ hk => hk.2) (.int .i64 ((rd_T28 l1 (ji10)).f1))) (fun _ hk => hk.2) (.int .i64 ((rd_T28 l1 (ji10)).f2.f0))) (fun _ hk => hk.2) (.int .i64 ((rd_T28 l1 (ji10)).f2.f1))) (fun _ hk => hk.2) (.int .i64 ((rd_T28 l1 (ji10)).f2.f2))) (fun _ hk => hk.2) (.int .i64 ((rd_T28 l1 (ji10)).f2.f3.f0))) (fun _ hk => hk.2) (.int .i64 ((rd_T28 l1 (ji10)).f2.f3.f1))) (fun _ hk => hk.2) (.int .i64 ((rd_T28 l1 (ji10)).f2.f4))) (fun _ hk => hk.2) (.int .i64 ((rd_T28 l1 (ji10)).f2.f5))) (fun _ hk => hk.1.2)⟩, ⟨pu BK286.out⟩, ⟨bq1 HB.out GE286.out⟩⟩)
 ·(
 rw [if_neg c12] at H
 exact absurd H (by simp)))
 ·(
 rw [if_neg c11] at H
 exact absurd H (by simp))))
 case rest =>(
 clear HC4
 try clear c1
 try clear c2
 try clear p2
 try clear q2
 try clear hx2
 try clear c3
 try clear c3b0
 try clear p6
 try clear c7
 try clear c7b0
 try clear c8
 try clear c8b0
 try clear c11
 try clear c11b0
 try clear c12
 try clear c12b0
 try clear hcz13_0
 try clear hcz13_1
 try clear hcz13_2
 try clear hcz13_3
 try clear hcz13_4
 try clear hcz13_5
 try clear hcz13_6
 try clear hcz13_7
 try clear hcz13_8
 try clear hcz6_0
 try clear hcz6_1
 try clear hcz6_2
 try clear hcz6_3
 try clear hcz6_4
 try clear hcz6_5
 try clear hcz6_6
 try clear hcz6_7
 try clear hcz6_8
 try clear hcz9_0
 try clear hcz9_1
 try clear hcz9_2
 try clear hcz9_3
 try clear hcz9_4
 try clear hcz9_5
 try clear hcz9_6
 try clear hcz9_7
 try clear hcz9_8
 try clear hfz13_0
 try clear hfz13_1
 try clear hfz13_2
 try clear hfz13_3
 try clear hfz13_4
 try clear hfz13_5
 try clear hfz13_6
 try clear hfz13_7
 try clear hfz13_8
 try clear hfz6_0
 try clear hfz6_1
 try clear hfz6_2
 try clear hfz6_3
 try clear hfz6_4
 try clear hfz6_5
 try clear hfz6_6
 try clear hfz6_7
 try clear hfz6_8
 try clear hfz9_0
 try clear hfz9_1
 try clear hfz9_2
 try clear hfz9_3
 try clear hfz9_4
 try clear hfz9_5
 try clear hfz9_6
 try clear hfz9_7
 try clear hfz9_8
 try clear hx287_0
 try clear hx287_1
 try clear hx287_2
 try clear hx287_3
 try clear hx287_4
 try clear hx287_5
 try clear hx287_6
 try clear hx287_7
 try clear hx287_8
 try clear hx288_0
 try clear hx288_1
 try clear hx288_2
 try clear hx288_3
 try clear hx288_4
 try clear hx288_5
 try clear hx288_6
 try clear hx288_7
 try clear hx288_8
 try clear p2
 try clear p287
 try clear p288
 try clear q287
 try clear q288
 obtain ⟨kq, x287000_3, x287001_3, x287002_3, x287003_3, x287004_3, x287005_3, x287006_3, x287007_3, x287008_3, HA, HJ3, HO_5, BK286, HB⟩ := hcut
 cases kq with
 | zero => exact absurd HA.out (by simp [rollbacknetref27_Merge.j1])
 | succ kj3 =>(
 have H := HA.out
 clear HA
 simp only [rollbacknetref27_Merge.j1] at H
 have H' := Aside0.mk H
 clear H
 obtain ⟨Ao14, co14, eo14⟩ := Kd.R_slice HO_5.out
 subst eo14
 go_wp2
 go_loopg [8] kj3 (fun kq v8 w' => ∃ (x8_3 : Int), v8 = .int .i64 x8_3 ∧ Aside0 (rollbacknetref27_Merge.l1 kq l0 l1 x5_1 x6_1 x8_3 x287000_3 x287001_3 x287002_3 x287003_3 x287004_3 x287005_3 x287006_3 x287007_3 x287008_3 = some r) ∧ Aside0 (kq ≤ kj3) ∧ Aside0 (Kd.R k28 28 w' w.heap.size (fun k_ => k_ ≠ gb286) (.slice Ao14 x5_1.length co14) x5_1) ∧ Aside0 (w'.heap[gb286]? = some (.cells #[.int .i64 x287000_3, .int .i64 x287001_3, .int .i64 x287002_3, .int .i64 x287003_3, .int .i64 x287004_3, .int .i64 x287005_3, .int .i64 x287006_3, .int .i64 x287007_3, .int .i64 x287008_3] 28 (0, 0))) ∧ Aside0 (Below w.heap.size w w'))
 case atStart => exact ⟨((x5_1.length : Int)), (by first | rfl | (simp; done) | (simp [*]; done)), H', ⟨Nat.le_refl _⟩, ⟨rq HO_5.out⟩, ⟨kq BK286.out⟩, ⟨bq1 HB.out GE286.out⟩⟩
 case round =>(
 clear H'
 try clear c1
 try clear c2
 try clear p2
 try clear q2
 try clear hx2
 try clear c3
 try clear c3b0
 try clear p6
 try clear c7
 try clear c7b0
 try clear c8
 try clear c8b0
 try clear c11
 try clear c11b0
 try clear c12
 try clear c12b0
 try clear hcz13_0
 try clear hcz13_1
 try clear hcz13_2
 try clear hcz13_3
 try clear hcz13_4
 try clear hcz13_5
 try clear hcz13_6
 try clear hcz13_7
 try clear hcz13_8
 try clear hcz6_0
 try clear hcz6_1
 try clear hcz6_2
 try clear hcz6_3
 try clear hcz6_4
 try clear hcz6_5
 try clear hcz6_6
 try clear hcz6_7
 try clear hcz6_8
 try clear hcz9_0
 try clear hcz9_1
 try clear hcz9_2
 try clear hcz9_3
 try clear hcz9_4
 try clear hcz9_5
 try clear hcz9_6
 try clear hcz9_7
 try clear hcz9_8
 try clear hfz13_0
 try clear hfz13_1
 try clear hfz13_2
 try clear hfz13_3
 try clear hfz13_4
 try clear hfz13_5
 try clear hfz13_6
 try clear hfz13_7
 try clear hfz13_8
 try clear hfz6_0
 try clear hfz6_1
 try clear hfz6_2
 try clear hfz6_3
 try clear hfz6_4
 try clear hfz6_5
 try clear hfz6_6
 try clear hfz6_7
 try clear hfz6_8
 try clear hfz9_0
 try clear hfz9_1
 try clear hfz9_2
 try clear hfz9_3
 try clear hfz9_4
 try clear hfz9_5
 try clear hfz9_6
 try clear hfz9_7
 try clear hfz9_8
 try clear hx287_0
 try clear hx287_1
 try clear hx287_2
 try clear hx287_3
 try clear hx287_4
 try clear hx287_5
 try clear hx287_6
 try clear hx287_7
 try clear hx287_8
 try clear hx288_0
 try clear hx288_1
 try clear hx288_2
 try clear hx288_3
 try clear hx288_4
 try clear hx288_5
 try clear hx288_6
 try clear hx288_7
 try clear hx288_8
 try clear p2
 try clear p287
 try clear p288
 try clear p6
 try clear q2
 try clear q287
 try clear q288
 obtain ⟨x8_3, rfl, HA, HK3, HO_5, BK286, HB⟩ := hrel
 cases gk with
 | zero => exact absurd HA.out (by simp [rollbacknetref27_Merge.l1])
 | succ k3 =>(
 have H := HA.out
 clear HA
 simp only [rollbacknetref27_Merge.l1] at H
 by_cases c15 : x8_3 > 0
 ·(
 rw [if_pos c15] at H
 have c15b0 : decide (0 < x8_3) = true := decide_eq_true c15
 clear c15
 obtain ⟨ji16, hji16⟩ : ∃ j_ : Int, (wrap64 (x8_3 - 1)) = j_ := ⟨_, rfl⟩
 replace H : (if 0 ≤ (ji16) then (if (ji16) < (x5_1.length : Int) then ((rollbacknetref27_Compare.f k3 ((rd_T28 x5_1 (ji16)).f0) ((rd_T28 x5_1 (ji16)).f1) ((rd_T28 x5_1 (ji16)).f2.f0) ((rd_T28 x5_1 (ji16)).f2.f1) ((rd_T28 x5_1 (ji16)).f2.f2) ((rd_T28 x5_1 (ji16)).f2.f3.f0) ((rd_T28 x5_1 (ji16)).f2.f3.f1) ((rd_T28 x5_1 (ji16)).f2.f4) ((rd_T28 x5_1 (ji16)).f2.f5) x287000_3 x287001_3 x287002_3 x287003_3 x287004_3 x287005_3 x287006_3 x287007_3 x287008_3).bind fun t290 => (if t290 > 0 then (rollbacknetref27_Merge.l1 k3 l0 l1 x5_1 x6_1 ji16 x287000_3 x287001_3 x287002_3 x287003_3 x287004_3 x287005_3 x287006_3 x287007_3 x287008_3) else (if (((rd_T28 x5_1 (ji16)).f0) == x287000_3 && (((rd_T28 x5_1 (ji16)).f1) == x287001_3 && ((((rd_T28 x5_1 (ji16)).f2.f0) == x287002_3 && (((rd_T28 x5_1 (ji16)).f2.f1) == x287003_3 && (((rd_T28 x5_1 (ji16)).f2.f2) == x287004_3 && ((((rd_T28 x5_1 (ji16)).f2.f3.f0) == x287005_3 && (((rd_T28 x5_1 (ji16)).f2.f3.f1) == x287006_3)) && (((rd_T28 x5_1 (ji16)).f2.f4) == x287007_3 && (((rd_T28 x5_1 (ji16)).f2.f5) == x287008_3))))))))) = true then (rollbacknetref27_Merge.l0 k3 l0 l1 x5_1 (wrap64 (x6_1 + 1))) else (if x5_1.length < 1954687338268 then ((some (x5_1 ++ [(⟨0, 0, (⟨0, 0, 0, (⟨0, 0⟩ : S24), 0, 0⟩ : S26)⟩ : S28)] : List (S28))).bind fun y292 => (if 0 ≤ (wrap64 (x8_3 + 1)) then (if (wrap64 (x8_3 + 1)) ≤ (y292.length : Int) then (if 0 ≤ x8_3 then (if x8_3 ≤ (y292.length : Int) then (if x8_3 < (y292.length : Int) then (rollbacknetref27_Merge.l0 k3 l0 l1 ((shiftAt y292 (x8_3 : Int).toNat).set (x8_3 : Int).toNat (⟨x287000_3, x287001_3, (⟨x287002_3, x287003_3, x287004_3, (⟨x287005_3, x287006_3⟩ : S24), x287007_3, x287008_3⟩ : S26)⟩ : S28)) (wrap64 (x6_1 + 1))) else (none)) else (none)) else (none)) else (none)) else (none))) else (none))))) else (none)) else (none)) = some r := by first | (rw [hji16] at H; exact H) | (simp only [hji16] at H ⊢; exact H)
 have hji16w : (IntKind.i64.wrap (x8_3 - 1)) = ji16 := (i64_w _).trans hji16
 by_cases c17 : 0 ≤ (ji16)
 ·(
 rw [if_pos c17] at H
 have c17b0 : decide (0 ≤ (ji16)) = true := decide_eq_true c17
 clear c17
 by_cases c18 : (ji16) < (x5_1.length : Int)
 ·(
 rw [if_pos c18] at H
 have c18b0 : decide ((ji16) < (x5_1.length : Int)) = true := decide_eq_true c18
 clear c18
 obtain ⟨t290, A19, H⟩ := bnd H
 by_cases c20 : t290 > 0
 ·(
 rw [if_pos c20] at H
 have c20b0 : decide (0 < t290) = true := decide_eq_true c20
 clear c20
 have H' := Aside0.mk H
 clear H
 try go_wp2
 have n0_ := Aside0.mk (Kd.R_drew HO_5.out)
 have n1_ := Aside0.mk (blk_drew BK286.out)
 have n2_ := Aside0.mk (below_drew1 HB.out)
 clear HO_5
 clear BK286
 clear HB
 have HO_5 := n0_
 have BK286 := n1_
 have HB := n2_
 clear n0_ n1_ n2_
 have p289 : 0 ≤ ((ji16) : Int) := of_decide_eq_true (by first | (with_reducible assumption) | assumption)
 have q289 : (ji16) < (x5_1.length : Int) := of_decide_eq_true (by first | (with_reducible assumption) | assumption)
 obtain ⟨ad289, e289, hx289_0, hx289_1, hx289_2, hx289_3, hx289_4, hx289_5, hx289_6, hx289_7, hx289_8⟩ := at_T28 (Kd.R_reads' HO_5.out).2.2 (ji16) p289 q289
 cases e289
 replace p289 := eq_true p289
 replace q289 := eq_true q289
 refine start_ (n := 12) (S := fun w' => w'.cell? ⟨gb286, 0, none⟩ = some (.int .i64 x287000_3) ∧ w'.cell? ⟨gb286, 1, none⟩ = some (.int .i64 x287001_3) ∧ w'.cell? ⟨gb286, 2, none⟩ = some (.int .i64 x287002_3) ∧ w'.cell? ⟨gb286, 3, none⟩ = some (.int .i64 x287003_3) ∧ w'.cell? ⟨gb286, 4, none⟩ = some (.int .i64 x287004_3) ∧ w'.cell? ⟨gb286, 5, none⟩ = some (.int .i64 x287005_3) ∧ w'.cell? ⟨gb286, 6, none⟩ = some (.int .i64 x287006_3) ∧ w'.cell? ⟨gb286, 7, none⟩ = some (.int .i64 x287007_3) ∧ w'.cell? ⟨gb286, 8, none⟩ = some (.int .i64 x287008_3) ∧ w'.cell? (ad289.add (((ji16)).toNat * 9)) = some (.int .i64 ((rd_T28 x5_1 (ji16)).f0)) ∧ w'.cell? ⟨(ad289.add (((ji16)).toNat * 9)).block, (ad289.add (((ji16)).toNat * 9)).off + 1, none⟩ = some (.int .i64 ((rd_T28 x5_1 (ji16)).f1)) ∧ w'.cell? ⟨(ad289.add (((ji16)).toNat * 9)).block, (ad289.add (((ji16)).toNat * 9)).off + 2, none⟩ = some (.int .i64 ((rd_T28 x5_1 (ji16)).f2.f0)) ∧ w'.cell? ⟨(ad289.add (((ji16)).toNat * 9)).block, (ad289.add (((ji16)).toNat * 9)).off + 3, none⟩ = some (.int .i64 ((rd_T28 x5_1 (ji16)).f2.f1)) ∧ w'.cell? ⟨(ad289.add (((ji16)).toNat * 9)).block, (ad289.add (((ji16)).toNat * 9)).off + 4, none⟩ = some (.int .i64 ((rd_T28 x5_1 (ji16)).f2.f2)) ∧ w'.cell? ⟨(ad289.add (((ji16)).toNat * 9)).block, (ad289.add (((ji16)).toNat * 9)).off + 5, none⟩ = some (.int .i64 ((rd_T28 x5_1 (ji16)).f2.f3.f0)) ∧ w'.cell? ⟨(ad289.add (((ji16)).toNat * 9)).block, (ad289.add (((ji16)).toNat * 9)).off + 6, none⟩ = some (.int .i64 ((rd_T28 x5_1 (ji16)).f2.f3.f1)) ∧ w'.cell? ⟨(ad289.add (((ji16)).toNat * 9)).block, (ad289.add (((ji16)).toNat * 9)).off + 7, none⟩ = some (.int .i64 ((rd_T28 x5_1 (ji16)).f2.f4)) ∧ w'.cell? ⟨(ad289.add (((ji16)).toNat * 9)).block, (ad289.add (((ji16)).toNat * 9)).off + 8, none⟩ = some (.int .i64 ((rd_T28 x5_1 (ji16)).f2.f5))) (ds := []) #[false, false, false, false, false, false, false, false, false, false, false, false] (by kernel_rfl) rfl rfl (c9 BK286.out ⟨hx289_0, hx289_1, hx289_2, hx289_3, hx289_4, hx289_5, hx289_6, hx289_7, hx289_8⟩) (fun hHeld => ?_); refine with_tabW rollbacknetref27_Merge.tab10 rollbacknetref27_Merge.bits10 (fun HT_ HW_ => ?_)
 generalize wr.drew = w21 at HO_5 BK286 HB hx289_0 hx289_1 hx289_2 hx289_3 hx289_4 hx289_5 hx289_6 hx289_7 hx289_8 hHeld ⊢
 refine pur HT_.out 0 (some 36) (bm 12 1) ?_
 refine pur HT_.out 1 (some 37) (bm 12 3) ?_
 refine pur HT_.out 2 (some 38) (bm 12 7) ?_
 refine pur HT_.out 3 (some 39) (bm 12 15) ?_
 refine pur HT_.out 4 (some 40) (bm 12 31) ?_
 refine pur HT_.out 5 (some 41) (bm 12 63) ?_
 refine pur HT_.out 6 (some 42) (bm 12 127) ?_
 refine tak HT_.out HW_.out 7 (some 43) (bm 12 255) hHeld ?_
 refine tak HT_.out HW_.out 8 (some 44) (bm 12 511) hHeld ?_
 refine one_ (i := 9) (N := some 45) (bm 12 1023) rfl rfl (one_of HT_.out (by kernel_rfl)) (by decide) (fun K hK => ?_)
 refine goes_ Try.func28 (by kernel_rfl) rfl #[.agg #[.int .i64 ((rd_T28 x5_1 (ji16)).f0), .int .i64 ((rd_T28 x5_1 (ji16)).f1), .int .i64 ((rd_T28 x5_1 (ji16)).f2.f0), .int .i64 ((rd_T28 x5_1 (ji16)).f2.f1), .int .i64 ((rd_T28 x5_1 (ji16)).f2.f2), .int .i64 ((rd_T28 x5_1 (ji16)).f2.f3.f0), .int .i64 ((rd_T28 x5_1 (ji16)).f2.f3.f1), .int .i64 ((rd_T28 x5_1 (ji16)).f2.f4), .int .i64 ((rd_T28 x5_1 (ji16)).f2.f5)], .agg #[.int .i64 x287000_3, .int .i64 x287001_3, .int .i64 x287002_3, .int .i64 x287003_3, .int .i64 x287004_3, .int .i64 x287005_3, .int .i64 x287006_3, .int .i64 x287007_3, .int .i64 x287008_3]] (by first | rfl | (refine wanted_on rfl rfl rfl ?_; first | assumption | (simp [*]; done))) rfl rfl (by (try simp only [List.map_toArray, List.map_cons, List.map_nil]); first | done | (simp only [hji16]; rfl) | rfl | (simp only [List.length_drop, List.length_take]; rfl)) ?_
 with_reducible refine (rollbacknetref27_Compare.calls k3 ((rd_T28 x5_1 (ji16)).f0) ((rd_T28 x5_1 (ji16)).f1) ((rd_T28 x5_1 (ji16)).f2.f0) ((rd_T28 x5_1 (ji16)).f2.f1) ((rd_T28 x5_1 (ji16)).f2.f2) ((rd_T28 x5_1 (ji16)).f2.f3.f0) ((rd_T28 x5_1 (ji16)).f2.f3.f1) ((rd_T28 x5_1 (ji16)).f2.f4) ((rd_T28 x5_1 (ji16)).f2.f5) x287000_3 x287001_3 x287002_3 x287003_3 x287004_3 x287005_3 x287006_3 x287007_3 x287008_3 t290 _ A19.out).mono ?_
 rintro e w22 ⟨rfl, hb⟩
 have HS9_ := (hb.cell (World.block_lt_of_cell? _ _ (hHeld.2.2.2.2.2.2.2.2.2.1))).trans (hHeld.2.2.2.2.2.2.2.2.2.1)
 have HS10_ := (hb.cell (World.block_lt_of_cell? _ _ (hHeld.2.2.2.2.2.2.2.2.2.2.1))).trans (hHeld.2.2.2.2.2.2.2.2.2.2.1)
 have HS11_ := (hb.cell (World.block_lt_of_cell? _ _ (hHeld.2.2.2.2.2.2.2.2.2.2.2.1))).trans (hHeld.2.2.2.2.2.2.2.2.2.2.2.1)
 have HS12_ := (hb.cell (World.block_lt_of_cell? _ _ (hHeld.2.2.2.2.2.2.2.2.2.2.2.2.1))).trans (hHeld.2.2.2.2.2.2.2.2.2.2.2.2.1)
 have HS13_ := (hb.cell (World.block_lt_of_cell? _ _ (hHeld.2.2.2.2.2.2.2.2.2.2.2.2.2.1))).trans (hHeld.2.2.2.2.2.2.2.2.2.2.2.2.2.1)
 have HS14_ := (hb.cell (World.block_lt_of_cell? _ _ (hHeld.2.2.2.2.2.2.2.2.2.2.2.2.2.2.1))).trans (hHeld.2.2.2.2.2.2.2.2.2.2.2.2.2.2.1)
 have HS15_ := (hb.cell (World.block_lt_of_cell? _ _ (hHeld.2.2.2.2.2.2.2.2.2.2.2.2.2.2.2.1))).trans (hHeld.2.2.2.2.2.2.2.2.2.2.2.2.2.2.2.1)
 have HS16_ := (hb.cell (World.block_lt_of_cell? _ _ (hHeld.2.2.2.2.2.2.2.2.2.2.2.2.2.2.2.2.1))).trans (hHeld.2.2.2.2.2.2.2.2.2.2.2.2.2.2.2.2.1)
 have HS17_ := (hb.cell (World.block_lt_of_cell? _ _ (hHeld.2.2.2.2.2.2.2.2.2.2.2.2.2.2.2.2.2))).trans (hHeld.2.2.2.2.2.2.2.2.2.2.2.2.2.2.2.2.2)
 refine ⟨_, rfl, ?_⟩
 have n0_ := Aside0.mk (Kd.R_below (rq HO_5.out) hb)
 have n1_ := Aside0.mk (bb BK286.out hb)
 have n2_ := Aside0.mk (below_step (bq1 HB.out GE286.out) hb)
 clear HO_5
 clear BK286
 clear HB
 have HO_5 := n0_
 have BK286 := n1_
 have HB := n2_
 clear n0_ n1_ n2_
 (try clear hb)
 (try clear hb2)
 (try clear hk)
 (try clear hi)
 refine hK.out _ _ (c9 BK286.out ⟨HS9_, HS10_, HS11_, HS12_, HS13_, HS14_, HS15_, HS16_, HS17_⟩) (fun hHeld => ?_)
 clear hK K
 refine nrm 45 ?_
 refine pur HT_.out 10 (some 46) (bm 12 2047) ?_
 refine pur HT_.out 11 (some 47) (bm 12 4095) ?_
 refine done_ (done_of HT_.out (by kernel_rfl)) ?_
 try go_wp2
 go_roundg k3
 case measure => have := HK1.out; have := HJ3.out; have := HK3.out; omega
 case rel => exact ⟨(ji16), (by first | rfl | (simp; done) | (simp only [← hji16] <;> (first | rfl | simp)) | (simp [*]; done)), H', ⟨by have := HK1.out; have := HJ3.out; have := HK3.out; omega⟩, ⟨rq HO_5.out⟩, ⟨kq BK286.out⟩, ⟨bq1 HB.out GE286.out⟩⟩)
 ·(
 rw [if_neg c20] at H
 have c20b0 : decide (0 < t290) = false := decide_eq_false c20
 clear c20
 by_cases c23 : (((rd_T28 x5_1 (ji16)).f0) == x287000_3 && (((rd_T28 x5_1 (ji16)).f1) == x287001_3 && ((((rd_T28 x5_1 (ji16)).f2.f0) == x287002_3 && (((rd_T28 x5_1 (ji16)).f2.f1) == x287003_3 && (((rd_T28 x5_1 (ji16)).f2.f2) == x287004_3 && ((((rd_T28 x5_1 (ji16)).f2.f3.f0) == x287005_3 && (((rd_T28 x5_1 (ji16)).f2.f3.f1) == x287006_3)) && (((rd_T28 x5_1 (ji16)).f2.f4) == x287007_3 && (((rd_T28 x5_1 (ji16)).f2.f5) == x287008_3))))))))) = true
 ·(
 rw [if_pos c23] at H
 have c23b0 : (((rd_T28 x5_1 (ji16)).f0) == x287000_3 && (((rd_T28 x5_1 (ji16)).f1) == x287001_3 && ((((rd_T28 x5_1 (ji16)).f2.f0) == x287002_3 && (((rd_T28 x5_1 (ji16)).f2.f1) == x287003_3 && (((rd_T28 x5_1 (ji16)).f2.f2) == x287004_3 && ((((rd_T28 x5_1 (ji16)).f2.f3.f0) == x287005_3 && (((rd_T28 x5_1 (ji16)).f2.f3.f1) == x287006_3)) && (((rd_T28 x5_1 (ji16)).f2.f4) == x287007_3 && (((rd_T28 x5_1 (ji16)).f2.f5) == x287008_3))))))))) = true := c23
 (try (have c23b1 : decide (((rd_T28 x5_1 (ji16)).f0) = x287000_3 && (((rd_T28 x5_1 (ji16)).f1) == x287001_3 && ((((rd_T28 x5_1 (ji16)).f2.f0) == x287002_3 && (((rd_T28 x5_1 (ji16)).f2.f1) == x287003_3 && (((rd_T28 x5_1 (ji16)).f2.f2) == x287004_3 && ((((rd_T28 x5_1 (ji16)).f2.f3.f0) == x287005_3 && (((rd_T28 x5_1 (ji16)).f2.f3.f1) == x287006_3)) && (((rd_T28 x5_1 (ji16)).f2.f4) == x287007_3 && (((rd_T28 x5_1 (ji16)).f2.f5) == x287008_3))))))))) = true := by simpa using c23))
 (try (have c23b2 : (((rd_T28 x5_1 (ji16)).f0) == x287000_3 && (((rd_T28 x5_1 (ji16)).f1) == x287001_3 && ((((rd_T28 x5_1 (ji16)).f2.f0) == x287002_3 && (((rd_T28 x5_1 (ji16)).f2.f1) == x287003_3 && (((rd_T28 x5_1 (ji16)).f2.f2) == x287004_3 && ((((rd_T28 x5_1 (ji16)).f2.f3.f0) == x287005_3 && (((rd_T28 x5_1 (ji16)).f2.f3.f1) == x287006_3)) && (((rd_T28 x5_1 (ji16)).f2.f4) == x287007_3 && (((rd_T28 x5_1 (ji16)).f2.f5) == x287008_3))))))))) = true := by simpa using c23))
 clear c23
 have H' := Aside0.mk H
 clear H
 try go_wp2
 have n0_ := Aside0.mk (Kd.R_drew HO_5.out)
 have n1_ := Aside0.mk (blk_drew BK286.out)
 have n2_ := Aside0.mk (below_drew1 HB.out)
 clear HO_5
 clear BK286
 clear HB
 have HO_5 := n0_
 have BK286 := n1_
 have HB := n2_
 clear n0_ n1_ n2_
 have p289 : 0 ≤ ((ji16) : Int) := of_decide_eq_true (by first | (with_reducible assumption) | assumption)
 have q289 : (ji16) < (x5_1.length : Int) := of_decide_eq_true (by first | (with_reducible assumption) | assumption)
 obtain ⟨ad289, e289, hx289_0, hx289_1, hx289_2, hx289_3, hx289_4, hx289_5, hx289_6, hx289_7, hx289_8⟩ := at_T28 (Kd.R_reads' HO_5.out).2.2 (ji16) p289 q289
 cases e289
 replace p289 := eq_true p289
 replace q289 := eq_true q289
 refine start_ (n := 12) (S := fun w' => w'.cell? ⟨gb286, 0, none⟩ = some (.int .i64 x287000_3) ∧ w'.cell? ⟨gb286, 1, none⟩ = some (.int .i64 x287001_3) ∧ w'.cell? ⟨gb286, 2, none⟩ = some (.int .i64 x287002_3) ∧ w'.cell? ⟨gb286, 3, none⟩ = some (.int .i64 x287003_3) ∧ w'.cell? ⟨gb286, 4, none⟩ = some (.int .i64 x287004_3) ∧ w'.cell? ⟨gb286, 5, none⟩ = some (.int .i64 x287005_3) ∧ w'.cell? ⟨gb286, 6, none⟩ = some (.int .i64 x287006_3) ∧ w'.cell? ⟨gb286, 7, none⟩ = some (.int .i64 x287007_3) ∧ w'.cell? ⟨gb286, 8, none⟩ = some (.int .i64 x287008_3) ∧ w'.cell? (ad289.add (((ji16)).toNat * 9)) = some (.int .i64 ((rd_T28 x5_1 (ji16)).f0)) ∧ w'.cell? ⟨(ad289.add (((ji16)).toNat * 9)).block, (ad289.add (((ji16)).toNat * 9)).off + 1, none⟩ = some (.int .i64 ((rd_T28 x5_1 (ji16)).f1)) ∧ w'.cell? ⟨(ad289.add (((ji16)).toNat * 9)).block, (ad289.add (((ji16)).toNat * 9)).off + 2, none⟩ = some (.int .i64 ((rd_T28 x5_1 (ji16)).f2.f0)) ∧ w'.cell? ⟨(ad289.add (((ji16)).toNat * 9)).block, (ad289.add (((ji16)).toNat * 9)).off + 3, none⟩ = some (.int .i64 ((rd_T28 x5_1 (ji16)).f2.f1)) ∧ w'.cell? ⟨(ad289.add (((ji16)).toNat * 9)).block, (ad289.add (((ji16)).toNat * 9)).off + 4, none⟩ = some (.int .i64 ((rd_T28 x5_1 (ji16)).f2.f2)) ∧ w'.cell? ⟨(ad289.add (((ji16)).toNat * 9)).block, (ad289.add (((ji16)).toNat * 9)).off + 5, none⟩ = some (.int .i64 ((rd_T28 x5_1 (ji16)).f2.f3.f0)) ∧ w'.cell? ⟨(ad289.add (((ji16)).toNat * 9)).block, (ad289.add (((ji16)).toNat * 9)).off + 6, none⟩ = some (.int .i64 ((rd_T28 x5_1 (ji16)).f2.f3.f1)) ∧ w'.cell? ⟨(ad289.add (((ji16)).toNat * 9)).block, (ad289.add (((ji16)).toNat * 9)).off + 7, none⟩ = some (.int .i64 ((rd_T28 x5_1 (ji16)).f2.f4)) ∧ w'.cell? ⟨(ad289.add (((ji16)).toNat * 9)).block, (ad289.add (((ji16)).toNat * 9)).off + 8, none⟩ = some (.int .i64 ((rd_T28 x5_1 (ji16)).f2.f5))) (ds := []) #[false, false, false, false, false, false, false, false, false, false, false, false] (by kernel_rfl) rfl rfl (c9 BK286.out ⟨hx289_0, hx289_1, hx289_2, hx289_3, hx289_4, hx289_5, hx289_6, hx289_7, hx289_8⟩) (fun hHeld => ?_); refine with_tabW rollbacknetref27_Merge.tab10 rollbacknetref27_Merge.bits10 (fun HT_ HW_ => ?_)
 generalize wr.drew = w24 at HO_5 BK286 HB hx289_0 hx289_1 hx289_2 hx289_3 hx289_4 hx289_5 hx289_6 hx289_7 hx289_8 hHeld ⊢
 refine pur HT_.out 0 (some 36) (bm 12 1) ?_
 refine pur HT_.out 1 (some 37) (bm 12 3) ?_
 refine pur HT_.out 2 (some 38) (bm 12 7) ?_
 refine pur HT_.out 3 (some 39) (bm 12 15) ?_
 refine pur HT_.out 4 (some 40) (bm 12 31) ?_
 refine pur HT_.out 5 (some 41) (bm 12 63) ?_
 refine pur HT_.out 6 (some 42) (bm 12 127) ?_
 refine tak HT_.out HW_.out 7 (some 43) (bm 12 255) hHeld ?_
 refine tak HT_.out HW_.out 8 (some 44) (bm 12 511) hHeld ?_
 refine one_ (i := 9) (N := some 45) (bm 12 1023) rfl rfl (one_of HT_.out (by kernel_rfl)) (by decide) (fun K hK => ?_)
 refine goes_ Try.func28 (by kernel_rfl) rfl #[.agg #[.int .i64 ((rd_T28 x5_1 (ji16)).f0), .int .i64 ((rd_T28 x5_1 (ji16)).f1), .int .i64 ((rd_T28 x5_1 (ji16)).f2.f0), .int .i64 ((rd_T28 x5_1 (ji16)).f2.f1), .int .i64 ((rd_T28 x5_1 (ji16)).f2.f2), .int .i64 ((rd_T28 x5_1 (ji16)).f2.f3.f0), .int .i64 ((rd_T28 x5_1 (ji16)).f2.f3.f1), .int .i64 ((rd_T28 x5_1 (ji16)).f2.f4), .int .i64 ((rd_T28 x5_1 (ji16)).f2.f5)], .agg #[.int .i64 x287000_3, .int .i64 x287001_3, .int .i64 x287002_3, .int .i64 x287003_3, .int .i64 x287004_3, .int .i64 x287005_3, .int .i64 x287006_3, .int .i64 x287007_3, .int .i64 x287008_3]] (by first | rfl | (refine wanted_on rfl rfl rfl ?_; first | assumption | (simp [*]; done))) rfl rfl (by (try simp only [List.map_toArray, List.map_cons, List.map_nil]); first | done | (simp only [hji16]; rfl) | rfl | (simp only [List.length_drop, List.length_take]; rfl)) ?_
 with_reducible refine (rollbacknetref27_Compare.calls k3 ((rd_T28 x5_1 (ji16)).f0) ((rd_T28 x5_1 (ji16)).f1) ((rd_T28 x5_1 (ji16)).f2.f0) ((rd_T28 x5_1 (ji16)).f2.f1) ((rd_T28 x5_1 (ji16)).f2.f2) ((rd_T28 x5_1 (ji16)).f2.f3.f0) ((rd_T28 x5_1 (ji16)).f2.f3.f1) ((rd_T28 x5_1 (ji16)).f2.f4) ((rd_T28 x5_1 (ji16)).f2.f5) x287000_3 x287001_3 x287002_3 x287003_3 x287004_3 x287005_3 x287006_3 x287007_3 x287008_3 t290 _ A19.out).mono ?_
 rintro e w25 ⟨rfl, hb⟩
 have HS9_ := (hb.cell (World.block_lt_of_cell? _ _ (hHeld.2.2.2.2.2.2.2.2.2.1))).trans (hHeld.2.2.2.2.2.2.2.2.2.1)
 have HS10_ := (hb.cell (World.block_lt_of_cell? _ _ (hHeld.2.2.2.2.2.2.2.2.2.2.1))).trans (hHeld.2.2.2.2.2.2.2.2.2.2.1)
 have HS11_ := (hb.cell (World.block_lt_of_cell? _ _ (hHeld.2.2.2.2.2.2.2.2.2.2.2.1))).trans (hHeld.2.2.2.2.2.2.2.2.2.2.2.1)
 have HS12_ := (hb.cell (World.block_lt_of_cell? _ _ (hHeld.2.2.2.2.2.2.2.2.2.2.2.2.1))).trans (hHeld.2.2.2.2.2.2.2.2.2.2.2.2.1)
 have HS13_ := (hb.cell (World.block_lt_of_cell? _ _ (hHeld.2.2.2.2.2.2.2.2.2.2.2.2.2.1))).trans (hHeld.2.2.2.2.2.2.2.2.2.2.2.2.2.1)
 have HS14_ := (hb.cell (World.block_lt_of_cell? _ _ (hHeld.2.2.2.2.2.2.2.2.2.2.2.2.2.2.1))).trans (hHeld.2.2.2.2.2.2.2.2.2.2.2.2.2.2.1)
 have HS15_ := (hb.cell (World.block_lt_of_cell? _ _ (hHeld.2.2.2.2.2.2.2.2.2.2.2.2.2.2.2.1))).trans (hHeld.2.2.2.2.2.2.2.2.2.2.2.2.2.2.2.1)
 have HS16_ := (hb.cell (World.block_lt_of_cell? _ _ (hHeld.2.2.2.2.2.2.2.2.2.2.2.2.2.2.2.2.1))).trans (hHeld.2.2.2.2.2.2.2.2.2.2.2.2.2.2.2.2.1)
 have HS17_ := (hb.cell (World.block_lt_of_cell? _ _ (hHeld.2.2.2.2.2.2.2.2.2.2.2.2.2.2.2.2.2))).trans (hHeld.2.2.2.2.2.2.2.2.2.2.2.2.2.2.2.2.2)
 refine ⟨_, rfl, ?_⟩
 have n0_ := Aside0.mk (Kd.R_below (rq HO_5.out) hb)
 have n1_ := Aside0.mk (bb BK286.out hb)
 have n2_ := Aside0.mk (below_step (bq1 HB.out GE286.out) hb)
 clear HO_5
 clear BK286
 clear HB
 have HO_5 := n0_
 have BK286 := n1_
 have HB := n2_
 clear n0_ n1_ n2_
 (try clear hb)
 (try clear hb2)
 (try clear hk)
 (try clear hi)
 refine hK.out _ _ (c9 BK286.out ⟨HS9_, HS10_, HS11_, HS12_, HS13_, HS14_, HS15_, HS16_, HS17_⟩) (fun hHeld => ?_)
 clear hK K
 refine nrm 45 ?_
 refine pur HT_.out 10 (some 46) (bm 12 2047) ?_
 refine pur HT_.out 11 (some 47) (bm 12 4095) ?_
 refine done_ (done_of HT_.out (by kernel_rfl)) ?_
 try go_wp2
 have n0_ := Aside0.mk (Kd.R_drew HO_5.out)
 have n1_ := Aside0.mk (blk_drew BK286.out)
 have n2_ := Aside0.mk (below_drew1 HB.out)
 clear HO_5
 clear BK286
 clear HB
 have HO_5 := n0_
 have BK286 := n1_
 have HB := n2_
 clear n0_ n1_ n2_
 have p291 : 0 ≤ ((ji16) : Int) := of_decide_eq_true (by first | (with_reducible assumption) | assumption)
 have q291 : (ji16) < (x5_1.length : Int) := of_decide_eq_true (by first | (with_reducible assumption) | assumption)
 obtain ⟨ad291, e291, hx291_0, hx291_1, hx291_2, hx291_3, hx291_4, hx291_5, hx291_6, hx291_7, hx291_8⟩ := at_T28 (Kd.R_reads' HO_5.out).2.2 (ji16) p291 q291
 obtain rfl : ad289 = ad291 := (by injection e291)
 replace p291 := eq_true p291
 replace q291 := eq_true q291
 refine start_ (n := 11) (S := fun w' => w'.cell? ⟨gb286, 0, none⟩ = some (.int .i64 x287000_3) ∧ w'.cell? ⟨gb286, 1, none⟩ = some (.int .i64 x287001_3) ∧ w'.cell? ⟨gb286, 2, none⟩ = some (.int .i64 x287002_3) ∧ w'.cell? ⟨gb286, 3, none⟩ = some (.int .i64 x287003_3) ∧ w'.cell? ⟨gb286, 4, none⟩ = some (.int .i64 x287004_3) ∧ w'.cell? ⟨gb286, 5, none⟩ = some (.int .i64 x287005_3) ∧ w'.cell? ⟨gb286, 6, none⟩ = some (.int .i64 x287006_3) ∧ w'.cell? ⟨gb286, 7, none⟩ = some (.int .i64 x287007_3) ∧ w'.cell? ⟨gb286, 8, none⟩ = some (.int .i64 x287008_3) ∧ w'.cell? (ad289.add (((ji16)).toNat * 9)) = some (.int .i64 ((rd_T28 x5_1 (ji16)).f0)) ∧ w'.cell? ⟨(ad289.add (((ji16)).toNat * 9)).block, (ad289.add (((ji16)).toNat * 9)).off + 1, none⟩ = some (.int .i64 ((rd_T28 x5_1 (ji16)).f1)) ∧ w'.cell? ⟨(ad289.add (((ji16)).toNat * 9)).block, (ad289.add (((ji16)).toNat * 9)).off + 2, none⟩ = some (.int .i64 ((rd_T28 x5_1 (ji16)).f2.f0)) ∧ w'.cell? ⟨(ad289.add (((ji16)).toNat * 9)).block, (ad289.add (((ji16)).toNat * 9)).off + 3, none⟩ = some (.int .i64 ((rd_T28 x5_1 (ji16)).f2.f1)) ∧ w'.cell? ⟨(ad289.add (((ji16)).toNat * 9)).block, (ad289.add (((ji16)).toNat * 9)).off + 4, none⟩ = some (.int .i64 ((rd_T28 x5_1 (ji16)).f2.f2)) ∧ w'.cell? ⟨(ad289.add (((ji16)).toNat * 9)).block, (ad289.add (((ji16)).toNat * 9)).off + 5, none⟩ = some (.int .i64 ((rd_T28 x5_1 (ji16)).f2.f3.f0)) ∧ w'.cell? ⟨(ad289.add (((ji16)).toNat * 9)).block, (ad289.add (((ji16)).toNat * 9)).off + 6, none⟩ = some (.int .i64 ((rd_T28 x5_1 (ji16)).f2.f3.f1)) ∧ w'.cell? ⟨(ad289.add (((ji16)).toNat * 9)).block, (ad289.add (((ji16)).toNat * 9)).off + 7, none⟩ = some (.int .i64 ((rd_T28 x5_1 (ji16)).f2.f4)) ∧ w'.cell? ⟨(ad289.add (((ji16)).toNat * 9)).block, (ad289.add (((ji16)).toNat * 9)).off + 8, none⟩ = some (.int .i64 ((rd_T28 x5_1 (ji16)).f2.f5))) (ds := []) #[false, false, false, false, false, false, false, false, false, false, false] (by kernel_rfl) rfl rfl (c9 BK286.out ⟨hx291_0, hx291_1, hx291_2, hx291_3, hx291_4, hx291_5, hx291_6, hx291_7, hx291_8⟩) (fun hHeld => ?_); refine with_tabW rollbacknetref27_Merge.tab12 rollbacknetref27_Merge.bits12 (fun HT_ HW_ => ?_)
 generalize w25.drew = w26 at HO_5 BK286 HB hx291_0 hx291_1 hx291_2 hx291_3 hx291_4 hx291_5 hx291_6 hx291_7 hx291_8 hHeld ⊢
 refine pur HT_.out 0 (some 50) (bm 11 1) ?_
 refine pur HT_.out 1 (some 51) (bm 11 3) ?_
 refine pur HT_.out 2 (some 52) (bm 11 7) ?_
 refine pur HT_.out 3 (some 53) (bm 11 15) ?_
 refine pur HT_.out 4 (some 54) (bm 11 31) ?_
 refine pur HT_.out 5 (some 55) (bm 11 63) ?_
 refine pur HT_.out 6 (some 56) (bm 11 127) ?_
 refine tak HT_.out HW_.out 7 (some 57) (bm 11 255) hHeld ?_
 refine tak HT_.out HW_.out 8 (some 58) (bm 11 511) hHeld ?_
 refine pur HT_.out 9 (some 59) (bm 11 1023) ?_
 refine pur HT_.out 10 (some 60) (bm 11 2047) ?_
 refine done_ (done_of HT_.out (by kernel_rfl)) ?_
 try go_wp2
 go_roundg k3
 case measure => have := HK1.out; have := HJ3.out; have := HK3.out; omega
 case rel => exact ⟨(x5_1), (wrap64 (x6_1 + 1)), (by first | rfl | (simp; done) | (simp [*]; done)), H', ⟨by have := HK1.out; have := HJ3.out; have := HK3.out; omega⟩, ⟨by (with_reducible repeat (first | apply Kd.R_alloc | apply Kd.R_drewN | apply Kd.R_drew)); exact Kd.R_mono HO_5.out (fun _ hk => trivial)⟩, ⟨bq1 HB.out GE286.out⟩⟩)
 ·(
 rw [if_neg c23] at H
 have c23b0 : (((rd_T28 x5_1 (ji16)).f0) == x287000_3 && (((rd_T28 x5_1 (ji16)).f1) == x287001_3 && ((((rd_T28 x5_1 (ji16)).f2.f0) == x287002_3 && (((rd_T28 x5_1 (ji16)).f2.f1) == x287003_3 && (((rd_T28 x5_1 (ji16)).f2.f2) == x287004_3 && ((((rd_T28 x5_1 (ji16)).f2.f3.f0) == x287005_3 && (((rd_T28 x5_1 (ji16)).f2.f3.f1) == x287006_3)) && (((rd_T28 x5_1 (ji16)).f2.f4) == x287007_3 && (((rd_T28 x5_1 (ji16)).f2.f5) == x287008_3))))))))) = false := by simpa using c23
 (try (have c23b1 : decide (((rd_T28 x5_1 (ji16)).f0) = x287000_3 && (((rd_T28 x5_1 (ji16)).f1) == x287001_3 && ((((rd_T28 x5_1 (ji16)).f2.f0) == x287002_3 && (((rd_T28 x5_1 (ji16)).f2.f1) == x287003_3 && (((rd_T28 x5_1 (ji16)).f2.f2) == x287004_3 && ((((rd_T28 x5_1 (ji16)).f2.f3.f0) == x287005_3 && (((rd_T28 x5_1 (ji16)).f2.f3.f1) == x287006_3)) && (((rd_T28 x5_1 (ji16)).f2.f4) == x287007_3 && (((rd_T28 x5_1 (ji16)).f2.f5) == x287008_3))))))))) = false := by simpa using c23))
 (try (have c23b2 : (((rd_T28 x5_1 (ji16)).f0) == x287000_3 && (((rd_T28 x5_1 (ji16)).f1) == x287001_3 && ((((rd_T28 x5_1 (ji16)).f2.f0) == x287002_3 && (((rd_T28 x5_1 (ji16)).f2.f1) == x287003_3 && (((rd_T28 x5_1 (ji16)).f2.f2) == x287004_3 && ((((rd_T28 x5_1 (ji16)).f2.f3.f0) == x287005_3 && (((rd_T28 x5_1 (ji16)).f2.f3.f1) == x287006_3)) && (((rd_T28 x5_1 (ji16)).f2.f4) == x287007_3 && (((rd_T28 x5_1 (ji16)).f2.f5) == x287008_3))))))))) = false := by simpa using c23))
 (try (have c23b3 : ¬ (((rd_T28 x5_1 (ji16)).f0) = x287000_3 && (((rd_T28 x5_1 (ji16)).f1) == x287001_3 && ((((rd_T28 x5_1 (ji16)).f2.f0) == x287002_3 && (((rd_T28 x5_1 (ji16)).f2.f1) == x287003_3 && (((rd_T28 x5_1 (ji16)).f2.f2) == x287004_3 && ((((rd_T28 x5_1 (ji16)).f2.f3.f0) == x287005_3 && (((rd_T28 x5_1 (ji16)).f2.f3.f1) == x287006_3)) && (((rd_T28 x5_1 (ji16)).f2.f4) == x287007_3 && (((rd_T28 x5_1 (ji16)).f2.f5) == x287008_3))))))))) := by simpa using c23))
 clear c23
 by_cases c27 : x5_1.length < 1954687338268
 ·(
 rw [if_pos c27] at H
 have LMc27 := Aside0.mk c27
 clear c27
 obtain ⟨y292, hy292⟩ : ∃ y_ : List (S28), y_ = (x5_1 ++ [(⟨0, 0, (⟨0, 0, 0, (⟨0, 0⟩ : S24), 0, 0⟩ : S26)⟩ : S28)]) := ⟨_, rfl⟩
 replace H : (if 0 ≤ (wrap64 (x8_3 + 1)) then (if (wrap64 (x8_3 + 1)) ≤ (y292.length : Int) then (if 0 ≤ x8_3 then (if x8_3 ≤ (y292.length : Int) then (if x8_3 < (y292.length : Int) then (rollbacknetref27_Merge.l0 k3 l0 l1 ((shiftAt y292 (x8_3 : Int).toNat).set (x8_3 : Int).toNat (⟨x287000_3, x287001_3, (⟨x287002_3, x287003_3, x287004_3, (⟨x287005_3, x287006_3⟩ : S24), x287007_3, x287008_3⟩ : S26)⟩ : S28)) (wrap64 (x6_1 + 1))) else (none)) else (none)) else (none)) else (none)) else (none)) = some r := by first | (rw [hy292]; with_reducible exact H) | (have H2_ := (Option.bind_some _ _).symm.trans H; rw [hy292]; with_reducible exact H2_) | (have H2_ := (Option.bind_some _ _).symm.trans H; with_reducible exact H2_) | with_reducible exact H | (rw [hy292]; exact H) | exact H
 have Ny292 := Aside0.mk hy292
 clear hy292
 obtain ⟨ji28, hji28⟩ : ∃ j_ : Int, (wrap64 (x8_3 + 1)) = j_ := ⟨_, rfl⟩
 replace H : (if 0 ≤ (ji28) then (if (ji28) ≤ (y292.length : Int) then (if 0 ≤ x8_3 then (if x8_3 ≤ (y292.length : Int) then (if x8_3 < (y292.length : Int) then (rollbacknetref27_Merge.l0 k3 l0 l1 ((shiftAt y292 (x8_3 : Int).toNat).set (x8_3 : Int).toNat (⟨x287000_3, x287001_3, (⟨x287002_3, x287003_3, x287004_3, (⟨x287005_3, x287006_3⟩ : S24), x287007_3, x287008_3⟩ : S26)⟩ : S28)) (wrap64 (x6_1 + 1))) else (none)) else (none)) else (none)) else (none)) else (none)) = some r := by first | (rw [hji28] at H; exact H) | (simp only [hji28] at H ⊢; exact H)
 (try rw [hji28] at A19)
 have hji28w : (IntKind.i64.wrap (x8_3 + 1)) = ji28 := (i64_w _).trans hji28
 by_cases c29 : 0 ≤ (ji28)
 ·(
 rw [if_pos c29] at H
 have c29b0 := eq_true c29
 have c29b1 : decide (0 ≤ (ji28)) = true := decide_eq_true c29
 clear c29
 by_cases c30 : (ji28) ≤ (y292.length : Int)
 ·(
 rw [if_pos c30] at H
 have c30b0 := eq_true c30
 have c30b1 : decide ((ji28) ≤ (y292.length : Int)) = true := decide_eq_true c30
 clear c30
 obtain ⟨y295, hy295⟩ : ∃ y_ : List (S28), y_ = (y292.drop ((ji28) : Int).toNat) := ⟨_, rfl⟩
 replace H : (if 0 ≤ x8_3 then (if x8_3 ≤ (y292.length : Int) then (if x8_3 < (y292.length : Int) then (rollbacknetref27_Merge.l0 k3 l0 l1 ((shiftAt y292 (x8_3 : Int).toNat).set (x8_3 : Int).toNat (⟨x287000_3, x287001_3, (⟨x287002_3, x287003_3, x287004_3, (⟨x287005_3, x287006_3⟩ : S24), x287007_3, x287008_3⟩ : S26)⟩ : S28)) (wrap64 (x6_1 + 1))) else (none)) else (none)) else (none)) = some r := by first | (rw [hy295]; with_reducible exact H) | (have H2_ := (Option.bind_some _ _).symm.trans H; rw [hy295]; with_reducible exact H2_) | (have H2_ := (Option.bind_some _ _).symm.trans H; with_reducible exact H2_) | with_reducible exact H | (rw [hy295]; exact H) | exact H
 have Ny295 := Aside0.mk hy295
 clear hy295
 by_cases c31 : 0 ≤ x8_3
 ·(
 rw [if_pos c31] at H
 have c31b0 := eq_true c31
 have c31b1 : decide (0 ≤ x8_3) = true := decide_eq_true c31
 clear c31
 by_cases c32 : x8_3 ≤ (y292.length : Int)
 ·(
 rw [if_pos c32] at H
 have c32b0 := eq_true c32
 have c32b1 : decide (x8_3 ≤ (y292.length : Int)) = true := decide_eq_true c32
 clear c32
 obtain ⟨y299, hy299⟩ : ∃ y_ : List (S28), y_ = (y292.drop (x8_3 : Int).toNat) := ⟨_, rfl⟩
 replace H : (if x8_3 < (y292.length : Int) then (rollbacknetref27_Merge.l0 k3 l0 l1 ((shiftAt y292 (x8_3 : Int).toNat).set (x8_3 : Int).toNat (⟨x287000_3, x287001_3, (⟨x287002_3, x287003_3, x287004_3, (⟨x287005_3, x287006_3⟩ : S24), x287007_3, x287008_3⟩ : S26)⟩ : S28)) (wrap64 (x6_1 + 1))) else (none)) = some r := by first | (rw [hy299]; with_reducible exact H) | (have H2_ := (Option.bind_some _ _).symm.trans H; rw [hy299]; with_reducible exact H2_) | (have H2_ := (Option.bind_some _ _).symm.trans H; with_reducible exact H2_) | with_reducible exact H | (rw [hy299]; exact H) | exact H
 have Ny299 := Aside0.mk hy299
 clear hy299
 obtain ⟨y303, hy303⟩ : ∃ y_ : List (S28), y_ = (shiftAt y292 (x8_3 : Int).toNat) := ⟨_, rfl⟩
 replace H : (if x8_3 < (y292.length : Int) then (rollbacknetref27_Merge.l0 k3 l0 l1 (y303.set (x8_3 : Int).toNat (⟨x287000_3, x287001_3, (⟨x287002_3, x287003_3, x287004_3, (⟨x287005_3, x287006_3⟩ : S24), x287007_3, x287008_3⟩ : S26)⟩ : S28)) (wrap64 (x6_1 + 1))) else (none)) = some r := by first | (rw [hy303]; with_reducible exact H) | (have H2_ := (Option.bind_some _ _).symm.trans H; rw [hy303]; with_reducible exact H2_) | (have H2_ := (Option.bind_some _ _).symm.trans H; with_reducible exact H2_) | with_reducible exact H | (rw [hy303]; exact H) | exact H
 have Ny303 := Aside0.mk hy303
 clear hy303
 by_cases c33 : x8_3 < (y292.length : Int)
 ·(
 rw [if_pos c33] at H
 have c33b0 : decide (x8_3 < (y292.length : Int)) = true := decide_eq_true c33
 clear c33
 obtain ⟨y304, hy304⟩ : ∃ y_ : List (S28), y_ = (y303.set (x8_3 : Int).toNat (⟨x287000_3, x287001_3, (⟨x287002_3, x287003_3, x287004_3, (⟨x287005_3, x287006_3⟩ : S24), x287007_3, x287008_3⟩ : S26)⟩ : S28)) := ⟨_, rfl⟩
 replace H : (rollbacknetref27_Merge.l0 k3 l0 l1 y304 (wrap64 (x6_1 + 1))) = some r := by first | (rw [hy304]; with_reducible exact H) | (have H2_ := (Option.bind_some _ _).symm.trans H; rw [hy304]; with_reducible exact H2_) | (have H2_ := (Option.bind_some _ _).symm.trans H; with_reducible exact H2_) | with_reducible exact H | (rw [hy304]; exact H) | exact H
 have Ny304 := Aside0.mk hy304
 clear hy304
 have H' := Aside0.mk H
 clear H
 try go_wp2
 have n0_ := Aside0.mk (Kd.R_drew HO_5.out)
 have n1_ := Aside0.mk (blk_drew BK286.out)
 have n2_ := Aside0.mk (below_drew1 HB.out)
 clear HO_5
 clear BK286
 clear HB
 have HO_5 := n0_
 have BK286 := n1_
 have HB := n2_
 clear n0_ n1_ n2_
 have p289 : 0 ≤ ((ji16) : Int) := of_decide_eq_true (by first | (with_reducible assumption) | assumption)
 have q289 : (ji16) < (x5_1.length : Int) := of_decide_eq_true (by first | (with_reducible assumption) | assumption)
 obtain ⟨ad289, e289, hx289_0, hx289_1, hx289_2, hx289_3, hx289_4, hx289_5, hx289_6, hx289_7, hx289_8⟩ := at_T28 (Kd.R_reads' HO_5.out).2.2 (ji16) p289 q289
 cases e289
 replace p289 := eq_true p289
 replace q289 := eq_true q289
 refine start_ (n := 12) (S := fun w' => w'.cell? ⟨gb286, 0, none⟩ = some (.int .i64 x287000_3) ∧ w'.cell? ⟨gb286, 1, none⟩ = some (.int .i64 x287001_3) ∧ w'.cell? ⟨gb286, 2, none⟩ = some (.int .i64 x287002_3) ∧ w'.cell? ⟨gb286, 3, none⟩ = some (.int .i64 x287003_3) ∧ w'.cell? ⟨gb286, 4, none⟩ = some (.int .i64 x287004_3) ∧ w'.cell? ⟨gb286, 5, none⟩ = some (.int .i64 x287005_3) ∧ w'.cell? ⟨gb286, 6, none⟩ = some (.int .i64 x287006_3) ∧ w'.cell? ⟨gb286, 7, none⟩ = some (.int .i64 x287007_3) ∧ w'.cell? ⟨gb286, 8, none⟩ = some (.int .i64 x287008_3) ∧ w'.cell? (ad289.add (((ji16)).toNat * 9)) = some (.int .i64 ((rd_T28 x5_1 (ji16)).f0)) ∧ w'.cell? ⟨(ad289.add (((ji16)).toNat * 9)).block, (ad289.add (((ji16)).toNat * 9)).off + 1, none⟩ = some (.int .i64 ((rd_T28 x5_1 (ji16)).f1)) ∧ w'.cell? ⟨(ad289.add (((ji16)).toNat * 9)).block, (ad289.add (((ji16)).toNat * 9)).off + 2, none⟩ = some (.int .i64 ((rd_T28 x5_1 (ji16)).f2.f0)) ∧ w'.cell? ⟨(ad289.add (((ji16)).toNat * 9)).block, (ad289.add (((ji16)).toNat * 9)).off + 3, none⟩ = some (.int .i64 ((rd_T28 x5_1 (ji16)).f2.f1)) ∧ w'.cell? ⟨(ad289.add (((ji16)).toNat * 9)).block, (ad289.add (((ji16)).toNat * 9)).off + 4, none⟩ = some (.int .i64 ((rd_T28 x5_1 (ji16)).f2.f2)) ∧ w'.cell? ⟨(ad289.add (((ji16)).toNat * 9)).block, (ad289.add (((ji16)).toNat * 9)).off + 5, none⟩ = some (.int .i64 ((rd_T28 x5_1 (ji16)).f2.f3.f0)) ∧ w'.cell? ⟨(ad289.add (((ji16)).toNat * 9)).block, (ad289.add (((ji16)).toNat * 9)).off + 6, none⟩ = some (.int .i64 ((rd_T28 x5_1 (ji16)).f2.f3.f1)) ∧ w'.cell? ⟨(ad289.add (((ji16)).toNat * 9)).block, (ad289.add (((ji16)).toNat * 9)).off + 7, none⟩ = some (.int .i64 ((rd_T28 x5_1 (ji16)).f2.f4)) ∧ w'.cell? ⟨(ad289.add (((ji16)).toNat * 9)).block, (ad289.add (((ji16)).toNat * 9)).off + 8, none⟩ = some (.int .i64 ((rd_T28 x5_1 (ji16)).f2.f5))) (ds := []) #[false, false, false, false, false, false, false, false, false, false, false, false] (by kernel_rfl) rfl rfl (c9 BK286.out ⟨hx289_0, hx289_1, hx289_2, hx289_3, hx289_4, hx289_5, hx289_6, hx289_7, hx289_8⟩) (fun hHeld => ?_); refine with_tabW rollbacknetref27_Merge.tab10 rollbacknetref27_Merge.bits10 (fun HT_ HW_ => ?_)
 generalize wr.drew = w35 at HO_5 BK286 HB hx289_0 hx289_1 hx289_2 hx289_3 hx289_4 hx289_5 hx289_6 hx289_7 hx289_8 hHeld ⊢
 refine pur HT_.out 0 (some 36) (bm 12 1) ?_
 refine pur HT_.out 1 (some 37) (bm 12 3) ?_
 refine pur HT_.out 2 (some 38) (bm 12 7) ?_
 refine pur HT_.out 3 (some 39) (bm 12 15) ?_
 refine pur HT_.out 4 (some 40) (bm 12 31) ?_
 refine pur HT_.out 5 (some 41) (bm 12 63) ?_
 refine pur HT_.out 6 (some 42) (bm 12 127) ?_
 refine tak HT_.out HW_.out 7 (some 43) (bm 12 255) hHeld ?_
 refine tak HT_.out HW_.out 8 (some 44) (bm 12 511) hHeld ?_
 refine one_ (i := 9) (N := some 45) (bm 12 1023) rfl rfl (one_of HT_.out (by kernel_rfl)) (by decide) (fun K hK => ?_)
 refine goes_ Try.func28 (by kernel_rfl) rfl #[.agg #[.int .i64 ((rd_T28 x5_1 (ji16)).f0), .int .i64 ((rd_T28 x5_1 (ji16)).f1), .int .i64 ((rd_T28 x5_1 (ji16)).f2.f0), .int .i64 ((rd_T28 x5_1 (ji16)).f2.f1), .int .i64 ((rd_T28 x5_1 (ji16)).f2.f2), .int .i64 ((rd_T28 x5_1 (ji16)).f2.f3.f0), .int .i64 ((rd_T28 x5_1 (ji16)).f2.f3.f1), .int .i64 ((rd_T28 x5_1 (ji16)).f2.f4), .int .i64 ((rd_T28 x5_1 (ji16)).f2.f5)], .agg #[.int .i64 x287000_3, .int .i64 x287001_3, .int .i64 x287002_3, .int .i64 x287003_3, .int .i64 x287004_3, .int .i64 x287005_3, .int .i64 x287006_3, .int .i64 x287007_3, .int .i64 x287008_3]] (by first | rfl | (refine wanted_on rfl rfl rfl ?_; first | assumption | (simp [*]; done))) rfl rfl (by (try simp only [List.map_toArray, List.map_cons, List.map_nil]); first | done | (simp only [hji16]; rfl) | rfl | (simp only [List.length_drop, List.length_take]; rfl)) ?_
 with_reducible refine (rollbacknetref27_Compare.calls k3 ((rd_T28 x5_1 (ji16)).f0) ((rd_T28 x5_1 (ji16)).f1) ((rd_T28 x5_1 (ji16)).f2.f0) ((rd_T28 x5_1 (ji16)).f2.f1) ((rd_T28 x5_1 (ji16)).f2.f2) ((rd_T28 x5_1 (ji16)).f2.f3.f0) ((rd_T28 x5_1 (ji16)).f2.f3.f1) ((rd_T28 x5_1 (ji16)).f2.f4) ((rd_T28 x5_1 (ji16)).f2.f5) x287000_3 x287001_3 x287002_3 x287003_3 x287004_3 x287005_3 x287006_3 x287007_3 x287008_3 t290 _ A19.out).mono ?_
 rintro e w36 ⟨rfl, hb⟩
 have HS9_ := (hb.cell (World.block_lt_of_cell? _ _ (hHeld.2.2.2.2.2.2.2.2.2.1))).trans (hHeld.2.2.2.2.2.2.2.2.2.1)
 have HS10_ := (hb.cell (World.block_lt_of_cell? _ _ (hHeld.2.2.2.2.2.2.2.2.2.2.1))).trans (hHeld.2.2.2.2.2.2.2.2.2.2.1)
 have HS11_ := (hb.cell (World.block_lt_of_cell? _ _ (hHeld.2.2.2.2.2.2.2.2.2.2.2.1))).trans (hHeld.2.2.2.2.2.2.2.2.2.2.2.1)
 have HS12_ := (hb.cell (World.block_lt_of_cell? _ _ (hHeld.2.2.2.2.2.2.2.2.2.2.2.2.1))).trans (hHeld.2.2.2.2.2.2.2.2.2.2.2.2.1)
 have HS13_ := (hb.cell (World.block_lt_of_cell? _ _ (hHeld.2.2.2.2.2.2.2.2.2.2.2.2.2.1))).trans (hHeld.2.2.2.2.2.2.2.2.2.2.2.2.2.1)
 have HS14_ := (hb.cell (World.block_lt_of_cell? _ _ (hHeld.2.2.2.2.2.2.2.2.2.2.2.2.2.2.1))).trans (hHeld.2.2.2.2.2.2.2.2.2.2.2.2.2.2.1)
 have HS15_ := (hb.cell (World.block_lt_of_cell? _ _ (hHeld.2.2.2.2.2.2.2.2.2.2.2.2.2.2.2.1))).trans (hHeld.2.2.2.2.2.2.2.2.2.2.2.2.2.2.2.1)
 have HS16_ := (hb.cell (World.block_lt_of_cell? _ _ (hHeld.2.2.2.2.2.2.2.2.2.2.2.2.2.2.2.2.1))).trans (hHeld.2.2.2.2.2.2.2.2.2.2.2.2.2.2.2.2.1)
 have HS17_ := (hb.cell (World.block_lt_of_cell? _ _ (hHeld.2.2.2.2.2.2.2.2.2.2.2.2.2.2.2.2.2))).trans (hHeld.2.2.2.2.2.2.2.2.2.2.2.2.2.2.2.2.2)
 refine ⟨_, rfl, ?_⟩
 have n0_ := Aside0.mk (Kd.R_below (rq HO_5.out) hb)
 have n1_ := Aside0.mk (bb BK286.out hb)
 have n2_ := Aside0.mk (below_step (bq1 HB.out GE286.out) hb)
 clear HO_5
 clear BK286
 clear HB
 have HO_5 := n0_
 have BK286 := n1_
 have HB := n2_
 clear n0_ n1_ n2_
 (try clear hb)
 (try clear hb2)
 (try clear hk)
 (try clear hi)
 refine hK.out _ _ (c9 BK286.out ⟨HS9_, HS10_, HS11_, HS12_, HS13_, HS14_, HS15_, HS16_, HS17_⟩) (fun hHeld => ?_)
 clear hK K
 refine nrm 45 ?_
 refine pur HT_.out 10 (some 46) (bm 12 2047) ?_
 refine pur HT_.out 11 (some 47) (bm 12 4095) ?_
 refine done_ (done_of HT_.out (by kernel_rfl)) ?_
 try go_wp2
 have n0_ := Aside0.mk (Kd.R_drew HO_5.out)
 have n1_ := Aside0.mk (blk_drew BK286.out)
 have n2_ := Aside0.mk (below_drew1 HB.out)
 clear HO_5
 clear BK286
 clear HB
 have HO_5 := n0_
 have BK286 := n1_
 have HB := n2_
 clear n0_ n1_ n2_
 have p291 : 0 ≤ ((ji16) : Int) := of_decide_eq_true (by first | (with_reducible assumption) | assumption)
 have q291 : (ji16) < (x5_1.length : Int) := of_decide_eq_true (by first | (with_reducible assumption) | assumption)
 obtain ⟨ad291, e291, hx291_0, hx291_1, hx291_2, hx291_3, hx291_4, hx291_5, hx291_6, hx291_7, hx291_8⟩ := at_T28 (Kd.R_reads' HO_5.out).2.2 (ji16) p291 q291
 obtain rfl : ad289 = ad291 := (by injection e291)
 replace p291 := eq_true p291
 replace q291 := eq_true q291
 refine start_ (n := 11) (S := fun w' => w'.cell? ⟨gb286, 0, none⟩ = some (.int .i64 x287000_3) ∧ w'.cell? ⟨gb286, 1, none⟩ = some (.int .i64 x287001_3) ∧ w'.cell? ⟨gb286, 2, none⟩ = some (.int .i64 x287002_3) ∧ w'.cell? ⟨gb286, 3, none⟩ = some (.int .i64 x287003_3) ∧ w'.cell? ⟨gb286, 4, none⟩ = some (.int .i64 x287004_3) ∧ w'.cell? ⟨gb286, 5, none⟩ = some (.int .i64 x287005_3) ∧ w'.cell? ⟨gb286, 6, none⟩ = some (.int .i64 x287006_3) ∧ w'.cell? ⟨gb286, 7, none⟩ = some (.int .i64 x287007_3) ∧ w'.cell? ⟨gb286, 8, none⟩ = some (.int .i64 x287008_3) ∧ w'.cell? (ad289.add (((ji16)).toNat * 9)) = some (.int .i64 ((rd_T28 x5_1 (ji16)).f0)) ∧ w'.cell? ⟨(ad289.add (((ji16)).toNat * 9)).block, (ad289.add (((ji16)).toNat * 9)).off + 1, none⟩ = some (.int .i64 ((rd_T28 x5_1 (ji16)).f1)) ∧ w'.cell? ⟨(ad289.add (((ji16)).toNat * 9)).block, (ad289.add (((ji16)).toNat * 9)).off + 2, none⟩ = some (.int .i64 ((rd_T28 x5_1 (ji16)).f2.f0)) ∧ w'.cell? ⟨(ad289.add (((ji16)).toNat * 9)).block, (ad289.add (((ji16)).toNat * 9)).off + 3, none⟩ = some (.int .i64 ((rd_T28 x5_1 (ji16)).f2.f1)) ∧ w'.cell? ⟨(ad289.add (((ji16)).toNat * 9)).block, (ad289.add (((ji16)).toNat * 9)).off + 4, none⟩ = some (.int .i64 ((rd_T28 x5_1 (ji16)).f2.f2)) ∧ w'.cell? ⟨(ad289.add (((ji16)).toNat * 9)).block, (ad289.add (((ji16)).toNat * 9)).off + 5, none⟩ = some (.int .i64 ((rd_T28 x5_1 (ji16)).f2.f3.f0)) ∧ w'.cell? ⟨(ad289.add (((ji16)).toNat * 9)).block, (ad289.add (((ji16)).toNat * 9)).off + 6, none⟩ = some (.int .i64 ((rd_T28 x5_1 (ji16)).f2.f3.f1)) ∧ w'.cell? ⟨(ad289.add (((ji16)).toNat * 9)).block, (ad289.add (((ji16)).toNat * 9)).off + 7, none⟩ = some (.int .i64 ((rd_T28 x5_1 (ji16)).f2.f4)) ∧ w'.cell? ⟨(ad289.add (((ji16)).toNat * 9)).block, (ad289.add (((ji16)).toNat * 9)).off + 8, none⟩ = some (.int .i64 ((rd_T28 x5_1 (ji16)).f2.f5))) (ds := []) #[false, false, false, false, false, false, false, false, false, false, false] (by kernel_rfl) rfl rfl (c9 BK286.out ⟨hx291_0, hx291_1, hx291_2, hx291_3, hx291_4, hx291_5, hx291_6, hx291_7, hx291_8⟩) (fun hHeld => ?_); refine with_tabW rollbacknetref27_Merge.tab12 rollbacknetref27_Merge.bits12 (fun HT_ HW_ => ?_)
 generalize w36.drew = w37 at HO_5 BK286 HB hx291_0 hx291_1 hx291_2 hx291_3 hx291_4 hx291_5 hx291_6 hx291_7 hx291_8 hHeld ⊢
 refine pur HT_.out 0 (some 50) (bm 11 1) ?_
 refine pur HT_.out 1 (some 51) (bm 11 3) ?_
 refine pur HT_.out 2 (some 52) (bm 11 7) ?_
 refine pur HT_.out 3 (some 53) (bm 11 15) ?_
 refine pur HT_.out 4 (some 54) (bm 11 31) ?_
 refine pur HT_.out 5 (some 55) (bm 11 63) ?_
 refine pur HT_.out 6 (some 56) (bm 11 127) ?_
 refine tak HT_.out HW_.out 7 (some 57) (bm 11 255) hHeld ?_
 refine tak HT_.out HW_.out 8 (some 58) (bm 11 511) hHeld ?_
 refine pur HT_.out 9 (some 59) (bm 11 1023) ?_
 refine pur HT_.out 10 (some 60) (bm 11 2047) ?_
 refine done_ (done_of HT_.out (by kernel_rfl)) ?_
 try go_wp2_with (first | ((with_reducible refine gate_builtin (b := .append) (xs := #[.tmp 61, .tmp 63]) rfl ?_); at_builtin; refine Kd.R_append k28 (w0 := w) w.heap.size rfl (.tmp 61) (.tmp 63) 22 28 (.agg #[(.int .i64 0), (.int .i64 0), (.int .i64 0), (.int .i64 0), (.int .i64 0), (.int .i64 0), (.int .i64 0), (.int .i64 0), (.int .i64 0)]) 72 rfl Try.underlying22 info28 rfl (by decide) (by omega) (.slice (some ad289) x5_1.length co14) x5_1 (⟨0, 0, (⟨0, 0, 0, (⟨0, 0⟩ : S24), 0, 0⟩ : S26)⟩ : S28) [.int .i64 0, .int .i64 0, .int .i64 0, .int .i64 0, .int .i64 0, .int .i64 0, .int .i64 0, .int .i64 0, .int .i64 0] (fun k_ => k_ ≠ gb286) (fun _ => False) rfl rfl ?aP (fun _ hk => hk.elim) ?aF ?aO ?aB ?aS ?aL ?_; (case aP => exact k28_mkM _ _ _ (⟨0, 0, (⟨0, 0, 0, (⟨0, 0⟩ : S24), 0, 0⟩ : S26)⟩ : S28)); (case aB => exact (bq1 HB.out GE286.out)); (case aF => exact (fun k_ hk => Kd.freshB (g := gb286) (o := .cells #[.int .i64 x287000_3, .int .i64 x287001_3, .int .i64 x287002_3, .int .i64 x287003_3, .int .i64 x287004_3, .int .i64 x287005_3, .int .i64 x287006_3, .int .i64 x287007_3, .int .i64 x287008_3] 28 (0, 0)) (kq BK286.out) k_ hk)); (case aO => exact (rq HO_5.out)); (case aS => exact (below_size (bq1 HB.out GE286.out))); (case aL => have := LMc27.out; omega); intro v293 w38 ho hb hg hat; rw [← Ny292.out] at ho; have n0_ := Aside0.mk (blk_grown (g := gb286) (o := .cells #[.int .i64 x287000_3, .int .i64 x287001_3, .int .i64 x287002_3, .int .i64 x287003_3, .int .i64 x287004_3, .int .i64 x287005_3, .int .i64 x287006_3, .int .i64 x287007_3, .int .i64 x287008_3] 28 (0, 0)) (kq BK286.out) hg (Kd.R_away HO_5.out (fun _ hk => hk))); have n1_ := Aside0.mk (hb); have n2_ := Aside0.mk (ho); clear BK286; clear HB; clear HO_5; have BK286 := n0_; have HB := n1_; have HO294 := n2_; clear n0_ n1_ n2_; clear ho hb hg hat))
 have n0_ := Aside0.mk (Kd.R_drew HO294.out)
 have n1_ := Aside0.mk (blk_drew BK286.out)
 have n2_ := Aside0.mk (below_drew1 HB.out)
 clear HO294
 clear BK286
 clear HB
 have HO294 := n0_
 have BK286 := n1_
 have HB := n2_
 clear n0_ n1_ n2_
 obtain ⟨Ao41, co41, eo41⟩ := Kd.R_slice HO294.out
 (first | subst eo41 | (injection eo41 with f1_ f2_ f3_; have f4_ := f1_.symm; have f5_ := f3_.symm; clear f1_ f2_ f3_; subst f4_; subst f5_))
 have q40 : ((ji28) : Int) ≤ ((y292.length : Int) : Int) := of_decide_eq_true (by first | (with_reducible assumption) | assumption)
 obtain ⟨i040, hi040, _, hsz40, _⟩ := info_parts info28
 have hroom40 : y292.length ≤ co41 := (Kd.R_reads' HO294.out).2.1
 have hC40 : Kd.C k28 _ Ao41 y292.length y292 := (Kd.R_reads' HO294.out).2.2
 have q040 : (0 : Int) ≤ ((ji28) : Int) := of_decide_eq_true (by first | (with_reducible assumption) | assumption)
 have hcut40 := cut_from (P := Try.prog) 22 28 .i64 Try.underlying22 hi040 9 hsz40 Ao41 y292.length co41 (ji28) q040 q40
 have hr40 := Kd.C_drop (m := ((ji28) : Int).toNat) (c := co41) hC40 (by omega) hroom40
 obtain ⟨A40, hA40⟩ : ∃ A1, A1 = (if co41 = ((ji28) : Int).toNat then Ao41 else (Ao41 : Option Addr).map (·.add (((ji28) : Int).toNat * 9))) := ⟨_, rfl⟩
 obtain ⟨c40, hc40⟩ : ∃ c1, c1 = co41 - ((ji28) : Int).toNat := ⟨_, rfl⟩
 have hy40 : y295.length = y292.length - ((ji28) : Int).toNat := (by rw [Ny295.out, List.length_drop] <;> omega)
 rw [show (y292).drop ((ji28) : Int).toNat = y295 from Ny295.out.symm] at hr40
 replace hr40 : Kd.C k28 _ A40 y295.length y295 := (by rw [hA40]; exact hr40)
 rw [← hy40, ← hA40, ← hc40] at hcut40
 have HR298 := Aside0.mk hr40
 have HC298 := Aside0.mk (show y295.length ≤ c40 from by rw [hy40, hc40]; exact Nat.sub_le_sub_right hroom40 _)
 clear hr40 hC40 hroom40 hi040 hsz40 hc40
 have KY40 := Aside0.mk hy40
 have KA40 := Aside0.mk hA40
 clear hy40 hA40
 have KL40 := Aside0.mk (show ((ji28) : Int).toNat ≤ y292.length from by omega)
 replace q40 := eq_true q40
 have q42 : (x8_3 : Int) ≤ ((y292.length : Int) : Int) := of_decide_eq_true (by first | (with_reducible assumption) | assumption)
 obtain ⟨i042, hi042, _, hsz42, _⟩ := info_parts info28
 have hroom42 : y292.length ≤ co41 := (Kd.R_reads' HO294.out).2.1
 have hC42 : Kd.C k28 _ Ao41 y292.length y292 := (Kd.R_reads' HO294.out).2.2
 have q042 : (0 : Int) ≤ (x8_3 : Int) := of_decide_eq_true (by first | (with_reducible assumption) | assumption)
 have hcut42 := cut_from (P := Try.prog) 22 28 .i64 Try.underlying22 hi042 9 hsz42 Ao41 y292.length co41 x8_3 q042 q42
 have hr42 := Kd.C_drop (m := (x8_3 : Int).toNat) (c := co41) hC42 (by omega) hroom42
 obtain ⟨A42, hA42⟩ : ∃ A1, A1 = (if co41 = (x8_3 : Int).toNat then Ao41 else (Ao41 : Option Addr).map (·.add ((x8_3 : Int).toNat * 9))) := ⟨_, rfl⟩
 obtain ⟨c42, hc42⟩ : ∃ c1, c1 = co41 - (x8_3 : Int).toNat := ⟨_, rfl⟩
 have hy42 : y299.length = y292.length - (x8_3 : Int).toNat := (by rw [Ny299.out, List.length_drop] <;> omega)
 rw [show (y292).drop (x8_3 : Int).toNat = y299 from Ny299.out.symm] at hr42
 replace hr42 : Kd.C k28 _ A42 y299.length y299 := (by rw [hA42]; exact hr42)
 rw [← hy42, ← hA42, ← hc42] at hcut42
 have HR302 := Aside0.mk hr42
 have HC302 := Aside0.mk (show y299.length ≤ c42 from by rw [hy42, hc42]; exact Nat.sub_le_sub_right hroom42 _)
 clear hr42 hC42 hroom42 hi042 hsz42 hc42
 have KY42 := Aside0.mk hy42
 have KA42 := Aside0.mk hA42
 clear hy42 hA42
 have KL42 := Aside0.mk (show (x8_3 : Int).toNat ≤ y292.length from by omega)
 replace q42 := eq_true q42
 obtain ⟨go44, co44, eo44, gb44, gl44, cl44, HG44⟩ := Kd.R_form HO294.out (by have hj_ : 0 ≤ (x8_3 : Int) := of_decide_eq_true (by first | (with_reducible assumption) | assumption); have hl_ : (ji28 : Int) ≤ (y292.length : Int) := of_decide_eq_true (by first | (with_reducible assumption) | assumption); have hh_ : (x8_3 : Int) ≤ (y292.length : Int) := of_decide_eq_true (by first | (with_reducible assumption) | assumption); rw [← hji28] at hl_; unfold wrap64 at hl_; omega)
 (first | cases eo44 | (injection eo44 with ea_ en_ ec_; (first | subst ea_ | (injection ea_ with ea_; subst ea_)); subst ec_; clear en_))
 have GB44 := Aside0.mk gb44
 have GG44 := Aside0.mk HG44
 clear gb44 gl44 HG44
 refine start_ (n := 8) (S := fun w' => True) (ds := []) #[false, false, false, false, false, false, false, false] (by kernel_rfl) rfl rfl trivial (fun hHeld => ?_); refine with_tabW rollbacknetref27_Merge.tab14 rollbacknetref27_Merge.bits14 (fun HT_ HW_ => ?_)
 generalize w38.drew = w39 at HO294 BK286 HB GG44 HR298 HR302 hHeld ⊢
 refine pur HT_.out 0 (some 65) (bm 8 1) ?_
 refine pur HT_.out 1 (some 66) (bm 8 3) ?_
 refine pur HT_.out 2 (some 67) (bm 8 7) ?_
 refine pur HT_.out 3 (some 68) (bm 8 15) ?_
 refine pur HT_.out 4 (some 69) (bm 8 31) ?_
 refine pur HT_.out 5 (some 70) (bm 8 63) ?_
 refine pur HT_.out 6 (some 71) (bm 8 127) ?_
 refine one_ (i := 7) (N := some 72) (bm 8 255) rfl rfl (one_of HT_.out (by kernel_rfl)) (by decide) (fun K hK => ?_)
 have hj_ : 0 ≤ (x8_3 : Int) := of_decide_eq_true (by first | (with_reducible assumption) | assumption)
 have hl_ : (ji28 : Int) ≤ (y292.length : Int) := of_decide_eq_true (by first | (with_reducible assumption) | assumption)
 have hh_ : (x8_3 : Int) ≤ (y292.length : Int) := of_decide_eq_true (by first | (with_reducible assumption) | assumption)
 have hb_ := (Kd.R_reads' HO294.out).2.2.2.1
 have h0_ : (0 : Int) ≤ (ji28 : Int) := of_decide_eq_true (by first | (with_reducible assumption) | assumption)
 have hk_ : (ji28 : Int).toNat = (x8_3 : Int).toNat + 1 := (by have hw_ : (ji28 : Int) = x8_3 + 1 := (by have h00_ := h0_; rw [← hji28] at h00_ ⊢; unfold wrap64 at h00_ ⊢; omega); rw [hw_]; omega)
 refine Kd.R_shift_step k28 (w0 := w) w.heap.size (by rfl) (.tmp 68) (.tmp 71) 22 28 rfl Try.underlying22 (by kernel_rfl) (g := go44) (n := y292.length) (c := co41) (k := (x8_3 : Int).toNat) rfl rfl ?hA1 ?hA2 ?hm1 ?hm2 (rq HO294.out) ?hk (bq1 HB.out GE286.out) (below_size (bq1 HB.out GE286.out)) ?_
 (case hA1 => have ha_ := KA40.out; rw [hk_] at ha_; exact ha_)
 (case hA2 => exact KA42.out)
 (case hm1 => have ha_ := KY40.out; omega)
 (case hm2 => have ha_ := KY42.out; omega)
 (case hk => omega)
 intro w43 ho hb hg
 clear hj_ hl_ hh_ hb_ hk_ h0_
 rw [← Ny303.out] at ho
 have n0_ := Aside0.mk (blk_grown (g := gb286) (o := .cells #[.int .i64 x287000_3, .int .i64 x287001_3, .int .i64 x287002_3, .int .i64 x287003_3, .int .i64 x287004_3, .int .i64 x287005_3, .int .i64 x287006_3, .int .i64 x287007_3, .int .i64 x287008_3] 28 (0, 0)) (kq BK286.out) hg (Kd.R_away HO294.out (fun _ hk => hk)))
 have n1_ := Aside0.mk (ho)
 have n2_ := Aside0.mk (hb)
 clear BK286
 clear HO294
 clear HB
 have BK286 := n0_
 have HO294 := n1_
 have HB := n2_
 clear n0_ n1_ n2_
 clear ho hb hg
 refine hK.out _ _ trivial (fun hHeld => ?_)
 clear hK K
 refine nrm 72 ?_
 refine done_ (done_of HT_.out (by kernel_rfl)) ?_
 have hcz45_0 : w43.cell? ⟨gb286, 0, none⟩ = some (.int .i64 x287000_3) := bc BK286.out 0
 have hcz45_1 : w43.cell? ⟨gb286, 1, none⟩ = some (.int .i64 x287001_3) := bc BK286.out 1
 have hcz45_2 : w43.cell? ⟨gb286, 2, none⟩ = some (.int .i64 x287002_3) := bc BK286.out 2
 have hcz45_3 : w43.cell? ⟨gb286, 3, none⟩ = some (.int .i64 x287003_3) := bc BK286.out 3
 have hcz45_4 : w43.cell? ⟨gb286, 4, none⟩ = some (.int .i64 x287004_3) := bc BK286.out 4
 have hcz45_5 : w43.cell? ⟨gb286, 5, none⟩ = some (.int .i64 x287005_3) := bc BK286.out 5
 have hcz45_6 : w43.cell? ⟨gb286, 6, none⟩ = some (.int .i64 x287006_3) := bc BK286.out 6
 have hcz45_7 : w43.cell? ⟨gb286, 7, none⟩ = some (.int .i64 x287007_3) := bc BK286.out 7
 have hcz45_8 : w43.cell? ⟨gb286, 8, none⟩ = some (.int .i64 x287008_3) := bc BK286.out 8
 have hfz45_0 := blk_frozen BK286.out 0
 have hfz45_1 := blk_frozen BK286.out 1
 have hfz45_2 := blk_frozen BK286.out 2
 have hfz45_3 := blk_frozen BK286.out 3
 have hfz45_4 := blk_frozen BK286.out 4
 have hfz45_5 := blk_frozen BK286.out 5
 have hfz45_6 := blk_frozen BK286.out 6
 have hfz45_7 := blk_frozen BK286.out 7
 have hfz45_8 := blk_frozen BK286.out 8
 have p34 : 0 ≤ (x8_3 : Int) := of_decide_eq_true (by first | (with_reducible assumption) | assumption)
 have q34 : (x8_3 : Int) < ((y292.length : Int) : Int) := of_decide_eq_true (by first | (with_reducible assumption) | assumption)
 obtain ⟨ce34, hcl34, hM34, hcc34, hfr34⟩ := Kd.R_elem HO294.out z28 (x8_3 : Int) p34 q34
 obtain rfl := k28_openM hM34
 have hx34_0 : w43.cell? ⟨go44, (x8_3 : Int).toNat * 9, none⟩ = some (.int .i64 ((rd_T28 y303 x8_3).f0)) := hcc34 0 _ rfl
 have hx34_1 : w43.cell? ⟨go44, (x8_3 : Int).toNat * 9 + 1, none⟩ = some (.int .i64 ((rd_T28 y303 x8_3).f1)) := hcc34 1 _ rfl
 have hx34_2 : w43.cell? ⟨go44, (x8_3 : Int).toNat * 9 + 2, none⟩ = some (.int .i64 ((rd_T28 y303 x8_3).f2.f0)) := hcc34 2 _ rfl
 have hx34_3 : w43.cell? ⟨go44, (x8_3 : Int).toNat * 9 + 3, none⟩ = some (.int .i64 ((rd_T28 y303 x8_3).f2.f1)) := hcc34 3 _ rfl
 have hx34_4 : w43.cell? ⟨go44, (x8_3 : Int).toNat * 9 + 4, none⟩ = some (.int .i64 ((rd_T28 y303 x8_3).f2.f2)) := hcc34 4 _ rfl
 have hx34_5 : w43.cell? ⟨go44, (x8_3 : Int).toNat * 9 + 5, none⟩ = some (.int .i64 ((rd_T28 y303 x8_3).f2.f3.f0)) := hcc34 5 _ rfl
 have hx34_6 : w43.cell? ⟨go44, (x8_3 : Int).toNat * 9 + 6, none⟩ = some (.int .i64 ((rd_T28 y303 x8_3).f2.f3.f1)) := hcc34 6 _ rfl
 have hx34_7 : w43.cell? ⟨go44, (x8_3 : Int).toNat * 9 + 7, none⟩ = some (.int .i64 ((rd_T28 y303 x8_3).f2.f4)) := hcc34 7 _ rfl
 have hx34_8 : w43.cell? ⟨go44, (x8_3 : Int).toNat * 9 + 8, none⟩ = some (.int .i64 ((rd_T28 y303 x8_3).f2.f5)) := hcc34 8 _ rfl
 have hf34_0 : w43.frozen? ⟨go44, (x8_3 : Int).toNat * 9, none⟩ = false := hfr34 0
 have hf34_1 : w43.frozen? ⟨go44, (x8_3 : Int).toNat * 9 + 1, none⟩ = false := hfr34 1
 have hf34_2 : w43.frozen? ⟨go44, (x8_3 : Int).toNat * 9 + 2, none⟩ = false := hfr34 2
 have hf34_3 : w43.frozen? ⟨go44, (x8_3 : Int).toNat * 9 + 3, none⟩ = false := hfr34 3
 have hf34_4 : w43.frozen? ⟨go44, (x8_3 : Int).toNat * 9 + 4, none⟩ = false := hfr34 4
 have hf34_5 : w43.frozen? ⟨go44, (x8_3 : Int).toNat * 9 + 5, none⟩ = false := hfr34 5
 have hf34_6 : w43.frozen? ⟨go44, (x8_3 : Int).toNat * 9 + 6, none⟩ = false := hfr34 6
 have hf34_7 : w43.frozen? ⟨go44, (x8_3 : Int).toNat * 9 + 7, none⟩ = false := hfr34 7
 have hf34_8 : w43.frozen? ⟨go44, (x8_3 : Int).toNat * 9 + 8, none⟩ = false := hfr34 8
 clear hcl34 hcc34 hfr34 hM34
 replace p34 := eq_true p34
 replace q34 := eq_true q34
 have HX46 := Aside0.mk (show Kd.R k28 28 w43 w.heap.size (fun k_ => k_ ≠ gb286) (.slice (some ⟨go44, 0, none⟩) y292.length co41) y303 from (rq HO294.out))
 obtain ⟨ce46, hcl46, hM46, hcc46, hfr46⟩ := Kd.R_elem HX46.out z28 (x8_3 : Int) (of_decide_eq_true (by first | (with_reducible assumption) | assumption)) (by have h_ : (x8_3 : Int) < ((y292.length : Int) : Int) := of_decide_eq_true (by first | (with_reducible assumption) | assumption); first | exact h_ | (have e_ := (Kd.R_reads' HO294.out).1; omega) | simpa using h_)
 obtain rfl := k28_openM hM46
 have HP46 := Kd.R_seg HX46.out (x8_3 : Int) (of_decide_eq_true (by first | (with_reducible assumption) | assumption)) (by have h_ : (x8_3 : Int) < ((y292.length : Int) : Int) := of_decide_eq_true (by first | (with_reducible assumption) | assumption); first | exact h_ | (have e_ := (Kd.R_reads' HO294.out).1; omega) | simpa using h_) (seg := [.int .i64 x287000_3, .int .i64 x287001_3, .int .i64 x287002_3, .int .i64 x287003_3, .int .i64 x287004_3, .int .i64 x287005_3, .int .i64 x287006_3, .int .i64 x287007_3, .int .i64 x287008_3]) (j := 0) hcl46 hcc46 (show 9 ≤ 9 from by decide) (x' := (⟨x287000_3, x287001_3, (⟨x287002_3, x287003_3, x287004_3, (⟨x287005_3, x287006_3⟩ : S24), x287007_3, x287008_3⟩ : S26)⟩ : S28)) (k28_mkM _ _ _ (⟨x287000_3, x287001_3, (⟨x287002_3, x287003_3, x287004_3, (⟨x287005_3, x287006_3⟩ : S24), x287007_3, x287008_3⟩ : S26)⟩ : S28) ) (fun _ hk => hk)
 have hx46_0 := hcc46 0 _ rfl
 (try simp only [show (k28).sz = 9 from rfl, Nat.mul_one, Nat.add_zero] at hx46_0)
 have hf46_0 := hfr46 0
 (try simp only [show (k28).sz = 9 from rfl, Nat.mul_one, Nat.add_zero] at hf46_0)
 have hx46_1 := hcc46 1 _ rfl
 (try simp only [show (k28).sz = 9 from rfl, Nat.mul_one, Nat.add_zero] at hx46_1)
 have hf46_1 := hfr46 1
 (try simp only [show (k28).sz = 9 from rfl, Nat.mul_one, Nat.add_zero] at hf46_1)
 have hx46_2 := hcc46 2 _ rfl
 (try simp only [show (k28).sz = 9 from rfl, Nat.mul_one, Nat.add_zero] at hx46_2)
 have hf46_2 := hfr46 2
 (try simp only [show (k28).sz = 9 from rfl, Nat.mul_one, Nat.add_zero] at hf46_2)
 have hx46_3 := hcc46 3 _ rfl
 (try simp only [show (k28).sz = 9 from rfl, Nat.mul_one, Nat.add_zero] at hx46_3)
 have hf46_3 := hfr46 3
 (try simp only [show (k28).sz = 9 from rfl, Nat.mul_one, Nat.add_zero] at hf46_3)
 have hx46_4 := hcc46 4 _ rfl
 (try simp only [show (k28).sz = 9 from rfl, Nat.mul_one, Nat.add_zero] at hx46_4)
 have hf46_4 := hfr46 4
 (try simp only [show (k28).sz = 9 from rfl, Nat.mul_one, Nat.add_zero] at hf46_4)
 have hx46_5 := hcc46 5 _ rfl
 (try simp only [show (k28).sz = 9 from rfl, Nat.mul_one, Nat.add_zero] at hx46_5)
 have hf46_5 := hfr46 5
 (try simp only [show (k28).sz = 9 from rfl, Nat.mul_one, Nat.add_zero] at hf46_5)
 have hx46_6 := hcc46 6 _ rfl
 (try simp only [show (k28).sz = 9 from rfl, Nat.mul_one, Nat.add_zero] at hx46_6)
 have hf46_6 := hfr46 6
 (try simp only [show (k28).sz = 9 from rfl, Nat.mul_one, Nat.add_zero] at hf46_6)
 have hx46_7 := hcc46 7 _ rfl
 (try simp only [show (k28).sz = 9 from rfl, Nat.mul_one, Nat.add_zero] at hx46_7)
 have hf46_7 := hfr46 7
 (try simp only [show (k28).sz = 9 from rfl, Nat.mul_one, Nat.add_zero] at hf46_7)
 have hx46_8 := hcc46 8 _ rfl
 (try simp only [show (k28).sz = 9 from rfl, Nat.mul_one, Nat.add_zero] at hx46_8)
 have hf46_8 := hfr46 8
 (try simp only [show (k28).sz = 9 from rfl, Nat.mul_one, Nat.add_zero] at hf46_8)
 clear hcl46 hcc46 hfr46 hM46
 try go_wp2_with (first | ((with_reducible refine gate_store (t := 28) (p := 76) rfl ?_); refine store_event (t := 28) (p := 76) (v := ?vo_w47) (w1 := (((((((((w43.setCell ⟨go44, (x8_3 : Int).toNat * 9, none⟩ (.int .i64 x287000_3)).setCell ⟨go44, (x8_3 : Int).toNat * 9 + 1, none⟩ (.int .i64 x287001_3)).setCell ⟨go44, (x8_3 : Int).toNat * 9 + 2, none⟩ (.int .i64 x287002_3)).setCell ⟨go44, (x8_3 : Int).toNat * 9 + 3, none⟩ (.int .i64 x287003_3)).setCell ⟨go44, (x8_3 : Int).toNat * 9 + 4, none⟩ (.int .i64 x287004_3)).setCell ⟨go44, (x8_3 : Int).toNat * 9 + 5, none⟩ (.int .i64 x287005_3)).setCell ⟨go44, (x8_3 : Int).toNat * 9 + 6, none⟩ (.int .i64 x287006_3)).setCell ⟨go44, (x8_3 : Int).toNat * 9 + 7, none⟩ (.int .i64 x287007_3)).setCell ⟨go44, (x8_3 : Int).toNat * 9 + 8, none⟩ (.int .i64 x287008_3))) ?hg ?ho ?hn ?hr ?_; (case ho => rfl); (case hg => rfl); (case hn => rfl); (case hr => first | (go_simp; done) | (go_simp; rfl)); intro w47 hw; have hg : w43.grownBy w47 (some go44) := (by rw [hw]; exact HP46.2); have hp_ : Kd.R k28 28 w47 w.heap.size (fun k_ => k_ ≠ gb286) (.slice (some ⟨go44, 0, none⟩) y292.length co41) y304 := (by rw [hw, Ny304.out]; exact HP46.1); clear HP46; have n0_ := Aside0.mk (blk_grown (g := gb286) (o := .cells #[.int .i64 x287000_3, .int .i64 x287001_3, .int .i64 x287002_3, .int .i64 x287003_3, .int .i64 x287004_3, .int .i64 x287005_3, .int .i64 x287006_3, .int .i64 x287007_3, .int .i64 x287008_3] 28 (0, 0)) (kq BK286.out) hg (Kd.R_away HO294.out (fun _ hk => hk))); have n1_ := Aside0.mk (hp_); have n2_ := Aside0.mk ((by rw [hw]; exact below_set (below_set (below_set (below_set (below_set (below_set (below_set (below_set (below_set (HB.out) GB44.out) GB44.out) GB44.out) GB44.out) GB44.out) GB44.out) GB44.out) GB44.out) GB44.out : Below w.heap.size w w47)); clear BK286; clear HO294; clear HB; have BK286 := n0_; have HO294 := n1_; have HB := n2_; clear n0_ n1_ n2_; clear hg hw hp_))
 go_roundg k3
 case measure => have := HK1.out; have := HJ3.out; have := HK3.out; omega
 case rel => exact ⟨(y304), (wrap64 (x6_1 + 1)), (by first | rfl | (simp; done) | (simp [*]; done)), H', ⟨by have := HK1.out; have := HJ3.out; have := HK3.out; omega⟩, ⟨by (with_reducible repeat (first | apply Kd.R_alloc | apply Kd.R_drewN | apply Kd.R_drew)); exact Kd.R_mono HO294.out (fun _ hk => trivial)⟩, ⟨bq1 HB.out GE286.out⟩⟩)
 ·(
 rw [if_neg c33] at H
 exact absurd H (by simp)))
 ·(
 rw [if_neg c32] at H
 exact absurd H (by simp)))
 ·(
 rw [if_neg c31] at H
 exact absurd H (by simp)))
 ·(
 rw [if_neg c30] at H
 exact absurd H (by simp)))
 ·(
 rw [if_neg c29] at H
 exact absurd H (by simp)))
 ·(
 rw [if_neg c27] at H
 exact absurd H (by simp)))))
 ·(
 rw [if_neg c18] at H
 exact absurd H (by simp)))
 ·(
 rw [if_neg c17] at H
 exact absurd H (by simp)))
 ·(
 rw [if_neg c15] at H
 have c15b0 : decide (0 < x8_3) = false := decide_eq_false c15
 clear c15
 by_cases c48 : x5_1.length < 1954687338268
 ·(
 rw [if_pos c48] at H
 have LMc48 := Aside0.mk c48
 clear c48
 obtain ⟨y305, hy305⟩ : ∃ y_ : List (S28), y_ = (x5_1 ++ [(⟨0, 0, (⟨0, 0, 0, (⟨0, 0⟩ : S24), 0, 0⟩ : S26)⟩ : S28)]) := ⟨_, rfl⟩
 replace H : (if 0 ≤ (wrap64 (x8_3 + 1)) then (if (wrap64 (x8_3 + 1)) ≤ (y305.length : Int) then (if 0 ≤ x8_3 then (if x8_3 ≤ (y305.length : Int) then (if x8_3 < (y305.length : Int) then (rollbacknetref27_Merge.l0 k3 l0 l1 ((shiftAt y305 (x8_3 : Int).toNat).set (x8_3 : Int).toNat (⟨x287000_3, x287001_3, (⟨x287002_3, x287003_3, x287004_3, (⟨x287005_3, x287006_3⟩ : S24), x287007_3, x287008_3⟩ : S26)⟩ : S28)) (wrap64 (x6_1 + 1))) else (none)) else (none)) else (none)) else (none)) else (none)) = some r := by first | (rw [hy305]; with_reducible exact H) | (have H2_ := (Option.bind_some _ _).symm.trans H; rw [hy305]; with_reducible exact H2_) | (have H2_ := (Option.bind_some _ _).symm.trans H; with_reducible exact H2_) | with_reducible exact H | (rw [hy305]; exact H) | exact H
 have Ny305 := Aside0.mk hy305
 clear hy305
 obtain ⟨ji49, hji49⟩ : ∃ j_ : Int, (wrap64 (x8_3 + 1)) = j_ := ⟨_, rfl⟩
 replace H : (if 0 ≤ (ji49) then (if (ji49) ≤ (y305.length : Int) then (if 0 ≤ x8_3 then (if x8_3 ≤ (y305.length : Int) then (if x8_3 < (y305.length : Int) then (rollbacknetref27_Merge.l0 k3 l0 l1 ((shiftAt y305 (x8_3 : Int).toNat).set (x8_3 : Int).toNat (⟨x287000_3, x287001_3, (⟨x287002_3, x287003_3, x287004_3, (⟨x287005_3, x287006_3⟩ : S24), x287007_3, x287008_3⟩ : S26)⟩ : S28)) (wrap64 (x6_1 + 1))) else (none)) else (none)) else (none)) else (none)) else (none)) = some r := by first | (rw [hji49] at H; exact H) | (simp only [hji49] at H ⊢; exact H)
 have hji49w : (IntKind.i64.wrap (x8_3 + 1)) = ji49 := (i64_w _).trans hji49
 by_cases c50 : 0 ≤ (ji49)
 ·(
 rw [if_pos c50] at H
 have c50b0 := eq_true c50
 have c50b1 : decide (0 ≤ (ji49)) = true := decide_eq_true c50
 clear c50
 by_cases c51 : (ji49) ≤ (y305.length : Int)
 ·(
 rw [if_pos c51] at H
 have c51b0 := eq_true c51
 have c51b1 : decide ((ji49) ≤ (y305.length : Int)) = true := decide_eq_true c51
 clear c51
 obtain ⟨y308, hy308⟩ : ∃ y_ : List (S28), y_ = (y305.drop ((ji49) : Int).toNat) := ⟨_, rfl⟩
 replace H : (if 0 ≤ x8_3 then (if x8_3 ≤ (y305.length : Int) then (if x8_3 < (y305.length : Int) then (rollbacknetref27_Merge.l0 k3 l0 l1 ((shiftAt y305 (x8_3 : Int).toNat).set (x8_3 : Int).toNat (⟨x287000_3, x287001_3, (⟨x287002_3, x287003_3, x287004_3, (⟨x287005_3, x287006_3⟩ : S24), x287007_3, x287008_3⟩ : S26)⟩ : S28)) (wrap64 (x6_1 + 1))) else (none)) else (none)) else (none)) = some r := by first | (rw [hy308]; with_reducible exact H) | (have H2_ := (Option.bind_some _ _).symm.trans H; rw [hy308]; with_reducible exact H2_) | (have H2_ := (Option.bind_some _ _).symm.trans H; with_reducible exact H2_) | with_reducible exact H | (rw [hy308]; exact H) | exact H
 have Ny308 := Aside0.mk hy308
 clear hy308
 by_cases c52 : 0 ≤ x8_3
 ·(
 rw [if_pos c52] at H
 have c52b0 := eq_true c52
 have c52b1 : decide (0 ≤ x8_3) = true := decide_eq_true c52
 clear c52
 by_cases c53 : x8_3 ≤ (y305.length : Int)
 ·(
 rw [if_pos c53] at H
 have c53b0 := eq_true c53
 have c53b1 : decide (x8_3 ≤ (y305.length : Int)) = true := decide_eq_true c53
 clear c53
 obtain ⟨y312, hy312⟩ : ∃ y_ : List (S28), y_ = (y305.drop (x8_3 : Int).toNat) := ⟨_, rfl⟩
 replace H : (if x8_3 < (y305.length : Int) then (rollbacknetref27_Merge.l0 k3 l0 l1 ((shiftAt y305 (x8_3 : Int).toNat).set (x8_3 : Int).toNat (⟨x287000_3, x287001_3, (⟨x287002_3, x287003_3, x287004_3, (⟨x287005_3, x287006_3⟩ : S24), x287007_3, x287008_3⟩ : S26)⟩ : S28)) (wrap64 (x6_1 + 1))) else (none)) = some r := by first | (rw [hy312]; with_reducible exact H) | (have H2_ := (Option.bind_some _ _).symm.trans H; rw [hy312]; with_reducible exact H2_) | (have H2_ := (Option.bind_some _ _).symm.trans H; with_reducible exact H2_) | with_reducible exact H | (rw [hy312]; exact H) | exact H
 have Ny312 := Aside0.mk hy312
 clear hy312
 obtain ⟨y316, hy316⟩ : ∃ y_ : List (S28), y_ = (shiftAt y305 (x8_3 : Int).toNat) := ⟨_, rfl⟩
 replace H : (if x8_3 < (y305.length : Int) then (rollbacknetref27_Merge.l0 k3 l0 l1 (y316.set (x8_3 : Int).toNat (⟨x287000_3, x287001_3, (⟨x287002_3, x287003_3, x287004_3, (⟨x287005_3, x287006_3⟩ : S24), x287007_3, x287008_3⟩ : S26)⟩ : S28)) (wrap64 (x6_1 + 1))) else (none)) = some r := by first | (rw [hy316]; with_reducible exact H) | (have H2_ := (Option.bind_some _ _).symm.trans H; rw [hy316]; with_reducible exact H2_) | (have H2_ := (Option.bind_some _ _).symm.trans H; with_reducible exact H2_) | with_reducible exact H | (rw [hy316]; exact H) | exact H
 have Ny316 := Aside0.mk hy316
 clear hy316
 by_cases c54 : x8_3 < (y305.length : Int)
 ·(
 rw [if_pos c54] at H
 have c54b0 : decide (x8_3 < (y305.length : Int)) = true := decide_eq_true c54
 clear c54
 obtain ⟨y317, hy317⟩ : ∃ y_ : List (S28), y_ = (y316.set (x8_3 : Int).toNat (⟨x287000_3, x287001_3, (⟨x287002_3, x287003_3, x287004_3, (⟨x287005_3, x287006_3⟩ : S24), x287007_3, x287008_3⟩ : S26)⟩ : S28)) := ⟨_, rfl⟩
 replace H : (rollbacknetref27_Merge.l0 k3 l0 l1 y317 (wrap64 (x6_1 + 1))) = some r := by first | (rw [hy317]; with_reducible exact H) | (have H2_ := (Option.bind_some _ _).symm.trans H; rw [hy317]; with_reducible exact H2_) | (have H2_ := (Option.bind_some _ _).symm.trans H; with_reducible exact H2_) | with_reducible exact H | (rw [hy317]; exact H) | exact H
 have Ny317 := Aside0.mk hy317
 clear hy317
 have H' := Aside0.mk H
 clear H
 try go_wp2
 have n0_ := Aside0.mk (Kd.R_drew HO_5.out)
 have n1_ := Aside0.mk (blk_drew BK286.out)
 have n2_ := Aside0.mk (below_drew1 HB.out)
 clear HO_5
 clear BK286
 clear HB
 have HO_5 := n0_
 have BK286 := n1_
 have HB := n2_
 clear n0_ n1_ n2_
 refine start_ (n := 12) (S := fun w' => True) (ds := []) #[false, false, false, false, false, false, false, false, false, false, false, false] (by kernel_rfl) rfl rfl trivial (fun hHeld => ?_); refine with_tabW rollbacknetref27_Merge.tab10 rollbacknetref27_Merge.bits10 (fun HT_ HW_ => ?_)
 generalize wr.drew = w56 at HO_5 BK286 HB hHeld ⊢
 refine pur HT_.out 0 (some 36) (bm 12 1) ?_
 refine pur HT_.out 1 (some 37) (bm 12 3) ?_
 refine pur HT_.out 2 (some 38) (bm 12 7) ?_
 refine pux HT_.out 3 (some 39) (bm 12 15) ?_
 refine pux HT_.out 4 (some 40) (bm 12 31) ?_
 refine pux HT_.out 5 (some 41) (bm 12 63) ?_
 refine pux HT_.out 6 (some 42) (bm 12 127) ?_
 refine pux HT_.out 7 (some 43) (bm 12 255) ?_
 refine pux HT_.out 8 (some 44) (bm 12 511) ?_
 refine pux HT_.out 9 (some 45) (bm 12 1023) ?_
 refine pux HT_.out 10 (some 46) (bm 12 2047) ?_
 refine pur HT_.out 11 (some 47) (bm 12 4095) ?_
 refine done_ (done_of HT_.out (by kernel_rfl)) ?_
 try go_wp2
 have n0_ := Aside0.mk (Kd.R_drew HO_5.out)
 have n1_ := Aside0.mk (blk_drew BK286.out)
 have n2_ := Aside0.mk (below_drew1 HB.out)
 clear HO_5
 clear BK286
 clear HB
 have HO_5 := n0_
 have BK286 := n1_
 have HB := n2_
 clear n0_ n1_ n2_
 refine start_ (n := 11) (S := fun w' => True) (ds := []) #[false, false, false, false, false, false, false, false, false, false, false] (by kernel_rfl) rfl rfl trivial (fun hHeld => ?_); refine with_tabW rollbacknetref27_Merge.tab12 rollbacknetref27_Merge.bits12 (fun HT_ HW_ => ?_)
 generalize w56.drew = w57 at HO_5 BK286 HB hHeld ⊢
 refine pur HT_.out 0 (some 50) (bm 11 1) ?_
 refine pur HT_.out 1 (some 51) (bm 11 3) ?_
 refine pur HT_.out 2 (some 52) (bm 11 7) ?_
 refine pux HT_.out 3 (some 53) (bm 11 15) ?_
 refine pux HT_.out 4 (some 54) (bm 11 31) ?_
 refine pux HT_.out 5 (some 55) (bm 11 63) ?_
 refine pux HT_.out 6 (some 56) (bm 11 127) ?_
 refine pux HT_.out 7 (some 57) (bm 11 255) ?_
 refine pux HT_.out 8 (some 58) (bm 11 511) ?_
 refine pux HT_.out 9 (some 59) (bm 11 1023) ?_
 refine pur HT_.out 10 (some 60) (bm 11 2047) ?_
 refine done_ (done_of HT_.out (by kernel_rfl)) ?_
 try go_wp2_with (first | ((with_reducible refine gate_builtin (b := .append) (xs := #[.tmp 61, .tmp 63]) rfl ?_); at_builtin; refine Kd.R_append k28 (w0 := w) w.heap.size rfl (.tmp 61) (.tmp 63) 22 28 (.agg #[(.int .i64 0), (.int .i64 0), (.int .i64 0), (.int .i64 0), (.int .i64 0), (.int .i64 0), (.int .i64 0), (.int .i64 0), (.int .i64 0)]) 72 rfl Try.underlying22 info28 rfl (by decide) (by omega) (.slice Ao14 x5_1.length co14) x5_1 (⟨0, 0, (⟨0, 0, 0, (⟨0, 0⟩ : S24), 0, 0⟩ : S26)⟩ : S28) [.int .i64 0, .int .i64 0, .int .i64 0, .int .i64 0, .int .i64 0, .int .i64 0, .int .i64 0, .int .i64 0, .int .i64 0] (fun k_ => k_ ≠ gb286) (fun _ => False) rfl rfl ?aP (fun _ hk => hk.elim) ?aF ?aO ?aB ?aS ?aL ?_; (case aP => exact k28_mkM _ _ _ (⟨0, 0, (⟨0, 0, 0, (⟨0, 0⟩ : S24), 0, 0⟩ : S26)⟩ : S28)); (case aB => exact (bq1 HB.out GE286.out)); (case aF => exact (fun k_ hk => Kd.freshB (g := gb286) (o := .cells #[.int .i64 x287000_3, .int .i64 x287001_3, .int .i64 x287002_3, .int .i64 x287003_3, .int .i64 x287004_3, .int .i64 x287005_3, .int .i64 x287006_3, .int .i64 x287007_3, .int .i64 x287008_3] 28 (0, 0)) (kq BK286.out) k_ hk)); (case aO => exact (rq HO_5.out)); (case aS => exact (below_size (bq1 HB.out GE286.out))); (case aL => have := LMc48.out; omega); intro v306 w58 ho hb hg hat; rw [← Ny305.out] at ho; have n0_ := Aside0.mk (blk_grown (g := gb286) (o := .cells #[.int .i64 x287000_3, .int .i64 x287001_3, .int .i64 x287002_3, .int .i64 x287003_3, .int .i64 x287004_3, .int .i64 x287005_3, .int .i64 x287006_3, .int .i64 x287007_3, .int .i64 x287008_3] 28 (0, 0)) (kq BK286.out) hg (Kd.R_away HO_5.out (fun _ hk => hk))); have n1_ := Aside0.mk (hb); have n2_ := Aside0.mk (ho); clear BK286; clear HB; clear HO_5; have BK286 := n0_; have HB := n1_; have HO307 := n2_; clear n0_ n1_ n2_; clear ho hb hg hat))
 have n0_ := Aside0.mk (Kd.R_drew HO307.out)
 have n1_ := Aside0.mk (blk_drew BK286.out)
 have n2_ := Aside0.mk (below_drew1 HB.out)
 clear HO307
 clear BK286
 clear HB
 have HO307 := n0_
 have BK286 := n1_
 have HB := n2_
 clear n0_ n1_ n2_
 obtain ⟨Ao61, co61, eo61⟩ := Kd.R_slice HO307.out
 (first | subst eo61 | (injection eo61 with f1_ f2_ f3_; have f4_ := f1_.symm; have f5_ := f3_.symm; clear f1_ f2_ f3_; subst f4_; subst f5_))
 have q60 : ((ji49) : Int) ≤ ((y305.length : Int) : Int) := of_decide_eq_true (by first | (with_reducible assumption) | assumption)
 obtain ⟨i060, hi060, _, hsz60, _⟩ := info_parts info28
 have hroom60 : y305.length ≤ co61 := (Kd.R_reads' HO307.out).2.1
 have hC60 : Kd.C k28 _ Ao61 y305.length y305 := (Kd.R_reads' HO307.out).2.2
 have q060 : (0 : Int) ≤ ((ji49) : Int) := of_decide_eq_true (by first | (with_reducible assumption) | assumption)
 have hcut60 := cut_from (P := Try.prog) 22 28 .i64 Try.underlying22 hi060 9 hsz60 Ao61 y305.length co61 (ji49) q060 q60
 have hr60 := Kd.C_drop (m := ((ji49) : Int).toNat) (c := co61) hC60 (by omega) hroom60
 obtain ⟨A60, hA60⟩ : ∃ A1, A1 = (if co61 = ((ji49) : Int).toNat then Ao61 else (Ao61 : Option Addr).map (·.add (((ji49) : Int).toNat * 9))) := ⟨_, rfl⟩
 obtain ⟨c60, hc60⟩ : ∃ c1, c1 = co61 - ((ji49) : Int).toNat := ⟨_, rfl⟩
 have hy60 : y308.length = y305.length - ((ji49) : Int).toNat := (by rw [Ny308.out, List.length_drop] <;> omega)
 rw [show (y305).drop ((ji49) : Int).toNat = y308 from Ny308.out.symm] at hr60
 replace hr60 : Kd.C k28 _ A60 y308.length y308 := (by rw [hA60]; exact hr60)
 rw [← hy60, ← hA60, ← hc60] at hcut60
 have HR311 := Aside0.mk hr60
 have HC311 := Aside0.mk (show y308.length ≤ c60 from by rw [hy60, hc60]; exact Nat.sub_le_sub_right hroom60 _)
 clear hr60 hC60 hroom60 hi060 hsz60 hc60
 have KY60 := Aside0.mk hy60
 have KA60 := Aside0.mk hA60
 clear hy60 hA60
 have KL60 := Aside0.mk (show ((ji49) : Int).toNat ≤ y305.length from by omega)
 replace q60 := eq_true q60
 have q62 : (x8_3 : Int) ≤ ((y305.length : Int) : Int) := of_decide_eq_true (by first | (with_reducible assumption) | assumption)
 obtain ⟨i062, hi062, _, hsz62, _⟩ := info_parts info28
 have hroom62 : y305.length ≤ co61 := (Kd.R_reads' HO307.out).2.1
 have hC62 : Kd.C k28 _ Ao61 y305.length y305 := (Kd.R_reads' HO307.out).2.2
 have q062 : (0 : Int) ≤ (x8_3 : Int) := of_decide_eq_true (by first | (with_reducible assumption) | assumption)
 have hcut62 := cut_from (P := Try.prog) 22 28 .i64 Try.underlying22 hi062 9 hsz62 Ao61 y305.length co61 x8_3 q062 q62
 have hr62 := Kd.C_drop (m := (x8_3 : Int).toNat) (c := co61) hC62 (by omega) hroom62
 obtain ⟨A62, hA62⟩ : ∃ A1, A1 = (if co61 = (x8_3 : Int).toNat then Ao61 else (Ao61 : Option Addr).map (·.add ((x8_3 : Int).toNat * 9))) := ⟨_, rfl⟩
 obtain ⟨c62, hc62⟩ : ∃ c1, c1 = co61 - (x8_3 : Int).toNat := ⟨_, rfl⟩
 have hy62 : y312.length = y305.length - (x8_3 : Int).toNat := (by rw [Ny312.out, List.length_drop] <;> omega)
 rw [show (y305).drop (x8_3 : Int).toNat = y312 from Ny312.out.symm] at hr62
 replace hr62 : Kd.C k28 _ A62 y312.length y312 := (by rw [hA62]; exact hr62)
 rw [← hy62, ← hA62, ← hc62] at hcut62
 have HR315 := Aside0.mk hr62
 have HC315 := Aside0.mk (show y312.length ≤ c62 from by rw [hy62, hc62]; exact Nat.sub_le_sub_right hroom62 _)
 clear hr62 hC62 hroom62 hi062 hsz62 hc62
 have KY62 := Aside0.mk hy62
 have KA62 := Aside0.mk hA62
 clear hy62 hA62
 have KL62 := Aside0.mk (show (x8_3 : Int).toNat ≤ y305.length from by omega)
 replace q62 := eq_true q62
 obtain ⟨go64, co64, eo64, gb64, gl64, cl64, HG64⟩ := Kd.R_form HO307.out (by have hj_ : 0 ≤ (x8_3 : Int) := of_decide_eq_true (by first | (with_reducible assumption) | assumption); have hl_ : (ji49 : Int) ≤ (y305.length : Int) := of_decide_eq_true (by first | (with_reducible assumption) | assumption); have hh_ : (x8_3 : Int) ≤ (y305.length : Int) := of_decide_eq_true (by first | (with_reducible assumption) | assumption); rw [← hji49] at hl_; unfold wrap64 at hl_; omega)
 (first | cases eo64 | (injection eo64 with ea_ en_ ec_; (first | subst ea_ | (injection ea_ with ea_; subst ea_)); subst ec_; clear en_))
 have GB64 := Aside0.mk gb64
 have GG64 := Aside0.mk HG64
 clear gb64 gl64 HG64
 refine start_ (n := 8) (S := fun w' => True) (ds := []) #[false, false, false, false, false, false, false, false] (by kernel_rfl) rfl rfl trivial (fun hHeld => ?_); refine with_tabW rollbacknetref27_Merge.tab14 rollbacknetref27_Merge.bits14 (fun HT_ HW_ => ?_)
 generalize w58.drew = w59 at HO307 BK286 HB GG64 HR311 HR315 hHeld ⊢
 refine pur HT_.out 0 (some 65) (bm 8 1) ?_
 refine pur HT_.out 1 (some 66) (bm 8 3) ?_
 refine pur HT_.out 2 (some 67) (bm 8 7) ?_
 refine pur HT_.out 3 (some 68) (bm 8 15) ?_
 refine pur HT_.out 4 (some 69) (bm 8 31) ?_
 refine pur HT_.out 5 (some 70) (bm 8 63) ?_
 refine pur HT_.out 6 (some 71) (bm 8 127) ?_
 refine one_ (i := 7) (N := some 72) (bm 8 255) rfl rfl (one_of HT_.out (by kernel_rfl)) (by decide) (fun K hK => ?_)
 have hj_ : 0 ≤ (x8_3 : Int) := of_decide_eq_true (by first | (with_reducible assumption) | assumption)
 have hl_ : (ji49 : Int) ≤ (y305.length : Int) := of_decide_eq_true (by first | (with_reducible assumption) | assumption)
 have hh_ : (x8_3 : Int) ≤ (y305.length : Int) := of_decide_eq_true (by first | (with_reducible assumption) | assumption)
 have hb_ := (Kd.R_reads' HO307.out).2.2.2.1
 have h0_ : (0 : Int) ≤ (ji49 : Int) := of_decide_eq_true (by first | (with_reducible assumption) | assumption)
 have hk_ : (ji49 : Int).toNat = (x8_3 : Int).toNat + 1 := (by have hw_ : (ji49 : Int) = x8_3 + 1 := (by have h00_ := h0_; rw [← hji49] at h00_ ⊢; unfold wrap64 at h00_ ⊢; omega); rw [hw_]; omega)
 refine Kd.R_shift_step k28 (w0 := w) w.heap.size (by rfl) (.tmp 68) (.tmp 71) 22 28 rfl Try.underlying22 (by kernel_rfl) (g := go64) (n := y305.length) (c := co61) (k := (x8_3 : Int).toNat) rfl rfl ?hA1 ?hA2 ?hm1 ?hm2 (rq HO307.out) ?hk (bq1 HB.out GE286.out) (below_size (bq1 HB.out GE286.out)) ?_
 (case hA1 => have ha_ := KA60.out; rw [hk_] at ha_; exact ha_)
 (case hA2 => exact KA62.out)
 (case hm1 => have ha_ := KY60.out; omega)
 (case hm2 => have ha_ := KY62.out; omega)
 (case hk => omega)
 intro w63 ho hb hg
 clear hj_ hl_ hh_ hb_ hk_ h0_
 rw [← Ny316.out] at ho
 have n0_ := Aside0.mk (blk_grown (g := gb286) (o := .cells #[.int .i64 x287000_3, .int .i64 x287001_3, .int .i64 x287002_3, .int .i64 x287003_3, .int .i64 x287004_3, .int .i64 x287005_3, .int .i64 x287006_3, .int .i64 x287007_3, .int .i64 x287008_3] 28 (0, 0)) (kq BK286.out) hg (Kd.R_away HO307.out (fun _ hk => hk)))
 have n1_ := Aside0.mk (ho)
 have n2_ := Aside0.mk (hb)
 clear BK286
 clear HO307
 clear HB
 have BK286 := n0_
 have HO307 := n1_
 have HB := n2_
 clear n0_ n1_ n2_
 clear ho hb hg
 refine hK.out _ _ trivial (fun hHeld => ?_)
 clear hK K
 refine nrm 72 ?_
 refine done_ (done_of HT_.out (by kernel_rfl)) ?_
 have hcz65_0 : w63.cell? ⟨gb286, 0, none⟩ = some (.int .i64 x287000_3) := bc BK286.out 0
 have hcz65_1 : w63.cell? ⟨gb286, 1, none⟩ = some (.int .i64 x287001_3) := bc BK286.out 1
 have hcz65_2 : w63.cell? ⟨gb286, 2, none⟩ = some (.int .i64 x287002_3) := bc BK286.out 2
 have hcz65_3 : w63.cell? ⟨gb286, 3, none⟩ = some (.int .i64 x287003_3) := bc BK286.out 3
 have hcz65_4 : w63.cell? ⟨gb286, 4, none⟩ = some (.int .i64 x287004_3) := bc BK286.out 4
 have hcz65_5 : w63.cell? ⟨gb286, 5, none⟩ = some (.int .i64 x287005_3) := bc BK286.out 5
 have hcz65_6 : w63.cell? ⟨gb286, 6, none⟩ = some (.int .i64 x287006_3) := bc BK286.out 6
 have hcz65_7 : w63.cell? ⟨gb286, 7, none⟩ = some (.int .i64 x287007_3) := bc BK286.out 7
 have hcz65_8 : w63.cell? ⟨gb286, 8, none⟩ = some (.int .i64 x287008_3) := bc BK286.out 8
 have hfz65_0 := blk_frozen BK286.out 0
 have hfz65_1 := blk_frozen BK286.out 1
 have hfz65_2 := blk_frozen BK286.out 2
 have hfz65_3 := blk_frozen BK286.out 3
 have hfz65_4 := blk_frozen BK286.out 4
 have hfz65_5 := blk_frozen BK286.out 5
 have hfz65_6 := blk_frozen BK286.out 6
 have hfz65_7 := blk_frozen BK286.out 7
 have hfz65_8 := blk_frozen BK286.out 8
 have p55 : 0 ≤ (x8_3 : Int) := of_decide_eq_true (by first | (with_reducible assumption) | assumption)
 have q55 : (x8_3 : Int) < ((y305.length : Int) : Int) := of_decide_eq_true (by first | (with_reducible assumption) | assumption)
 obtain ⟨ce55, hcl55, hM55, hcc55, hfr55⟩ := Kd.R_elem HO307.out z28 (x8_3 : Int) p55 q55
 obtain rfl := k28_openM hM55
 have hx55_0 : w63.cell? ⟨go64, (x8_3 : Int).toNat * 9, none⟩ = some (.int .i64 ((rd_T28 y316 x8_3).f0)) := hcc55 0 _ rfl
 have hx55_1 : w63.cell? ⟨go64, (x8_3 : Int).toNat * 9 + 1, none⟩ = some (.int .i64 ((rd_T28 y316 x8_3).f1)) := hcc55 1 _ rfl
 have hx55_2 : w63.cell? ⟨go64, (x8_3 : Int).toNat * 9 + 2, none⟩ = some (.int .i64 ((rd_T28 y316 x8_3).f2.f0)) := hcc55 2 _ rfl
 have hx55_3 : w63.cell? ⟨go64, (x8_3 : Int).toNat * 9 + 3, none⟩ = some (.int .i64 ((rd_T28 y316 x8_3).f2.f1)) := hcc55 3 _ rfl
 have hx55_4 : w63.cell? ⟨go64, (x8_3 : Int).toNat * 9 + 4, none⟩ = some (.int .i64 ((rd_T28 y316 x8_3).f2.f2)) := hcc55 4 _ rfl
 have hx55_5 : w63.cell? ⟨go64, (x8_3 : Int).toNat * 9 + 5, none⟩ = some (.int .i64 ((rd_T28 y316 x8_3).f2.f3.f0)) := hcc55 5 _ rfl
 have hx55_6 : w63.cell? ⟨go64, (x8_3 : Int).toNat * 9 + 6, none⟩ = some (.int .i64 ((rd_T28 y316 x8_3).f2.f3.f1)) := hcc55 6 _ rfl
 have hx55_7 : w63.cell? ⟨go64, (x8_3 : Int).toNat * 9 + 7, none⟩ = some (.int .i64 ((rd_T28 y316 x8_3).f2.f4)) := hcc55 7 _ rfl
 have hx55_8 : w63.cell? ⟨go64, (x8_3 : Int).toNat * 9 + 8, none⟩ = some (.int .i64 ((rd_T28 y316 x8_3).f2.f5)) := hcc55 8 _ rfl
 have hf55_0 : w63.frozen? ⟨go64, (x8_3 : Int).toNat * 9, none⟩ = false := hfr55 0
 have hf55_1 : w63.frozen? ⟨go64, (x8_3 : Int).toNat * 9 + 1, none⟩ = false := hfr55 1
 have hf55_2 : w63.frozen? ⟨go64, (x8_3 : Int).toNat * 9 + 2, none⟩ = false := hfr55 2
 have hf55_3 : w63.frozen? ⟨go64, (x8_3 : Int).toNat * 9 + 3, none⟩ = false := hfr55 3
 have hf55_4 : w63.frozen? ⟨go64, (x8_3 : Int).toNat * 9 + 4, none⟩ = false := hfr55 4
 have hf55_5 : w63.frozen? ⟨go64, (x8_3 : Int).toNat * 9 + 5, none⟩ = false := hfr55 5
 have hf55_6 : w63.frozen? ⟨go64, (x8_3 : Int).toNat * 9 + 6, none⟩ = false := hfr55 6
 have hf55_7 : w63.frozen? ⟨go64, (x8_3 : Int).toNat * 9 + 7, none⟩ = false := hfr55 7
 have hf55_8 : w63.frozen? ⟨go64, (x8_3 : Int).toNat * 9 + 8, none⟩ = false := hfr55 8
 clear hcl55 hcc55 hfr55 hM55
 replace p55 := eq_true p55
 replace q55 := eq_true q55
 have HX66 := Aside0.mk (show Kd.R k28 28 w63 w.heap.size (fun k_ => k_ ≠ gb286) (.slice (some ⟨go64, 0, none⟩) y305.length co61) y316 from (rq HO307.out))
 obtain ⟨ce66, hcl66, hM66, hcc66, hfr66⟩ := Kd.R_elem HX66.out z28 (x8_3 : Int) (of_decide_eq_true (by first | (with_reducible assumption) | assumption)) (by have h_ : (x8_3 : Int) < ((y305.length : Int) : Int) := of_decide_eq_true (by first | (with_reducible assumption) | assumption); first | exact h_ | (have e_ := (Kd.R_reads' HO307.out).1; omega) | simpa using h_)
 obtain rfl := k28_openM hM66
 have HP66 := Kd.R_seg HX66.out (x8_3 : Int) (of_decide_eq_true (by first | (with_reducible assumption) | assumption)) (by have h_ : (x8_3 : Int) < ((y305.length : Int) : Int) := of_decide_eq_true (by first | (with_reducible assumption) | assumption); first | exact h_ | (have e_ := (Kd.R_reads' HO307.out).1; omega) | simpa using h_) (seg := [.int .i64 x287000_3, .int .i64 x287001_3, .int .i64 x287002_3, .int .i64 x287003_3, .int .i64 x287004_3, .int .i64 x287005_3, .int .i64 x287006_3, .int .i64 x287007_3, .int .i64 x287008_3]) (j := 0) hcl66 hcc66 (show 9 ≤ 9 from by decide) (x' := (⟨x287000_3, x287001_3, (⟨x287002_3, x287003_3, x287004_3, (⟨x287005_3, x287006_3⟩ : S24), x287007_3, x287008_3⟩ : S26)⟩ : S28)) (k28_mkM _ _ _ (⟨x287000_3, x287001_3, (⟨x287002_3, x287003_3, x287004_3, (⟨x287005_3, x287006_3⟩ : S24), x287007_3, x287008_3⟩ : S26)⟩ : S28) ) (fun _ hk => hk)
 have hx66_0 := hcc66 0 _ rfl
 (try simp only [show (k28).sz = 9 from rfl, Nat.mul_one, Nat.add_zero] at hx66_0)
 have hf66_0 := hfr66 0
 (try simp only [show (k28).sz = 9 from rfl, Nat.mul_one, Nat.add_zero] at hf66_0)
 have hx66_1 := hcc66 1 _ rfl
 (try simp only [show (k28).sz = 9 from rfl, Nat.mul_one, Nat.add_zero] at hx66_1)
 have hf66_1 := hfr66 1
 (try simp only [show (k28).sz = 9 from rfl, Nat.mul_one, Nat.add_zero] at hf66_1)
 have hx66_2 := hcc66 2 _ rfl
 (try simp only [show (k28).sz = 9 from rfl, Nat.mul_one, Nat.add_zero] at hx66_2)
 have hf66_2 := hfr66 2
 (try simp only [show (k28).sz = 9 from rfl, Nat.mul_one, Nat.add_zero] at hf66_2)
 have hx66_3 := hcc66 3 _ rfl
 (try simp only [show (k28).sz = 9 from rfl, Nat.mul_one, Nat.add_zero] at hx66_3)
 have hf66_3 := hfr66 3
 (try simp only [show (k28).sz = 9 from rfl, Nat.mul_one, Nat.add_zero] at hf66_3)
 have hx66_4 := hcc66 4 _ rfl
 (try simp only [show (k28).sz = 9 from rfl, Nat.mul_one, Nat.add_zero] at hx66_4)
 have hf66_4 := hfr66 4
 (try simp only [show (k28).sz = 9 from rfl, Nat.mul_one, Nat.add_zero] at hf66_4)
 have hx66_5 := hcc66 5 _ rfl
 (try simp only [show (k28).sz = 9 from rfl, Nat.mul_one, Nat.add_zero] at hx66_5)
 have hf66_5 := hfr66 5
 (try simp only [show (k28).sz = 9 from rfl, Nat.mul_one, Nat.add_zero] at hf66_5)
 have hx66_6 := hcc66 6 _ rfl
 (try simp only [show (k28).sz = 9 from rfl, Nat.mul_one, Nat.add_zero] at hx66_6)
 have hf66_6 := hfr66 6
 (try simp only [show (k28).sz = 9 from rfl, Nat.mul_one, Nat.add_zero] at hf66_6)
 have hx66_7 := hcc66 7 _ rfl
 (try simp only [show (k28).sz = 9 from rfl, Nat.mul_one, Nat.add_zero] at hx66_7)
 have hf66_7 := hfr66 7
 (try simp only [show (k28).sz = 9 from rfl, Nat.mul_one, Nat.add_zero] at hf66_7)
 have hx66_8 := hcc66 8 _ rfl
 (try simp only [show (k28).sz = 9 from rfl, Nat.mul_one, Nat.add_zero] at hx66_8)
 have hf66_8 := hfr66 8
 (try simp only [show (k28).sz = 9 from rfl, Nat.mul_one, Nat.add_zero] at hf66_8)
 clear hcl66 hcc66 hfr66 hM66
 try go_wp2_with (first | ((with_reducible refine gate_store (t := 28) (p := 76) rfl ?_); refine store_event (t := 28) (p := 76) (v := ?vo_w67) (w1 := (((((((((w63.setCell ⟨go64, (x8_3 : Int).toNat * 9, none⟩ (.int .i64 x287000_3)).setCell ⟨go64, (x8_3 : Int).toNat * 9 + 1, none⟩ (.int .i64 x287001_3)).setCell ⟨go64, (x8_3 : Int).toNat * 9 + 2, none⟩ (.int .i64 x287002_3)).setCell ⟨go64, (x8_3 : Int).toNat * 9 + 3, none⟩ (.int .i64 x287003_3)).setCell ⟨go64, (x8_3 : Int).toNat * 9 + 4, none⟩ (.int .i64 x287004_3)).setCell ⟨go64, (x8_3 : Int).toNat * 9 + 5, none⟩ (.int .i64 x287005_3)).setCell ⟨go64, (x8_3 : Int).toNat * 9 + 6, none⟩ (.int .i64 x287006_3)).setCell ⟨go64, (x8_3 : Int).toNat * 9 + 7, none⟩ (.int .i64 x287007_3)).setCell ⟨go64, (x8_3 : Int).toNat * 9 + 8, none⟩ (.int .i64 x287008_3))) ?hg ?ho ?hn ?hr ?_; (case ho => rfl); (case hg => rfl); (case hn => rfl); (case hr => first | (go_simp; done) | (go_simp; rfl)); intro w67 hw; have hg : w63.grownBy w67 (some go64) := (by rw [hw]; exact HP66.2); have hp_ : Kd.R k28 28 w67 w.heap.size (fun k_ => k_ ≠ gb286) (.slice (some ⟨go64, 0, none⟩) y305.length co61) y317 := (by rw [hw, Ny317.out]; exact HP66.1); clear HP66; have n0_ := Aside0.mk (blk_grown (g := gb286) (o := .cells #[.int .i64 x287000_3, .int .i64 x287001_3, .int .i64 x287002_3, .int .i64 x287003_3, .int .i64 x287004_3, .int .i64 x287005_3, .int .i64 x287006_3, .int .i64 x287007_3, .int .i64 x287008_3] 28 (0, 0)) (kq BK286.out) hg (Kd.R_away HO307.out (fun _ hk => hk))); have n1_ := Aside0.mk (hp_); have n2_ := Aside0.mk ((by rw [hw]; exact below_set (below_set (below_set (below_set (below_set (below_set (below_set (below_set (below_set (HB.out) GB64.out) GB64.out) GB64.out) GB64.out) GB64.out) GB64.out) GB64.out) GB64.out) GB64.out : Below w.heap.size w w67)); clear BK286; clear HO307; clear HB; have BK286 := n0_; have HO307 := n1_; have HB := n2_; clear n0_ n1_ n2_; clear hg hw hp_))
 go_roundg k3
 case measure => have := HK1.out; have := HJ3.out; have := HK3.out; omega
 case rel => exact ⟨(y317), (wrap64 (x6_1 + 1)), (by first | rfl | (simp; done) | (simp [*]; done)), H', ⟨by have := HK1.out; have := HJ3.out; have := HK3.out; omega⟩, ⟨by (with_reducible repeat (first | apply Kd.R_alloc | apply Kd.R_drewN | apply Kd.R_drew)); exact Kd.R_mono HO307.out (fun _ hk => trivial)⟩, ⟨bq1 HB.out GE286.out⟩⟩)
 ·(
 rw [if_neg c54] at H
 exact absurd H (by simp)))
 ·(
 rw [if_neg c53] at H
 exact absurd H (by simp)))
 ·(
 rw [if_neg c52] at H
 exact absurd H (by simp)))
 ·(
 rw [if_neg c51] at H
 exact absurd H (by simp)))
 ·(
 rw [if_neg c50] at H
 exact absurd H (by simp)))
 ·(
 rw [if_neg c48] at H
 exact absurd H (by simp))))))))
 ·(
 rw [if_neg c3] at H
 have c3b0 : decide (x6_1 < (wrap64 ((l0.length : Int) + (l1.length : Int)))) = false := decide_eq_false c3
 clear c3
 obtain rfl := Option.some.inj H
 go_wp2
 go_ret
 exact ⟨_, by first | rfl | (simp [errW_none, errW_some] <;> rfl) | (simp [*, errW_none, errW_some] <;> rfl), rq HO_5.out, bq HB.out⟩)))
end Go.Proofs.Ytdobkcphmpbhlaa.PGL
