-- Written by a program of this session (hprint.py) out of the translation and of hand-proved parts. Lean checks it.
import Derived.Test.YtdobkcphmpbhlaaPGLx0
import Derived.Test.YtdobkcphmpbhlaaPGLx1
import Derived.Test.YtdobkcphmpbhlaaPGLx8
namespace Go.Proofs.Ytdobkcphmpbhlaa.PGL
open Go.RowKit Go.Proofs.YtdobkcphmpbhlaaW.PrintWords Go.Proofs.YtdobkcphmpbhlaaW.PrintLast Go.Proofs.YtdobkcphmpbhlaaW.PrintMore
attribute [local go_sem] max2_int min2_int max_two min_two max_three min_three max_four min_four   -- for this text's walks alone
set_option linter.unusedVariables false
set_option linter.unusedSimpArgs false

attribute [local go_sem high] eqA28
/-! ### determinant_insert: function 27 -/
def determinant_insert.l0 : Nat → List (S28) → Int → Int → Int → Int → Int → Int → Int → Int → Int → Int → Int → Option ((List (S28)))
 | 0, _, _, _, _, _, _, _, _, _, _, _, _ => none
 | k + 1, x0, x5, x6, x224000, x224001, x224002, x224003, x224004, x224005, x224006, x224007, x224008 => if x5 < x6 then (if 0 ≤ (wrap64 (Int.tdiv (wrap64 (x5 + x6)) 2)) then (if (wrap64 (Int.tdiv (wrap64 (x5 + x6)) 2)) < (x0.length : Int) then ((determinant_Compare.f k ((rd_T28 x0 (wrap64 (Int.tdiv (wrap64 (x5 + x6)) 2))).f0) ((rd_T28 x0 (wrap64 (Int.tdiv (wrap64 (x5 + x6)) 2))).f1) ((rd_T28 x0 (wrap64 (Int.tdiv (wrap64 (x5 + x6)) 2))).f2.f0) ((rd_T28 x0 (wrap64 (Int.tdiv (wrap64 (x5 + x6)) 2))).f2.f1) ((rd_T28 x0 (wrap64 (Int.tdiv (wrap64 (x5 + x6)) 2))).f2.f2) ((rd_T28 x0 (wrap64 (Int.tdiv (wrap64 (x5 + x6)) 2))).f2.f3.f0) ((rd_T28 x0 (wrap64 (Int.tdiv (wrap64 (x5 + x6)) 2))).f2.f3.f1) ((rd_T28 x0 (wrap64 (Int.tdiv (wrap64 (x5 + x6)) 2))).f2.f4) ((rd_T28 x0 (wrap64 (Int.tdiv (wrap64 (x5 + x6)) 2))).f2.f5) x224000 x224001 x224002 x224003 x224004 x224005 x224006 x224007 x224008).bind fun t225 => (if t225 < 0 then (determinant_insert.l0 k x0 (wrap64 ((wrap64 (Int.tdiv (wrap64 (x5 + x6)) 2)) + 1)) x6 x224000 x224001 x224002 x224003 x224004 x224005 x224006 x224007 x224008) else (determinant_insert.l0 k x0 x5 (wrap64 (Int.tdiv (wrap64 (x5 + x6)) 2)) x224000 x224001 x224002 x224003 x224004 x224005 x224006 x224007 x224008))) else (none)) else (none)) else (if x5 < (x0.length : Int) then (if 0 ≤ x5 then (if (((rd_T28 x0 x5).f0) == x224000 && (((rd_T28 x0 x5).f1) == x224001 && ((((rd_T28 x0 x5).f2.f0) == x224002 && (((rd_T28 x0 x5).f2.f1) == x224003 && (((rd_T28 x0 x5).f2.f2) == x224004 && ((((rd_T28 x0 x5).f2.f3.f0) == x224005 && (((rd_T28 x0 x5).f2.f3.f1) == x224006)) && (((rd_T28 x0 x5).f2.f4) == x224007 && (((rd_T28 x0 x5).f2.f5) == x224008))))))))) = true then (some x0) else (if x0.length < 1954687338268 then ((some (x0 ++ [(⟨0, 0, (⟨0, 0, 0, (⟨0, 0⟩ : S24), 0, 0⟩ : S26)⟩ : S28)] : List (S28))).bind fun y227 => (if 0 ≤ (wrap64 (x5 + 1)) then (if (wrap64 (x5 + 1)) ≤ (y227.length : Int) then (if x5 ≤ (y227.length : Int) then (if x5 < (y227.length : Int) then (some ((shiftAt y227 (x5 : Int).toNat).set (x5 : Int).toNat (⟨x224000, x224001, (⟨x224002, x224003, x224004, (⟨x224005, x224006⟩ : S24), x224007, x224008⟩ : S26)⟩ : S28))) else (none)) else (none)) else (none)) else (none))) else (none))) else (none)) else (if x0.length < 1954687338268 then ((some (x0 ++ [(⟨0, 0, (⟨0, 0, 0, (⟨0, 0⟩ : S24), 0, 0⟩ : S26)⟩ : S28)] : List (S28))).bind fun y240 => (if 0 ≤ (wrap64 (x5 + 1)) then (if (wrap64 (x5 + 1)) ≤ (y240.length : Int) then (if 0 ≤ x5 then (if x5 ≤ (y240.length : Int) then (if x5 < (y240.length : Int) then (some ((shiftAt y240 (x5 : Int).toNat).set (x5 : Int).toNat (⟨x224000, x224001, (⟨x224002, x224003, x224004, (⟨x224005, x224006⟩ : S24), x224007, x224008⟩ : S26)⟩ : S28))) else (none)) else (none)) else (none)) else (none)) else (none))) else (none)))
def determinant_insert.f (k : Nat) (l0 : List (S28)) (a1_0 : Int) (a1_1 : Int) (a1_2 : Int) (a1_3 : Int) (a1_4 : Int) (a1_5 : Int) (a1_6 : Int) (a1_7 : Int) (a1_8 : Int) : Option ((List (S28))) := determinant_insert.l0 k l0 0 (l0.length : Int) a1_0 a1_1 a1_2 a1_3 a1_4 a1_5 a1_6 a1_7 a1_8
theorem determinant_insert.mono_l : ∀ k, (∀ y0 y1 y2 y3 y4 y5 y6 y7 y8 y9 y10 y11, LeO (determinant_insert.l0 k y0 y1 y2 y3 y4 y5 y6 y7 y8 y9 y10 y11) (determinant_insert.l0 (k + 1) y0 y1 y2 y3 y4 y5 y6 y7 y8 y9 y10 y11))
 | 0 => fun _ _ _ _ _ _ _ _ _ _ _ _ r h => by simp [determinant_insert.l0] at h
 | k + 1 => by
  have ih0 := determinant_insert.mono_l k
  ·intro y0 y1 y2 y3 y4 y5 y6 y7 y8 y9 y10 y11
   unfold determinant_insert.l0
   repeat' first
   | (with_reducible exact ih0 _ _ _ _ _ _ _ _ _ _ _ _)
   | (with_reducible exact determinant_Compare.mono _ _ _ _ _ _ _ _ _ _ _ _ _ _ _ _ _ _ _)
   | (with_reducible exact LeO.refl _)
   | (with_reducible exact LeO.none _)
   | (with_reducible refine LeO.ite ?_ ?_)
   | (with_reducible refine LeO.bind ?_ (fun _ => ?_))
   | exact ih0 _ _ _ _ _ _ _ _ _ _ _ _
   | exact determinant_Compare.mono _ _ _ _ _ _ _ _ _ _ _ _ _ _ _ _ _ _ _
   | exact LeO.none _
   | refine LeO.ite ?_ ?_
   | refine LeO.bind ?_ (fun _ => ?_)
theorem determinant_insert.mono : ∀ a0 a1 a2 a3 a4 a5 a6 a7 a8 a9 k, LeO (determinant_insert.f k a0 a1 a2 a3 a4 a5 a6 a7 a8 a9) (determinant_insert.f (k + 1) a0 a1 a2 a3 a4 a5 a6 a7 a8 a9) := by
 intro a0 a1 a2 a3 a4 a5 a6 a7 a8 a9 k
 have ih0 := determinant_insert.mono_l k
 unfold determinant_insert.f
 repeat' first
   | (with_reducible exact ih0 _ _ _ _ _ _ _ _ _ _ _ _)
   | (with_reducible exact determinant_Compare.mono _ _ _ _ _ _ _ _ _ _ _ _ _ _ _ _ _ _ _)
   | (with_reducible exact LeO.refl _)
   | (with_reducible exact LeO.none _)
   | (with_reducible refine LeO.ite ?_ ?_)
   | (with_reducible refine LeO.bind ?_ (fun _ => ?_))
   | exact ih0 _ _ _ _ _ _ _ _ _ _ _ _
   | exact determinant_Compare.mono _ _ _ _ _ _ _ _ _ _ _ _ _ _ _ _ _ _ _
   | exact LeO.none _
   | refine LeO.ite ?_ ?_
   | refine LeO.bind ?_ (fun _ => ?_)
def determinant_insert.T7 : Bool × List (List Nat × List Nat) := (true, [([], []), ([], []), ([1], [1]), ([0, 2], [0, 2]), ([3], [3]), ([4], [4]), ([4], [4]), ([5, 6, 4], [4, 5, 6]), ([7, 4], [4, 7]), ([4], [4]), ([8, 9, 4], [4, 8, 9]), ([4, 10], [4, 10])])
def determinant_insert.B7 : List Nat := [0, 0, 2, 7, 15, 31, 31, 127, 255, 31, 1023, 2047]
theorem determinant_insert.tab7 : rtab .any (opsOf Try.f27 7) = determinant_insert.T7 := by kernel_rfl
theorem determinant_insert.bits7 : waitsOk determinant_insert.T7.2 determinant_insert.B7 = true := by kernel_rfl
def determinant_insert.T10 : Bool × List (List Nat × List Nat) := (true, [([], []), ([], []), ([1], [1]), ([0, 2], [0, 2]), ([], []), ([], []), ([4, 5], [4, 5]), ([3, 6], [3, 6])])
def determinant_insert.B10 : List Nat := [0, 0, 2, 7, 0, 0, 48, 127]
theorem determinant_insert.tab10 : rtab .any (opsOf Try.f27 10) = determinant_insert.T10 := by kernel_rfl
theorem determinant_insert.bits10 : waitsOk determinant_insert.T10.2 determinant_insert.B10 = true := by kernel_rfl
set_option maxHeartbeats 8000000 in
set_option maxRecDepth 100000 in
theorem determinant_insert.calls (k : Nat) (P0_ : Nat → Prop) (u9000_ : Value) (l0 : List (S28)) (a1_0 : Int) (a1_1 : Int) (a1_2 : Int) (a1_3 : Int) (a1_4 : Int) (a1_5 : Int) (a1_6 : Int) (a1_7 : Int) (a1_8 : Int) (r : List (S28)) (w0 w : World) (hB : Below w0.heap.size w0 w) (ho0 : Kd.R k28 28 w w0.heap.size P0_ u9000_ l0) (h : determinant_insert.f k l0 a1_0 a1_1 a1_2 a1_3 a1_4 a1_5 a1_6 a1_7 a1_8 = some r) :
  Calls Try.prog 27 #[u9000_, .agg #[.int .i64 a1_0, .int .i64 a1_1, .int .i64 a1_2, .int .i64 a1_3, .int .i64 a1_4, .int .i64 a1_5, .int .i64 a1_6, .int .i64 a1_7, .int .i64 a1_8]] w fun e w' => ∃ v0_ : Value, e = .returned (v0_) ∧ Kd.R k28 28 w' w0.heap.size (fun k_ => (P0_ k_ ∨ w.heap.size ≤ k_)) v0_ r ∧ Below w0.heap.size w0 w' ∧ Kept w w' (fun k_ => P0_ k_) := by
 have hu28 := Try.underlying28
 have HO0 := Aside0.mk (show Kd.R k28 28 w w0.heap.size (fun k_ => (P0_ k_ ∨ w.heap.size ≤ k_)) u9000_ l0 from Kd.R_mono ho0 (fun k_ hk => (.inl hk)))
 have HK := Aside0.mk (Kept.refl w (fun k_ => P0_ k_))
 have HW0 := Aside0.mk hB.size
 have HB := Aside0.mk hB
 clear hB
 have H : (determinant_insert.l0 k l0 0 (l0.length : Int) a1_0 a1_1 a1_2 a1_3 a1_4 a1_5 a1_6 a1_7 a1_8) = some r := h
 clear h
 have H' := Aside0.mk H
 clear H
 go_enter Try.func27, Try.ntmps27
 go_wp2_with (first | ((with_reducible refine gate_dst (N := 3) rfl ?_); refine box_event ?hg (N := 3) ?hd (cs := #[.int .i64 a1_0, .int .i64 a1_1, .int .i64 a1_2, .int .i64 a1_3, .int .i64 a1_4, .int .i64 a1_5, .int .i64 a1_6, .int .i64 a1_7, .int .i64 a1_8]) (t := 28) ?hr ?_; (case hd => rfl); (case hg => rfl); (case hr => first | (go_simp; done) | (go_simp; rfl)); intro gb223 hg w3 hbox hb; have n0_ := Aside0.mk (Kd.R_below (Kd.R_elderB (rq HO0.out) gb223 (Nat.le_of_eq hg.symm)) hb); have n1_ := Aside0.mk (Kept.below (S := (fun k_ => P0_ k_)) (by repeat (first | (with_reducible first | exact HK.out | apply Kept.alloc | apply Kept.drewN | apply Kept.drew) | exact HK.out)) hb); have n2_ := Aside0.mk (below_step (bq HB.out) hb); have n3_ := Aside0.mk (hbox); have n4_ := Aside0.mk ((by rw [hg]; exact (by first | exact HK.out.1 | exact (show Kept w _ (fun k_ => P0_ k_) from by repeat (first | (with_reducible first | exact HK.out | apply Kept.alloc | apply Kept.drewN | apply Kept.drew) | exact HK.out)).1) : w.heap.size ≤ gb223)); have n5_ := Aside0.mk ((by rw [hg]; exact (below_size (bq HB.out)) : w0.heap.size ≤ gb223)); clear HO0; clear HK; clear HB; have HO0 := n0_; have HK := n1_; have HB := n2_; have BK223 := n3_; have GW223 := n4_; have GE223 := n5_; clear n0_ n1_ n2_ n3_ n4_ n5_; clear hb hbox hg; obtain ⟨Ao4, co4, eo4⟩ := Kd.R_slice HO0.out; subst eo4))
 go_loopg [5, 6] k (fun kq v5 v6 w' => ∃ (x5_1 : Int) (x6_1 : Int), v5 = .int .i64 x5_1 ∧ v6 = .int .i64 x6_1 ∧ Aside0 (determinant_insert.l0 kq l0 x5_1 x6_1 a1_0 a1_1 a1_2 a1_3 a1_4 a1_5 a1_6 a1_7 a1_8 = some r) ∧ Aside0 (kq ≤ k) ∧ Aside0 (Kd.R k28 28 w' w0.heap.size (fun k_ => (P0_ k_ ∨ w.heap.size ≤ k_) ∧ k_ ≠ gb223) (.slice Ao4 l0.length co4) l0) ∧ Aside0 (w'.heap[gb223]? = some (.cells #[.int .i64 a1_0, .int .i64 a1_1, .int .i64 a1_2, .int .i64 a1_3, .int .i64 a1_4, .int .i64 a1_5, .int .i64 a1_6, .int .i64 a1_7, .int .i64 a1_8] 28 (0, 0))) ∧ Aside0 (Kept w w' (fun k_ => P0_ k_)) ∧ Aside0 (Below w0.heap.size w0 w'))
 case atStart => exact ⟨(0), ((l0.length : Int)), (by first | rfl | (simp; done) | (simp [*]; done)), (by first | rfl | (simp; done) | (simp [*]; done)), H', ⟨Nat.le_refl _⟩, ⟨rq HO0.out⟩, ⟨kq BK223.out⟩, ⟨by repeat (first | (with_reducible first | exact HK.out | apply Kept.alloc | apply Kept.drewN | apply Kept.drew | refine Kept.setCell ?_ (.inr GW223.out) _) | exact HK.out)⟩, ⟨bq1 HB.out GE223.out⟩⟩
 case round =>(
 clear H'
 try clear c2
 try clear p2
 obtain ⟨x5_1, x6_1, rfl, rfl, HA, HK1, HO_0, BK223, HK, HB⟩ := hrel
 cases gk with
 | zero => exact absurd HA.out (by simp [determinant_insert.l0])
 | succ k1 =>(
 have H := HA.out
 clear HA
 simp only [determinant_insert.l0] at H
 by_cases c5 : x5_1 < x6_1
 ·(
 rw [if_pos c5] at H
 have c5b0 : decide (x5_1 < x6_1) = true := decide_eq_true c5
 clear c5
 obtain ⟨ji6, hji6⟩ : ∃ j_ : Int, (wrap64 (Int.tdiv (wrap64 (x5_1 + x6_1)) 2)) = j_ := ⟨_, rfl⟩
 replace H : (if 0 ≤ (ji6) then (if (ji6) < (l0.length : Int) then ((determinant_Compare.f k1 ((rd_T28 l0 (ji6)).f0) ((rd_T28 l0 (ji6)).f1) ((rd_T28 l0 (ji6)).f2.f0) ((rd_T28 l0 (ji6)).f2.f1) ((rd_T28 l0 (ji6)).f2.f2) ((rd_T28 l0 (ji6)).f2.f3.f0) ((rd_T28 l0 (ji6)).f2.f3.f1) ((rd_T28 l0 (ji6)).f2.f4) ((rd_T28 l0 (ji6)).f2.f5) a1_0 a1_1 a1_2 a1_3 a1_4 a1_5 a1_6 a1_7 a1_8).bind fun t225 => (if t225 < 0 then (determinant_insert.l0 k1 l0 (wrap64 ((ji6) + 1)) x6_1 a1_0 a1_1 a1_2 a1_3 a1_4 a1_5 a1_6 a1_7 a1_8) else (determinant_insert.l0 k1 l0 x5_1 ji6 a1_0 a1_1 a1_2 a1_3 a1_4 a1_5 a1_6 a1_7 a1_8))) else (none)) else (none)) = some r := by first | (rw [hji6] at H; exact H) | (simp only [hji6] at H ⊢; exact H)
 have hji6w : (IntKind.i64.wrap (Int.tdiv (wrap64 (x5_1 + x6_1)) 2)) = ji6 := (i64_w _).trans hji6
 by_cases c7 : 0 ≤ (ji6)
 ·(
 rw [if_pos c7] at H
 have c7b0 : decide (0 ≤ (ji6)) = true := decide_eq_true c7
 clear c7
 by_cases c8 : (ji6) < (l0.length : Int)
 ·(
 rw [if_pos c8] at H
 have c8b0 : decide ((ji6) < (l0.length : Int)) = true := decide_eq_true c8
 clear c8
 obtain ⟨t225, A9, H⟩ := bnd H
 by_cases c10 : t225 < 0
 ·(
 rw [if_pos c10] at H
 have c10b0 : decide (t225 < 0) = true := decide_eq_true c10
 clear c10
 have H' := Aside0.mk H
 clear H
 try go_wp2
 have n0_ := Aside0.mk (Kd.R_drew HO_0.out)
 have n1_ := Aside0.mk (blk_drew BK223.out)
 have n2_ := Aside0.mk (Kept.drew HK.out)
 have n3_ := Aside0.mk (below_drew1 HB.out)
 clear HO_0
 clear BK223
 clear HK
 clear HB
 have HO_0 := n0_
 have BK223 := n1_
 have HK := n2_
 have HB := n3_
 clear n0_ n1_ n2_ n3_
 have p224 : 0 ≤ ((ji6) : Int) := of_decide_eq_true (by first | (with_reducible assumption) | assumption)
 have q224 : (ji6) < (l0.length : Int) := of_decide_eq_true (by first | (with_reducible assumption) | assumption)
 obtain ⟨ad224, e224, hx224_0, hx224_1, hx224_2, hx224_3, hx224_4, hx224_5, hx224_6, hx224_7, hx224_8⟩ := at_T28 (Kd.R_reads' HO_0.out).2.2 (ji6) p224 q224
 cases e224
 replace p224 := eq_true p224
 replace q224 := eq_true q224
 refine start_ (n := 7) (S := fun w' => w'.cell? ⟨gb223, 0, none⟩ = some (.int .i64 a1_0) ∧ w'.cell? ⟨gb223, 1, none⟩ = some (.int .i64 a1_1) ∧ w'.cell? ⟨gb223, 2, none⟩ = some (.int .i64 a1_2) ∧ w'.cell? ⟨gb223, 3, none⟩ = some (.int .i64 a1_3) ∧ w'.cell? ⟨gb223, 4, none⟩ = some (.int .i64 a1_4) ∧ w'.cell? ⟨gb223, 5, none⟩ = some (.int .i64 a1_5) ∧ w'.cell? ⟨gb223, 6, none⟩ = some (.int .i64 a1_6) ∧ w'.cell? ⟨gb223, 7, none⟩ = some (.int .i64 a1_7) ∧ w'.cell? ⟨gb223, 8, none⟩ = some (.int .i64 a1_8) ∧ w'.cell? (ad224.add (((ji6)).toNat * 9)) = some (.int .i64 ((rd_T28 l0 (ji6)).f0)) ∧ w'.cell? ⟨(ad224.add (((ji6)).toNat * 9)).block, (ad224.add (((ji6)).toNat * 9)).off + 1, none⟩ = some (.int .i64 ((rd_T28 l0 (ji6)).f1)) ∧ w'.cell? ⟨(ad224.add (((ji6)).toNat * 9)).block, (ad224.add (((ji6)).toNat * 9)).off + 2, none⟩ = some (.int .i64 ((rd_T28 l0 (ji6)).f2.f0)) ∧ w'.cell? ⟨(ad224.add (((ji6)).toNat * 9)).block, (ad224.add (((ji6)).toNat * 9)).off + 3, none⟩ = some (.int .i64 ((rd_T28 l0 (ji6)).f2.f1)) ∧ w'.cell? ⟨(ad224.add (((ji6)).toNat * 9)).block, (ad224.add (((ji6)).toNat * 9)).off + 4, none⟩ = some (.int .i64 ((rd_T28 l0 (ji6)).f2.f2)) ∧ w'.cell? ⟨(ad224.add (((ji6)).toNat * 9)).block, (ad224.add (((ji6)).toNat * 9)).off + 5, none⟩ = some (.int .i64 ((rd_T28 l0 (ji6)).f2.f3.f0)) ∧ w'.cell? ⟨(ad224.add (((ji6)).toNat * 9)).block, (ad224.add (((ji6)).toNat * 9)).off + 6, none⟩ = some (.int .i64 ((rd_T28 l0 (ji6)).f2.f3.f1)) ∧ w'.cell? ⟨(ad224.add (((ji6)).toNat * 9)).block, (ad224.add (((ji6)).toNat * 9)).off + 7, none⟩ = some (.int .i64 ((rd_T28 l0 (ji6)).f2.f4)) ∧ w'.cell? ⟨(ad224.add (((ji6)).toNat * 9)).block, (ad224.add (((ji6)).toNat * 9)).off + 8, none⟩ = some (.int .i64 ((rd_T28 l0 (ji6)).f2.f5))) (ds := []) #[false, false, false, false, false, false, false] (by kernel_rfl) rfl rfl (c9 BK223.out ⟨hx224_0, hx224_1, hx224_2, hx224_3, hx224_4, hx224_5, hx224_6, hx224_7, hx224_8⟩) (fun hHeld => ?_)
 generalize wr.drew = w11 at HO_0 BK223 HK HB hx224_0 hx224_1 hx224_2 hx224_3 hx224_4 hx224_5 hx224_6 hx224_7 hx224_8 hHeld ⊢
 refine pure_ (i := 0) (N := some 17) (v := ?_) (a' := ?_) #[true, false, false, false, false, false, false] rfl rfl (by kernel_rfl) (fun _ _ _ h => h) (Or.inl ⟨by rfl, ?_⟩) ?_ ?_
 rotate_left
 ·(
 intro w'
 go_simp
 with_reducible rfl)
 rotate_left
 ·(
 simp only [Act.put, List.setIfInBounds_toArray, List.set_cons_zero, List.set_cons_succ, i64_w, i32_w]
 rfl)
 refine pure_ (i := 1) (N := some 18) (v := ?_) (a' := ?_) #[true, true, false, false, false, false, false] rfl rfl (by kernel_rfl) (fun _ _ _ h => h) (Or.inl ⟨by rfl, ?_⟩) ?_ ?_
 rotate_left
 ·(
 intro w'
 go_simp
 with_reducible rfl)
 rotate_left
 ·(
 simp only [Act.put, List.setIfInBounds_toArray, List.set_cons_zero, List.set_cons_succ, i64_w, i32_w]
 rfl)
 refine pure_ (i := 2) (N := some 19) (v := ?_) (a' := ?_) #[true, true, true, false, false, false, false] rfl rfl (by kernel_rfl) (fun _ _ _ h => h) (Or.inl ⟨by rfl, ?_⟩) ?_ ?_
 rotate_left
 ·(
 intro w'
 go_simp
 with_reducible rfl)
 rotate_left
 ·(
 simp only [Act.put, List.setIfInBounds_toArray, List.set_cons_zero, List.set_cons_succ, i64_w, i32_w]
 rfl)
 refine take_ (i := 3) (N := some 20) (v := ?_) (a' := ?_) (bm 7 15) rfl rfl (by kernel_rfl) (fun _ _ _ h => h) (Or.inl ⟨by rfl, ?_⟩) hHeld ?_ ?_
 rotate_left
 ·(
 rintro w' ⟨s0, s1, s2, s3, s4, s5, s6, s7, s8, s9, s10, s11, s12, s13, s14, s15, s16, s17⟩
 go_simp
 with_reducible rfl)
 rotate_left
 ·(
 simp only [Act.put, List.setIfInBounds_toArray, List.set_cons_zero, List.set_cons_succ, i64_w, i32_w]
 rfl)
 refine take_ (i := 4) (N := some 21) (v := ?_) (a' := ?_) (bm 7 31) rfl rfl (by kernel_rfl) (fun _ _ _ h => h) (Or.inl ⟨by rfl, ?_⟩) hHeld ?_ ?_
 rotate_left
 ·(
 rintro w' ⟨s0, s1, s2, s3, s4, s5, s6, s7, s8, s9, s10, s11, s12, s13, s14, s15, s16, s17⟩
 go_simp
 with_reducible rfl)
 rotate_left
 ·(
 simp only [Act.put, List.setIfInBounds_toArray, List.set_cons_zero, List.set_cons_succ, i64_w, i32_w]
 rfl)
 refine one_ (i := 5) (N := some 22) (bm 7 63) rfl rfl (by kernel_rfl) (by decide) (fun K hK => ?_)
 refine goes_ Try.func29 (by kernel_rfl) rfl #[.agg #[.int .i64 ((rd_T28 l0 (ji6)).f0), .int .i64 ((rd_T28 l0 (ji6)).f1), .int .i64 ((rd_T28 l0 (ji6)).f2.f0), .int .i64 ((rd_T28 l0 (ji6)).f2.f1), .int .i64 ((rd_T28 l0 (ji6)).f2.f2), .int .i64 ((rd_T28 l0 (ji6)).f2.f3.f0), .int .i64 ((rd_T28 l0 (ji6)).f2.f3.f1), .int .i64 ((rd_T28 l0 (ji6)).f2.f4), .int .i64 ((rd_T28 l0 (ji6)).f2.f5)], .agg #[.int .i64 a1_0, .int .i64 a1_1, .int .i64 a1_2, .int .i64 a1_3, .int .i64 a1_4, .int .i64 a1_5, .int .i64 a1_6, .int .i64 a1_7, .int .i64 a1_8]] (by first | rfl | (refine wanted_on rfl rfl rfl ?_; first | assumption | (simp [*]; done))) rfl rfl (by (try simp only [List.map_toArray, List.map_cons, List.map_nil]); first | done | (simp only [hji6]; rfl) | rfl | (simp only [List.length_drop, List.length_take]; rfl)) ?_
 with_reducible refine (determinant_Compare.calls k1 ((rd_T28 l0 (ji6)).f0) ((rd_T28 l0 (ji6)).f1) ((rd_T28 l0 (ji6)).f2.f0) ((rd_T28 l0 (ji6)).f2.f1) ((rd_T28 l0 (ji6)).f2.f2) ((rd_T28 l0 (ji6)).f2.f3.f0) ((rd_T28 l0 (ji6)).f2.f3.f1) ((rd_T28 l0 (ji6)).f2.f4) ((rd_T28 l0 (ji6)).f2.f5) a1_0 a1_1 a1_2 a1_3 a1_4 a1_5 a1_6 a1_7 a1_8 t225 _ A9.out).mono ?_
 rintro e w12 ⟨rfl, hb⟩
 have HS9_ := (hb.cell (World.block_lt_of_cell? _ _ (hHeld.2.2.2.2.2.2.2.2.2.1))).trans (hHeld.2.2.2.2.2.2.2.2.2.1)
 have HS10_ := (hb.cell (World.block_lt_of_cell? _ _ (hHeld.2.2.2.2.2.2.2.2.2.2.1))).trans (hHeld.2.2.2.2.2.2.2.2.2.2.1)
 have HS11_ := (hb.cell (World.block_lt_of_cell? _ _ (hHeld.2.2.2.2.2.2.2.2.2.2.2.1))).trans (hHeld.2.2.2.2.2.2.2.2.2.2.2.1)
 have HS12_ := (hb.cell (World.block_lt_of_cell? _ _ (hHeld.2.2.2.2.2.2.2.2.2.2.2.2.1))).trans (hHeld.2.2.2.2.2.2.2.2.2.2.2.2.1)
 have HS13_ := (hb.cell (World.block_lt_of_cell? _ _ (hHeld.2.2.2.2.2.2.2.2.2.2.2.2.2.1))).trans (hHeld.2.2.2.2.2.2.2.2.2.2.2.2.2.1)
 have HS14_ := (hb.cell (World.block_lt_of_cell? _ _ (hHeld.2.2.2.2.2.2.2.2.2.2.2.2.2.2.1))).trans (hHeld.2.2.2.2.2.2.2.2.2.2.2.2.2.2.1)
 have HS15_ := (hb.cell (World.block_lt_of_cell? _ _ (hHeld.2.2.2.2.2.2.2.2.2.2.2.2.2.2.2.1))).trans (hHeld.2.2.2.2.2.2.2.2.2.2.2.2.2.2.2.1)
 have HS16_ := (hb.cell (World.block_lt_of_cell? _ _ (hHeld.2.2.2.2.2.2.2.2.2.2.2.2.2.2.2.2.1))).trans (hHeld.2.2.2.2.2.2.2.2.2.2.2.2.2.2.2.2.1)
 have HS17_ := (hb.cell (World.block_lt_of_cell? _ _ (hHeld.2.2.2.2.2.2.2.2.2.2.2.2.2.2.2.2.2))).trans (hHeld.2.2.2.2.2.2.2.2.2.2.2.2.2.2.2.2.2)
 refine ⟨_, rfl, ?_⟩
 have n0_ := Aside0.mk (Kd.R_below (rq HO_0.out) hb)
 have n1_ := Aside0.mk (bb BK223.out hb)
 have n2_ := Aside0.mk (Kept.below (S := (fun k_ => P0_ k_)) (by repeat (first | (with_reducible first | exact HK.out | apply Kept.alloc | apply Kept.drewN | apply Kept.drew | refine Kept.setCell ?_ (.inr GW223.out) _) | exact HK.out)) hb)
 have n3_ := Aside0.mk (below_step (bq1 HB.out GE223.out) hb)
 clear HO_0
 clear BK223
 clear HK
 clear HB
 have HO_0 := n0_
 have BK223 := n1_
 have HK := n2_
 have HB := n3_
 clear n0_ n1_ n2_ n3_
 (try clear hb)
 (try clear hb2)
 (try clear hk)
 (try clear hi)
 refine hK.out _ _ (c9 BK223.out ⟨HS9_, HS10_, HS11_, HS12_, HS13_, HS14_, HS15_, HS16_, HS17_⟩) (fun hHeld => ?_)
 clear hK K
 refine nrm 22 ?_
 refine pure_ (i := 6) (N := some 23) (v := ?_) (a' := ?_) #[true, true, true, true, true, true, true] rfl rfl (by kernel_rfl) (fun _ _ _ h => h) (Or.inl ⟨by rfl, ?_⟩) ?_ ?_
 rotate_left
 ·(
 intro w'
 go_simp
 with_reducible rfl)
 rotate_left
 ·(
 simp only [Act.put, List.setIfInBounds_toArray, List.set_cons_zero, List.set_cons_succ, i64_w, i32_w]
 rfl)
 refine done_ (by kernel_rfl) ?_
 try go_wp2
 go_roundg k1
 case measure => have := HK1.out; omega
 case rel => exact ⟨(wrap64 ((ji6) + 1)), (x6_1), (by first | rfl | (simp; done) | (simp only [← hji6] <;> (first | rfl | simp)) | (simp [*]; done)), (by first | rfl | (simp; done) | (simp [*]; done)), H', ⟨by have := HK1.out; omega⟩, ⟨rq HO_0.out⟩, ⟨kq BK223.out⟩, ⟨by repeat (first | (with_reducible first | exact HK.out | apply Kept.alloc | apply Kept.drewN | apply Kept.drew | refine Kept.setCell ?_ (.inr GW223.out) _) | exact HK.out)⟩, ⟨bq1 HB.out GE223.out⟩⟩)
 ·(
 rw [if_neg c10] at H
 have c10b0 : decide (t225 < 0) = false := decide_eq_false c10
 clear c10
 have H' := Aside0.mk H
 clear H
 try go_wp2
 have n0_ := Aside0.mk (Kd.R_drew HO_0.out)
 have n1_ := Aside0.mk (blk_drew BK223.out)
 have n2_ := Aside0.mk (Kept.drew HK.out)
 have n3_ := Aside0.mk (below_drew1 HB.out)
 clear HO_0
 clear BK223
 clear HK
 clear HB
 have HO_0 := n0_
 have BK223 := n1_
 have HK := n2_
 have HB := n3_
 clear n0_ n1_ n2_ n3_
 have p224 : 0 ≤ ((ji6) : Int) := of_decide_eq_true (by first | (with_reducible assumption) | assumption)
 have q224 : (ji6) < (l0.length : Int) := of_decide_eq_true (by first | (with_reducible assumption) | assumption)
 obtain ⟨ad224, e224, hx224_0, hx224_1, hx224_2, hx224_3, hx224_4, hx224_5, hx224_6, hx224_7, hx224_8⟩ := at_T28 (Kd.R_reads' HO_0.out).2.2 (ji6) p224 q224
 cases e224
 replace p224 := eq_true p224
 replace q224 := eq_true q224
 refine start_ (n := 7) (S := fun w' => w'.cell? ⟨gb223, 0, none⟩ = some (.int .i64 a1_0) ∧ w'.cell? ⟨gb223, 1, none⟩ = some (.int .i64 a1_1) ∧ w'.cell? ⟨gb223, 2, none⟩ = some (.int .i64 a1_2) ∧ w'.cell? ⟨gb223, 3, none⟩ = some (.int .i64 a1_3) ∧ w'.cell? ⟨gb223, 4, none⟩ = some (.int .i64 a1_4) ∧ w'.cell? ⟨gb223, 5, none⟩ = some (.int .i64 a1_5) ∧ w'.cell? ⟨gb223, 6, none⟩ = some (.int .i64 a1_6) ∧ w'.cell? ⟨gb223, 7, none⟩ = some (.int .i64 a1_7) ∧ w'.cell? ⟨gb223, 8, none⟩ = some (.int .i64 a1_8) ∧ w'.cell? (ad224.add (((ji6)).toNat * 9)) = some (.int .i64 ((rd_T28 l0 (ji6)).f0)) ∧ w'.cell? ⟨(ad224.add (((ji6)).toNat * 9)).block, (ad224.add (((ji6)).toNat * 9)).off + 1, none⟩ = some (.int .i64 ((rd_T28 l0 (ji6)).f1)) ∧ w'.cell? ⟨(ad224.add (((ji6)).toNat * 9)).block, (ad224.add (((ji6)).toNat * 9)).off + 2, none⟩ = some (.int .i64 ((rd_T28 l0 (ji6)).f2.f0)) ∧ w'.cell? ⟨(ad224.add (((ji6)).toNat * 9)).block, (ad224.add (((ji6)).toNat * 9)).off + 3, none⟩ = some (.int .i64 ((rd_T28 l0 (ji6)).f2.f1)) ∧ w'.cell? ⟨(ad224.add (((ji6)).toNat * 9)).block, (ad224.add (((ji6)).toNat * 9)).off + 4, none⟩ = some (.int .i64 ((rd_T28 l0 (ji6)).f2.f2)) ∧ w'.cell? ⟨(ad224.add (((ji6)).toNat * 9)).block, (ad224.add (((ji6)).toNat * 9)).off + 5, none⟩ = some (.int .i64 ((rd_T28 l0 (ji6)).f2.f3.f0)) ∧ w'.cell? ⟨(ad224.add (((ji6)).toNat * 9)).block, (ad224.add (((ji6)).toNat * 9)).off + 6, none⟩ = some (.int .i64 ((rd_T28 l0 (ji6)).f2.f3.f1)) ∧ w'.cell? ⟨(ad224.add (((ji6)).toNat * 9)).block, (ad224.add (((ji6)).toNat * 9)).off + 7, none⟩ = some (.int .i64 ((rd_T28 l0 (ji6)).f2.f4)) ∧ w'.cell? ⟨(ad224.add (((ji6)).toNat * 9)).block, (ad224.add (((ji6)).toNat * 9)).off + 8, none⟩ = some (.int .i64 ((rd_T28 l0 (ji6)).f2.f5))) (ds := []) #[false, false, false, false, false, false, false] (by kernel_rfl) rfl rfl (c9 BK223.out ⟨hx224_0, hx224_1, hx224_2, hx224_3, hx224_4, hx224_5, hx224_6, hx224_7, hx224_8⟩) (fun hHeld => ?_)
 generalize wr.drew = w13 at HO_0 BK223 HK HB hx224_0 hx224_1 hx224_2 hx224_3 hx224_4 hx224_5 hx224_6 hx224_7 hx224_8 hHeld ⊢
 refine pure_ (i := 0) (N := some 17) (v := ?_) (a' := ?_) #[true, false, false, false, false, false, false] rfl rfl (by kernel_rfl) (fun _ _ _ h => h) (Or.inl ⟨by rfl, ?_⟩) ?_ ?_
 rotate_left
 ·(
 intro w'
 go_simp
 with_reducible rfl)
 rotate_left
 ·(
 simp only [Act.put, List.setIfInBounds_toArray, List.set_cons_zero, List.set_cons_succ, i64_w, i32_w]
 rfl)
 refine pure_ (i := 1) (N := some 18) (v := ?_) (a' := ?_) #[true, true, false, false, false, false, false] rfl rfl (by kernel_rfl) (fun _ _ _ h => h) (Or.inl ⟨by rfl, ?_⟩) ?_ ?_
 rotate_left
 ·(
 intro w'
 go_simp
 with_reducible rfl)
 rotate_left
 ·(
 simp only [Act.put, List.setIfInBounds_toArray, List.set_cons_zero, List.set_cons_succ, i64_w, i32_w]
 rfl)
 refine pure_ (i := 2) (N := some 19) (v := ?_) (a' := ?_) #[true, true, true, false, false, false, false] rfl rfl (by kernel_rfl) (fun _ _ _ h => h) (Or.inl ⟨by rfl, ?_⟩) ?_ ?_
 rotate_left
 ·(
 intro w'
 go_simp
 with_reducible rfl)
 rotate_left
 ·(
 simp only [Act.put, List.setIfInBounds_toArray, List.set_cons_zero, List.set_cons_succ, i64_w, i32_w]
 rfl)
 refine take_ (i := 3) (N := some 20) (v := ?_) (a' := ?_) (bm 7 15) rfl rfl (by kernel_rfl) (fun _ _ _ h => h) (Or.inl ⟨by rfl, ?_⟩) hHeld ?_ ?_
 rotate_left
 ·(
 rintro w' ⟨s0, s1, s2, s3, s4, s5, s6, s7, s8, s9, s10, s11, s12, s13, s14, s15, s16, s17⟩
 go_simp
 with_reducible rfl)
 rotate_left
 ·(
 simp only [Act.put, List.setIfInBounds_toArray, List.set_cons_zero, List.set_cons_succ, i64_w, i32_w]
 rfl)
 refine take_ (i := 4) (N := some 21) (v := ?_) (a' := ?_) (bm 7 31) rfl rfl (by kernel_rfl) (fun _ _ _ h => h) (Or.inl ⟨by rfl, ?_⟩) hHeld ?_ ?_
 rotate_left
 ·(
 rintro w' ⟨s0, s1, s2, s3, s4, s5, s6, s7, s8, s9, s10, s11, s12, s13, s14, s15, s16, s17⟩
 go_simp
 with_reducible rfl)
 rotate_left
 ·(
 simp only [Act.put, List.setIfInBounds_toArray, List.set_cons_zero, List.set_cons_succ, i64_w, i32_w]
 rfl)
 refine one_ (i := 5) (N := some 22) (bm 7 63) rfl rfl (by kernel_rfl) (by decide) (fun K hK => ?_)
 refine goes_ Try.func29 (by kernel_rfl) rfl #[.agg #[.int .i64 ((rd_T28 l0 (ji6)).f0), .int .i64 ((rd_T28 l0 (ji6)).f1), .int .i64 ((rd_T28 l0 (ji6)).f2.f0), .int .i64 ((rd_T28 l0 (ji6)).f2.f1), .int .i64 ((rd_T28 l0 (ji6)).f2.f2), .int .i64 ((rd_T28 l0 (ji6)).f2.f3.f0), .int .i64 ((rd_T28 l0 (ji6)).f2.f3.f1), .int .i64 ((rd_T28 l0 (ji6)).f2.f4), .int .i64 ((rd_T28 l0 (ji6)).f2.f5)], .agg #[.int .i64 a1_0, .int .i64 a1_1, .int .i64 a1_2, .int .i64 a1_3, .int .i64 a1_4, .int .i64 a1_5, .int .i64 a1_6, .int .i64 a1_7, .int .i64 a1_8]] (by first | rfl | (refine wanted_on rfl rfl rfl ?_; first | assumption | (simp [*]; done))) rfl rfl (by (try simp only [List.map_toArray, List.map_cons, List.map_nil]); first | done | (simp only [hji6]; rfl) | rfl | (simp only [List.length_drop, List.length_take]; rfl)) ?_
 with_reducible refine (determinant_Compare.calls k1 ((rd_T28 l0 (ji6)).f0) ((rd_T28 l0 (ji6)).f1) ((rd_T28 l0 (ji6)).f2.f0) ((rd_T28 l0 (ji6)).f2.f1) ((rd_T28 l0 (ji6)).f2.f2) ((rd_T28 l0 (ji6)).f2.f3.f0) ((rd_T28 l0 (ji6)).f2.f3.f1) ((rd_T28 l0 (ji6)).f2.f4) ((rd_T28 l0 (ji6)).f2.f5) a1_0 a1_1 a1_2 a1_3 a1_4 a1_5 a1_6 a1_7 a1_8 t225 _ A9.out).mono ?_
 rintro e w14 ⟨rfl, hb⟩
 have HS9_ := (hb.cell (World.block_lt_of_cell? _ _ (hHeld.2.2.2.2.2.2.2.2.2.1))).trans (hHeld.2.2.2.2.2.2.2.2.2.1)
 have HS10_ := (hb.cell (World.block_lt_of_cell? _ _ (hHeld.2.2.2.2.2.2.2.2.2.2.1))).trans (hHeld.2.2.2.2.2.2.2.2.2.2.1)
 have HS11_ := (hb.cell (World.block_lt_of_cell? _ _ (hHeld.2.2.2.2.2.2.2.2.2.2.2.1))).trans (hHeld.2.2.2.2.2.2.2.2.2.2.2.1)
 have HS12_ := (hb.cell (World.block_lt_of_cell? _ _ (hHeld.2.2.2.2.2.2.2.2.2.2.2.2.1))).trans (hHeld.2.2.2.2.2.2.2.2.2.2.2.2.1)
 have HS13_ := (hb.cell (World.block_lt_of_cell? _ _ (hHeld.2.2.2.2.2.2.2.2.2.2.2.2.2.1))).trans (hHeld.2.2.2.2.2.2.2.2.2.2.2.2.2.1)
 have HS14_ := (hb.cell (World.block_lt_of_cell? _ _ (hHeld.2.2.2.2.2.2.2.2.2.2.2.2.2.2.1))).trans (hHeld.2.2.2.2.2.2.2.2.2.2.2.2.2.2.1)
 have HS15_ := (hb.cell (World.block_lt_of_cell? _ _ (hHeld.2.2.2.2.2.2.2.2.2.2.2.2.2.2.2.1))).trans (hHeld.2.2.2.2.2.2.2.2.2.2.2.2.2.2.2.1)
 have HS16_ := (hb.cell (World.block_lt_of_cell? _ _ (hHeld.2.2.2.2.2.2.2.2.2.2.2.2.2.2.2.2.1))).trans (hHeld.2.2.2.2.2.2.2.2.2.2.2.2.2.2.2.2.1)
 have HS17_ := (hb.cell (World.block_lt_of_cell? _ _ (hHeld.2.2.2.2.2.2.2.2.2.2.2.2.2.2.2.2.2))).trans (hHeld.2.2.2.2.2.2.2.2.2.2.2.2.2.2.2.2.2)
 refine ⟨_, rfl, ?_⟩
 have n0_ := Aside0.mk (Kd.R_below (rq HO_0.out) hb)
 have n1_ := Aside0.mk (bb BK223.out hb)
 have n2_ := Aside0.mk (Kept.below (S := (fun k_ => P0_ k_)) (by repeat (first | (with_reducible first | exact HK.out | apply Kept.alloc | apply Kept.drewN | apply Kept.drew | refine Kept.setCell ?_ (.inr GW223.out) _) | exact HK.out)) hb)
 have n3_ := Aside0.mk (below_step (bq1 HB.out GE223.out) hb)
 clear HO_0
 clear BK223
 clear HK
 clear HB
 have HO_0 := n0_
 have BK223 := n1_
 have HK := n2_
 have HB := n3_
 clear n0_ n1_ n2_ n3_
 (try clear hb)
 (try clear hb2)
 (try clear hk)
 (try clear hi)
 refine hK.out _ _ (c9 BK223.out ⟨HS9_, HS10_, HS11_, HS12_, HS13_, HS14_, HS15_, HS16_, HS17_⟩) (fun hHeld => ?_)
 clear hK K
 refine nrm 22 ?_
 refine pure_ (i := 6) (N := some 23) (v := ?_) (a' := ?_) #[true, true, true, true, true, true, true] rfl rfl (by kernel_rfl) (fun _ _ _ h => h) (Or.inl ⟨by rfl, ?_⟩) ?_ ?_
 rotate_left
 ·(
 intro w'
 go_simp
 with_reducible rfl)
 rotate_left
 ·(
 simp only [Act.put, List.setIfInBounds_toArray, List.set_cons_zero, List.set_cons_succ, i64_w, i32_w]
 rfl)
 refine done_ (by kernel_rfl) ?_
 try go_wp2
 go_roundg k1
 case measure => have := HK1.out; omega
 case rel => exact ⟨(x5_1), (ji6), (by first | rfl | (simp; done) | (simp [*]; done)), (by first | rfl | (simp; done) | (simp only [← hji6] <;> (first | rfl | simp)) | (simp [*]; done)), H', ⟨by have := HK1.out; omega⟩, ⟨rq HO_0.out⟩, ⟨kq BK223.out⟩, ⟨by repeat (first | (with_reducible first | exact HK.out | apply Kept.alloc | apply Kept.drewN | apply Kept.drew | refine Kept.setCell ?_ (.inr GW223.out) _) | exact HK.out)⟩, ⟨bq1 HB.out GE223.out⟩⟩))
 ·(
 rw [if_neg c8] at H
 exact absurd H (by simp)))
 ·(
 rw [if_neg c7] at H
 exact absurd H (by simp)))
 ·(
 rw [if_neg c5] at H
 have c5b0 : decide (x5_1 < x6_1) = false := decide_eq_false c5
 clear c5
 by_cases c15 : x5_1 < (l0.length : Int)
 ·(
 rw [if_pos c15] at H
 have c15b0 : decide (x5_1 < (l0.length : Int)) = true := decide_eq_true c15
 clear c15
 by_cases c16 : 0 ≤ x5_1
 ·(
 rw [if_pos c16] at H
 have c16b0 : decide (0 ≤ x5_1) = true := decide_eq_true c16
 clear c16
 by_cases c17 : (((rd_T28 l0 x5_1).f0) == a1_0 && (((rd_T28 l0 x5_1).f1) == a1_1 && ((((rd_T28 l0 x5_1).f2.f0) == a1_2 && (((rd_T28 l0 x5_1).f2.f1) == a1_3 && (((rd_T28 l0 x5_1).f2.f2) == a1_4 && ((((rd_T28 l0 x5_1).f2.f3.f0) == a1_5 && (((rd_T28 l0 x5_1).f2.f3.f1) == a1_6)) && (((rd_T28 l0 x5_1).f2.f4) == a1_7 && (((rd_T28 l0 x5_1).f2.f5) == a1_8))))))))) = true
 ·(
 rw [if_pos c17] at H
 have c17b0 : (((rd_T28 l0 x5_1).f0) == a1_0 && (((rd_T28 l0 x5_1).f1) == a1_1 && ((((rd_T28 l0 x5_1).f2.f0) == a1_2 && (((rd_T28 l0 x5_1).f2.f1) == a1_3 && (((rd_T28 l0 x5_1).f2.f2) == a1_4 && ((((rd_T28 l0 x5_1).f2.f3.f0) == a1_5 && (((rd_T28 l0 x5_1).f2.f3.f1) == a1_6)) && (((rd_T28 l0 x5_1).f2.f4) == a1_7 && (((rd_T28 l0 x5_1).f2.f5) == a1_8))))))))) = true := c17
 (try (have c17b1 : decide (((rd_T28 l0 x5_1).f0) = a1_0 && (((rd_T28 l0 x5_1).f1) == a1_1 && ((((rd_T28 l0 x5_1).f2.f0) == a1_2 && (((rd_T28 l0 x5_1).f2.f1) == a1_3 && (((rd_T28 l0 x5_1).f2.f2) == a1_4 && ((((rd_T28 l0 x5_1).f2.f3.f0) == a1_5 && (((rd_T28 l0 x5_1).f2.f3.f1) == a1_6)) && (((rd_T28 l0 x5_1).f2.f4) == a1_7 && (((rd_T28 l0 x5_1).f2.f5) == a1_8))))))))) = true := by simpa using c17))
 (try (have c17b2 : (((rd_T28 l0 x5_1).f0) == a1_0 && (((rd_T28 l0 x5_1).f1) == a1_1 && ((((rd_T28 l0 x5_1).f2.f0) == a1_2 && (((rd_T28 l0 x5_1).f2.f1) == a1_3 && (((rd_T28 l0 x5_1).f2.f2) == a1_4 && ((((rd_T28 l0 x5_1).f2.f3.f0) == a1_5 && (((rd_T28 l0 x5_1).f2.f3.f1) == a1_6)) && (((rd_T28 l0 x5_1).f2.f4) == a1_7 && (((rd_T28 l0 x5_1).f2.f5) == a1_8))))))))) = true := by simpa using c17))
 clear c17
 obtain rfl := Option.some.inj H
 try go_wp2
 have n0_ := Aside0.mk (Kd.R_drew HO_0.out)
 have n1_ := Aside0.mk (blk_drew BK223.out)
 have n2_ := Aside0.mk (Kept.drew HK.out)
 have n3_ := Aside0.mk (below_drew1 HB.out)
 clear HO_0
 clear BK223
 clear HK
 clear HB
 have HO_0 := n0_
 have BK223 := n1_
 have HK := n2_
 have HB := n3_
 clear n0_ n1_ n2_ n3_
 have p226 : 0 ≤ (x5_1 : Int) := of_decide_eq_true (by first | (with_reducible assumption) | assumption)
 have q226 : x5_1 < (l0.length : Int) := of_decide_eq_true (by first | (with_reducible assumption) | assumption)
 obtain ⟨ad226, e226, hx226_0, hx226_1, hx226_2, hx226_3, hx226_4, hx226_5, hx226_6, hx226_7, hx226_8⟩ := at_T28 (Kd.R_reads' HO_0.out).2.2 x5_1 p226 q226
 cases e226
 replace p226 := eq_true p226
 replace q226 := eq_true q226
 refine start_ (n := 12) (S := fun w' => w'.cell? ⟨gb223, 0, none⟩ = some (.int .i64 a1_0) ∧ w'.cell? ⟨gb223, 1, none⟩ = some (.int .i64 a1_1) ∧ w'.cell? ⟨gb223, 2, none⟩ = some (.int .i64 a1_2) ∧ w'.cell? ⟨gb223, 3, none⟩ = some (.int .i64 a1_3) ∧ w'.cell? ⟨gb223, 4, none⟩ = some (.int .i64 a1_4) ∧ w'.cell? ⟨gb223, 5, none⟩ = some (.int .i64 a1_5) ∧ w'.cell? ⟨gb223, 6, none⟩ = some (.int .i64 a1_6) ∧ w'.cell? ⟨gb223, 7, none⟩ = some (.int .i64 a1_7) ∧ w'.cell? ⟨gb223, 8, none⟩ = some (.int .i64 a1_8) ∧ w'.cell? (ad226.add ((x5_1).toNat * 9)) = some (.int .i64 ((rd_T28 l0 x5_1).f0)) ∧ w'.cell? ⟨(ad226.add ((x5_1).toNat * 9)).block, (ad226.add ((x5_1).toNat * 9)).off + 1, none⟩ = some (.int .i64 ((rd_T28 l0 x5_1).f1)) ∧ w'.cell? ⟨(ad226.add ((x5_1).toNat * 9)).block, (ad226.add ((x5_1).toNat * 9)).off + 2, none⟩ = some (.int .i64 ((rd_T28 l0 x5_1).f2.f0)) ∧ w'.cell? ⟨(ad226.add ((x5_1).toNat * 9)).block, (ad226.add ((x5_1).toNat * 9)).off + 3, none⟩ = some (.int .i64 ((rd_T28 l0 x5_1).f2.f1)) ∧ w'.cell? ⟨(ad226.add ((x5_1).toNat * 9)).block, (ad226.add ((x5_1).toNat * 9)).off + 4, none⟩ = some (.int .i64 ((rd_T28 l0 x5_1).f2.f2)) ∧ w'.cell? ⟨(ad226.add ((x5_1).toNat * 9)).block, (ad226.add ((x5_1).toNat * 9)).off + 5, none⟩ = some (.int .i64 ((rd_T28 l0 x5_1).f2.f3.f0)) ∧ w'.cell? ⟨(ad226.add ((x5_1).toNat * 9)).block, (ad226.add ((x5_1).toNat * 9)).off + 6, none⟩ = some (.int .i64 ((rd_T28 l0 x5_1).f2.f3.f1)) ∧ w'.cell? ⟨(ad226.add ((x5_1).toNat * 9)).block, (ad226.add ((x5_1).toNat * 9)).off + 7, none⟩ = some (.int .i64 ((rd_T28 l0 x5_1).f2.f4)) ∧ w'.cell? ⟨(ad226.add ((x5_1).toNat * 9)).block, (ad226.add ((x5_1).toNat * 9)).off + 8, none⟩ = some (.int .i64 ((rd_T28 l0 x5_1).f2.f5))) (ds := []) #[false, false, false, false, false, false, false, false, false, false, false, false] (by kernel_rfl) rfl rfl (c9 BK223.out ⟨hx226_0, hx226_1, hx226_2, hx226_3, hx226_4, hx226_5, hx226_6, hx226_7, hx226_8⟩) (fun hHeld => ?_); refine with_tabW determinant_insert.tab7 determinant_insert.bits7 (fun HT_ HW_ => ?_)
 generalize wr.drew = w18 at HO_0 BK223 HK HB hx226_0 hx226_1 hx226_2 hx226_3 hx226_4 hx226_5 hx226_6 hx226_7 hx226_8 hHeld ⊢
 refine pur HT_.out 0 (some 27) (bm 12 1) ?_
 refine pur HT_.out 1 (some 28) (bm 12 3) ?_
 refine pur HT_.out 2 (some 29) (bm 12 7) ?_
 refine pur HT_.out 3 (some 30) (bm 12 15) ?_
 refine pur HT_.out 4 (some 31) (bm 12 31) ?_
 refine pur HT_.out 5 (some 32) (bm 12 63) ?_
 refine pur HT_.out 6 (some 33) (bm 12 127) ?_
 refine pur HT_.out 7 (some 34) (bm 12 255) ?_
 refine tak HT_.out HW_.out 8 (some 35) (bm 12 511) hHeld ?_
 refine tak HT_.out HW_.out 9 (some 36) (bm 12 1023) hHeld ?_
 refine pur HT_.out 10 (some 37) (bm 12 2047) ?_
 refine pur HT_.out 11 (some 38) (bm 12 4095) ?_
 refine done_ (done_of HT_.out (by kernel_rfl)) ?_
 try go_wp2
 go_ret
 exact ⟨_, by first | rfl | (simp [errW_none, errW_some] <;> rfl) | (simp [*, errW_none, errW_some] <;> rfl), by (with_reducible repeat (first | apply Kd.R_alloc | apply Kd.R_drewN | apply Kd.R_drew)); exact Kd.R_mono HO_0.out (fun _ hk => hk.1), bq1 HB.out GE223.out, by repeat (first | (with_reducible first | exact HK.out | apply Kept.alloc | apply Kept.drewN | apply Kept.drew | refine Kept.setCell ?_ (.inr GW223.out) _) | exact HK.out)⟩)
 ·(
 rw [if_neg c17] at H
 have c17b0 : (((rd_T28 l0 x5_1).f0) == a1_0 && (((rd_T28 l0 x5_1).f1) == a1_1 && ((((rd_T28 l0 x5_1).f2.f0) == a1_2 && (((rd_T28 l0 x5_1).f2.f1) == a1_3 && (((rd_T28 l0 x5_1).f2.f2) == a1_4 && ((((rd_T28 l0 x5_1).f2.f3.f0) == a1_5 && (((rd_T28 l0 x5_1).f2.f3.f1) == a1_6)) && (((rd_T28 l0 x5_1).f2.f4) == a1_7 && (((rd_T28 l0 x5_1).f2.f5) == a1_8))))))))) = false := by simpa using c17
 (try (have c17b1 : decide (((rd_T28 l0 x5_1).f0) = a1_0 && (((rd_T28 l0 x5_1).f1) == a1_1 && ((((rd_T28 l0 x5_1).f2.f0) == a1_2 && (((rd_T28 l0 x5_1).f2.f1) == a1_3 && (((rd_T28 l0 x5_1).f2.f2) == a1_4 && ((((rd_T28 l0 x5_1).f2.f3.f0) == a1_5 && (((rd_T28 l0 x5_1).f2.f3.f1) == a1_6)) && (((rd_T28 l0 x5_1).f2.f4) == a1_7 && (((rd_T28 l0 x5_1).f2.f5) == a1_8))))))))) = false := by simpa using c17))
 (try (have c17b2 : (((rd_T28 l0 x5_1).f0) == a1_0 && (((rd_T28 l0 x5_1).f1) == a1_1 && ((((rd_T28 l0 x5_1).f2.f0) == a1_2 && (((rd_T28 l0 x5_1).f2.f1) == a1_3 && (((rd_T28 l0 x5_1).f2.f2) == a1_4 && ((((rd_T28 l0 x5_1).f2.f3.f0) == a1_5 && (((rd_T28 l0 x5_1).f2.f3.f1) == a1_6)) && (((rd_T28 l0 x5_1).f2.f4) == a1_7 && (((rd_T28 l0 x5_1).f2.f5) == a1_8))))))))) = false := by simpa using c17))
 (try (have c17b3 : ¬ (((rd_T28 l0 x5_1).f0) = a1_0 && (((rd_T28 l0 x5_1).f1) == a1_1 && ((((rd_T28 l0 x5_1).f2.f0) == a1_2 && (((rd_T28 l0 x5_1).f2.f1) == a1_3 && (((rd_T28 l0 x5_1).f2.f2) == a1_4 && ((((rd_T28 l0 x5_1).f2.f3.f0) == a1_5 && (((rd_T28 l0 x5_1).f2.f3.f1) == a1_6)) && (((rd_T28 l0 x5_1).f2.f4) == a1_7 && (((rd_T28 l0 x5_1).f2.f5) == a1_8))))))))) := by simpa using c17))
 clear c17
 by_cases c19 : l0.length < 1954687338268
 ·(
 rw [if_pos c19] at H
 have LMc19 := Aside0.mk c19
 clear c19
 obtain ⟨y227, hy227⟩ : ∃ y_ : List (S28), y_ = (l0 ++ [(⟨0, 0, (⟨0, 0, 0, (⟨0, 0⟩ : S24), 0, 0⟩ : S26)⟩ : S28)]) := ⟨_, rfl⟩
 replace H : (if 0 ≤ (wrap64 (x5_1 + 1)) then (if (wrap64 (x5_1 + 1)) ≤ (y227.length : Int) then (if x5_1 ≤ (y227.length : Int) then (if x5_1 < (y227.length : Int) then (some ((shiftAt y227 (x5_1 : Int).toNat).set (x5_1 : Int).toNat (⟨a1_0, a1_1, (⟨a1_2, a1_3, a1_4, (⟨a1_5, a1_6⟩ : S24), a1_7, a1_8⟩ : S26)⟩ : S28))) else (none)) else (none)) else (none)) else (none)) = some r := by first | (rw [hy227]; with_reducible exact H) | (have H2_ := (Option.bind_some _ _).symm.trans H; rw [hy227]; with_reducible exact H2_) | (have H2_ := (Option.bind_some _ _).symm.trans H; with_reducible exact H2_) | with_reducible exact H | (rw [hy227]; exact H) | exact H
 have Ny227 := Aside0.mk hy227
 clear hy227
 obtain ⟨ji20, hji20⟩ : ∃ j_ : Int, (wrap64 (x5_1 + 1)) = j_ := ⟨_, rfl⟩
 replace H : (if 0 ≤ (ji20) then (if (ji20) ≤ (y227.length : Int) then (if x5_1 ≤ (y227.length : Int) then (if x5_1 < (y227.length : Int) then (some ((shiftAt y227 (x5_1 : Int).toNat).set (x5_1 : Int).toNat (⟨a1_0, a1_1, (⟨a1_2, a1_3, a1_4, (⟨a1_5, a1_6⟩ : S24), a1_7, a1_8⟩ : S26)⟩ : S28))) else (none)) else (none)) else (none)) else (none)) = some r := by first | (rw [hji20] at H; exact H) | (simp only [hji20] at H ⊢; exact H)
 have hji20w : (IntKind.i64.wrap (x5_1 + 1)) = ji20 := (i64_w _).trans hji20
 by_cases c21 : 0 ≤ (ji20)
 ·(
 rw [if_pos c21] at H
 have c21b0 := eq_true c21
 have c21b1 : decide (0 ≤ (ji20)) = true := decide_eq_true c21
 clear c21
 by_cases c22 : (ji20) ≤ (y227.length : Int)
 ·(
 rw [if_pos c22] at H
 have c22b0 := eq_true c22
 have c22b1 : decide ((ji20) ≤ (y227.length : Int)) = true := decide_eq_true c22
 clear c22
 obtain ⟨y230, hy230⟩ : ∃ y_ : List (S28), y_ = (y227.drop ((ji20) : Int).toNat) := ⟨_, rfl⟩
 replace H : (if x5_1 ≤ (y227.length : Int) then (if x5_1 < (y227.length : Int) then (some ((shiftAt y227 (x5_1 : Int).toNat).set (x5_1 : Int).toNat (⟨a1_0, a1_1, (⟨a1_2, a1_3, a1_4, (⟨a1_5, a1_6⟩ : S24), a1_7, a1_8⟩ : S26)⟩ : S28))) else (none)) else (none)) = some r := by first | (rw [hy230]; with_reducible exact H) | (have H2_ := (Option.bind_some _ _).symm.trans H; rw [hy230]; with_reducible exact H2_) | (have H2_ := (Option.bind_some _ _).symm.trans H; with_reducible exact H2_) | with_reducible exact H | (rw [hy230]; exact H) | exact H
 have Ny230 := Aside0.mk hy230
 clear hy230
 have c23b0 := eq_true (of_decide_eq_true (by first | (with_reducible assumption) | assumption) : 0 ≤ x5_1)
 by_cases c24 : x5_1 ≤ (y227.length : Int)
 ·(
 rw [if_pos c24] at H
 have c24b0 := eq_true c24
 have c24b1 : decide (x5_1 ≤ (y227.length : Int)) = true := decide_eq_true c24
 clear c24
 obtain ⟨y234, hy234⟩ : ∃ y_ : List (S28), y_ = (y227.drop (x5_1 : Int).toNat) := ⟨_, rfl⟩
 replace H : (if x5_1 < (y227.length : Int) then (some ((shiftAt y227 (x5_1 : Int).toNat).set (x5_1 : Int).toNat (⟨a1_0, a1_1, (⟨a1_2, a1_3, a1_4, (⟨a1_5, a1_6⟩ : S24), a1_7, a1_8⟩ : S26)⟩ : S28))) else (none)) = some r := by first | (rw [hy234]; with_reducible exact H) | (have H2_ := (Option.bind_some _ _).symm.trans H; rw [hy234]; with_reducible exact H2_) | (have H2_ := (Option.bind_some _ _).symm.trans H; with_reducible exact H2_) | with_reducible exact H | (rw [hy234]; exact H) | exact H
 have Ny234 := Aside0.mk hy234
 clear hy234
 obtain ⟨y238, hy238⟩ : ∃ y_ : List (S28), y_ = (shiftAt y227 (x5_1 : Int).toNat) := ⟨_, rfl⟩
 replace H : (if x5_1 < (y227.length : Int) then (some (y238.set (x5_1 : Int).toNat (⟨a1_0, a1_1, (⟨a1_2, a1_3, a1_4, (⟨a1_5, a1_6⟩ : S24), a1_7, a1_8⟩ : S26)⟩ : S28))) else (none)) = some r := by first | (rw [hy238]; with_reducible exact H) | (have H2_ := (Option.bind_some _ _).symm.trans H; rw [hy238]; with_reducible exact H2_) | (have H2_ := (Option.bind_some _ _).symm.trans H; with_reducible exact H2_) | with_reducible exact H | (rw [hy238]; exact H) | exact H
 have Ny238 := Aside0.mk hy238
 clear hy238
 by_cases c25 : x5_1 < (y227.length : Int)
 ·(
 rw [if_pos c25] at H
 have c25b0 : decide (x5_1 < (y227.length : Int)) = true := decide_eq_true c25
 clear c25
 obtain ⟨y239, hy239⟩ : ∃ y_ : List (S28), y_ = (y238.set (x5_1 : Int).toNat (⟨a1_0, a1_1, (⟨a1_2, a1_3, a1_4, (⟨a1_5, a1_6⟩ : S24), a1_7, a1_8⟩ : S26)⟩ : S28)) := ⟨_, rfl⟩
 replace H : (some y239) = some r := by first | (rw [hy239]; with_reducible exact H) | (have H2_ := (Option.bind_some _ _).symm.trans H; rw [hy239]; with_reducible exact H2_) | (have H2_ := (Option.bind_some _ _).symm.trans H; with_reducible exact H2_) | with_reducible exact H | (rw [hy239]; exact H) | exact H
 have Ny239 := Aside0.mk hy239
 clear hy239
 obtain rfl := Option.some.inj H
 try go_wp2
 have n0_ := Aside0.mk (Kd.R_drew HO_0.out)
 have n1_ := Aside0.mk (blk_drew BK223.out)
 have n2_ := Aside0.mk (Kept.drew HK.out)
 have n3_ := Aside0.mk (below_drew1 HB.out)
 clear HO_0
 clear BK223
 clear HK
 clear HB
 have HO_0 := n0_
 have BK223 := n1_
 have HK := n2_
 have HB := n3_
 clear n0_ n1_ n2_ n3_
 have p226 : 0 ≤ (x5_1 : Int) := of_decide_eq_true (by first | (with_reducible assumption) | assumption)
 have q226 : x5_1 < (l0.length : Int) := of_decide_eq_true (by first | (with_reducible assumption) | assumption)
 obtain ⟨ad226, e226, hx226_0, hx226_1, hx226_2, hx226_3, hx226_4, hx226_5, hx226_6, hx226_7, hx226_8⟩ := at_T28 (Kd.R_reads' HO_0.out).2.2 x5_1 p226 q226
 cases e226
 replace p226 := eq_true p226
 replace q226 := eq_true q226
 refine start_ (n := 12) (S := fun w' => w'.cell? ⟨gb223, 0, none⟩ = some (.int .i64 a1_0) ∧ w'.cell? ⟨gb223, 1, none⟩ = some (.int .i64 a1_1) ∧ w'.cell? ⟨gb223, 2, none⟩ = some (.int .i64 a1_2) ∧ w'.cell? ⟨gb223, 3, none⟩ = some (.int .i64 a1_3) ∧ w'.cell? ⟨gb223, 4, none⟩ = some (.int .i64 a1_4) ∧ w'.cell? ⟨gb223, 5, none⟩ = some (.int .i64 a1_5) ∧ w'.cell? ⟨gb223, 6, none⟩ = some (.int .i64 a1_6) ∧ w'.cell? ⟨gb223, 7, none⟩ = some (.int .i64 a1_7) ∧ w'.cell? ⟨gb223, 8, none⟩ = some (.int .i64 a1_8) ∧ w'.cell? (ad226.add ((x5_1).toNat * 9)) = some (.int .i64 ((rd_T28 l0 x5_1).f0)) ∧ w'.cell? ⟨(ad226.add ((x5_1).toNat * 9)).block, (ad226.add ((x5_1).toNat * 9)).off + 1, none⟩ = some (.int .i64 ((rd_T28 l0 x5_1).f1)) ∧ w'.cell? ⟨(ad226.add ((x5_1).toNat * 9)).block, (ad226.add ((x5_1).toNat * 9)).off + 2, none⟩ = some (.int .i64 ((rd_T28 l0 x5_1).f2.f0)) ∧ w'.cell? ⟨(ad226.add ((x5_1).toNat * 9)).block, (ad226.add ((x5_1).toNat * 9)).off + 3, none⟩ = some (.int .i64 ((rd_T28 l0 x5_1).f2.f1)) ∧ w'.cell? ⟨(ad226.add ((x5_1).toNat * 9)).block, (ad226.add ((x5_1).toNat * 9)).off + 4, none⟩ = some (.int .i64 ((rd_T28 l0 x5_1).f2.f2)) ∧ w'.cell? ⟨(ad226.add ((x5_1).toNat * 9)).block, (ad226.add ((x5_1).toNat * 9)).off + 5, none⟩ = some (.int .i64 ((rd_T28 l0 x5_1).f2.f3.f0)) ∧ w'.cell? ⟨(ad226.add ((x5_1).toNat * 9)).block, (ad226.add ((x5_1).toNat * 9)).off + 6, none⟩ = some (.int .i64 ((rd_T28 l0 x5_1).f2.f3.f1)) ∧ w'.cell? ⟨(ad226.add ((x5_1).toNat * 9)).block, (ad226.add ((x5_1).toNat * 9)).off + 7, none⟩ = some (.int .i64 ((rd_T28 l0 x5_1).f2.f4)) ∧ w'.cell? ⟨(ad226.add ((x5_1).toNat * 9)).block, (ad226.add ((x5_1).toNat * 9)).off + 8, none⟩ = some (.int .i64 ((rd_T28 l0 x5_1).f2.f5))) (ds := []) #[false, false, false, false, false, false, false, false, false, false, false, false] (by kernel_rfl) rfl rfl (c9 BK223.out ⟨hx226_0, hx226_1, hx226_2, hx226_3, hx226_4, hx226_5, hx226_6, hx226_7, hx226_8⟩) (fun hHeld => ?_); refine with_tabW determinant_insert.tab7 determinant_insert.bits7 (fun HT_ HW_ => ?_)
 generalize wr.drew = w27 at HO_0 BK223 HK HB hx226_0 hx226_1 hx226_2 hx226_3 hx226_4 hx226_5 hx226_6 hx226_7 hx226_8 hHeld ⊢
 refine pur HT_.out 0 (some 27) (bm 12 1) ?_
 refine pur HT_.out 1 (some 28) (bm 12 3) ?_
 refine pur HT_.out 2 (some 29) (bm 12 7) ?_
 refine pur HT_.out 3 (some 30) (bm 12 15) ?_
 refine pur HT_.out 4 (some 31) (bm 12 31) ?_
 refine pur HT_.out 5 (some 32) (bm 12 63) ?_
 refine pur HT_.out 6 (some 33) (bm 12 127) ?_
 refine pur HT_.out 7 (some 34) (bm 12 255) ?_
 refine tak HT_.out HW_.out 8 (some 35) (bm 12 511) hHeld ?_
 refine tak HT_.out HW_.out 9 (some 36) (bm 12 1023) hHeld ?_
 refine pur HT_.out 10 (some 37) (bm 12 2047) ?_
 refine pur HT_.out 11 (some 38) (bm 12 4095) ?_
 refine done_ (done_of HT_.out (by kernel_rfl)) ?_
 try go_wp2_with (first | ((with_reducible refine gate_builtin (b := .append) (xs := #[.tmp 40, .tmp 42]) rfl ?_); at_builtin; refine Kd.R_append k28 (w0 := w0) w0.heap.size rfl (.tmp 40) (.tmp 42) 22 28 (.agg #[(.int .i64 0), (.int .i64 0), (.int .i64 0), (.int .i64 0), (.int .i64 0), (.int .i64 0), (.int .i64 0), (.int .i64 0), (.int .i64 0)]) 72 rfl Try.underlying22 info28 rfl (by decide) (by omega) (.slice (some ad226) l0.length co4) l0 (⟨0, 0, (⟨0, 0, 0, (⟨0, 0⟩ : S24), 0, 0⟩ : S26)⟩ : S28) [.int .i64 0, .int .i64 0, .int .i64 0, .int .i64 0, .int .i64 0, .int .i64 0, .int .i64 0, .int .i64 0, .int .i64 0] (fun k_ => (P0_ k_ ∨ w.heap.size ≤ k_) ∧ k_ ≠ gb223) (fun _ => False) rfl rfl ?aP (fun _ hk => hk.elim) ?aF ?aO ?aB ?aS ?aL ?_; (case aP => exact k28_mkM _ _ _ (⟨0, 0, (⟨0, 0, 0, (⟨0, 0⟩ : S24), 0, 0⟩ : S26)⟩ : S28)); (case aB => exact (bq1 HB.out GE223.out)); (case aF => exact (fun k_ hk => ⟨(.inr (Nat.le_trans (by first | exact HK.out.1 | exact (show Kept w _ (fun k_ => P0_ k_) from by repeat (first | (with_reducible first | exact HK.out | apply Kept.alloc | apply Kept.drewN | apply Kept.drew | refine Kept.setCell ?_ (.inr GW223.out) _) | exact HK.out)).1) hk)), Kd.freshB (g := gb223) (o := .cells #[.int .i64 a1_0, .int .i64 a1_1, .int .i64 a1_2, .int .i64 a1_3, .int .i64 a1_4, .int .i64 a1_5, .int .i64 a1_6, .int .i64 a1_7, .int .i64 a1_8] 28 (0, 0)) (kq BK223.out) k_ hk⟩)); (case aO => exact (rq HO_0.out)); (case aS => exact (below_size (bq1 HB.out GE223.out))); (case aL => have := LMc19.out; omega); intro v228 w28 ho hb hg hat; rw [← Ny227.out] at ho; have n0_ := Aside0.mk (blk_grown (g := gb223) (o := .cells #[.int .i64 a1_0, .int .i64 a1_1, .int .i64 a1_2, .int .i64 a1_3, .int .i64 a1_4, .int .i64 a1_5, .int .i64 a1_6, .int .i64 a1_7, .int .i64 a1_8] 28 (0, 0)) (kq BK223.out) hg (Kd.R_away HO_0.out (fun _ hk => hk.2))); have n1_ := Aside0.mk (hb); have n2_ := Aside0.mk (Kept.of_grown (S := (fun k_ => P0_ k_)) hg (by repeat (first | (with_reducible first | exact HK.out | apply Kept.alloc | apply Kept.drewN | apply Kept.drew | refine Kept.setCell ?_ (.inr GW223.out) _) | exact HK.out)) (fun k_ e_ => (HO_0.out.1 k_ e_).1)); have n3_ := Aside0.mk (ho); clear BK223; clear HB; clear HK; clear HO_0; have BK223 := n0_; have HB := n1_; have HK := n2_; have HO229 := n3_; clear n0_ n1_ n2_ n3_; clear ho hb hg hat))
 have n0_ := Aside0.mk (Kd.R_drew HO229.out)
 have n1_ := Aside0.mk (blk_drew BK223.out)
 have n2_ := Aside0.mk (Kept.drew HK.out)
 have n3_ := Aside0.mk (below_drew1 HB.out)
 clear HO229
 clear BK223
 clear HK
 clear HB
 have HO229 := n0_
 have BK223 := n1_
 have HK := n2_
 have HB := n3_
 clear n0_ n1_ n2_ n3_
 obtain ⟨Ao31, co31, eo31⟩ := Kd.R_slice HO229.out
 (first | subst eo31 | (injection eo31 with f1_ f2_ f3_; have f4_ := f1_.symm; have f5_ := f3_.symm; clear f1_ f2_ f3_; subst f4_; subst f5_))
 have q30 : ((ji20) : Int) ≤ ((y227.length : Int) : Int) := of_decide_eq_true (by first | (with_reducible assumption) | assumption)
 obtain ⟨i030, hi030, _, hsz30, _⟩ := info_parts info28
 have hroom30 : y227.length ≤ co31 := (Kd.R_reads' HO229.out).2.1
 have hC30 : Kd.C k28 _ Ao31 y227.length y227 := (Kd.R_reads' HO229.out).2.2
 have q030 : (0 : Int) ≤ ((ji20) : Int) := of_decide_eq_true (by first | (with_reducible assumption) | assumption)
 have hcut30 := cut_from (P := Try.prog) 22 28 .i64 Try.underlying22 hi030 9 hsz30 Ao31 y227.length co31 (ji20) q030 q30
 have hr30 := Kd.C_drop (m := ((ji20) : Int).toNat) (c := co31) hC30 (by omega) hroom30
 obtain ⟨A30, hA30⟩ : ∃ A1, A1 = (if co31 = ((ji20) : Int).toNat then Ao31 else (Ao31 : Option Addr).map (·.add (((ji20) : Int).toNat * 9))) := ⟨_, rfl⟩
 obtain ⟨c30, hc30⟩ : ∃ c1, c1 = co31 - ((ji20) : Int).toNat := ⟨_, rfl⟩
 have hy30 : y230.length = y227.length - ((ji20) : Int).toNat := (by rw [Ny230.out, List.length_drop] <;> omega)
 rw [show (y227).drop ((ji20) : Int).toNat = y230 from Ny230.out.symm] at hr30
 replace hr30 : Kd.C k28 _ A30 y230.length y230 := (by rw [hA30]; exact hr30)
 rw [← hy30, ← hA30, ← hc30] at hcut30
 have HR233 := Aside0.mk hr30
 have HC233 := Aside0.mk (show y230.length ≤ c30 from by rw [hy30, hc30]; exact Nat.sub_le_sub_right hroom30 _)
 clear hr30 hC30 hroom30 hi030 hsz30 hc30
 have KY30 := Aside0.mk hy30
 have KA30 := Aside0.mk hA30
 clear hy30 hA30
 have KL30 := Aside0.mk (show ((ji20) : Int).toNat ≤ y227.length from by omega)
 replace q30 := eq_true q30
 have q32 : (x5_1 : Int) ≤ ((y227.length : Int) : Int) := of_decide_eq_true (by first | (with_reducible assumption) | assumption)
 obtain ⟨i032, hi032, _, hsz32, _⟩ := info_parts info28
 have hroom32 : y227.length ≤ co31 := (Kd.R_reads' HO229.out).2.1
 have hC32 : Kd.C k28 _ Ao31 y227.length y227 := (Kd.R_reads' HO229.out).2.2
 have q032 : (0 : Int) ≤ (x5_1 : Int) := of_decide_eq_true (by first | (with_reducible assumption) | assumption)
 have hcut32 := cut_from (P := Try.prog) 22 28 .i64 Try.underlying22 hi032 9 hsz32 Ao31 y227.length co31 x5_1 q032 q32
 have hr32 := Kd.C_drop (m := (x5_1 : Int).toNat) (c := co31) hC32 (by omega) hroom32
 obtain ⟨A32, hA32⟩ : ∃ A1, A1 = (if co31 = (x5_1 : Int).toNat then Ao31 else (Ao31 : Option Addr).map (·.add ((x5_1 : Int).toNat * 9))) := ⟨_, rfl⟩
 obtain ⟨c32, hc32⟩ : ∃ c1, c1 = co31 - (x5_1 : Int).toNat := ⟨_, rfl⟩
 have hy32 : y234.length = y227.length - (x5_1 : Int).toNat := (by rw [Ny234.out, List.length_drop] <;> omega)
 rw [show (y227).drop (x5_1 : Int).toNat = y234 from Ny234.out.symm] at hr32
 replace hr32 : Kd.C k28 _ A32 y234.length y234 := (by rw [hA32]; exact hr32)
 rw [← hy32, ← hA32, ← hc32] at hcut32
 have HR237 := Aside0.mk hr32
 have HC237 := Aside0.mk (show y234.length ≤ c32 from by rw [hy32, hc32]; exact Nat.sub_le_sub_right hroom32 _)
 clear hr32 hC32 hroom32 hi032 hsz32 hc32
 have KY32 := Aside0.mk hy32
 have KA32 := Aside0.mk hA32
 clear hy32 hA32
 have KL32 := Aside0.mk (show (x5_1 : Int).toNat ≤ y227.length from by omega)
 replace q32 := eq_true q32
 obtain ⟨go34, co34, eo34, gb34, gl34, cl34, HG34⟩ := Kd.R_form HO229.out (by have hj_ : 0 ≤ (x5_1 : Int) := of_decide_eq_true (by first | (with_reducible assumption) | assumption); have hl_ : (ji20 : Int) ≤ (y227.length : Int) := of_decide_eq_true (by first | (with_reducible assumption) | assumption); have hh_ : (x5_1 : Int) ≤ (y227.length : Int) := of_decide_eq_true (by first | (with_reducible assumption) | assumption); rw [← hji20] at hl_; unfold wrap64 at hl_; omega)
 (first | cases eo34 | (injection eo34 with ea_ en_ ec_; (first | subst ea_ | (injection ea_ with ea_; subst ea_)); subst ec_; clear en_))
 have GB34 := Aside0.mk gb34
 have GG34 := Aside0.mk HG34
 clear gb34 gl34 HG34
 have HMgo34 := Aside0.mk (show (P0_ go34 ∨ w.heap.size ≤ go34) from (HO229.out.1 _ rfl).1)
 refine start_ (n := 8) (S := fun w' => True) (ds := []) #[false, false, false, false, false, false, false, false] (by kernel_rfl) rfl rfl trivial (fun hHeld => ?_); refine with_tabW determinant_insert.tab10 determinant_insert.bits10 (fun HT_ HW_ => ?_)
 generalize w28.drew = w29 at HO229 BK223 HK HB GG34 HR233 HR237 hHeld ⊢
 refine pur HT_.out 0 (some 44) (bm 8 1) ?_
 refine pur HT_.out 1 (some 45) (bm 8 3) ?_
 refine pur HT_.out 2 (some 46) (bm 8 7) ?_
 refine pur HT_.out 3 (some 47) (bm 8 15) ?_
 refine pur HT_.out 4 (some 48) (bm 8 31) ?_
 refine pur HT_.out 5 (some 49) (bm 8 63) ?_
 refine pur HT_.out 6 (some 50) (bm 8 127) ?_
 refine one_ (i := 7) (N := some 51) (bm 8 255) rfl rfl (one_of HT_.out (by kernel_rfl)) (by decide) (fun K hK => ?_)
 have hj_ : 0 ≤ (x5_1 : Int) := of_decide_eq_true (by first | (with_reducible assumption) | assumption)
 have hl_ : (ji20 : Int) ≤ (y227.length : Int) := of_decide_eq_true (by first | (with_reducible assumption) | assumption)
 have hh_ : (x5_1 : Int) ≤ (y227.length : Int) := of_decide_eq_true (by first | (with_reducible assumption) | assumption)
 have hb_ := (Kd.R_reads' HO229.out).2.2.2.1
 have h0_ : (0 : Int) ≤ (ji20 : Int) := of_decide_eq_true (by first | (with_reducible assumption) | assumption)
 have hk_ : (ji20 : Int).toNat = (x5_1 : Int).toNat + 1 := (by have hw_ : (ji20 : Int) = x5_1 + 1 := (by have h00_ := h0_; rw [← hji20] at h00_ ⊢; unfold wrap64 at h00_ ⊢; omega); rw [hw_]; omega)
 refine Kd.R_shift_step k28 (w0 := w0) w0.heap.size (by rfl) (.tmp 47) (.tmp 50) 22 28 rfl Try.underlying22 (by kernel_rfl) (g := go34) (n := y227.length) (c := co31) (k := (x5_1 : Int).toNat) rfl rfl ?hA1 ?hA2 ?hm1 ?hm2 (rq HO229.out) ?hk (bq1 HB.out GE223.out) (below_size (bq1 HB.out GE223.out)) ?_
 (case hA1 => have ha_ := KA30.out; rw [hk_] at ha_; exact ha_)
 (case hA2 => exact KA32.out)
 (case hm1 => have ha_ := KY30.out; omega)
 (case hm2 => have ha_ := KY32.out; omega)
 (case hk => omega)
 intro w33 ho hb hg
 clear hj_ hl_ hh_ hb_ hk_ h0_
 rw [← Ny238.out] at ho
 have n0_ := Aside0.mk (blk_grown (g := gb223) (o := .cells #[.int .i64 a1_0, .int .i64 a1_1, .int .i64 a1_2, .int .i64 a1_3, .int .i64 a1_4, .int .i64 a1_5, .int .i64 a1_6, .int .i64 a1_7, .int .i64 a1_8] 28 (0, 0)) (kq BK223.out) hg (Kd.R_away HO229.out (fun _ hk => hk.2)))
 have n1_ := Aside0.mk (ho)
 have n2_ := Aside0.mk (hb)
 have n3_ := Aside0.mk (Kept.of_grown (S := (fun k_ => P0_ k_)) hg (by repeat (first | (with_reducible first | exact HK.out | apply Kept.alloc | apply Kept.drewN | apply Kept.drew | refine Kept.setCell ?_ (.inr GW223.out) _) | exact HK.out)) (fun k_ e_ => (HO229.out.1 k_ e_).1))
 clear BK223
 clear HO229
 clear HB
 clear HK
 have BK223 := n0_
 have HO229 := n1_
 have HB := n2_
 have HK := n3_
 clear n0_ n1_ n2_ n3_
 clear ho hb hg
 refine hK.out _ _ trivial (fun hHeld => ?_)
 clear hK K
 refine nrm 51 ?_
 refine done_ (done_of HT_.out (by kernel_rfl)) ?_
 have hcz35_0 : w33.cell? ⟨gb223, 0, none⟩ = some (.int .i64 a1_0) := bc BK223.out 0
 have hcz35_1 : w33.cell? ⟨gb223, 1, none⟩ = some (.int .i64 a1_1) := bc BK223.out 1
 have hcz35_2 : w33.cell? ⟨gb223, 2, none⟩ = some (.int .i64 a1_2) := bc BK223.out 2
 have hcz35_3 : w33.cell? ⟨gb223, 3, none⟩ = some (.int .i64 a1_3) := bc BK223.out 3
 have hcz35_4 : w33.cell? ⟨gb223, 4, none⟩ = some (.int .i64 a1_4) := bc BK223.out 4
 have hcz35_5 : w33.cell? ⟨gb223, 5, none⟩ = some (.int .i64 a1_5) := bc BK223.out 5
 have hcz35_6 : w33.cell? ⟨gb223, 6, none⟩ = some (.int .i64 a1_6) := bc BK223.out 6
 have hcz35_7 : w33.cell? ⟨gb223, 7, none⟩ = some (.int .i64 a1_7) := bc BK223.out 7
 have hcz35_8 : w33.cell? ⟨gb223, 8, none⟩ = some (.int .i64 a1_8) := bc BK223.out 8
 have hfz35_0 := blk_frozen BK223.out 0
 have hfz35_1 := blk_frozen BK223.out 1
 have hfz35_2 := blk_frozen BK223.out 2
 have hfz35_3 := blk_frozen BK223.out 3
 have hfz35_4 := blk_frozen BK223.out 4
 have hfz35_5 := blk_frozen BK223.out 5
 have hfz35_6 := blk_frozen BK223.out 6
 have hfz35_7 := blk_frozen BK223.out 7
 have hfz35_8 := blk_frozen BK223.out 8
 have p26 : 0 ≤ (x5_1 : Int) := of_decide_eq_true (by first | (with_reducible assumption) | assumption)
 have q26 : (x5_1 : Int) < ((y227.length : Int) : Int) := of_decide_eq_true (by first | (with_reducible assumption) | assumption)
 obtain ⟨ce26, hcl26, hM26, hcc26, hfr26⟩ := Kd.R_elem HO229.out z28 (x5_1 : Int) p26 q26
 obtain rfl := k28_openM hM26
 have hx26_0 : w33.cell? ⟨go34, (x5_1 : Int).toNat * 9, none⟩ = some (.int .i64 ((rd_T28 y238 x5_1).f0)) := hcc26 0 _ rfl
 have hx26_1 : w33.cell? ⟨go34, (x5_1 : Int).toNat * 9 + 1, none⟩ = some (.int .i64 ((rd_T28 y238 x5_1).f1)) := hcc26 1 _ rfl
 have hx26_2 : w33.cell? ⟨go34, (x5_1 : Int).toNat * 9 + 2, none⟩ = some (.int .i64 ((rd_T28 y238 x5_1).f2.f0)) := hcc26 2 _ rfl
 have hx26_3 : w33.cell? ⟨go34, (x5_1 : Int).toNat * 9 + 3, none⟩ = some (.int .i64 ((rd_T28 y238 x5_1).f2.f1)) := hcc26 3 _ rfl
 have hx26_4 : w33.cell? ⟨go34, (x5_1 : Int).toNat * 9 + 4, none⟩ = some (.int .i64 ((rd_T28 y238 x5_1).f2.f2)) := hcc26 4 _ rfl
 have hx26_5 : w33.cell? ⟨go34, (x5_1 : Int).toNat * 9 + 5, none⟩ = some (.int .i64 ((rd_T28 y238 x5_1).f2.f3.f0)) := hcc26 5 _ rfl
 have hx26_6 : w33.cell? ⟨go34, (x5_1 : Int).toNat * 9 + 6, none⟩ = some (.int .i64 ((rd_T28 y238 x5_1).f2.f3.f1)) := hcc26 6 _ rfl
 have hx26_7 : w33.cell? ⟨go34, (x5_1 : Int).toNat * 9 + 7, none⟩ = some (.int .i64 ((rd_T28 y238 x5_1).f2.f4)) := hcc26 7 _ rfl
 have hx26_8 : w33.cell? ⟨go34, (x5_1 : Int).toNat * 9 + 8, none⟩ = some (.int .i64 ((rd_T28 y238 x5_1).f2.f5)) := hcc26 8 _ rfl
 have hf26_0 : w33.frozen? ⟨go34, (x5_1 : Int).toNat * 9, none⟩ = false := hfr26 0
 have hf26_1 : w33.frozen? ⟨go34, (x5_1 : Int).toNat * 9 + 1, none⟩ = false := hfr26 1
 have hf26_2 : w33.frozen? ⟨go34, (x5_1 : Int).toNat * 9 + 2, none⟩ = false := hfr26 2
 have hf26_3 : w33.frozen? ⟨go34, (x5_1 : Int).toNat * 9 + 3, none⟩ = false := hfr26 3
 have hf26_4 : w33.frozen? ⟨go34, (x5_1 : Int).toNat * 9 + 4, none⟩ = false := hfr26 4
 have hf26_5 : w33.frozen? ⟨go34, (x5_1 : Int).toNat * 9 + 5, none⟩ = false := hfr26 5
 have hf26_6 : w33.frozen? ⟨go34, (x5_1 : Int).toNat * 9 + 6, none⟩ = false := hfr26 6
 have hf26_7 : w33.frozen? ⟨go34, (x5_1 : Int).toNat * 9 + 7, none⟩ = false := hfr26 7
 have hf26_8 : w33.frozen? ⟨go34, (x5_1 : Int).toNat * 9 + 8, none⟩ = false := hfr26 8
 clear hcl26 hcc26 hfr26 hM26
 replace p26 := eq_true p26
 replace q26 := eq_true q26
 have HX36 := Aside0.mk (show Kd.R k28 28 w33 w0.heap.size (fun k_ => (P0_ k_ ∨ w.heap.size ≤ k_) ∧ k_ ≠ gb223) (.slice (some ⟨go34, 0, none⟩) y227.length co31) y238 from (rq HO229.out))
 obtain ⟨ce36, hcl36, hM36, hcc36, hfr36⟩ := Kd.R_elem HX36.out z28 (x5_1 : Int) (of_decide_eq_true (by first | (with_reducible assumption) | assumption)) (by have h_ : (x5_1 : Int) < ((y227.length : Int) : Int) := of_decide_eq_true (by first | (with_reducible assumption) | assumption); first | exact h_ | (have e_ := (Kd.R_reads' HO229.out).1; omega) | simpa using h_)
 obtain rfl := k28_openM hM36
 have HP36 := Kd.R_seg HX36.out (x5_1 : Int) (of_decide_eq_true (by first | (with_reducible assumption) | assumption)) (by have h_ : (x5_1 : Int) < ((y227.length : Int) : Int) := of_decide_eq_true (by first | (with_reducible assumption) | assumption); first | exact h_ | (have e_ := (Kd.R_reads' HO229.out).1; omega) | simpa using h_) (seg := [.int .i64 a1_0, .int .i64 a1_1, .int .i64 a1_2, .int .i64 a1_3, .int .i64 a1_4, .int .i64 a1_5, .int .i64 a1_6, .int .i64 a1_7, .int .i64 a1_8]) (j := 0) hcl36 hcc36 (show 9 ≤ 9 from by decide) (x' := (⟨a1_0, a1_1, (⟨a1_2, a1_3, a1_4, (⟨a1_5, a1_6⟩ : S24), a1_7, a1_8⟩ : S26)⟩ : S28)) (k28_mkM _ _ _ (⟨a1_0, a1_1, (⟨a1_2, a1_3, a1_4, (⟨a1_5, a1_6⟩ : S24), a1_7, a1_8⟩ : S26)⟩ : S28) ) (fun _ hk => hk)
 have hx36_0 := hcc36 0 _ rfl
 (try simp only [show (k28).sz = 9 from rfl, Nat.mul_one, Nat.add_zero] at hx36_0)
 have hf36_0 := hfr36 0
 (try simp only [show (k28).sz = 9 from rfl, Nat.mul_one, Nat.add_zero] at hf36_0)
 have hx36_1 := hcc36 1 _ rfl
 (try simp only [show (k28).sz = 9 from rfl, Nat.mul_one, Nat.add_zero] at hx36_1)
 have hf36_1 := hfr36 1
 (try simp only [show (k28).sz = 9 from rfl, Nat.mul_one, Nat.add_zero] at hf36_1)
 have hx36_2 := hcc36 2 _ rfl
 (try simp only [show (k28).sz = 9 from rfl, Nat.mul_one, Nat.add_zero] at hx36_2)
 have hf36_2 := hfr36 2
 (try simp only [show (k28).sz = 9 from rfl, Nat.mul_one, Nat.add_zero] at hf36_2)
 have hx36_3 := hcc36 3 _ rfl
 (try simp only [show (k28).sz = 9 from rfl, Nat.mul_one, Nat.add_zero] at hx36_3)
 have hf36_3 := hfr36 3
 (try simp only [show (k28).sz = 9 from rfl, Nat.mul_one, Nat.add_zero] at hf36_3)
 have hx36_4 := hcc36 4 _ rfl
 (try simp only [show (k28).sz = 9 from rfl, Nat.mul_one, Nat.add_zero] at hx36_4)
 have hf36_4 := hfr36 4
 (try simp only [show (k28).sz = 9 from rfl, Nat.mul_one, Nat.add_zero] at hf36_4)
 have hx36_5 := hcc36 5 _ rfl
 (try simp only [show (k28).sz = 9 from rfl, Nat.mul_one, Nat.add_zero] at hx36_5)
 have hf36_5 := hfr36 5
 (try simp only [show (k28).sz = 9 from rfl, Nat.mul_one, Nat.add_zero] at hf36_5)
 have hx36_6 := hcc36 6 _ rfl
 (try simp only [show (k28).sz = 9 from rfl, Nat.mul_one, Nat.add_zero] at hx36_6)
 have hf36_6 := hfr36 6
 (try simp only [show (k28).sz = 9 from rfl, Nat.mul_one, Nat.add_zero] at hf36_6)
 have hx36_7 := hcc36 7 _ rfl
 (try simp only [show (k28).sz = 9 from rfl, Nat.mul_one, Nat.add_zero] at hx36_7)
 have hf36_7 := hfr36 7
 (try simp only [show (k28).sz = 9 from rfl, Nat.mul_one, Nat.add_zero] at hf36_7)
 have hx36_8 := hcc36 8 _ rfl
 (try simp only [show (k28).sz = 9 from rfl, Nat.mul_one, Nat.add_zero] at hx36_8)
 have hf36_8 := hfr36 8
 (try simp only [show (k28).sz = 9 from rfl, Nat.mul_one, Nat.add_zero] at hf36_8)
 clear hcl36 hcc36 hfr36 hM36
 try go_wp2_with (first | ((with_reducible refine gate_store (t := 28) (p := 55) rfl ?_); refine store_event (t := 28) (p := 55) (v := ?vo_w37) (w1 := (((((((((w33.setCell ⟨go34, (x5_1 : Int).toNat * 9, none⟩ (.int .i64 a1_0)).setCell ⟨go34, (x5_1 : Int).toNat * 9 + 1, none⟩ (.int .i64 a1_1)).setCell ⟨go34, (x5_1 : Int).toNat * 9 + 2, none⟩ (.int .i64 a1_2)).setCell ⟨go34, (x5_1 : Int).toNat * 9 + 3, none⟩ (.int .i64 a1_3)).setCell ⟨go34, (x5_1 : Int).toNat * 9 + 4, none⟩ (.int .i64 a1_4)).setCell ⟨go34, (x5_1 : Int).toNat * 9 + 5, none⟩ (.int .i64 a1_5)).setCell ⟨go34, (x5_1 : Int).toNat * 9 + 6, none⟩ (.int .i64 a1_6)).setCell ⟨go34, (x5_1 : Int).toNat * 9 + 7, none⟩ (.int .i64 a1_7)).setCell ⟨go34, (x5_1 : Int).toNat * 9 + 8, none⟩ (.int .i64 a1_8))) ?hg ?ho ?hn ?hr ?_; (case ho => rfl); (case hg => rfl); (case hn => rfl); (case hr => first | (go_simp; done) | (go_simp; rfl)); intro w37 hw; have hg : w33.grownBy w37 (some go34) := (by rw [hw]; exact HP36.2); have hp_ : Kd.R k28 28 w37 w0.heap.size (fun k_ => (P0_ k_ ∨ w.heap.size ≤ k_) ∧ k_ ≠ gb223) (.slice (some ⟨go34, 0, none⟩) y227.length co31) y239 := (by rw [hw, Ny239.out]; exact HP36.1); clear HP36; have n0_ := Aside0.mk (blk_grown (g := gb223) (o := .cells #[.int .i64 a1_0, .int .i64 a1_1, .int .i64 a1_2, .int .i64 a1_3, .int .i64 a1_4, .int .i64 a1_5, .int .i64 a1_6, .int .i64 a1_7, .int .i64 a1_8] 28 (0, 0)) (kq BK223.out) hg (Kd.R_away HO229.out (fun _ hk => hk.2))); have n1_ := Aside0.mk (hp_); have n2_ := Aside0.mk ((by rw [hw]; exact below_set (below_set (below_set (below_set (below_set (below_set (below_set (below_set (below_set (HB.out) GB34.out) GB34.out) GB34.out) GB34.out) GB34.out) GB34.out) GB34.out) GB34.out) GB34.out : Below w0.heap.size w0 w37)); have n3_ := Aside0.mk (Kept.of_grown (S := (fun k_ => P0_ k_)) hg (by repeat (first | (with_reducible first | exact HK.out | apply Kept.alloc | apply Kept.drewN | apply Kept.drew | refine Kept.setCell ?_ (.inr GW223.out) _) | exact HK.out)) (fun k_ e_ => (HO229.out.1 k_ e_).1)); clear BK223; clear HO229; clear HB; clear HK; have BK223 := n0_; have HO229 := n1_; have HB := n2_; have HK := n3_; clear n0_ n1_ n2_ n3_; clear hg hw hp_))
 go_ret
 exact ⟨_, by first | rfl | (simp [errW_none, errW_some] <;> rfl) | (simp only [← hji20]; first | rfl | (simp [errW_none, errW_some] <;> rfl)) | (simp [*, errW_none, errW_some] <;> rfl), by (with_reducible repeat (first | apply Kd.R_alloc | apply Kd.R_drewN | apply Kd.R_drew)); exact Kd.R_mono HO229.out (fun _ hk => hk.1), bq1 HB.out GE223.out, by repeat (first | (with_reducible first | exact HK.out | apply Kept.alloc | apply Kept.drewN | apply Kept.drew | refine Kept.setCell ?_ (.inr GW223.out) _) | exact HK.out)⟩)
 ·(
 rw [if_neg c25] at H
 exact absurd H (by simp)))
 ·(
 rw [if_neg c24] at H
 exact absurd H (by simp)))
 ·(
 rw [if_neg c22] at H
 exact absurd H (by simp)))
 ·(
 rw [if_neg c21] at H
 exact absurd H (by simp)))
 ·(
 rw [if_neg c19] at H
 exact absurd H (by simp))))
 ·(
 rw [if_neg c16] at H
 exact absurd H (by simp)))
 ·(
 rw [if_neg c15] at H
 have c15b0 : decide (x5_1 < (l0.length : Int)) = false := decide_eq_false c15
 clear c15
 by_cases c38 : l0.length < 1954687338268
 ·(
 rw [if_pos c38] at H
 have LMc38 := Aside0.mk c38
 clear c38
 obtain ⟨y240, hy240⟩ : ∃ y_ : List (S28), y_ = (l0 ++ [(⟨0, 0, (⟨0, 0, 0, (⟨0, 0⟩ : S24), 0, 0⟩ : S26)⟩ : S28)]) := ⟨_, rfl⟩
 replace H : (if 0 ≤ (wrap64 (x5_1 + 1)) then (if (wrap64 (x5_1 + 1)) ≤ (y240.length : Int) then (if 0 ≤ x5_1 then (if x5_1 ≤ (y240.length : Int) then (if x5_1 < (y240.length : Int) then (some ((shiftAt y240 (x5_1 : Int).toNat).set (x5_1 : Int).toNat (⟨a1_0, a1_1, (⟨a1_2, a1_3, a1_4, (⟨a1_5, a1_6⟩ : S24), a1_7, a1_8⟩ : S26)⟩ : S28))) else (none)) else (none)) else (none)) else (none)) else (none)) = some r := by first | (rw [hy240]; with_reducible exact H) | (have H2_ := (Option.bind_some _ _).symm.trans H; rw [hy240]; with_reducible exact H2_) | (have H2_ := (Option.bind_some _ _).symm.trans H; with_reducible exact H2_) | with_reducible exact H | (rw [hy240]; exact H) | exact H
 have Ny240 := Aside0.mk hy240
 clear hy240
 obtain ⟨ji39, hji39⟩ : ∃ j_ : Int, (wrap64 (x5_1 + 1)) = j_ := ⟨_, rfl⟩
 replace H : (if 0 ≤ (ji39) then (if (ji39) ≤ (y240.length : Int) then (if 0 ≤ x5_1 then (if x5_1 ≤ (y240.length : Int) then (if x5_1 < (y240.length : Int) then (some ((shiftAt y240 (x5_1 : Int).toNat).set (x5_1 : Int).toNat (⟨a1_0, a1_1, (⟨a1_2, a1_3, a1_4, (⟨a1_5, a1_6⟩ : S24), a1_7, a1_8⟩ : S26)⟩ : S28))) else (none)) else (none)) else (none)) else (none)) else (none)) = some r := by first | (rw [hji39] at H; exact H) | (simp only [hji39] at H ⊢; exact H)
 have hji39w : (IntKind.i64.wrap (x5_1 + 1)) = ji39 := (i64_w _).trans hji39
 by_cases c40 : 0 ≤ (ji39)
 ·(
 rw [if_pos c40] at H
 have c40b0 := eq_true c40
 have c40b1 : decide (0 ≤ (ji39)) = true := decide_eq_true c40
 clear c40
 by_cases c41 : (ji39) ≤ (y240.length : Int)
 ·(
 rw [if_pos c41] at H
 have c41b0 := eq_true c41
 have c41b1 : decide ((ji39) ≤ (y240.length : Int)) = true := decide_eq_true c41
 clear c41
 obtain ⟨y243, hy243⟩ : ∃ y_ : List (S28), y_ = (y240.drop ((ji39) : Int).toNat) := ⟨_, rfl⟩
 replace H : (if 0 ≤ x5_1 then (if x5_1 ≤ (y240.length : Int) then (if x5_1 < (y240.length : Int) then (some ((shiftAt y240 (x5_1 : Int).toNat).set (x5_1 : Int).toNat (⟨a1_0, a1_1, (⟨a1_2, a1_3, a1_4, (⟨a1_5, a1_6⟩ : S24), a1_7, a1_8⟩ : S26)⟩ : S28))) else (none)) else (none)) else (none)) = some r := by first | (rw [hy243]; with_reducible exact H) | (have H2_ := (Option.bind_some _ _).symm.trans H; rw [hy243]; with_reducible exact H2_) | (have H2_ := (Option.bind_some _ _).symm.trans H; with_reducible exact H2_) | with_reducible exact H | (rw [hy243]; exact H) | exact H
 have Ny243 := Aside0.mk hy243
 clear hy243
 by_cases c42 : 0 ≤ x5_1
 ·(
 rw [if_pos c42] at H
 have c42b0 := eq_true c42
 have c42b1 : decide (0 ≤ x5_1) = true := decide_eq_true c42
 clear c42
 by_cases c43 : x5_1 ≤ (y240.length : Int)
 ·(
 rw [if_pos c43] at H
 have c43b0 := eq_true c43
 have c43b1 : decide (x5_1 ≤ (y240.length : Int)) = true := decide_eq_true c43
 clear c43
 obtain ⟨y247, hy247⟩ : ∃ y_ : List (S28), y_ = (y240.drop (x5_1 : Int).toNat) := ⟨_, rfl⟩
 replace H : (if x5_1 < (y240.length : Int) then (some ((shiftAt y240 (x5_1 : Int).toNat).set (x5_1 : Int).toNat (⟨a1_0, a1_1, (⟨a1_2, a1_3, a1_4, (⟨a1_5, a1_6⟩ : S24), a1_7, a1_8⟩ : S26)⟩ : S28))) else (none)) = some r := by first | (rw [hy247]; with_reducible exact H) | (have H2_ := (Option.bind_some _ _).symm.trans H; rw [hy247]; with_reducible exact H2_) | (have H2_ := (Option.bind_some _ _).symm.trans H; with_reducible exact H2_) | with_reducible exact H | (rw [hy247]; exact H) | exact H
 have Ny247 := Aside0.mk hy247
 clear hy247
 obtain ⟨y251, hy251⟩ : ∃ y_ : List (S28), y_ = (shiftAt y240 (x5_1 : Int).toNat) := ⟨_, rfl⟩
 replace H : (if x5_1 < (y240.length : Int) then (some (y251.set (x5_1 : Int).toNat (⟨a1_0, a1_1, (⟨a1_2, a1_3, a1_4, (⟨a1_5, a1_6⟩ : S24), a1_7, a1_8⟩ : S26)⟩ : S28))) else (none)) = some r := by first | (rw [hy251]; with_reducible exact H) | (have H2_ := (Option.bind_some _ _).symm.trans H; rw [hy251]; with_reducible exact H2_) | (have H2_ := (Option.bind_some _ _).symm.trans H; with_reducible exact H2_) | with_reducible exact H | (rw [hy251]; exact H) | exact H
 have Ny251 := Aside0.mk hy251
 clear hy251
 by_cases c44 : x5_1 < (y240.length : Int)
 ·(
 rw [if_pos c44] at H
 have c44b0 : decide (x5_1 < (y240.length : Int)) = true := decide_eq_true c44
 clear c44
 obtain ⟨y252, hy252⟩ : ∃ y_ : List (S28), y_ = (y251.set (x5_1 : Int).toNat (⟨a1_0, a1_1, (⟨a1_2, a1_3, a1_4, (⟨a1_5, a1_6⟩ : S24), a1_7, a1_8⟩ : S26)⟩ : S28)) := ⟨_, rfl⟩
 replace H : (some y252) = some r := by first | (rw [hy252]; with_reducible exact H) | (have H2_ := (Option.bind_some _ _).symm.trans H; rw [hy252]; with_reducible exact H2_) | (have H2_ := (Option.bind_some _ _).symm.trans H; with_reducible exact H2_) | with_reducible exact H | (rw [hy252]; exact H) | exact H
 have Ny252 := Aside0.mk hy252
 clear hy252
 obtain rfl := Option.some.inj H
 try go_wp2
 have n0_ := Aside0.mk (Kd.R_drew HO_0.out)
 have n1_ := Aside0.mk (blk_drew BK223.out)
 have n2_ := Aside0.mk (Kept.drew HK.out)
 have n3_ := Aside0.mk (below_drew1 HB.out)
 clear HO_0
 clear BK223
 clear HK
 clear HB
 have HO_0 := n0_
 have BK223 := n1_
 have HK := n2_
 have HB := n3_
 clear n0_ n1_ n2_ n3_
 refine start_ (n := 12) (S := fun w' => True) (ds := []) #[false, false, false, false, false, false, false, false, false, false, false, false] (by kernel_rfl) rfl rfl trivial (fun hHeld => ?_); refine with_tabW determinant_insert.tab7 determinant_insert.bits7 (fun HT_ HW_ => ?_)
 generalize wr.drew = w46 at HO_0 BK223 HK HB hHeld ⊢
 refine pur HT_.out 0 (some 27) (bm 12 1) ?_
 refine pur HT_.out 1 (some 28) (bm 12 3) ?_
 refine pur HT_.out 2 (some 29) (bm 12 7) ?_
 refine pur HT_.out 3 (some 30) (bm 12 15) ?_
 refine pur HT_.out 4 (some 31) (bm 12 31) ?_
 refine pux HT_.out 5 (some 32) (bm 12 63) ?_
 refine pux HT_.out 6 (some 33) (bm 12 127) ?_
 refine pux HT_.out 7 (some 34) (bm 12 255) ?_
 refine pux HT_.out 8 (some 35) (bm 12 511) ?_
 refine pux HT_.out 9 (some 36) (bm 12 1023) ?_
 refine pux HT_.out 10 (some 37) (bm 12 2047) ?_
 refine pur HT_.out 11 (some 38) (bm 12 4095) ?_
 refine done_ (done_of HT_.out (by kernel_rfl)) ?_
 try go_wp2_with (first | ((with_reducible refine gate_builtin (b := .append) (xs := #[.tmp 40, .tmp 42]) rfl ?_); at_builtin; refine Kd.R_append k28 (w0 := w0) w0.heap.size rfl (.tmp 40) (.tmp 42) 22 28 (.agg #[(.int .i64 0), (.int .i64 0), (.int .i64 0), (.int .i64 0), (.int .i64 0), (.int .i64 0), (.int .i64 0), (.int .i64 0), (.int .i64 0)]) 72 rfl Try.underlying22 info28 rfl (by decide) (by omega) (.slice Ao4 l0.length co4) l0 (⟨0, 0, (⟨0, 0, 0, (⟨0, 0⟩ : S24), 0, 0⟩ : S26)⟩ : S28) [.int .i64 0, .int .i64 0, .int .i64 0, .int .i64 0, .int .i64 0, .int .i64 0, .int .i64 0, .int .i64 0, .int .i64 0] (fun k_ => (P0_ k_ ∨ w.heap.size ≤ k_) ∧ k_ ≠ gb223) (fun _ => False) rfl rfl ?aP (fun _ hk => hk.elim) ?aF ?aO ?aB ?aS ?aL ?_; (case aP => exact k28_mkM _ _ _ (⟨0, 0, (⟨0, 0, 0, (⟨0, 0⟩ : S24), 0, 0⟩ : S26)⟩ : S28)); (case aB => exact (bq1 HB.out GE223.out)); (case aF => exact (fun k_ hk => ⟨(.inr (Nat.le_trans (by first | exact HK.out.1 | exact (show Kept w _ (fun k_ => P0_ k_) from by repeat (first | (with_reducible first | exact HK.out | apply Kept.alloc | apply Kept.drewN | apply Kept.drew | refine Kept.setCell ?_ (.inr GW223.out) _) | exact HK.out)).1) hk)), Kd.freshB (g := gb223) (o := .cells #[.int .i64 a1_0, .int .i64 a1_1, .int .i64 a1_2, .int .i64 a1_3, .int .i64 a1_4, .int .i64 a1_5, .int .i64 a1_6, .int .i64 a1_7, .int .i64 a1_8] 28 (0, 0)) (kq BK223.out) k_ hk⟩)); (case aO => exact (rq HO_0.out)); (case aS => exact (below_size (bq1 HB.out GE223.out))); (case aL => have := LMc38.out; omega); intro v241 w47 ho hb hg hat; rw [← Ny240.out] at ho; have n0_ := Aside0.mk (blk_grown (g := gb223) (o := .cells #[.int .i64 a1_0, .int .i64 a1_1, .int .i64 a1_2, .int .i64 a1_3, .int .i64 a1_4, .int .i64 a1_5, .int .i64 a1_6, .int .i64 a1_7, .int .i64 a1_8] 28 (0, 0)) (kq BK223.out) hg (Kd.R_away HO_0.out (fun _ hk => hk.2))); have n1_ := Aside0.mk (hb); have n2_ := Aside0.mk (Kept.of_grown (S := (fun k_ => P0_ k_)) hg (by repeat (first | (with_reducible first | exact HK.out | apply Kept.alloc | apply Kept.drewN | apply Kept.drew | refine Kept.setCell ?_ (.inr GW223.out) _) | exact HK.out)) (fun k_ e_ => (HO_0.out.1 k_ e_).1)); have n3_ := Aside0.mk (ho); clear BK223; clear HB; clear HK; clear HO_0; have BK223 := n0_; have HB := n1_; have HK := n2_; have HO242 := n3_; clear n0_ n1_ n2_ n3_; clear ho hb hg hat))
 have n0_ := Aside0.mk (Kd.R_drew HO242.out)
 have n1_ := Aside0.mk (blk_drew BK223.out)
 have n2_ := Aside0.mk (Kept.drew HK.out)
 have n3_ := Aside0.mk (below_drew1 HB.out)
 clear HO242
 clear BK223
 clear HK
 clear HB
 have HO242 := n0_
 have BK223 := n1_
 have HK := n2_
 have HB := n3_
 clear n0_ n1_ n2_ n3_
 obtain ⟨Ao50, co50, eo50⟩ := Kd.R_slice HO242.out
 (first | subst eo50 | (injection eo50 with f1_ f2_ f3_; have f4_ := f1_.symm; have f5_ := f3_.symm; clear f1_ f2_ f3_; subst f4_; subst f5_))
 have q49 : ((ji39) : Int) ≤ ((y240.length : Int) : Int) := of_decide_eq_true (by first | (with_reducible assumption) | assumption)
 obtain ⟨i049, hi049, _, hsz49, _⟩ := info_parts info28
 have hroom49 : y240.length ≤ co50 := (Kd.R_reads' HO242.out).2.1
 have hC49 : Kd.C k28 _ Ao50 y240.length y240 := (Kd.R_reads' HO242.out).2.2
 have q049 : (0 : Int) ≤ ((ji39) : Int) := of_decide_eq_true (by first | (with_reducible assumption) | assumption)
 have hcut49 := cut_from (P := Try.prog) 22 28 .i64 Try.underlying22 hi049 9 hsz49 Ao50 y240.length co50 (ji39) q049 q49
 have hr49 := Kd.C_drop (m := ((ji39) : Int).toNat) (c := co50) hC49 (by omega) hroom49
 obtain ⟨A49, hA49⟩ : ∃ A1, A1 = (if co50 = ((ji39) : Int).toNat then Ao50 else (Ao50 : Option Addr).map (·.add (((ji39) : Int).toNat * 9))) := ⟨_, rfl⟩
 obtain ⟨c49, hc49⟩ : ∃ c1, c1 = co50 - ((ji39) : Int).toNat := ⟨_, rfl⟩
 have hy49 : y243.length = y240.length - ((ji39) : Int).toNat := (by rw [Ny243.out, List.length_drop] <;> omega)
 rw [show (y240).drop ((ji39) : Int).toNat = y243 from Ny243.out.symm] at hr49
 replace hr49 : Kd.C k28 _ A49 y243.length y243 := (by rw [hA49]; exact hr49)
 rw [← hy49, ← hA49, ← hc49] at hcut49
 have HR246 := Aside0.mk hr49
 have HC246 := Aside0.mk (show y243.length ≤ c49 from by rw [hy49, hc49]; exact Nat.sub_le_sub_right hroom49 _)
 clear hr49 hC49 hroom49 hi049 hsz49 hc49
 have KY49 := Aside0.mk hy49
 have KA49 := Aside0.mk hA49
 clear hy49 hA49
 have KL49 := Aside0.mk (show ((ji39) : Int).toNat ≤ y240.length from by omega)
 replace q49 := eq_true q49
 have q51 : (x5_1 : Int) ≤ ((y240.length : Int) : Int) := of_decide_eq_true (by first | (with_reducible assumption) | assumption)
 obtain ⟨i051, hi051, _, hsz51, _⟩ := info_parts info28
 have hroom51 : y240.length ≤ co50 := (Kd.R_reads' HO242.out).2.1
 have hC51 : Kd.C k28 _ Ao50 y240.length y240 := (Kd.R_reads' HO242.out).2.2
 have q051 : (0 : Int) ≤ (x5_1 : Int) := of_decide_eq_true (by first | (with_reducible assumption) | assumption)
 have hcut51 := cut_from (P := Try.prog) 22 28 .i64 Try.underlying22 hi051 9 hsz51 Ao50 y240.length co50 x5_1 q051 q51
 have hr51 := Kd.C_drop (m := (x5_1 : Int).toNat) (c := co50) hC51 (by omega) hroom51
 obtain ⟨A51, hA51⟩ : ∃ A1, A1 = (if co50 = (x5_1 : Int).toNat then Ao50 else (Ao50 : Option Addr).map (·.add ((x5_1 : Int).toNat * 9))) := ⟨_, rfl⟩
 obtain ⟨c51, hc51⟩ : ∃ c1, c1 = co50 - (x5_1 : Int).toNat := ⟨_, rfl⟩
 have hy51 : y247.length = y240.length - (x5_1 : Int).toNat := (by rw [Ny247.out, List.length_drop] <;> omega)
 rw [show (y240).drop (x5_1 : Int).toNat = y247 from Ny247.out.symm] at hr51
 replace hr51 : Kd.C k28 _ A51 y247.length y247 := (by rw [hA51]; exact hr51)
 rw [← hy51, ← hA51, ← hc51] at hcut51
 have HR250 := Aside0.mk hr51
 have HC250 := Aside0.mk (show y247.length ≤ c51 from by rw [hy51, hc51]; exact Nat.sub_le_sub_right hroom51 _)
 clear hr51 hC51 hroom51 hi051 hsz51 hc51
 have KY51 := Aside0.mk hy51
 have KA51 := Aside0.mk hA51
 clear hy51 hA51
 have KL51 := Aside0.mk (show (x5_1 : Int).toNat ≤ y240.length from by omega)
 replace q51 := eq_true q51
 obtain ⟨go53, co53, eo53, gb53, gl53, cl53, HG53⟩ := Kd.R_form HO242.out (by have hj_ : 0 ≤ (x5_1 : Int) := of_decide_eq_true (by first | (with_reducible assumption) | assumption); have hl_ : (ji39 : Int) ≤ (y240.length : Int) := of_decide_eq_true (by first | (with_reducible assumption) | assumption); have hh_ : (x5_1 : Int) ≤ (y240.length : Int) := of_decide_eq_true (by first | (with_reducible assumption) | assumption); rw [← hji39] at hl_; unfold wrap64 at hl_; omega)
 (first | cases eo53 | (injection eo53 with ea_ en_ ec_; (first | subst ea_ | (injection ea_ with ea_; subst ea_)); subst ec_; clear en_))
 have GB53 := Aside0.mk gb53
 have GG53 := Aside0.mk HG53
 clear gb53 gl53 HG53
 have HMgo53 := Aside0.mk (show (P0_ go53 ∨ w.heap.size ≤ go53) from (HO242.out.1 _ rfl).1)
 refine start_ (n := 8) (S := fun w' => True) (ds := []) #[false, false, false, false, false, false, false, false] (by kernel_rfl) rfl rfl trivial (fun hHeld => ?_); refine with_tabW determinant_insert.tab10 determinant_insert.bits10 (fun HT_ HW_ => ?_)
 generalize w47.drew = w48 at HO242 BK223 HK HB GG53 HR246 HR250 hHeld ⊢
 refine pur HT_.out 0 (some 44) (bm 8 1) ?_
 refine pur HT_.out 1 (some 45) (bm 8 3) ?_
 refine pur HT_.out 2 (some 46) (bm 8 7) ?_
 refine pur HT_.out 3 (some 47) (bm 8 15) ?_
 refine pur HT_.out 4 (some 48) (bm 8 31) ?_
 refine pur HT_.out 5 (some 49) (bm 8 63) ?_
 refine pur HT_.out 6 (some 50) (bm 8 127) ?_
 refine one_ (i := 7) (N := some 51) (bm 8 255) rfl rfl (one_of HT_.out (by kernel_rfl)) (by decide) (fun K hK => ?_)
 have hj_ : 0 ≤ (x5_1 : Int) := of_decide_eq_true (by first | (with_reducible assumption) | assumption)
 have hl_ : (ji39 : Int) ≤ (y240.length : Int) := of_decide_eq_true (by first | (with_reducible assumption) | assumption)
 have hh_ : (x5_1 : Int) ≤ (y240.length : Int) := of_decide_eq_true (by first | (with_reducible assumption) | assumption)
 have hb_ := (Kd.R_reads' HO242.out).2.2.2.1
 have h0_ : (0 : Int) ≤ (ji39 : Int) := of_decide_eq_true (by first | (with_reducible assumption) | assumption)
 have hk_ : (ji39 : Int).toNat = (x5_1 : Int).toNat + 1 := (by have hw_ : (ji39 : Int) = x5_1 + 1 := (by have h00_ := h0_; rw [← hji39] at h00_ ⊢; unfold wrap64 at h00_ ⊢; omega); rw [hw_]; omega)
 refine Kd.R_shift_step k28 (w0 := w0) w0.heap.size (by rfl) (.tmp 47) (.tmp 50) 22 28 rfl Try.underlying22 (by kernel_rfl) (g := go53) (n := y240.length) (c := co50) (k := (x5_1 : Int).toNat) rfl rfl ?hA1 ?hA2 ?hm1 ?hm2 (rq HO242.out) ?hk (bq1 HB.out GE223.out) (below_size (bq1 HB.out GE223.out)) ?_
 (case hA1 => have ha_ := KA49.out; rw [hk_] at ha_; exact ha_)
 (case hA2 => exact KA51.out)
 (case hm1 => have ha_ := KY49.out; omega)
 (case hm2 => have ha_ := KY51.out; omega)
 (case hk => omega)
 intro w52 ho hb hg
 clear hj_ hl_ hh_ hb_ hk_ h0_
 rw [← Ny251.out] at ho
 have n0_ := Aside0.mk (blk_grown (g := gb223) (o := .cells #[.int .i64 a1_0, .int .i64 a1_1, .int .i64 a1_2, .int .i64 a1_3, .int .i64 a1_4, .int .i64 a1_5, .int .i64 a1_6, .int .i64 a1_7, .int .i64 a1_8] 28 (0, 0)) (kq BK223.out) hg (Kd.R_away HO242.out (fun _ hk => hk.2)))
 have n1_ := Aside0.mk (ho)
 have n2_ := Aside0.mk (hb)
 have n3_ := Aside0.mk (Kept.of_grown (S := (fun k_ => P0_ k_)) hg (by repeat (first | (with_reducible first | exact HK.out | apply Kept.alloc | apply Kept.drewN | apply Kept.drew | refine Kept.setCell ?_ (.inr GW223.out) _) | exact HK.out)) (fun k_ e_ => (HO242.out.1 k_ e_).1))
 clear BK223
 clear HO242
 clear HB
 clear HK
 have BK223 := n0_
 have HO242 := n1_
 have HB := n2_
 have HK := n3_
 clear n0_ n1_ n2_ n3_
 clear ho hb hg
 refine hK.out _ _ trivial (fun hHeld => ?_)
 clear hK K
 refine nrm 51 ?_
 refine done_ (done_of HT_.out (by kernel_rfl)) ?_
 have hcz54_0 : w52.cell? ⟨gb223, 0, none⟩ = some (.int .i64 a1_0) := bc BK223.out 0
 have hcz54_1 : w52.cell? ⟨gb223, 1, none⟩ = some (.int .i64 a1_1) := bc BK223.out 1
 have hcz54_2 : w52.cell? ⟨gb223, 2, none⟩ = some (.int .i64 a1_2) := bc BK223.out 2
 have hcz54_3 : w52.cell? ⟨gb223, 3, none⟩ = some (.int .i64 a1_3) := bc BK223.out 3
 have hcz54_4 : w52.cell? ⟨gb223, 4, none⟩ = some (.int .i64 a1_4) := bc BK223.out 4
 have hcz54_5 : w52.cell? ⟨gb223, 5, none⟩ = some (.int .i64 a1_5) := bc BK223.out 5
 have hcz54_6 : w52.cell? ⟨gb223, 6, none⟩ = some (.int .i64 a1_6) := bc BK223.out 6
 have hcz54_7 : w52.cell? ⟨gb223, 7, none⟩ = some (.int .i64 a1_7) := bc BK223.out 7
 have hcz54_8 : w52.cell? ⟨gb223, 8, none⟩ = some (.int .i64 a1_8) := bc BK223.out 8
 have hfz54_0 := blk_frozen BK223.out 0
 have hfz54_1 := blk_frozen BK223.out 1
 have hfz54_2 := blk_frozen BK223.out 2
 have hfz54_3 := blk_frozen BK223.out 3
 have hfz54_4 := blk_frozen BK223.out 4
 have hfz54_5 := blk_frozen BK223.out 5
 have hfz54_6 := blk_frozen BK223.out 6
 have hfz54_7 := blk_frozen BK223.out 7
 have hfz54_8 := blk_frozen BK223.out 8
 have p45 : 0 ≤ (x5_1 : Int) := of_decide_eq_true (by first | (with_reducible assumption) | assumption)
 have q45 : (x5_1 : Int) < ((y240.length : Int) : Int) := of_decide_eq_true (by first | (with_reducible assumption) | assumption)
 obtain ⟨ce45, hcl45, hM45, hcc45, hfr45⟩ := Kd.R_elem HO242.out z28 (x5_1 : Int) p45 q45
 obtain rfl := k28_openM hM45
 have hx45_0 : w52.cell? ⟨go53, (x5_1 : Int).toNat * 9, none⟩ = some (.int .i64 ((rd_T28 y251 x5_1).f0)) := hcc45 0 _ rfl
 have hx45_1 : w52.cell? ⟨go53, (x5_1 : Int).toNat * 9 + 1, none⟩ = some (.int .i64 ((rd_T28 y251 x5_1).f1)) := hcc45 1 _ rfl
 have hx45_2 : w52.cell? ⟨go53, (x5_1 : Int).toNat * 9 + 2, none⟩ = some (.int .i64 ((rd_T28 y251 x5_1).f2.f0)) := hcc45 2 _ rfl
 have hx45_3 : w52.cell? ⟨go53, (x5_1 : Int).toNat * 9 + 3, none⟩ = some (.int .i64 ((rd_T28 y251 x5_1).f2.f1)) := hcc45 3 _ rfl
 have hx45_4 : w52.cell? ⟨go53, (x5_1 : Int).toNat * 9 + 4, none⟩ = some (.int .i64 ((rd_T28 y251 x5_1).f2.f2)) := hcc45 4 _ rfl
 have hx45_5 : w52.cell? ⟨go53, (x5_1 : Int).toNat * 9 + 5, none⟩ = some (.int .i64 ((rd_T28 y251 x5_1).f2.f3.f0)) := hcc45 5 _ rfl
 have hx45_6 : w52.cell? ⟨go53, (x5_1 : Int).toNat * 9 + 6, none⟩ = some (.int .i64 ((rd_T28 y251 x5_1).f2.f3.f1)) := hcc45 6 _ rfl
 have hx45_7 : w52.cell? ⟨go53, (x5_1 : Int).toNat * 9 + 7, none⟩ = some (.int .i64 ((rd_T28 y251 x5_1).f2.f4)) := hcc45 7 _ rfl
 have hx45_8 : w52.cell? ⟨go53, (x5_1 : Int).toNat * 9 + 8, none⟩ = some (.int .i64 ((rd_T28 y251 x5_1).f2.f5)) := hcc45 8 _ rfl
 have hf45_0 : w52.frozen? ⟨go53, (x5_1 : Int).toNat * 9, none⟩ = false := hfr45 0
 have hf45_1 : w52.frozen? ⟨go53, (x5_1 : Int).toNat * 9 + 1, none⟩ = false := hfr45 1
 have hf45_2 : w52.frozen? ⟨go53, (x5_1 : Int).toNat * 9 + 2, none⟩ = false := hfr45 2
 have hf45_3 : w52.frozen? ⟨go53, (x5_1 : Int).toNat * 9 + 3, none⟩ = false := hfr45 3
 have hf45_4 : w52.frozen? ⟨go53, (x5_1 : Int).toNat * 9 + 4, none⟩ = false := hfr45 4
 have hf45_5 : w52.frozen? ⟨go53, (x5_1 : Int).toNat * 9 + 5, none⟩ = false := hfr45 5
 have hf45_6 : w52.frozen? ⟨go53, (x5_1 : Int).toNat * 9 + 6, none⟩ = false := hfr45 6
 have hf45_7 : w52.frozen? ⟨go53, (x5_1 : Int).toNat * 9 + 7, none⟩ = false := hfr45 7
 have hf45_8 : w52.frozen? ⟨go53, (x5_1 : Int).toNat * 9 + 8, none⟩ = false := hfr45 8
 clear hcl45 hcc45 hfr45 hM45
 replace p45 := eq_true p45
 replace q45 := eq_true q45
 have HX55 := Aside0.mk (show Kd.R k28 28 w52 w0.heap.size (fun k_ => (P0_ k_ ∨ w.heap.size ≤ k_) ∧ k_ ≠ gb223) (.slice (some ⟨go53, 0, none⟩) y240.length co50) y251 from (rq HO242.out))
 obtain ⟨ce55, hcl55, hM55, hcc55, hfr55⟩ := Kd.R_elem HX55.out z28 (x5_1 : Int) (of_decide_eq_true (by first | (with_reducible assumption) | assumption)) (by have h_ : (x5_1 : Int) < ((y240.length : Int) : Int) := of_decide_eq_true (by first | (with_reducible assumption) | assumption); first | exact h_ | (have e_ := (Kd.R_reads' HO242.out).1; omega) | simpa using h_)
 obtain rfl := k28_openM hM55
 have HP55 := Kd.R_seg HX55.out (x5_1 : Int) (of_decide_eq_true (by first | (with_reducible assumption) | assumption)) (by have h_ : (x5_1 : Int) < ((y240.length : Int) : Int) := of_decide_eq_true (by first | (with_reducible assumption) | assumption); first | exact h_ | (have e_ := (Kd.R_reads' HO242.out).1; omega) | simpa using h_) (seg := [.int .i64 a1_0, .int .i64 a1_1, .int .i64 a1_2, .int .i64 a1_3, .int .i64 a1_4, .int .i64 a1_5, .int .i64 a1_6, .int .i64 a1_7, .int .i64 a1_8]) (j := 0) hcl55 hcc55 (show 9 ≤ 9 from by decide) (x' := (⟨a1_0, a1_1, (⟨a1_2, a1_3, a1_4, (⟨a1_5, a1_6⟩ : S24), a1_7, a1_8⟩ : S26)⟩ : S28)) (k28_mkM _ _ _ (⟨a1_0, a1_1, (⟨a1_2, a1_3, a1_4, (⟨a1_5, a1_6⟩ : S24), a1_7, a1_8⟩ : S26)⟩ : S28) ) (fun _ hk => hk)
 have hx55_0 := hcc55 0 _ rfl
 (try simp only [show (k28).sz = 9 from rfl, Nat.mul_one, Nat.add_zero] at hx55_0)
 have hf55_0 := hfr55 0
 (try simp only [show (k28).sz = 9 from rfl, Nat.mul_one, Nat.add_zero] at hf55_0)
 have hx55_1 := hcc55 1 _ rfl
 (try simp only [show (k28).sz = 9 from rfl, Nat.mul_one, Nat.add_zero] at hx55_1)
 have hf55_1 := hfr55 1
 (try simp only [show (k28).sz = 9 from rfl, Nat.mul_one, Nat.add_zero] at hf55_1)
 have hx55_2 := hcc55 2 _ rfl
 (try simp only [show (k28).sz = 9 from rfl, Nat.mul_one, Nat.add_zero] at hx55_2)
 have hf55_2 := hfr55 2
 (try simp only [show (k28).sz = 9 from rfl, Nat.mul_one, Nat.add_zero] at hf55_2)
 have hx55_3 := hcc55 3 _ rfl
 (try simp only [show (k28).sz = 9 from rfl, Nat.mul_one, Nat.add_zero] at hx55_3)
 have hf55_3 := hfr55 3
 (try simp only [show (k28).sz = 9 from rfl, Nat.mul_one, Nat.add_zero] at hf55_3)
 have hx55_4 := hcc55 4 _ rfl
 (try simp only [show (k28).sz = 9 from rfl, Nat.mul_one, Nat.add_zero] at hx55_4)
 have hf55_4 := hfr55 4
 (try simp only [show (k28).sz = 9 from rfl, Nat.mul_one, Nat.add_zero] at hf55_4)
 have hx55_5 := hcc55 5 _ rfl
 (try simp only [show (k28).sz = 9 from rfl, Nat.mul_one, Nat.add_zero] at hx55_5)
 have hf55_5 := hfr55 5
 (try simp only [show (k28).sz = 9 from rfl, Nat.mul_one, Nat.add_zero] at hf55_5)
 have hx55_6 := hcc55 6 _ rfl
 (try simp only [show (k28).sz = 9 from rfl, Nat.mul_one, Nat.add_zero] at hx55_6)
 have hf55_6 := hfr55 6
 (try simp only [show (k28).sz = 9 from rfl, Nat.mul_one, Nat.add_zero] at hf55_6)
 have hx55_7 := hcc55 7 _ rfl
 (try simp only [show (k28).sz = 9 from rfl, Nat.mul_one, Nat.add_zero] at hx55_7)
 have hf55_7 := hfr55 7
 (try simp only [show (k28).sz = 9 from rfl, Nat.mul_one, Nat.add_zero] at hf55_7)
 have hx55_8 := hcc55 8 _ rfl
 (try simp only [show (k28).sz = 9 from rfl, Nat.mul_one, Nat.add_zero] at hx55_8)
 have hf55_8 := hfr55 8
 (try simp only [show (k28).sz = 9 from rfl, Nat.mul_one, Nat.add_zero] at hf55_8)
 clear hcl55 hcc55 hfr55 hM55
 try go_wp2_with (first | ((with_reducible refine gate_store (t := 28) (p := 55) rfl ?_); refine store_event (t := 28) (p := 55) (v := ?vo_w56) (w1 := (((((((((w52.setCell ⟨go53, (x5_1 : Int).toNat * 9, none⟩ (.int .i64 a1_0)).setCell ⟨go53, (x5_1 : Int).toNat * 9 + 1, none⟩ (.int .i64 a1_1)).setCell ⟨go53, (x5_1 : Int).toNat * 9 + 2, none⟩ (.int .i64 a1_2)).setCell ⟨go53, (x5_1 : Int).toNat * 9 + 3, none⟩ (.int .i64 a1_3)).setCell ⟨go53, (x5_1 : Int).toNat * 9 + 4, none⟩ (.int .i64 a1_4)).setCell ⟨go53, (x5_1 : Int).toNat * 9 + 5, none⟩ (.int .i64 a1_5)).setCell ⟨go53, (x5_1 : Int).toNat * 9 + 6, none⟩ (.int .i64 a1_6)).setCell ⟨go53, (x5_1 : Int).toNat * 9 + 7, none⟩ (.int .i64 a1_7)).setCell ⟨go53, (x5_1 : Int).toNat * 9 + 8, none⟩ (.int .i64 a1_8))) ?hg ?ho ?hn ?hr ?_; (case ho => rfl); (case hg => rfl); (case hn => rfl); (case hr => first | (go_simp; done) | (go_simp; rfl)); intro w56 hw; have hg : w52.grownBy w56 (some go53) := (by rw [hw]; exact HP55.2); have hp_ : Kd.R k28 28 w56 w0.heap.size (fun k_ => (P0_ k_ ∨ w.heap.size ≤ k_) ∧ k_ ≠ gb223) (.slice (some ⟨go53, 0, none⟩) y240.length co50) y252 := (by rw [hw, Ny252.out]; exact HP55.1); clear HP55; have n0_ := Aside0.mk (blk_grown (g := gb223) (o := .cells #[.int .i64 a1_0, .int .i64 a1_1, .int .i64 a1_2, .int .i64 a1_3, .int .i64 a1_4, .int .i64 a1_5, .int .i64 a1_6, .int .i64 a1_7, .int .i64 a1_8] 28 (0, 0)) (kq BK223.out) hg (Kd.R_away HO242.out (fun _ hk => hk.2))); have n1_ := Aside0.mk (hp_); have n2_ := Aside0.mk ((by rw [hw]; exact below_set (below_set (below_set (below_set (below_set (below_set (below_set (below_set (below_set (HB.out) GB53.out) GB53.out) GB53.out) GB53.out) GB53.out) GB53.out) GB53.out) GB53.out) GB53.out : Below w0.heap.size w0 w56)); have n3_ := Aside0.mk (Kept.of_grown (S := (fun k_ => P0_ k_)) hg (by repeat (first | (with_reducible first | exact HK.out | apply Kept.alloc | apply Kept.drewN | apply Kept.drew | refine Kept.setCell ?_ (.inr GW223.out) _) | exact HK.out)) (fun k_ e_ => (HO242.out.1 k_ e_).1)); clear BK223; clear HO242; clear HB; clear HK; have BK223 := n0_; have HO242 := n1_; have HB := n2_; have HK := n3_; clear n0_ n1_ n2_ n3_; clear hg hw hp_))
 go_ret
 exact ⟨_, by first | rfl | (simp [errW_none, errW_some] <;> rfl) | (simp only [← hji39]; first | rfl | (simp [errW_none, errW_some] <;> rfl)) | (simp [*, errW_none, errW_some] <;> rfl), by (with_reducible repeat (first | apply Kd.R_alloc | apply Kd.R_drewN | apply Kd.R_drew)); exact Kd.R_mono HO242.out (fun _ hk => hk.1), bq1 HB.out GE223.out, by repeat (first | (with_reducible first | exact HK.out | apply Kept.alloc | apply Kept.drewN | apply Kept.drew | refine Kept.setCell ?_ (.inr GW223.out) _) | exact HK.out)⟩)
 ·(
 rw [if_neg c44] at H
 exact absurd H (by simp)))
 ·(
 rw [if_neg c43] at H
 exact absurd H (by simp)))
 ·(
 rw [if_neg c42] at H
 exact absurd H (by simp)))
 ·(
 rw [if_neg c41] at H
 exact absurd H (by simp)))
 ·(
 rw [if_neg c40] at H
 exact absurd H (by simp)))
 ·(
 rw [if_neg c38] at H
 exact absurd H (by simp))))))
end Go.Proofs.Ytdobkcphmpbhlaa.PGL
