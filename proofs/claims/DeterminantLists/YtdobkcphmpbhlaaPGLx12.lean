-- Written by a program of this session (hprint.py) out of the translation and of hand-proved parts. Lean checks it.
import Derived.Test.YtdobkcphmpbhlaaPGLx0
import Derived.Test.YtdobkcphmpbhlaaPGLx1
import Derived.Test.YtdobkcphmpbhlaaPGLx11
namespace Go.Proofs.Ytdobkcphmpbhlaa.PGL
open Go.RowKit Go.Proofs.YtdobkcphmpbhlaaW.PrintWords Go.Proofs.YtdobkcphmpbhlaaW.PrintLast Go.Proofs.YtdobkcphmpbhlaaW.PrintMore
attribute [local go_sem] max2_int min2_int max_two min_two max_three min_three max_four min_four   -- for this text's walks alone
set_option linter.unusedVariables false
set_option linter.unusedSimpArgs false

attribute [local go_sem high] eqA28
/-! ### rollbacknetref27_Add: function 12 -/
def rollbacknetref27_Add.f (k : Nat) (l0 : List (S28)) (a1_0 : Int) (a1_1 : Int) (a1_2 : Int) (a1_3 : Int) (a1_4 : Int) (a1_5 : Int) (a1_6 : Int) (a1_7 : Int) (a1_8 : Int) : Option ((List (S28))) := (rollbacknetref27_Merge.f k l0 (([(⟨a1_0, a1_1, (⟨a1_2, a1_3, a1_4, (⟨a1_5, a1_6⟩ : S24), a1_7, a1_8⟩ : S26)⟩ : S28)] : List (S28)))).bind fun t322 => (some t322)
theorem rollbacknetref27_Add.mono : ∀ a0 a1 a2 a3 a4 a5 a6 a7 a8 a9 k, LeO (rollbacknetref27_Add.f k a0 a1 a2 a3 a4 a5 a6 a7 a8 a9) (rollbacknetref27_Add.f (k + 1) a0 a1 a2 a3 a4 a5 a6 a7 a8 a9) := by
 intro a0 a1 a2 a3 a4 a5 a6 a7 a8 a9 k
 unfold rollbacknetref27_Add.f
 repeat' first
   | (with_reducible exact rollbacknetref27_Merge.mono _ _ _)
   | (with_reducible exact LeO.refl _)
   | (with_reducible exact LeO.none _)
   | (with_reducible refine LeO.ite ?_ ?_)
   | (with_reducible refine LeO.bind ?_ (fun _ => ?_))
   | exact rollbacknetref27_Merge.mono _ _ _
   | exact LeO.none _
   | refine LeO.ite ?_ ?_
   | refine LeO.bind ?_ (fun _ => ?_)
set_option maxHeartbeats 8000000 in
set_option maxRecDepth 100000 in
theorem rollbacknetref27_Add.calls (k : Nat) (A0 : Option Addr) (c0 : Nat) (l0 : List (S28)) (a1_0 : Int) (a1_1 : Int) (a1_2 : Int) (a1_3 : Int) (a1_4 : Int) (a1_5 : Int) (a1_6 : Int) (a1_7 : Int) (a1_8 : Int) (r : List (S28)) (w : World) (hr0 : Kd.C k28 w A0 l0.length l0) (hc0 : l0.length ≤ c0) (h : rollbacknetref27_Add.f k l0 a1_0 a1_1 a1_2 a1_3 a1_4 a1_5 a1_6 a1_7 a1_8 = some r) :
  Calls Try.prog 12 #[.slice A0 l0.length c0, .agg #[.int .i64 a1_0, .int .i64 a1_1, .int .i64 a1_2, .int .i64 a1_3, .int .i64 a1_4, .int .i64 a1_5, .int .i64 a1_6, .int .i64 a1_7, .int .i64 a1_8]] w fun e w' => ∃ v0_ : Value, e = .returned (v0_) ∧ Kd.R k28 28 w' w.heap.size (fun _ => True) v0_ r ∧ Below w.heap.size w w' := by
 have hu28 := Try.underlying28
 have HR0 := Aside0.mk hr0
 have HC0 := Aside0.mk hc0
 clear hr0 hc0
 have HB := Aside0.mk (Below.refl w.heap.size w)
 have H : ((rollbacknetref27_Merge.f k l0 (([(⟨a1_0, a1_1, (⟨a1_2, a1_3, a1_4, (⟨a1_5, a1_6⟩ : S24), a1_7, a1_8⟩ : S26)⟩ : S28)] : List (S28)))).bind fun t322 => (some t322)) = some r := h
 clear h
 obtain ⟨y319, hy319⟩ : ∃ y_ : List (S28), y_ = (([(⟨a1_0, a1_1, (⟨a1_2, a1_3, a1_4, (⟨a1_5, a1_6⟩ : S24), a1_7, a1_8⟩ : S26)⟩ : S28)] : List (S28))) := ⟨_, rfl⟩
 replace H : ((rollbacknetref27_Merge.f k l0 y319).bind fun t322 => (some t322)) = some r := by first | (rw [hy319]; with_reducible exact H) | (have H2_ := (Option.bind_some _ _).symm.trans H; rw [hy319]; with_reducible exact H2_) | (have H2_ := (Option.bind_some _ _).symm.trans H; with_reducible exact H2_) | with_reducible exact H | (rw [hy319]; exact H) | exact H
 have Ny319 := Aside0.mk hy319
 clear hy319
 obtain ⟨t322, A3, H⟩ := bnd H
 obtain rfl := Option.some.inj H
 go_enter Try.func12, Try.ntmps12
 go_wp2_with (first | ((with_reducible refine gate_dst (N := 3) rfl ?_); refine box_event ?hg (N := 3) ?hd (cs := #[.int .i64 a1_0, .int .i64 a1_1, .int .i64 a1_2, .int .i64 a1_3, .int .i64 a1_4, .int .i64 a1_5, .int .i64 a1_6, .int .i64 a1_7, .int .i64 a1_8]) (t := 28) ?hr ?_; (case hd => rfl); (case hg => rfl); (case hr => first | (go_simp; done) | (go_simp; rfl)); intro gb318 hg w4 hbox hb; have n0_ := Aside0.mk (below_step (bq HB.out) hb); have n1_ := Aside0.mk (hbox); have n2_ := Aside0.mk ((by rw [hg]; exact (below_size (bq HB.out)) : w.heap.size ≤ gb318)); have n3_ := Aside0.mk ((by rw [hg]; exact (below_size (bq HB.out)) : w.heap.size ≤ gb318)); clear HB; have HB := n0_; have BK318 := n1_; have GW318 := n2_; have GE318 := n3_; clear n0_ n1_ n2_ n3_; clear hb hbox hg; have hcz5_0 : w4.cell? ⟨gb318, 0, none⟩ = some (.int .i64 a1_0) := bc BK318.out 0; have hcz5_1 : w4.cell? ⟨gb318, 1, none⟩ = some (.int .i64 a1_1) := bc BK318.out 1; have hcz5_2 : w4.cell? ⟨gb318, 2, none⟩ = some (.int .i64 a1_2) := bc BK318.out 2; have hcz5_3 : w4.cell? ⟨gb318, 3, none⟩ = some (.int .i64 a1_3) := bc BK318.out 3; have hcz5_4 : w4.cell? ⟨gb318, 4, none⟩ = some (.int .i64 a1_4) := bc BK318.out 4; have hcz5_5 : w4.cell? ⟨gb318, 5, none⟩ = some (.int .i64 a1_5) := bc BK318.out 5; have hcz5_6 : w4.cell? ⟨gb318, 6, none⟩ = some (.int .i64 a1_6) := bc BK318.out 6; have hcz5_7 : w4.cell? ⟨gb318, 7, none⟩ = some (.int .i64 a1_7) := bc BK318.out 7; have hcz5_8 : w4.cell? ⟨gb318, 8, none⟩ = some (.int .i64 a1_8) := bc BK318.out 8; have hfz5_0 := blk_frozen BK318.out 0; have hfz5_1 := blk_frozen BK318.out 1; have hfz5_2 := blk_frozen BK318.out 2; have hfz5_3 := blk_frozen BK318.out 3; have hfz5_4 := blk_frozen BK318.out 4; have hfz5_5 := blk_frozen BK318.out 5; have hfz5_6 := blk_frozen BK318.out 6; have hfz5_7 := blk_frozen BK318.out 7; have hfz5_8 := blk_frozen BK318.out 8) | ((with_reducible refine gate_dst (N := 7) rfl ?_); refine Kd.R_lit k28 _ 28 ?hg (N := 7) ?hd (xs := ([(⟨a1_0, a1_1, (⟨a1_2, a1_3, a1_4, (⟨a1_5, a1_6⟩ : S24), a1_7, a1_8⟩ : S26)⟩ : S28)] : List (S28))) (inner := [.int .i64 a1_0, .int .i64 a1_1, .int .i64 a1_2, .int .i64 a1_3, .int .i64 a1_4, .int .i64 a1_5, .int .i64 a1_6, .int .i64 a1_7, .int .i64 a1_8]) (ok := fun _ => True) (okp := fun _ => True) ?hr ?hp (fun _ hk => hk) trivial (Below.refl _ _) (Nat.le_refl _) (by simp) ?_; (case hd => rfl); (case hg => rfl); (case hr => first | (go_simp; done) | (go_simp; rfl)); (case hp => exact (Reps.c9 (show Kd.M k28 _ _ _ (⟨a1_0, a1_1, (⟨a1_2, a1_3, a1_4, (⟨a1_5, a1_6⟩ : S24), a1_7, a1_8⟩ : S26)⟩ : S28) [.int .i64 a1_0, .int .i64 a1_1, .int .i64 a1_2, .int .i64 a1_3, .int .i64 a1_4, .int .i64 a1_5, .int .i64 a1_6, .int .i64 a1_7, .int .i64 a1_8] from (k28_mkM _ _ _ (⟨a1_0, a1_1, (⟨a1_2, a1_3, a1_4, (⟨a1_5, a1_6⟩ : S24), a1_7, a1_8⟩ : S26)⟩ : S28) )) (Reps.none _ _))); intro v320 w6 ho7 hb hg_ hnew_; clear hg_ hnew_; (first | rw [← Ny319.out] at ho7 | (simp only [Int.reduceToNat] at ho7; rw [← Ny319.out] at ho7)); have n0_ := Aside0.mk (Kd.R_lower (rnb ho7 BK318.out) (below_size (bq1 HB.out GE318.out))); have n1_ := Aside0.mk (bb BK318.out hb); have n2_ := Aside0.mk (below_step (bq1 HB.out GE318.out) hb); clear BK318; clear HB; have HO321 := n0_; have BK318 := n1_; have HB := n2_; clear n0_ n1_ n2_; clear hb ho7; obtain ⟨Ao8, co8, eo8⟩ := Kd.R_slice HO321.out; subst eo8) | ((with_reducible refine gate_callee (f := 25) rfl ?_); refine gl (some 8) Try.func25 #[.slice A0 l0.length c0, .slice Ao8 y319.length co8] ?_; (with_reducible refine (rollbacknetref27_Merge.calls k _ _ l0 _ _ y319 t322 _ ?side1 ?side2 ?side3 ?side4 A3.out).mono ?_); (case side1 => exact crd (Kd.C_below HR0.out HB.out)); (case side2 => exact HC0.out); (case side3 => exact crd (Kd.R_reads' HO321.out).2.2); (case side4 => exact (Kd.R_reads' HO321.out).2.1); rintro e w9 ⟨v323, rfl, ho0, hb⟩; refine ⟨_, rfl, ?_⟩; have n0_ := Aside0.mk (Kd.R_elder' (rq HO321.out) (Kd.R_base ho0) hb); have n1_ := Aside0.mk (Kd.R_lower (rnb (Kd.R_new' ho0 (Kd.R_lt (rq HO321.out))) BK318.out) (below_size (bq1 HB.out GE318.out))); have n2_ := Aside0.mk (bb BK318.out hb); have n3_ := Aside0.mk (below_step (bq1 HB.out GE318.out) hb); clear HO321; clear BK318; clear HB; have HO321 := n0_; have HO324 := n1_; have BK318 := n2_; have HB := n3_; clear n0_ n1_ n2_ n3_; (try clear hb); (try clear hb2); (try clear hk); (try clear hi); (try clear ho0)))
 go_ret
 exact ⟨_, by first | rfl | (simp [errW_none, errW_some] <;> rfl) | (simp [*, errW_none, errW_some] <;> rfl), by (with_reducible repeat (first | apply Kd.R_alloc | apply Kd.R_drewN | apply Kd.R_drew)); exact Kd.R_mono HO324.out (fun _ hk => trivial), bq1 HB.out GE318.out⟩
/-! ### determinant_Has: function 13 -/
def determinant_Has.l0 : Nat → List (S28) → Int → Int → Int → Int → Int → Int → Int → Int → Int → Int → Int → Option (Bool)
 | 0, _, _, _, _, _, _, _, _, _, _, _, _ => none
 | k + 1, x7, x8, x9, x326000, x326001, x326002, x326003, x326004, x326005, x326006, x326007, x326008 => if x9 < x8 then (if 0 ≤ x9 then (if x9 < (x7.length : Int) then (if (((rd_T28 x7 x9).f0) == x326000 && (((rd_T28 x7 x9).f1) == x326001 && ((((rd_T28 x7 x9).f2.f0) == x326002 && (((rd_T28 x7 x9).f2.f1) == x326003 && (((rd_T28 x7 x9).f2.f2) == x326004 && ((((rd_T28 x7 x9).f2.f3.f0) == x326005 && (((rd_T28 x7 x9).f2.f3.f1) == x326006)) && (((rd_T28 x7 x9).f2.f4) == x326007 && (((rd_T28 x7 x9).f2.f5) == x326008))))))))) = true then (some true) else (determinant_Has.l0 k x7 x8 (wrap64 (x9 + 1)) x326000 x326001 x326002 x326003 x326004 x326005 x326006 x326007 x326008)) else (none)) else (none)) else (some false)
def determinant_Has.f (k : Nat) (l0 : List (S28)) (a1_0 : Int) (a1_1 : Int) (a1_2 : Int) (a1_3 : Int) (a1_4 : Int) (a1_5 : Int) (a1_6 : Int) (a1_7 : Int) (a1_8 : Int) : Option (Bool) := determinant_Has.l0 k l0 (l0.length : Int) 0 a1_0 a1_1 a1_2 a1_3 a1_4 a1_5 a1_6 a1_7 a1_8
theorem determinant_Has.mono_l : ∀ k, (∀ y0 y1 y2 y3 y4 y5 y6 y7 y8 y9 y10 y11, LeO (determinant_Has.l0 k y0 y1 y2 y3 y4 y5 y6 y7 y8 y9 y10 y11) (determinant_Has.l0 (k + 1) y0 y1 y2 y3 y4 y5 y6 y7 y8 y9 y10 y11))
 | 0 => fun _ _ _ _ _ _ _ _ _ _ _ _ r h => by simp [determinant_Has.l0] at h
 | k + 1 => by
  have ih0 := determinant_Has.mono_l k
  ·intro y0 y1 y2 y3 y4 y5 y6 y7 y8 y9 y10 y11
   unfold determinant_Has.l0
   repeat' first
   | (with_reducible exact ih0 _ _ _ _ _ _ _ _ _ _ _ _)
   | (with_reducible exact LeO.refl _)
   | (with_reducible exact LeO.none _)
   | (with_reducible refine LeO.ite ?_ ?_)
   | (with_reducible refine LeO.bind ?_ (fun _ => ?_))
   | exact ih0 _ _ _ _ _ _ _ _ _ _ _ _
   | exact LeO.none _
   | refine LeO.ite ?_ ?_
   | refine LeO.bind ?_ (fun _ => ?_)
theorem determinant_Has.mono : ∀ a0 a1 a2 a3 a4 a5 a6 a7 a8 a9 k, LeO (determinant_Has.f k a0 a1 a2 a3 a4 a5 a6 a7 a8 a9) (determinant_Has.f (k + 1) a0 a1 a2 a3 a4 a5 a6 a7 a8 a9) := by
 intro a0 a1 a2 a3 a4 a5 a6 a7 a8 a9 k
 have ih0 := determinant_Has.mono_l k
 unfold determinant_Has.f
 repeat' first
   | (with_reducible exact ih0 _ _ _ _ _ _ _ _ _ _ _ _)
   | (with_reducible exact LeO.refl _)
   | (with_reducible exact LeO.none _)
   | (with_reducible refine LeO.ite ?_ ?_)
   | (with_reducible refine LeO.bind ?_ (fun _ => ?_))
   | exact ih0 _ _ _ _ _ _ _ _ _ _ _ _
   | exact LeO.none _
   | refine LeO.ite ?_ ?_
   | refine LeO.bind ?_ (fun _ => ?_)
set_option maxHeartbeats 8000000 in
set_option maxRecDepth 100000 in
theorem determinant_Has.calls (k : Nat) (A0 : Option Addr) (c0 : Nat) (l0 : List (S28)) (a1_0 : Int) (a1_1 : Int) (a1_2 : Int) (a1_3 : Int) (a1_4 : Int) (a1_5 : Int) (a1_6 : Int) (a1_7 : Int) (a1_8 : Int) (r : Bool) (w : World) (hr0 : Kd.C k28 w A0 l0.length l0) (hc0 : l0.length ≤ c0) (h : determinant_Has.f k l0 a1_0 a1_1 a1_2 a1_3 a1_4 a1_5 a1_6 a1_7 a1_8 = some r) :
  Calls Try.prog 13 #[.slice A0 l0.length c0, .agg #[.int .i64 a1_0, .int .i64 a1_1, .int .i64 a1_2, .int .i64 a1_3, .int .i64 a1_4, .int .i64 a1_5, .int .i64 a1_6, .int .i64 a1_7, .int .i64 a1_8]] w fun e w' => e = .returned (.bool r) ∧ Below w.heap.size w w' := by
 have hu28 := Try.underlying28
 have HR0 := Aside0.mk hr0
 have HC0 := Aside0.mk hc0
 clear hr0 hc0
 have HB := Aside0.mk (Below.refl w.heap.size w)
 have H : (determinant_Has.l0 k l0 (l0.length : Int) 0 a1_0 a1_1 a1_2 a1_3 a1_4 a1_5 a1_6 a1_7 a1_8) = some r := h
 clear h
 have H' := Aside0.mk H
 clear H
 go_enter Try.func13, Try.ntmps13
 go_wp2_with (first | ((with_reducible refine gate_dst (N := 3) rfl ?_); refine box_event ?hg (N := 3) ?hd (cs := #[.int .i64 a1_0, .int .i64 a1_1, .int .i64 a1_2, .int .i64 a1_3, .int .i64 a1_4, .int .i64 a1_5, .int .i64 a1_6, .int .i64 a1_7, .int .i64 a1_8]) (t := 28) ?hr ?_; (case hd => rfl); (case hg => rfl); (case hr => first | (go_simp; done) | (go_simp; rfl)); intro gb325 hg w3 hbox hb; have n0_ := Aside0.mk (below_step (bq HB.out) hb); have n1_ := Aside0.mk (hbox); have n2_ := Aside0.mk ((by rw [hg]; exact (below_size (bq HB.out)) : w.heap.size ≤ gb325)); have n3_ := Aside0.mk ((by rw [hg]; exact (below_size (bq HB.out)) : w.heap.size ≤ gb325)); clear HB; have HB := n0_; have BK325 := n1_; have GW325 := n2_; have GE325 := n3_; clear n0_ n1_ n2_ n3_; clear hb hbox hg))
 go_loopg [9] k (fun kq v9 w' => ∃ (x9_1 : Int), v9 = .int .i64 x9_1 ∧ Aside0 (determinant_Has.l0 kq l0 (l0.length : Int) x9_1 a1_0 a1_1 a1_2 a1_3 a1_4 a1_5 a1_6 a1_7 a1_8 = some r) ∧ Aside0 (kq ≤ k) ∧ Aside0 (w'.heap[gb325]? = some (.cells #[.int .i64 a1_0, .int .i64 a1_1, .int .i64 a1_2, .int .i64 a1_3, .int .i64 a1_4, .int .i64 a1_5, .int .i64 a1_6, .int .i64 a1_7, .int .i64 a1_8] 28 (0, 0))) ∧ Aside0 (Below w.heap.size w w'))
 case atStart => exact ⟨(0), (by first | rfl | (simp; done) | (simp [*]; done)), H', ⟨Nat.le_refl _⟩, ⟨kq BK325.out⟩, ⟨bq1 HB.out GE325.out⟩⟩
 case round =>(
 clear H'
 try clear c1
 try clear p2
 obtain ⟨x9_1, rfl, HA, HK1, BK325, HB⟩ := hrel
 cases gk with
 | zero => exact absurd HA.out (by simp [determinant_Has.l0])
 | succ k1 =>(
 have H := HA.out
 clear HA
 simp only [determinant_Has.l0] at H
 by_cases c4 : x9_1 < (l0.length : Int)
 ·(
 rw [if_pos c4] at H
 have c4b0 : decide (x9_1 < (l0.length : Int)) = true := decide_eq_true c4
 clear c4
 by_cases c5 : 0 ≤ x9_1
 ·(
 rw [if_pos c5] at H
 have c5b0 : decide (0 ≤ x9_1) = true := decide_eq_true c5
 clear c5
 by_cases c6 : x9_1 < (l0.length : Int)
 ·(
 rw [if_pos c6] at H
 have c6b0 : decide (x9_1 < (l0.length : Int)) = true := decide_eq_true c6
 clear c6
 by_cases c7 : (((rd_T28 l0 x9_1).f0) == a1_0 && (((rd_T28 l0 x9_1).f1) == a1_1 && ((((rd_T28 l0 x9_1).f2.f0) == a1_2 && (((rd_T28 l0 x9_1).f2.f1) == a1_3 && (((rd_T28 l0 x9_1).f2.f2) == a1_4 && ((((rd_T28 l0 x9_1).f2.f3.f0) == a1_5 && (((rd_T28 l0 x9_1).f2.f3.f1) == a1_6)) && (((rd_T28 l0 x9_1).f2.f4) == a1_7 && (((rd_T28 l0 x9_1).f2.f5) == a1_8))))))))) = true
 ·(
 rw [if_pos c7] at H
 have c7b0 : (((rd_T28 l0 x9_1).f0) == a1_0 && (((rd_T28 l0 x9_1).f1) == a1_1 && ((((rd_T28 l0 x9_1).f2.f0) == a1_2 && (((rd_T28 l0 x9_1).f2.f1) == a1_3 && (((rd_T28 l0 x9_1).f2.f2) == a1_4 && ((((rd_T28 l0 x9_1).f2.f3.f0) == a1_5 && (((rd_T28 l0 x9_1).f2.f3.f1) == a1_6)) && (((rd_T28 l0 x9_1).f2.f4) == a1_7 && (((rd_T28 l0 x9_1).f2.f5) == a1_8))))))))) = true := c7
 (try (have c7b1 : decide (((rd_T28 l0 x9_1).f0) = a1_0 && (((rd_T28 l0 x9_1).f1) == a1_1 && ((((rd_T28 l0 x9_1).f2.f0) == a1_2 && (((rd_T28 l0 x9_1).f2.f1) == a1_3 && (((rd_T28 l0 x9_1).f2.f2) == a1_4 && ((((rd_T28 l0 x9_1).f2.f3.f0) == a1_5 && (((rd_T28 l0 x9_1).f2.f3.f1) == a1_6)) && (((rd_T28 l0 x9_1).f2.f4) == a1_7 && (((rd_T28 l0 x9_1).f2.f5) == a1_8))))))))) = true := by simpa using c7))
 (try (have c7b2 : (((rd_T28 l0 x9_1).f0) == a1_0 && (((rd_T28 l0 x9_1).f1) == a1_1 && ((((rd_T28 l0 x9_1).f2.f0) == a1_2 && (((rd_T28 l0 x9_1).f2.f1) == a1_3 && (((rd_T28 l0 x9_1).f2.f2) == a1_4 && ((((rd_T28 l0 x9_1).f2.f3.f0) == a1_5 && (((rd_T28 l0 x9_1).f2.f3.f1) == a1_6)) && (((rd_T28 l0 x9_1).f2.f4) == a1_7 && (((rd_T28 l0 x9_1).f2.f5) == a1_8))))))))) = true := by simpa using c7))
 clear c7
 obtain rfl := Option.some.inj H
 have p326 : 0 ≤ (x9_1 : Int) := of_decide_eq_true (by first | (with_reducible assumption) | assumption)
 have q326 : x9_1 < (l0.length : Int) := of_decide_eq_true (by first | (with_reducible assumption) | assumption)
 obtain ⟨ad326, e326, hx326_0, hx326_1, hx326_2, hx326_3, hx326_4, hx326_5, hx326_6, hx326_7, hx326_8⟩ := at_T28 HR0.out x9_1 p326 q326
 cases e326
 replace hx326_0 := hce HB hx326_0
 replace hx326_1 := hce HB hx326_1
 replace hx326_2 := hce HB hx326_2
 replace hx326_3 := hce HB hx326_3
 replace hx326_4 := hce HB hx326_4
 replace hx326_5 := hce HB hx326_5
 replace hx326_6 := hce HB hx326_6
 replace hx326_7 := hce HB hx326_7
 replace hx326_8 := hce HB hx326_8
 replace p326 := eq_true p326
 replace q326 := eq_true q326
 go_wp2_with (first | ((with_reducible refine gate_dst (N := 6) rfl ?_); refine box_event ?hg (N := 6) ?hd (cs := #[.int .i64 0, .int .i64 0, .int .i64 0, .int .i64 0, .int .i64 0, .int .i64 0, .int .i64 0, .int .i64 0, .int .i64 0]) (t := 28) ?hr ?_; (case hd => rfl); (case hg => rfl); (case hr => first | (go_simp; done) | (go_simp; rfl)); intro gb327 hg w8 hbox hb; have n0_ := Aside0.mk (bb BK325.out hb); have n1_ := Aside0.mk (below_step (bq1 HB.out GE325.out) hb); have n2_ := Aside0.mk (hbox); have n3_ := Aside0.mk ((by rw [hg]; exact (below_size (bq1 HB.out GE325.out)) : w.heap.size ≤ gb327)); have n4_ := Aside0.mk ((by rw [hg]; exact (below_size (bq1 HB.out GE325.out)) : w.heap.size ≤ gb327)); have n5_ := Aside0.mk ((nlt hg BK325.out : gb325 ≠ gb327)); have n6_ := Aside0.mk ((by rw [hg]; exact Nat.ne_of_gt (blk_lt (g := gb325) (o := .cells #[.int .i64 a1_0, .int .i64 a1_1, .int .i64 a1_2, .int .i64 a1_3, .int .i64 a1_4, .int .i64 a1_5, .int .i64 a1_6, .int .i64 a1_7, .int .i64 a1_8] 28 (0, 0)) (kq BK325.out)) : gb327 ≠ gb325)); clear BK325; clear HB; have BK325 := n0_; have HB := n1_; have BK327 := n2_; have GW327 := n3_; have GE327 := n4_; have NB325_327 := n5_; have NB327_325 := n6_; clear n0_ n1_ n2_ n3_ n4_ n5_ n6_; clear hb hbox hg; have hnb9 := NB327_325.out; have hnc9 := NB325_327.out; have hcz10_0 : w8.cell? ⟨gb327, 0, none⟩ = some (.int .i64 0) := bc BK327.out 0; have hcz10_1 : w8.cell? ⟨gb327, 1, none⟩ = some (.int .i64 0) := bc BK327.out 1; have hcz10_2 : w8.cell? ⟨gb327, 2, none⟩ = some (.int .i64 0) := bc BK327.out 2; have hcz10_3 : w8.cell? ⟨gb327, 3, none⟩ = some (.int .i64 0) := bc BK327.out 3; have hcz10_4 : w8.cell? ⟨gb327, 4, none⟩ = some (.int .i64 0) := bc BK327.out 4; have hcz10_5 : w8.cell? ⟨gb327, 5, none⟩ = some (.int .i64 0) := bc BK327.out 5; have hcz10_6 : w8.cell? ⟨gb327, 6, none⟩ = some (.int .i64 0) := bc BK327.out 6; have hcz10_7 : w8.cell? ⟨gb327, 7, none⟩ = some (.int .i64 0) := bc BK327.out 7; have hcz10_8 : w8.cell? ⟨gb327, 8, none⟩ = some (.int .i64 0) := bc BK327.out 8; have hfz10_0 := blk_frozen BK327.out 0; have hfz10_1 := blk_frozen BK327.out 1; have hfz10_2 := blk_frozen BK327.out 2; have hfz10_3 := blk_frozen BK327.out 3; have hfz10_4 := blk_frozen BK327.out 4; have hfz10_5 := blk_frozen BK327.out 5; have hfz10_6 := blk_frozen BK327.out 6; have hfz10_7 := blk_frozen BK327.out 7; have hfz10_8 := blk_frozen BK327.out 8; have hcz11_0 : w8.cell? ⟨gb325, 0, none⟩ = some (.int .i64 a1_0) := bc BK325.out 0; have hcz11_1 : w8.cell? ⟨gb325, 1, none⟩ = some (.int .i64 a1_1) := bc BK325.out 1; have hcz11_2 : w8.cell? ⟨gb325, 2, none⟩ = some (.int .i64 a1_2) := bc BK325.out 2; have hcz11_3 : w8.cell? ⟨gb325, 3, none⟩ = some (.int .i64 a1_3) := bc BK325.out 3; have hcz11_4 : w8.cell? ⟨gb325, 4, none⟩ = some (.int .i64 a1_4) := bc BK325.out 4; have hcz11_5 : w8.cell? ⟨gb325, 5, none⟩ = some (.int .i64 a1_5) := bc BK325.out 5; have hcz11_6 : w8.cell? ⟨gb325, 6, none⟩ = some (.int .i64 a1_6) := bc BK325.out 6; have hcz11_7 : w8.cell? ⟨gb325, 7, none⟩ = some (.int .i64 a1_7) := bc BK325.out 7; have hcz11_8 : w8.cell? ⟨gb325, 8, none⟩ = some (.int .i64 a1_8) := bc BK325.out 8; have hfz11_0 := blk_frozen BK325.out 0; have hfz11_1 := blk_frozen BK325.out 1; have hfz11_2 := blk_frozen BK325.out 2; have hfz11_3 := blk_frozen BK325.out 3; have hfz11_4 := blk_frozen BK325.out 4; have hfz11_5 := blk_frozen BK325.out 5; have hfz11_6 := blk_frozen BK325.out 6; have hfz11_7 := blk_frozen BK325.out 7; have hfz11_8 := blk_frozen BK325.out 8))
 go_ret
 exact ⟨by first | rfl | (simp [errW_none, errW_some] <;> rfl) | (simp [*, errW_none, errW_some] <;> rfl), bq2 HB.out GE325.out GE327.out⟩)
 ·(
 rw [if_neg c7] at H
 have c7b0 : (((rd_T28 l0 x9_1).f0) == a1_0 && (((rd_T28 l0 x9_1).f1) == a1_1 && ((((rd_T28 l0 x9_1).f2.f0) == a1_2 && (((rd_T28 l0 x9_1).f2.f1) == a1_3 && (((rd_T28 l0 x9_1).f2.f2) == a1_4 && ((((rd_T28 l0 x9_1).f2.f3.f0) == a1_5 && (((rd_T28 l0 x9_1).f2.f3.f1) == a1_6)) && (((rd_T28 l0 x9_1).f2.f4) == a1_7 && (((rd_T28 l0 x9_1).f2.f5) == a1_8))))))))) = false := by simpa using c7
 (try (have c7b1 : decide (((rd_T28 l0 x9_1).f0) = a1_0 && (((rd_T28 l0 x9_1).f1) == a1_1 && ((((rd_T28 l0 x9_1).f2.f0) == a1_2 && (((rd_T28 l0 x9_1).f2.f1) == a1_3 && (((rd_T28 l0 x9_1).f2.f2) == a1_4 && ((((rd_T28 l0 x9_1).f2.f3.f0) == a1_5 && (((rd_T28 l0 x9_1).f2.f3.f1) == a1_6)) && (((rd_T28 l0 x9_1).f2.f4) == a1_7 && (((rd_T28 l0 x9_1).f2.f5) == a1_8))))))))) = false := by simpa using c7))
 (try (have c7b2 : (((rd_T28 l0 x9_1).f0) == a1_0 && (((rd_T28 l0 x9_1).f1) == a1_1 && ((((rd_T28 l0 x9_1).f2.f0) == a1_2 && (((rd_T28 l0 x9_1).f2.f1) == a1_3 && (((rd_T28 l0 x9_1).f2.f2) == a1_4 && ((((rd_T28 l0 x9_1).f2.f3.f0) == a1_5 && (((rd_T28 l0 x9_1).f2.f3.f1) == a1_6)) && (((rd_T28 l0 x9_1).f2.f4) == a1_7 && (((rd_T28 l0 x9_1).f2.f5) == a1_8))))))))) = false := by simpa using c7))
 (try (have c7b3 : ¬ (((rd_T28 l0 x9_1).f0) = a1_0 && (((rd_T28 l0 x9_1).f1) == a1_1 && ((((rd_T28 l0 x9_1).f2.f0) == a1_2 && (((rd_T28 l0 x9_1).f2.f1) == a1_3 && (((rd_T28 l0 x9_1).f2.f2) == a1_4 && ((((rd_T28 l0 x9_1).f2.f3.f0) == a1_5 && (((rd_T28 l0 x9_1).f2.f3.f1) == a1_6)) && (((rd_T28 l0 x9_1).f2.f4) == a1_7 && (((rd_T28 l0 x9_1).f2.f5) == a1_8))))))))) := by simpa using c7))
 clear c7
 have H' := Aside0.mk H
 clear H
 have p326 : 0 ≤ (x9_1 : Int) := of_decide_eq_true (by first | (with_reducible assumption) | assumption)
 have q326 : x9_1 < (l0.length : Int) := of_decide_eq_true (by first | (with_reducible assumption) | assumption)
 obtain ⟨ad326, e326, hx326_0, hx326_1, hx326_2, hx326_3, hx326_4, hx326_5, hx326_6, hx326_7, hx326_8⟩ := at_T28 HR0.out x9_1 p326 q326
 cases e326
 replace hx326_0 := hce HB hx326_0
 replace hx326_1 := hce HB hx326_1
 replace hx326_2 := hce HB hx326_2
 replace hx326_3 := hce HB hx326_3
 replace hx326_4 := hce HB hx326_4
 replace hx326_5 := hce HB hx326_5
 replace hx326_6 := hce HB hx326_6
 replace hx326_7 := hce HB hx326_7
 replace hx326_8 := hce HB hx326_8
 replace p326 := eq_true p326
 replace q326 := eq_true q326
 go_wp2_with (first | ((with_reducible refine gate_dst (N := 6) rfl ?_); refine box_event ?hg (N := 6) ?hd (cs := #[.int .i64 0, .int .i64 0, .int .i64 0, .int .i64 0, .int .i64 0, .int .i64 0, .int .i64 0, .int .i64 0, .int .i64 0]) (t := 28) ?hr ?_; (case hd => rfl); (case hg => rfl); (case hr => first | (go_simp; done) | (go_simp; rfl)); intro gb327 hg w12 hbox hb; have n0_ := Aside0.mk (bb BK325.out hb); have n1_ := Aside0.mk (below_step (bq1 HB.out GE325.out) hb); have n2_ := Aside0.mk (hbox); have n3_ := Aside0.mk ((by rw [hg]; exact (below_size (bq1 HB.out GE325.out)) : w.heap.size ≤ gb327)); have n4_ := Aside0.mk ((by rw [hg]; exact (below_size (bq1 HB.out GE325.out)) : w.heap.size ≤ gb327)); have n5_ := Aside0.mk ((nlt hg BK325.out : gb325 ≠ gb327)); have n6_ := Aside0.mk ((by rw [hg]; exact Nat.ne_of_gt (blk_lt (g := gb325) (o := .cells #[.int .i64 a1_0, .int .i64 a1_1, .int .i64 a1_2, .int .i64 a1_3, .int .i64 a1_4, .int .i64 a1_5, .int .i64 a1_6, .int .i64 a1_7, .int .i64 a1_8] 28 (0, 0)) (kq BK325.out)) : gb327 ≠ gb325)); clear BK325; clear HB; have BK325 := n0_; have HB := n1_; have BK327 := n2_; have GW327 := n3_; have GE327 := n4_; have NB325_327 := n5_; have NB327_325 := n6_; clear n0_ n1_ n2_ n3_ n4_ n5_ n6_; clear hb hbox hg; have hnb13 := NB327_325.out; have hnc13 := NB325_327.out; have hcz14_0 : w12.cell? ⟨gb327, 0, none⟩ = some (.int .i64 0) := bc BK327.out 0; have hcz14_1 : w12.cell? ⟨gb327, 1, none⟩ = some (.int .i64 0) := bc BK327.out 1; have hcz14_2 : w12.cell? ⟨gb327, 2, none⟩ = some (.int .i64 0) := bc BK327.out 2; have hcz14_3 : w12.cell? ⟨gb327, 3, none⟩ = some (.int .i64 0) := bc BK327.out 3; have hcz14_4 : w12.cell? ⟨gb327, 4, none⟩ = some (.int .i64 0) := bc BK327.out 4; have hcz14_5 : w12.cell? ⟨gb327, 5, none⟩ = some (.int .i64 0) := bc BK327.out 5; have hcz14_6 : w12.cell? ⟨gb327, 6, none⟩ = some (.int .i64 0) := bc BK327.out 6; have hcz14_7 : w12.cell? ⟨gb327, 7, none⟩ = some (.int .i64 0) := bc BK327.out 7; have hcz14_8 : w12.cell? ⟨gb327, 8, none⟩ = some (.int .i64 0) := bc BK327.out 8; have hfz14_0 := blk_frozen BK327.out 0; have hfz14_1 := blk_frozen BK327.out 1; have hfz14_2 := blk_frozen BK327.out 2; have hfz14_3 := blk_frozen BK327.out 3; have hfz14_4 := blk_frozen BK327.out 4; have hfz14_5 := blk_frozen BK327.out 5; have hfz14_6 := blk_frozen BK327.out 6; have hfz14_7 := blk_frozen BK327.out 7; have hfz14_8 := blk_frozen BK327.out 8; have hcz15_0 : w12.cell? ⟨gb325, 0, none⟩ = some (.int .i64 a1_0) := bc BK325.out 0; have hcz15_1 : w12.cell? ⟨gb325, 1, none⟩ = some (.int .i64 a1_1) := bc BK325.out 1; have hcz15_2 : w12.cell? ⟨gb325, 2, none⟩ = some (.int .i64 a1_2) := bc BK325.out 2; have hcz15_3 : w12.cell? ⟨gb325, 3, none⟩ = some (.int .i64 a1_3) := bc BK325.out 3; have hcz15_4 : w12.cell? ⟨gb325, 4, none⟩ = some (.int .i64 a1_4) := bc BK325.out 4; have hcz15_5 : w12.cell? ⟨gb325, 5, none⟩ = some (.int .i64 a1_5) := bc BK325.out 5; have hcz15_6 : w12.cell? ⟨gb325, 6, none⟩ = some (.int .i64 a1_6) := bc BK325.out 6; have hcz15_7 : w12.cell? ⟨gb325, 7, none⟩ = some (.int .i64 a1_7) := bc BK325.out 7; have hcz15_8 : w12.cell? ⟨gb325, 8, none⟩ = some (.int .i64 a1_8) := bc BK325.out 8; have hfz15_0 := blk_frozen BK325.out 0; have hfz15_1 := blk_frozen BK325.out 1; have hfz15_2 := blk_frozen BK325.out 2; have hfz15_3 := blk_frozen BK325.out 3; have hfz15_4 := blk_frozen BK325.out 4; have hfz15_5 := blk_frozen BK325.out 5; have hfz15_6 := blk_frozen BK325.out 6; have hfz15_7 := blk_frozen BK325.out 7; have hfz15_8 := blk_frozen BK325.out 8))
 go_roundg k1
 case measure => have := HK1.out; omega
 case rel => exact ⟨(wrap64 (x9_1 + 1)), (by first | rfl | (simp; done) | (simp [*]; done)), H', ⟨by have := HK1.out; omega⟩, ⟨by (with_reducible repeat (first | refine blk_drewN ?_ _ | refine blk_drew ?_ | refine blk_alloc ?_ _)); refine blk_far ?_ NB325_327.out _; (with_reducible repeat (first | refine blk_drewN ?_ _ | refine blk_drew ?_ | refine blk_alloc ?_ _)); refine blk_far ?_ NB325_327.out _; (with_reducible repeat (first | refine blk_drewN ?_ _ | refine blk_drew ?_ | refine blk_alloc ?_ _)); refine blk_far ?_ NB325_327.out _; (with_reducible repeat (first | refine blk_drewN ?_ _ | refine blk_drew ?_ | refine blk_alloc ?_ _)); refine blk_far ?_ NB325_327.out _; (with_reducible repeat (first | refine blk_drewN ?_ _ | refine blk_drew ?_ | refine blk_alloc ?_ _)); refine blk_far ?_ NB325_327.out _; (with_reducible repeat (first | refine blk_drewN ?_ _ | refine blk_drew ?_ | refine blk_alloc ?_ _)); refine blk_far ?_ NB325_327.out _; (with_reducible repeat (first | refine blk_drewN ?_ _ | refine blk_drew ?_ | refine blk_alloc ?_ _)); refine blk_far ?_ NB325_327.out _; (with_reducible repeat (first | refine blk_drewN ?_ _ | refine blk_drew ?_ | refine blk_alloc ?_ _)); refine blk_far ?_ NB325_327.out _; (with_reducible repeat (first | refine blk_drewN ?_ _ | refine blk_drew ?_ | refine blk_alloc ?_ _)); refine blk_far ?_ NB325_327.out _; (with_reducible repeat (first | refine blk_drewN ?_ _ | refine blk_drew ?_ | refine blk_alloc ?_ _)); exact BK325.out⟩, ⟨bq2 HB.out GE325.out GE327.out⟩⟩))
 ·(
 rw [if_neg c6] at H
 exact absurd H (by simp)))
 ·(
 rw [if_neg c5] at H
 exact absurd H (by simp)))
 ·(
 rw [if_neg c4] at H
 have c4b0 : decide (x9_1 < (l0.length : Int)) = false := decide_eq_false c4
 clear c4
 obtain rfl := Option.some.inj H
 go_wp2
 go_ret
 exact ⟨by first | rfl | (simp [errW_none, errW_some] <;> rfl) | (simp [*, errW_none, errW_some] <;> rfl), bq1 HB.out GE325.out⟩)))
/-! ### rollbacknetref27_Has: function 14 -/
def rollbacknetref27_Has.l0 : Nat → List (S28) → Int → Int → Int → Int → Int → Int → Int → Int → Int → Int → Option (Bool)
 | 0, _, _, _, _, _, _, _, _, _, _, _ => none
 | k + 1, x0, x5, x329000, x329001, x329002, x329003, x329004, x329005, x329006, x329007, x329008 => if x5 < (x0.length : Int) then (if 0 ≤ x5 then (if (((rd_T28 x0 x5).f0) == x329000 && (((rd_T28 x0 x5).f1) == x329001 && ((((rd_T28 x0 x5).f2.f0) == x329002 && (((rd_T28 x0 x5).f2.f1) == x329003 && (((rd_T28 x0 x5).f2.f2) == x329004 && ((((rd_T28 x0 x5).f2.f3.f0) == x329005 && (((rd_T28 x0 x5).f2.f3.f1) == x329006)) && (((rd_T28 x0 x5).f2.f4) == x329007 && (((rd_T28 x0 x5).f2.f5) == x329008))))))))) = true then (some true) else (rollbacknetref27_Has.l0 k x0 (wrap64 (x5 + 1)) x329000 x329001 x329002 x329003 x329004 x329005 x329006 x329007 x329008)) else (none)) else (some false)
def rollbacknetref27_Has.f (k : Nat) (l0 : List (S28)) (a1_0 : Int) (a1_1 : Int) (a1_2 : Int) (a1_3 : Int) (a1_4 : Int) (a1_5 : Int) (a1_6 : Int) (a1_7 : Int) (a1_8 : Int) : Option (Bool) := rollbacknetref27_Has.l0 k l0 0 a1_0 a1_1 a1_2 a1_3 a1_4 a1_5 a1_6 a1_7 a1_8
theorem rollbacknetref27_Has.mono_l : ∀ k, (∀ y0 y1 y2 y3 y4 y5 y6 y7 y8 y9 y10, LeO (rollbacknetref27_Has.l0 k y0 y1 y2 y3 y4 y5 y6 y7 y8 y9 y10) (rollbacknetref27_Has.l0 (k + 1) y0 y1 y2 y3 y4 y5 y6 y7 y8 y9 y10))
 | 0 => fun _ _ _ _ _ _ _ _ _ _ _ r h => by simp [rollbacknetref27_Has.l0] at h
 | k + 1 => by
  have ih0 := rollbacknetref27_Has.mono_l k
  ·intro y0 y1 y2 y3 y4 y5 y6 y7 y8 y9 y10
   unfold rollbacknetref27_Has.l0
   repeat' first
   | (with_reducible exact ih0 _ _ _ _ _ _ _ _ _ _ _)
   | (with_reducible exact LeO.refl _)
   | (with_reducible exact LeO.none _)
   | (with_reducible refine LeO.ite ?_ ?_)
   | (with_reducible refine LeO.bind ?_ (fun _ => ?_))
   | exact ih0 _ _ _ _ _ _ _ _ _ _ _
   | exact LeO.none _
   | refine LeO.ite ?_ ?_
   | refine LeO.bind ?_ (fun _ => ?_)
theorem rollbacknetref27_Has.mono : ∀ a0 a1 a2 a3 a4 a5 a6 a7 a8 a9 k, LeO (rollbacknetref27_Has.f k a0 a1 a2 a3 a4 a5 a6 a7 a8 a9) (rollbacknetref27_Has.f (k + 1) a0 a1 a2 a3 a4 a5 a6 a7 a8 a9) := by
 intro a0 a1 a2 a3 a4 a5 a6 a7 a8 a9 k
 have ih0 := rollbacknetref27_Has.mono_l k
 unfold rollbacknetref27_Has.f
 repeat' first
   | (with_reducible exact ih0 _ _ _ _ _ _ _ _ _ _ _)
   | (with_reducible exact LeO.refl _)
   | (with_reducible exact LeO.none _)
   | (with_reducible refine LeO.ite ?_ ?_)
   | (with_reducible refine LeO.bind ?_ (fun _ => ?_))
   | exact ih0 _ _ _ _ _ _ _ _ _ _ _
   | exact LeO.none _
   | refine LeO.ite ?_ ?_
   | refine LeO.bind ?_ (fun _ => ?_)
set_option maxHeartbeats 8000000 in
set_option maxRecDepth 100000 in
theorem rollbacknetref27_Has.calls (k : Nat) (A0 : Option Addr) (c0 : Nat) (l0 : List (S28)) (a1_0 : Int) (a1_1 : Int) (a1_2 : Int) (a1_3 : Int) (a1_4 : Int) (a1_5 : Int) (a1_6 : Int) (a1_7 : Int) (a1_8 : Int) (r : Bool) (w : World) (hr0 : Kd.C k28 w A0 l0.length l0) (hc0 : l0.length ≤ c0) (h : rollbacknetref27_Has.f k l0 a1_0 a1_1 a1_2 a1_3 a1_4 a1_5 a1_6 a1_7 a1_8 = some r) :
  Calls Try.prog 14 #[.slice A0 l0.length c0, .agg #[.int .i64 a1_0, .int .i64 a1_1, .int .i64 a1_2, .int .i64 a1_3, .int .i64 a1_4, .int .i64 a1_5, .int .i64 a1_6, .int .i64 a1_7, .int .i64 a1_8]] w fun e w' => e = .returned (.bool r) ∧ Below w.heap.size w w' := by
 have hu28 := Try.underlying28
 have HR0 := Aside0.mk hr0
 have HC0 := Aside0.mk hc0
 clear hr0 hc0
 have HB := Aside0.mk (Below.refl w.heap.size w)
 have H : (rollbacknetref27_Has.l0 k l0 0 a1_0 a1_1 a1_2 a1_3 a1_4 a1_5 a1_6 a1_7 a1_8) = some r := h
 clear h
 have H' := Aside0.mk H
 clear H
 go_enter Try.func14, Try.ntmps14
 go_wp2_with (first | ((with_reducible refine gate_dst (N := 3) rfl ?_); refine box_event ?hg (N := 3) ?hd (cs := #[.int .i64 a1_0, .int .i64 a1_1, .int .i64 a1_2, .int .i64 a1_3, .int .i64 a1_4, .int .i64 a1_5, .int .i64 a1_6, .int .i64 a1_7, .int .i64 a1_8]) (t := 28) ?hr ?_; (case hd => rfl); (case hg => rfl); (case hr => first | (go_simp; done) | (go_simp; rfl)); intro gb328 hg w3 hbox hb; have n0_ := Aside0.mk (below_step (bq HB.out) hb); have n1_ := Aside0.mk (hbox); have n2_ := Aside0.mk ((by rw [hg]; exact (below_size (bq HB.out)) : w.heap.size ≤ gb328)); have n3_ := Aside0.mk ((by rw [hg]; exact (below_size (bq HB.out)) : w.heap.size ≤ gb328)); clear HB; have HB := n0_; have BK328 := n1_; have GW328 := n2_; have GE328 := n3_; clear n0_ n1_ n2_ n3_; clear hb hbox hg))
 repeat (go_quiet (first | ((with_reducible refine gate_dst (N := 3) rfl ?_); refine box_event ?hg (N := 3) ?hd (cs := #[.int .i64 a1_0, .int .i64 a1_1, .int .i64 a1_2, .int .i64 a1_3, .int .i64 a1_4, .int .i64 a1_5, .int .i64 a1_6, .int .i64 a1_7, .int .i64 a1_8]) (t := 28) ?hr ?_; (case hd => rfl); (case hg => rfl); (case hr => first | (go_simp; done) | (go_simp; rfl)); intro gb328 hg w3 hbox hb; have n0_ := Aside0.mk (below_step (bq HB.out) hb); have n1_ := Aside0.mk (hbox); have n2_ := Aside0.mk ((by rw [hg]; exact (below_size (bq HB.out)) : w.heap.size ≤ gb328)); have n3_ := Aside0.mk ((by rw [hg]; exact (below_size (bq HB.out)) : w.heap.size ≤ gb328)); clear HB; have HB := n0_; have BK328 := n1_; have GW328 := n2_; have GE328 := n3_; clear n0_ n1_ n2_ n3_; clear hb hbox hg)); try go_wp2_with (first | ((with_reducible refine gate_dst (N := 3) rfl ?_); refine box_event ?hg (N := 3) ?hd (cs := #[.int .i64 a1_0, .int .i64 a1_1, .int .i64 a1_2, .int .i64 a1_3, .int .i64 a1_4, .int .i64 a1_5, .int .i64 a1_6, .int .i64 a1_7, .int .i64 a1_8]) (t := 28) ?hr ?_; (case hd => rfl); (case hg => rfl); (case hr => first | (go_simp; done) | (go_simp; rfl)); intro gb328 hg w3 hbox hb; have n0_ := Aside0.mk (below_step (bq HB.out) hb); have n1_ := Aside0.mk (hbox); have n2_ := Aside0.mk ((by rw [hg]; exact (below_size (bq HB.out)) : w.heap.size ≤ gb328)); have n3_ := Aside0.mk ((by rw [hg]; exact (below_size (bq HB.out)) : w.heap.size ≤ gb328)); clear HB; have HB := n0_; have BK328 := n1_; have GW328 := n2_; have GE328 := n3_; clear n0_ n1_ n2_ n3_; clear hb hbox hg)))
 go_loopg [5] k (fun kq v5 w' => ∃ (x5_1 : Int), v5 = .int .i64 x5_1 ∧ Aside0 (rollbacknetref27_Has.l0 kq l0 x5_1 a1_0 a1_1 a1_2 a1_3 a1_4 a1_5 a1_6 a1_7 a1_8 = some r) ∧ Aside0 (kq ≤ k) ∧ Aside0 (w'.heap[gb328]? = some (.cells #[.int .i64 a1_0, .int .i64 a1_1, .int .i64 a1_2, .int .i64 a1_3, .int .i64 a1_4, .int .i64 a1_5, .int .i64 a1_6, .int .i64 a1_7, .int .i64 a1_8] 28 (0, 0))) ∧ Aside0 (Below w.heap.size w w'))
 case atStart => exact ⟨(0), (by first | rfl | (simp; done) | (simp [*]; done)), H', ⟨Nat.le_refl _⟩, ⟨kq BK328.out⟩, ⟨bq1 HB.out GE328.out⟩⟩
 case round =>(
 clear H'
 try clear c1
 try clear p2
 obtain ⟨x5_1, rfl, HA, HK1, BK328, HB⟩ := hrel
 cases gk with
 | zero => exact absurd HA.out (by simp [rollbacknetref27_Has.l0])
 | succ k1 =>(
 have H := HA.out
 clear HA
 simp only [rollbacknetref27_Has.l0] at H
 by_cases c4 : x5_1 < (l0.length : Int)
 ·(
 rw [if_pos c4] at H
 have c4b0 : decide (x5_1 < (l0.length : Int)) = true := decide_eq_true c4
 clear c4
 by_cases c5 : 0 ≤ x5_1
 ·(
 rw [if_pos c5] at H
 have c5b0 : decide (0 ≤ x5_1) = true := decide_eq_true c5
 clear c5
 by_cases c6 : (((rd_T28 l0 x5_1).f0) == a1_0 && (((rd_T28 l0 x5_1).f1) == a1_1 && ((((rd_T28 l0 x5_1).f2.f0) == a1_2 && (((rd_T28 l0 x5_1).f2.f1) == a1_3 && (((rd_T28 l0 x5_1).f2.f2) == a1_4 && ((((rd_T28 l0 x5_1).f2.f3.f0) == a1_5 && (((rd_T28 l0 x5_1).f2.f3.f1) == a1_6)) && (((rd_T28 l0 x5_1).f2.f4) == a1_7 && (((rd_T28 l0 x5_1).f2.f5) == a1_8))))))))) = true
 ·(
 rw [if_pos c6] at H
 have c6b0 : (((rd_T28 l0 x5_1).f0) == a1_0 && (((rd_T28 l0 x5_1).f1) == a1_1 && ((((rd_T28 l0 x5_1).f2.f0) == a1_2 && (((rd_T28 l0 x5_1).f2.f1) == a1_3 && (((rd_T28 l0 x5_1).f2.f2) == a1_4 && ((((rd_T28 l0 x5_1).f2.f3.f0) == a1_5 && (((rd_T28 l0 x5_1).f2.f3.f1) == a1_6)) && (((rd_T28 l0 x5_1).f2.f4) == a1_7 && (((rd_T28 l0 x5_1).f2.f5) == a1_8))))))))) = true := c6
 (try (have c6b1 : decide (((rd_T28 l0 x5_1).f0) = a1_0 && (((rd_T28 l0 x5_1).f1) == a1_1 && ((((rd_T28 l0 x5_1).f2.f0) == a1_2 && (((rd_T28 l0 x5_1).f2.f1) == a1_3 && (((rd_T28 l0 x5_1).f2.f2) == a1_4 && ((((rd_T28 l0 x5_1).f2.f3.f0) == a1_5 && (((rd_T28 l0 x5_1).f2.f3.f1) == a1_6)) && (((rd_T28 l0 x5_1).f2.f4) == a1_7 && (((rd_T28 l0 x5_1).f2.f5) == a1_8))))))))) = true := by simpa using c6))
 (try (have c6b2 : (((rd_T28 l0 x5_1).f0) == a1_0 && (((rd_T28 l0 x5_1).f1) == a1_1 && ((((rd_T28 l0 x5_1).f2.f0) == a1_2 && (((rd_T28 l0 x5_1).f2.f1) == a1_3 && (((rd_T28 l0 x5_1).f2.f2) == a1_4 && ((((rd_T28 l0 x5_1).f2.f3.f0) == a1_5 && (((rd_T28 l0 x5_1).f2.f3.f1) == a1_6)) && (((rd_T28 l0 x5_1).f2.f4) == a1_7 && (((rd_T28 l0 x5_1).f2.f5) == a1_8))))))))) = true := by simpa using c6))
 clear c6
 obtain rfl := Option.some.inj H
 have p329 : 0 ≤ (x5_1 : Int) := of_decide_eq_true (by first | (with_reducible assumption) | assumption)
 have q329 : x5_1 < (l0.length : Int) := of_decide_eq_true (by first | (with_reducible assumption) | assumption)
 obtain ⟨ad329, e329, hx329_0, hx329_1, hx329_2, hx329_3, hx329_4, hx329_5, hx329_6, hx329_7, hx329_8⟩ := at_T28 HR0.out x5_1 p329 q329
 cases e329
 replace hx329_0 := hce HB hx329_0
 replace hx329_1 := hce HB hx329_1
 replace hx329_2 := hce HB hx329_2
 replace hx329_3 := hce HB hx329_3
 replace hx329_4 := hce HB hx329_4
 replace hx329_5 := hce HB hx329_5
 replace hx329_6 := hce HB hx329_6
 replace hx329_7 := hce HB hx329_7
 replace hx329_8 := hce HB hx329_8
 replace p329 := eq_true p329
 replace q329 := eq_true q329
 have hcz7_0 : wr.cell? ⟨gb328, 0, none⟩ = some (.int .i64 a1_0) := bc BK328.out 0
 have hcz7_1 : wr.cell? ⟨gb328, 1, none⟩ = some (.int .i64 a1_1) := bc BK328.out 1
 have hcz7_2 : wr.cell? ⟨gb328, 2, none⟩ = some (.int .i64 a1_2) := bc BK328.out 2
 have hcz7_3 : wr.cell? ⟨gb328, 3, none⟩ = some (.int .i64 a1_3) := bc BK328.out 3
 have hcz7_4 : wr.cell? ⟨gb328, 4, none⟩ = some (.int .i64 a1_4) := bc BK328.out 4
 have hcz7_5 : wr.cell? ⟨gb328, 5, none⟩ = some (.int .i64 a1_5) := bc BK328.out 5
 have hcz7_6 : wr.cell? ⟨gb328, 6, none⟩ = some (.int .i64 a1_6) := bc BK328.out 6
 have hcz7_7 : wr.cell? ⟨gb328, 7, none⟩ = some (.int .i64 a1_7) := bc BK328.out 7
 have hcz7_8 : wr.cell? ⟨gb328, 8, none⟩ = some (.int .i64 a1_8) := bc BK328.out 8
 have hfz7_0 := blk_frozen BK328.out 0
 have hfz7_1 := blk_frozen BK328.out 1
 have hfz7_2 := blk_frozen BK328.out 2
 have hfz7_3 := blk_frozen BK328.out 3
 have hfz7_4 := blk_frozen BK328.out 4
 have hfz7_5 := blk_frozen BK328.out 5
 have hfz7_6 := blk_frozen BK328.out 6
 have hfz7_7 := blk_frozen BK328.out 7
 have hfz7_8 := blk_frozen BK328.out 8
 go_wp2
 repeat (go_quiet (fail); try go_wp2)
 go_ret
 exact ⟨by first | rfl | (simp [errW_none, errW_some] <;> rfl) | (simp [*, errW_none, errW_some] <;> rfl), bq1 HB.out GE328.out⟩)
 ·(
 rw [if_neg c6] at H
 have c6b0 : (((rd_T28 l0 x5_1).f0) == a1_0 && (((rd_T28 l0 x5_1).f1) == a1_1 && ((((rd_T28 l0 x5_1).f2.f0) == a1_2 && (((rd_T28 l0 x5_1).f2.f1) == a1_3 && (((rd_T28 l0 x5_1).f2.f2) == a1_4 && ((((rd_T28 l0 x5_1).f2.f3.f0) == a1_5 && (((rd_T28 l0 x5_1).f2.f3.f1) == a1_6)) && (((rd_T28 l0 x5_1).f2.f4) == a1_7 && (((rd_T28 l0 x5_1).f2.f5) == a1_8))))))))) = false := by simpa using c6
 (try (have c6b1 : decide (((rd_T28 l0 x5_1).f0) = a1_0 && (((rd_T28 l0 x5_1).f1) == a1_1 && ((((rd_T28 l0 x5_1).f2.f0) == a1_2 && (((rd_T28 l0 x5_1).f2.f1) == a1_3 && (((rd_T28 l0 x5_1).f2.f2) == a1_4 && ((((rd_T28 l0 x5_1).f2.f3.f0) == a1_5 && (((rd_T28 l0 x5_1).f2.f3.f1) == a1_6)) && (((rd_T28 l0 x5_1).f2.f4) == a1_7 && (((rd_T28 l0 x5_1).f2.f5) == a1_8))))))))) = false := by simpa using c6))
 (try (have c6b2 : (((rd_T28 l0 x5_1).f0) == a1_0 && (((rd_T28 l0 x5_1).f1) == a1_1 && ((((rd_T28 l0 x5_1).f2.f0) == a1_2 && (((rd_T28 l0 x5_1).f2.f1) == a1_3 && (((rd_T28 l0 x5_1).f2.f2) == a1_4 && ((((rd_T28 l0 x5_1).f2.f3.f0) == a1_5 && (((rd_T28 l0 x5_1).f2.f3.f1) == a1_6)) && (((rd_T28 l0 x5_1).f2.f4) == a1_7 && (((rd_T28 l0 x5_1).f2.f5) == a1_8))))))))) = false := by simpa using c6))
 (try (have c6b3 : ¬ (((rd_T28 l0 x5_1).f0) = a1_0 && (((rd_T28 l0 x5_1).f1) == a1_1 && ((((rd_T28 l0 x5_1).f2.f0) == a1_2 && (((rd_T28 l0 x5_1).f2.f1) == a1_3 && (((rd_T28 l0 x5_1).f2.f2) == a1_4 && ((((rd_T28 l0 x5_1).f2.f3.f0) == a1_5 && (((rd_T28 l0 x5_1).f2.f3.f1) == a1_6)) && (((rd_T28 l0 x5_1).f2.f4) == a1_7 && (((rd_T28 l0 x5_1).f2.f5) == a1_8))))))))) := by simpa using c6))
 clear c6
 have H' := Aside0.mk H
 clear H
 have p329 : 0 ≤ (x5_1 : Int) := of_decide_eq_true (by first | (with_reducible assumption) | assumption)
 have q329 : x5_1 < (l0.length : Int) := of_decide_eq_true (by first | (with_reducible assumption) | assumption)
 obtain ⟨ad329, e329, hx329_0, hx329_1, hx329_2, hx329_3, hx329_4, hx329_5, hx329_6, hx329_7, hx329_8⟩ := at_T28 HR0.out x5_1 p329 q329
 cases e329
 replace hx329_0 := hce HB hx329_0
 replace hx329_1 := hce HB hx329_1
 replace hx329_2 := hce HB hx329_2
 replace hx329_3 := hce HB hx329_3
 replace hx329_4 := hce HB hx329_4
 replace hx329_5 := hce HB hx329_5
 replace hx329_6 := hce HB hx329_6
 replace hx329_7 := hce HB hx329_7
 replace hx329_8 := hce HB hx329_8
 replace p329 := eq_true p329
 replace q329 := eq_true q329
 have hcz8_0 : wr.cell? ⟨gb328, 0, none⟩ = some (.int .i64 a1_0) := bc BK328.out 0
 have hcz8_1 : wr.cell? ⟨gb328, 1, none⟩ = some (.int .i64 a1_1) := bc BK328.out 1
 have hcz8_2 : wr.cell? ⟨gb328, 2, none⟩ = some (.int .i64 a1_2) := bc BK328.out 2
 have hcz8_3 : wr.cell? ⟨gb328, 3, none⟩ = some (.int .i64 a1_3) := bc BK328.out 3
 have hcz8_4 : wr.cell? ⟨gb328, 4, none⟩ = some (.int .i64 a1_4) := bc BK328.out 4
 have hcz8_5 : wr.cell? ⟨gb328, 5, none⟩ = some (.int .i64 a1_5) := bc BK328.out 5
 have hcz8_6 : wr.cell? ⟨gb328, 6, none⟩ = some (.int .i64 a1_6) := bc BK328.out 6
 have hcz8_7 : wr.cell? ⟨gb328, 7, none⟩ = some (.int .i64 a1_7) := bc BK328.out 7
 have hcz8_8 : wr.cell? ⟨gb328, 8, none⟩ = some (.int .i64 a1_8) := bc BK328.out 8
 have hfz8_0 := blk_frozen BK328.out 0
 have hfz8_1 := blk_frozen BK328.out 1
 have hfz8_2 := blk_frozen BK328.out 2
 have hfz8_3 := blk_frozen BK328.out 3
 have hfz8_4 := blk_frozen BK328.out 4
 have hfz8_5 := blk_frozen BK328.out 5
 have hfz8_6 := blk_frozen BK328.out 6
 have hfz8_7 := blk_frozen BK328.out 7
 have hfz8_8 := blk_frozen BK328.out 8
 go_wp2
 repeat (go_quiet (fail); try go_wp2)
 go_roundg k1
 case measure => have := HK1.out; omega
 case rel => exact ⟨(wrap64 (x5_1 + 1)), (by first | rfl | (simp; done) | (simp [*]; done)), H', ⟨by have := HK1.out; omega⟩, ⟨kq BK328.out⟩, ⟨bq1 HB.out GE328.out⟩⟩))
 ·(
 rw [if_neg c5] at H
 exact absurd H (by simp)))
 ·(
 rw [if_neg c4] at H
 have c4b0 : decide (x5_1 < (l0.length : Int)) = false := decide_eq_false c4
 clear c4
 obtain rfl := Option.some.inj H
 go_wp2
 repeat (go_quiet (fail); try go_wp2)
 go_ret
 exact ⟨by first | rfl | (simp [errW_none, errW_some] <;> rfl) | (simp [*, errW_none, errW_some] <;> rfl), bq1 HB.out GE328.out⟩)))
/-! ### determinant_Cut: function 15 -/
def determinant_Cut.l0 : Nat → Int → Int → List (S28) → List (S28) → Int → Int → Option ((List (S28)))
 | 0, _, _, _, _, _, _ => none
 | k + 1, x1, x2, x7, x10, x11, x12 => if x12 < x11 then (if 0 ≤ x12 then (if x12 < (x10.length : Int) then (if ((rd_T28 x10 x12).f0) = x1 then (if ((rd_T28 x10 x12).f1) ≤ x2 then (if x7.length < 1954687338268 then (determinant_Cut.l0 k x1 x2 (x7 ++ [(⟨(rd_T28 x10 x12).f0, (rd_T28 x10 x12).f1, (⟨(rd_T28 x10 x12).f2.f0, (rd_T28 x10 x12).f2.f1, (rd_T28 x10 x12).f2.f2, (⟨(rd_T28 x10 x12).f2.f3.f0, (rd_T28 x10 x12).f2.f3.f1⟩ : S24), (rd_T28 x10 x12).f2.f4, (rd_T28 x10 x12).f2.f5⟩ : S26)⟩ : S28)]) x10 x11 (wrap64 (x12 + 1))) else (none)) else (determinant_Cut.l0 k x1 x2 x7 x10 x11 (wrap64 (x12 + 1)))) else (if x7.length < 1954687338268 then (determinant_Cut.l0 k x1 x2 (x7 ++ [(⟨(rd_T28 x10 x12).f0, (rd_T28 x10 x12).f1, (⟨(rd_T28 x10 x12).f2.f0, (rd_T28 x10 x12).f2.f1, (rd_T28 x10 x12).f2.f2, (⟨(rd_T28 x10 x12).f2.f3.f0, (rd_T28 x10 x12).f2.f3.f1⟩ : S24), (rd_T28 x10 x12).f2.f4, (rd_T28 x10 x12).f2.f5⟩ : S26)⟩ : S28)]) x10 x11 (wrap64 (x12 + 1))) else (none))) else (none)) else (none)) else (some x7)
def determinant_Cut.f (k : Nat) (l0 : List (S28)) (a1 : Int) (a2 : Int) : Option ((List (S28))) := determinant_Cut.l0 k a1 a2 ([] : List (S28)) l0 (l0.length : Int) 0
theorem determinant_Cut.mono_l : ∀ k, (∀ y0 y1 y2 y3 y4 y5, LeO (determinant_Cut.l0 k y0 y1 y2 y3 y4 y5) (determinant_Cut.l0 (k + 1) y0 y1 y2 y3 y4 y5))
 | 0 => fun _ _ _ _ _ _ r h => by simp [determinant_Cut.l0] at h
 | k + 1 => by
  have ih0 := determinant_Cut.mono_l k
  ·intro y0 y1 y2 y3 y4 y5
   unfold determinant_Cut.l0
   repeat' first
   | (with_reducible exact ih0 _ _ _ _ _ _)
   | (with_reducible exact LeO.refl _)
   | (with_reducible exact LeO.none _)
   | (with_reducible refine LeO.ite ?_ ?_)
   | (with_reducible refine LeO.bind ?_ (fun _ => ?_))
   | exact ih0 _ _ _ _ _ _
   | exact LeO.none _
   | refine LeO.ite ?_ ?_
   | refine LeO.bind ?_ (fun _ => ?_)
theorem determinant_Cut.mono : ∀ a0 a1 a2 k, LeO (determinant_Cut.f k a0 a1 a2) (determinant_Cut.f (k + 1) a0 a1 a2) := by
 intro a0 a1 a2 k
 have ih0 := determinant_Cut.mono_l k
 unfold determinant_Cut.f
 repeat' first
   | (with_reducible exact ih0 _ _ _ _ _ _)
   | (with_reducible exact LeO.refl _)
   | (with_reducible exact LeO.none _)
   | (with_reducible refine LeO.ite ?_ ?_)
   | (with_reducible refine LeO.bind ?_ (fun _ => ?_))
   | exact ih0 _ _ _ _ _ _
   | exact LeO.none _
   | refine LeO.ite ?_ ?_
   | refine LeO.bind ?_ (fun _ => ?_)
set_option maxHeartbeats 8000000 in
set_option maxRecDepth 100000 in
theorem determinant_Cut.calls (k : Nat) (A0 : Option Addr) (c0 : Nat) (l0 : List (S28)) (a1 : Int) (a2 : Int) (r : List (S28)) (w : World) (hr0 : Kd.C k28 w A0 l0.length l0) (hc0 : l0.length ≤ c0) (h : determinant_Cut.f k l0 a1 a2 = some r) :
  Calls Try.prog 15 #[.slice A0 l0.length c0, .int .i64 a1, .int .i64 a2] w fun e w' => ∃ v0_ : Value, e = .returned (v0_) ∧ Kd.R k28 28 w' w.heap.size (fun _ => True) v0_ r ∧ Below w.heap.size w w' := by
 have hu28 := Try.underlying28
 have HR0 := Aside0.mk hr0
 have HC0 := Aside0.mk hc0
 clear hr0 hc0
 have HB := Aside0.mk (Below.refl w.heap.size w)
 have H : (determinant_Cut.l0 k a1 a2 ([] : List (S28)) l0 (l0.length : Int) 0) = some r := h
 clear h
 have H' := Aside0.mk H
 clear H
 go_enter Try.func15, Try.ntmps15
 go_wp2
 go_loopg [7, 12] k (fun kq v7 v12 w' => ∃ (x7_1 : List (S28)) (x12_1 : Int), v12 = .int .i64 x12_1 ∧ Aside0 (determinant_Cut.l0 kq a1 a2 x7_1 l0 (l0.length : Int) x12_1 = some r) ∧ Aside0 (kq ≤ k) ∧ Aside0 (Kd.R k28 28 w' w.heap.size (fun _ => True) v7 x7_1) ∧ Aside0 (Below w.heap.size w w'))
 case atStart => exact ⟨(([] : List (S28))), (0), (by first | rfl | (simp; done) | (simp [*]; done)), H', ⟨Nat.le_refl _⟩, ⟨by first | exact Kd.R_nil _ _ _ _ _ | exact Kd.N_nil _ _ _ _ _ | exact Kd.V_nil _ _ _ _ _ | exact Kd.Q_nil _ _ _ _ _ | exact Kd.S_nil _ _ _ _ _⟩, ⟨bq HB.out⟩⟩
 case round =>(
 clear H'
 try clear c1
 try clear p2
 obtain ⟨x7_1, x12_1, rfl, HA, HK1, HO_7, HB⟩ := hrel
 cases gk with
 | zero => exact absurd HA.out (by simp [determinant_Cut.l0])
 | succ k1 =>(
 have H := HA.out
 clear HA
 simp only [determinant_Cut.l0] at H
 by_cases c4 : x12_1 < (l0.length : Int)
 ·(
 rw [if_pos c4] at H
 have c4b0 : decide (x12_1 < (l0.length : Int)) = true := decide_eq_true c4
 clear c4
 by_cases c5 : 0 ≤ x12_1
 ·(
 rw [if_pos c5] at H
 have c5b0 : decide (0 ≤ x12_1) = true := decide_eq_true c5
 clear c5
 by_cases c6 : x12_1 < (l0.length : Int)
 ·(
 rw [if_pos c6] at H
 have c6b0 : decide (x12_1 < (l0.length : Int)) = true := decide_eq_true c6
 clear c6
 by_cases c7 : ((rd_T28 l0 x12_1).f0) = a1
 ·(
 rw [if_pos c7] at H
 have c7b0 : (((rd_T28 l0 x12_1).f0) == a1) = true := beq_iff_eq.mpr c7
 have c7b1 : (((rd_T28 l0 x12_1).f0) != a1) = false := bne_eq_false_iff_eq.mpr c7
 clear c7
 by_cases c8 : ((rd_T28 l0 x12_1).f1) ≤ a2
 ·(
 rw [if_pos c8] at H
 have c8b0 : decide (((rd_T28 l0 x12_1).f1) ≤ a2) = true := decide_eq_true c8
 clear c8
 by_cases c9 : x7_1.length < 1954687338268
 ·(
 rw [if_pos c9] at H
 have LMc9 := Aside0.mk c9
 clear c9
 obtain ⟨y332, hy332⟩ : ∃ y_ : List (S28), y_ = (x7_1 ++ [(⟨(rd_T28 l0 x12_1).f0, (rd_T28 l0 x12_1).f1, (⟨(rd_T28 l0 x12_1).f2.f0, (rd_T28 l0 x12_1).f2.f1, (rd_T28 l0 x12_1).f2.f2, (⟨(rd_T28 l0 x12_1).f2.f3.f0, (rd_T28 l0 x12_1).f2.f3.f1⟩ : S24), (rd_T28 l0 x12_1).f2.f4, (rd_T28 l0 x12_1).f2.f5⟩ : S26)⟩ : S28)]) := ⟨_, rfl⟩
 replace H : (determinant_Cut.l0 k1 a1 a2 y332 l0 (l0.length : Int) (wrap64 (x12_1 + 1))) = some r := by first | (rw [hy332]; with_reducible exact H) | (have H2_ := (Option.bind_some _ _).symm.trans H; rw [hy332]; with_reducible exact H2_) | (have H2_ := (Option.bind_some _ _).symm.trans H; with_reducible exact H2_) | with_reducible exact H | (rw [hy332]; exact H) | exact H
 have Ny332 := Aside0.mk hy332
 clear hy332
 have H' := Aside0.mk H
 clear H
 have p330 : 0 ≤ (x12_1 : Int) := of_decide_eq_true (by first | (with_reducible assumption) | assumption)
 have q330 : x12_1 < (l0.length : Int) := of_decide_eq_true (by first | (with_reducible assumption) | assumption)
 obtain ⟨ad330, e330, hx330_0, hx330_1, hx330_2, hx330_3, hx330_4, hx330_5, hx330_6, hx330_7, hx330_8⟩ := at_T28 HR0.out x12_1 p330 q330
 cases e330
 replace hx330_0 := hce HB hx330_0
 replace hx330_1 := hce HB hx330_1
 replace hx330_2 := hce HB hx330_2
 replace hx330_3 := hce HB hx330_3
 replace hx330_4 := hce HB hx330_4
 replace hx330_5 := hce HB hx330_5
 replace hx330_6 := hce HB hx330_6
 replace hx330_7 := hce HB hx330_7
 replace hx330_8 := hce HB hx330_8
 replace p330 := eq_true p330
 replace q330 := eq_true q330
 go_wp2_with (first | ((with_reducible refine gate_dst (N := 9) rfl ?_); refine box_event ?hg (N := 9) ?hd (cs := #[.int .i64 0, .int .i64 0, .int .i64 0, .int .i64 0, .int .i64 0, .int .i64 0, .int .i64 0, .int .i64 0, .int .i64 0]) (t := 28) ?hr ?_; (case hd => rfl); (case hg => rfl); (case hr => first | (go_simp; done) | (go_simp; rfl)); intro gb331 hg w10 hbox hb; have n0_ := Aside0.mk (Kd.R_below (Kd.R_elderB (rq HO_7.out) gb331 (Nat.le_of_eq hg.symm)) hb); have n1_ := Aside0.mk (below_step (bq HB.out) hb); have n2_ := Aside0.mk (hbox); have n3_ := Aside0.mk ((by rw [hg]; exact (below_size (bq HB.out)) : w.heap.size ≤ gb331)); have n4_ := Aside0.mk ((by rw [hg]; exact (below_size (bq HB.out)) : w.heap.size ≤ gb331)); clear HO_7; clear HB; have HO_7 := n0_; have HB := n1_; have BK331 := n2_; have GW331 := n3_; have GE331 := n4_; clear n0_ n1_ n2_ n3_ n4_; clear hb hbox hg; have hcz11_0 : w10.cell? ⟨gb331, 0, none⟩ = some (.int .i64 0) := bc BK331.out 0; have hcz11_1 : w10.cell? ⟨gb331, 1, none⟩ = some (.int .i64 0) := bc BK331.out 1; have hcz11_2 : w10.cell? ⟨gb331, 2, none⟩ = some (.int .i64 0) := bc BK331.out 2; have hcz11_3 : w10.cell? ⟨gb331, 3, none⟩ = some (.int .i64 0) := bc BK331.out 3; have hcz11_4 : w10.cell? ⟨gb331, 4, none⟩ = some (.int .i64 0) := bc BK331.out 4; have hcz11_5 : w10.cell? ⟨gb331, 5, none⟩ = some (.int .i64 0) := bc BK331.out 5; have hcz11_6 : w10.cell? ⟨gb331, 6, none⟩ = some (.int .i64 0) := bc BK331.out 6; have hcz11_7 : w10.cell? ⟨gb331, 7, none⟩ = some (.int .i64 0) := bc BK331.out 7; have hcz11_8 : w10.cell? ⟨gb331, 8, none⟩ = some (.int .i64 0) := bc BK331.out 8; have hfz11_0 := blk_frozen BK331.out 0; have hfz11_1 := blk_frozen BK331.out 1; have hfz11_2 := blk_frozen BK331.out 2; have hfz11_3 := blk_frozen BK331.out 3; have hfz11_4 := blk_frozen BK331.out 4; have hfz11_5 := blk_frozen BK331.out 5; have hfz11_6 := blk_frozen BK331.out 6; have hfz11_7 := blk_frozen BK331.out 7; have hfz11_8 := blk_frozen BK331.out 8) | ((with_reducible refine gate_builtin (b := .append) (xs := #[.tmp 26, .tmp 28]) rfl ?_); at_builtin; refine Kd.R_append k28 (w0 := w) w.heap.size rfl (.tmp 26) (.tmp 28) 22 28 (.agg #[(.int .i64 0), (.int .i64 0), (.int .i64 0), (.int .i64 0), (.int .i64 0), (.int .i64 0), (.int .i64 0), (.int .i64 0), (.int .i64 0)]) 72 rfl Try.underlying22 info28 rfl (by decide) (by omega) u7 x7_1 (⟨(rd_T28 l0 x12_1).f0, (rd_T28 l0 x12_1).f1, (⟨(rd_T28 l0 x12_1).f2.f0, (rd_T28 l0 x12_1).f2.f1, (rd_T28 l0 x12_1).f2.f2, (⟨(rd_T28 l0 x12_1).f2.f3.f0, (rd_T28 l0 x12_1).f2.f3.f1⟩ : S24), (rd_T28 l0 x12_1).f2.f4, (rd_T28 l0 x12_1).f2.f5⟩ : S26)⟩ : S28) [.int .i64 ((rd_T28 l0 x12_1).f0), .int .i64 ((rd_T28 l0 x12_1).f1), .int .i64 ((rd_T28 l0 x12_1).f2.f0), .int .i64 ((rd_T28 l0 x12_1).f2.f1), .int .i64 ((rd_T28 l0 x12_1).f2.f2), .int .i64 ((rd_T28 l0 x12_1).f2.f3.f0), .int .i64 ((rd_T28 l0 x12_1).f2.f3.f1), .int .i64 ((rd_T28 l0 x12_1).f2.f4), .int .i64 ((rd_T28 l0 x12_1).f2.f5)] (fun k_ => k_ ≠ gb331) (fun _ => False) rfl (by first | (go_simp; done) | (go_simp; rfl)) ?aP (fun _ hk => hk.elim) ?aF ?aO ?aB ?aS ?aL ?_; (case aP => exact k28_mkM _ _ _ (⟨(rd_T28 l0 x12_1).f0, (rd_T28 l0 x12_1).f1, (⟨(rd_T28 l0 x12_1).f2.f0, (rd_T28 l0 x12_1).f2.f1, (rd_T28 l0 x12_1).f2.f2, (⟨(rd_T28 l0 x12_1).f2.f3.f0, (rd_T28 l0 x12_1).f2.f3.f1⟩ : S24), (rd_T28 l0 x12_1).f2.f4, (rd_T28 l0 x12_1).f2.f5⟩ : S26)⟩ : S28)); (case aB => exact (bq1 HB.out GE331.out)); (case aF => exact (fun k_ hk => Kd.freshB (g := gb331) (o := .cells #[.int .i64 ((rd_T28 l0 x12_1).f0), .int .i64 ((rd_T28 l0 x12_1).f1), .int .i64 ((rd_T28 l0 x12_1).f2.f0), .int .i64 ((rd_T28 l0 x12_1).f2.f1), .int .i64 ((rd_T28 l0 x12_1).f2.f2), .int .i64 ((rd_T28 l0 x12_1).f2.f3.f0), .int .i64 ((rd_T28 l0 x12_1).f2.f3.f1), .int .i64 ((rd_T28 l0 x12_1).f2.f4), .int .i64 ((rd_T28 l0 x12_1).f2.f5)] 28 (0, 0)) (pu BK331.out) k_ hk)); (case aO => exact (by (with_reducible repeat (first | apply Kd.R_alloc | apply Kd.R_drewN | apply Kd.R_drew)); exact Kd.R_mono (Kd.R_far (p := ⟨gb331, 8, none⟩) (Kd.R_far (p := ⟨gb331, 7, none⟩) (Kd.R_far (p := ⟨gb331, 6, none⟩) (Kd.R_far (p := ⟨gb331, 5, none⟩) (Kd.R_far (p := ⟨gb331, 4, none⟩) (Kd.R_far (p := ⟨gb331, 3, none⟩) (Kd.R_far (p := ⟨gb331, 2, none⟩) (Kd.R_far (p := ⟨gb331, 1, none⟩) (Kd.R_far (p := ⟨gb331, 0, none⟩) (Kd.R_mono HO_7.out (fun k_ hk => (⟨hk, hk.2⟩ : _ ∧ k_ ≠ gb331))) (fun _ hk => hk.2) (.int .i64 ((rd_T28 l0 x12_1).f0))) (fun _ hk => hk.2) (.int .i64 ((rd_T28 l0 x12_1).f1))) (fun _ hk => hk.2) (.int .i64 ((rd_T28 l0 x12_1).f2.f0))) (fun _ hk => hk.2) (.int .i64 ((rd_T28 l0 x12_1).f2.f1))) (fun _ hk => hk.2) (.int .i64 ((rd_T28 l0 x12_1).f2.f2))) (fun _ hk => hk.2) (.int .i64 ((rd_T28 l0 x12_1).f2.f3.f0))) (fun _ hk => hk.2) (.int .i64 ((rd_T28 l0 x12_1).f2.f3.f1))) (fun _ hk => hk.2) (.int .i64 ((rd_T28 l0 x12_1).f2.f4))) (fun _ hk => hk.2) (.int .i64 ((rd_T28 l0 x12_1).f2.f5))) (fun _ hk => hk.1.2))); (case aS => exact (below_size (bq1 HB.out GE331.out))); (case aL => have := LMc9.out; omega); intro v333 w12 ho hb hg hat; rw [← Ny332.out] at ho; have n0_ := Aside0.mk (blk_grown (g := gb331) (o := .cells #[.int .i64 ((rd_T28 l0 x12_1).f0), .int .i64 ((rd_T28 l0 x12_1).f1), .int .i64 ((rd_T28 l0 x12_1).f2.f0), .int .i64 ((rd_T28 l0 x12_1).f2.f1), .int .i64 ((rd_T28 l0 x12_1).f2.f2), .int .i64 ((rd_T28 l0 x12_1).f2.f3.f0), .int .i64 ((rd_T28 l0 x12_1).f2.f3.f1), .int .i64 ((rd_T28 l0 x12_1).f2.f4), .int .i64 ((rd_T28 l0 x12_1).f2.f5)] 28 (0, 0)) (pu BK331.out) hg (Kd.R_away HO_7.out (fun _ hk => hk.2))); have n1_ := Aside0.mk (hb); have n2_ := Aside0.mk (ho); clear BK331; clear HB; clear HO_7; have BK331 := n0_; have HB := n1_; have HO334 := n2_; clear n0_ n1_ n2_; clear ho hb hg hat))
 go_roundg k1
 case measure => have := HK1.out; omega
 case rel => exact ⟨(y332), (wrap64 (x12_1 + 1)), (by first | rfl | (simp; done) | (simp [*]; done)), H', ⟨by have := HK1.out; omega⟩, ⟨by (with_reducible repeat (first | apply Kd.R_alloc | apply Kd.R_drewN | apply Kd.R_drew)); exact Kd.R_mono HO334.out (fun _ hk => trivial)⟩, ⟨bq1 HB.out GE331.out⟩⟩)
 ·(
 rw [if_neg c9] at H
 exact absurd H (by simp)))
 ·(
 rw [if_neg c8] at H
 have c8b0 : decide (((rd_T28 l0 x12_1).f1) ≤ a2) = false := decide_eq_false c8
 clear c8
 have H' := Aside0.mk H
 clear H
 have p330 : 0 ≤ (x12_1 : Int) := of_decide_eq_true (by first | (with_reducible assumption) | assumption)
 have q330 : x12_1 < (l0.length : Int) := of_decide_eq_true (by first | (with_reducible assumption) | assumption)
 obtain ⟨ad330, e330, hx330_0, hx330_1, hx330_2, hx330_3, hx330_4, hx330_5, hx330_6, hx330_7, hx330_8⟩ := at_T28 HR0.out x12_1 p330 q330
 cases e330
 replace hx330_0 := hce HB hx330_0
 replace hx330_1 := hce HB hx330_1
 replace hx330_2 := hce HB hx330_2
 replace hx330_3 := hce HB hx330_3
 replace hx330_4 := hce HB hx330_4
 replace hx330_5 := hce HB hx330_5
 replace hx330_6 := hce HB hx330_6
 replace hx330_7 := hce HB hx330_7
 replace hx330_8 := hce HB hx330_8
 replace p330 := eq_true p330
 replace q330 := eq_true q330
 go_wp2_with (first | ((with_reducible refine gate_dst (N := 9) rfl ?_); refine box_event ?hg (N := 9) ?hd (cs := #[.int .i64 0, .int .i64 0, .int .i64 0, .int .i64 0, .int .i64 0, .int .i64 0, .int .i64 0, .int .i64 0, .int .i64 0]) (t := 28) ?hr ?_; (case hd => rfl); (case hg => rfl); (case hr => first | (go_simp; done) | (go_simp; rfl)); intro gb331 hg w13 hbox hb; have n0_ := Aside0.mk (Kd.R_below (Kd.R_elderB (rq HO_7.out) gb331 (Nat.le_of_eq hg.symm)) hb); have n1_ := Aside0.mk (below_step (bq HB.out) hb); have n2_ := Aside0.mk (hbox); have n3_ := Aside0.mk ((by rw [hg]; exact (below_size (bq HB.out)) : w.heap.size ≤ gb331)); have n4_ := Aside0.mk ((by rw [hg]; exact (below_size (bq HB.out)) : w.heap.size ≤ gb331)); clear HO_7; clear HB; have HO_7 := n0_; have HB := n1_; have BK331 := n2_; have GW331 := n3_; have GE331 := n4_; clear n0_ n1_ n2_ n3_ n4_; clear hb hbox hg; have hcz14_0 : w13.cell? ⟨gb331, 0, none⟩ = some (.int .i64 0) := bc BK331.out 0; have hcz14_1 : w13.cell? ⟨gb331, 1, none⟩ = some (.int .i64 0) := bc BK331.out 1; have hcz14_2 : w13.cell? ⟨gb331, 2, none⟩ = some (.int .i64 0) := bc BK331.out 2; have hcz14_3 : w13.cell? ⟨gb331, 3, none⟩ = some (.int .i64 0) := bc BK331.out 3; have hcz14_4 : w13.cell? ⟨gb331, 4, none⟩ = some (.int .i64 0) := bc BK331.out 4; have hcz14_5 : w13.cell? ⟨gb331, 5, none⟩ = some (.int .i64 0) := bc BK331.out 5; have hcz14_6 : w13.cell? ⟨gb331, 6, none⟩ = some (.int .i64 0) := bc BK331.out 6; have hcz14_7 : w13.cell? ⟨gb331, 7, none⟩ = some (.int .i64 0) := bc BK331.out 7; have hcz14_8 : w13.cell? ⟨gb331, 8, none⟩ = some (.int .i64 0) := bc BK331.out 8; have hfz14_0 := blk_frozen BK331.out 0; have hfz14_1 := blk_frozen BK331.out 1; have hfz14_2 := blk_frozen BK331.out 2; have hfz14_3 := blk_frozen BK331.out 3; have hfz14_4 := blk_frozen BK331.out 4; have hfz14_5 := blk_frozen BK331.out 5; have hfz14_6 := blk_frozen BK331.out 6; have hfz14_7 := blk_frozen BK331.out 7; have hfz14_8 := blk_frozen BK331.out 8))
 go_roundg k1
 case measure => have := HK1.out; omega
 case rel => exact ⟨(x7_1), (wrap64 (x12_1 + 1)), (by first | rfl | (simp; done) | (simp [*]; done)), H', ⟨by have := HK1.out; omega⟩, ⟨by (with_reducible repeat (first | apply Kd.R_alloc | apply Kd.R_drewN | apply Kd.R_drew)); exact Kd.R_mono (Kd.R_far (p := ⟨gb331, 8, none⟩) (Kd.R_far (p := ⟨gb331, 7, none⟩) (Kd.R_far (p := ⟨gb331, 6, none⟩) (Kd.R_far (p := ⟨gb331, 5, none⟩) (Kd.R_far (p := ⟨gb331, 4, none⟩) (Kd.R_far (p := ⟨gb331, 3, none⟩) (Kd.R_far (p := ⟨gb331, 2, none⟩) (Kd.R_far (p := ⟨gb331, 1, none⟩) (Kd.R_far (p := ⟨gb331, 0, none⟩) (Kd.R_mono HO_7.out (fun k_ hk => (⟨hk, hk.2⟩ : _ ∧ k_ ≠ gb331))) (fun _ hk => hk.2) (.int .i64 ((rd_T28 l0 x12_1).f0))) (fun _ hk => hk.2) (.int .i64 ((rd_T28 l0 x12_1).f1))) (fun _ hk => hk.2) (.int .i64 ((rd_T28 l0 x12_1).f2.f0))) (fun _ hk => hk.2) (.int .i64 ((rd_T28 l0 x12_1).f2.f1))) (fun _ hk => hk.2) (.int .i64 ((rd_T28 l0 x12_1).f2.f2))) (fun _ hk => hk.2) (.int .i64 ((rd_T28 l0 x12_1).f2.f3.f0))) (fun _ hk => hk.2) (.int .i64 ((rd_T28 l0 x12_1).f2.f3.f1))) (fun _ hk => hk.2) (.int .i64 ((rd_T28 l0 x12_1).f2.f4))) (fun _ hk => hk.2) (.int .i64 ((rd_T28 l0 x12_1).f2.f5))) (fun _ hk => trivial)⟩, ⟨bq1 HB.out GE331.out⟩⟩))
 ·(
 rw [if_neg c7] at H
 have c7b0 : (((rd_T28 l0 x12_1).f0) == a1) = false := beq_eq_false_iff_ne.mpr c7
 have c7b1 : (((rd_T28 l0 x12_1).f0) != a1) = true := bne_iff_ne.mpr c7
 by_cases c15 : x7_1.length < 1954687338268
 ·(
 rw [if_pos c15] at H
 have LMc15 := Aside0.mk c15
 clear c15
 obtain ⟨y335, hy335⟩ : ∃ y_ : List (S28), y_ = (x7_1 ++ [(⟨(rd_T28 l0 x12_1).f0, (rd_T28 l0 x12_1).f1, (⟨(rd_T28 l0 x12_1).f2.f0, (rd_T28 l0 x12_1).f2.f1, (rd_T28 l0 x12_1).f2.f2, (⟨(rd_T28 l0 x12_1).f2.f3.f0, (rd_T28 l0 x12_1).f2.f3.f1⟩ : S24), (rd_T28 l0 x12_1).f2.f4, (rd_T28 l0 x12_1).f2.f5⟩ : S26)⟩ : S28)]) := ⟨_, rfl⟩
 replace H : (determinant_Cut.l0 k1 a1 a2 y335 l0 (l0.length : Int) (wrap64 (x12_1 + 1))) = some r := by first | (rw [hy335]; with_reducible exact H) | (have H2_ := (Option.bind_some _ _).symm.trans H; rw [hy335]; with_reducible exact H2_) | (have H2_ := (Option.bind_some _ _).symm.trans H; with_reducible exact H2_) | with_reducible exact H | (rw [hy335]; exact H) | exact H
 have Ny335 := Aside0.mk hy335
 clear hy335
 have H' := Aside0.mk H
 clear H
 have p330 : 0 ≤ (x12_1 : Int) := of_decide_eq_true (by first | (with_reducible assumption) | assumption)
 have q330 : x12_1 < (l0.length : Int) := of_decide_eq_true (by first | (with_reducible assumption) | assumption)
 obtain ⟨ad330, e330, hx330_0, hx330_1, hx330_2, hx330_3, hx330_4, hx330_5, hx330_6, hx330_7, hx330_8⟩ := at_T28 HR0.out x12_1 p330 q330
 cases e330
 replace hx330_0 := hce HB hx330_0
 replace hx330_1 := hce HB hx330_1
 replace hx330_2 := hce HB hx330_2
 replace hx330_3 := hce HB hx330_3
 replace hx330_4 := hce HB hx330_4
 replace hx330_5 := hce HB hx330_5
 replace hx330_6 := hce HB hx330_6
 replace hx330_7 := hce HB hx330_7
 replace hx330_8 := hce HB hx330_8
 replace p330 := eq_true p330
 replace q330 := eq_true q330
 go_wp2_with (first | ((with_reducible refine gate_dst (N := 9) rfl ?_); refine box_event ?hg (N := 9) ?hd (cs := #[.int .i64 0, .int .i64 0, .int .i64 0, .int .i64 0, .int .i64 0, .int .i64 0, .int .i64 0, .int .i64 0, .int .i64 0]) (t := 28) ?hr ?_; (case hd => rfl); (case hg => rfl); (case hr => first | (go_simp; done) | (go_simp; rfl)); intro gb331 hg w16 hbox hb; have n0_ := Aside0.mk (Kd.R_below (Kd.R_elderB (rq HO_7.out) gb331 (Nat.le_of_eq hg.symm)) hb); have n1_ := Aside0.mk (below_step (bq HB.out) hb); have n2_ := Aside0.mk (hbox); have n3_ := Aside0.mk ((by rw [hg]; exact (below_size (bq HB.out)) : w.heap.size ≤ gb331)); have n4_ := Aside0.mk ((by rw [hg]; exact (below_size (bq HB.out)) : w.heap.size ≤ gb331)); clear HO_7; clear HB; have HO_7 := n0_; have HB := n1_; have BK331 := n2_; have GW331 := n3_; have GE331 := n4_; clear n0_ n1_ n2_ n3_ n4_; clear hb hbox hg; have hcz17_0 : w16.cell? ⟨gb331, 0, none⟩ = some (.int .i64 0) := bc BK331.out 0; have hcz17_1 : w16.cell? ⟨gb331, 1, none⟩ = some (.int .i64 0) := bc BK331.out 1; have hcz17_2 : w16.cell? ⟨gb331, 2, none⟩ = some (.int .i64 0) := bc BK331.out 2; have hcz17_3 : w16.cell? ⟨gb331, 3, none⟩ = some (.int .i64 0) := bc BK331.out 3; have hcz17_4 : w16.cell? ⟨gb331, 4, none⟩ = some (.int .i64 0) := bc BK331.out 4; have hcz17_5 : w16.cell? ⟨gb331, 5, none⟩ = some (.int .i64 0) := bc BK331.out 5; have hcz17_6 : w16.cell? ⟨gb331, 6, none⟩ = some (.int .i64 0) := bc BK331.out 6; have hcz17_7 : w16.cell? ⟨gb331, 7, none⟩ = some (.int .i64 0) := bc BK331.out 7; have hcz17_8 : w16.cell? ⟨gb331, 8, none⟩ = some (.int .i64 0) := bc BK331.out 8; have hfz17_0 := blk_frozen BK331.out 0; have hfz17_1 := blk_frozen BK331.out 1; have hfz17_2 := blk_frozen BK331.out 2; have hfz17_3 := blk_frozen BK331.out 3; have hfz17_4 := blk_frozen BK331.out 4; have hfz17_5 := blk_frozen BK331.out 5; have hfz17_6 := blk_frozen BK331.out 6; have hfz17_7 := blk_frozen BK331.out 7; have hfz17_8 := blk_frozen BK331.out 8) | ((with_reducible refine gate_builtin (b := .append) (xs := #[.tmp 26, .tmp 28]) rfl ?_); at_builtin; refine Kd.R_append k28 (w0 := w) w.heap.size rfl (.tmp 26) (.tmp 28) 22 28 (.agg #[(.int .i64 0), (.int .i64 0), (.int .i64 0), (.int .i64 0), (.int .i64 0), (.int .i64 0), (.int .i64 0), (.int .i64 0), (.int .i64 0)]) 72 rfl Try.underlying22 info28 rfl (by decide) (by omega) u7 x7_1 (⟨(rd_T28 l0 x12_1).f0, (rd_T28 l0 x12_1).f1, (⟨(rd_T28 l0 x12_1).f2.f0, (rd_T28 l0 x12_1).f2.f1, (rd_T28 l0 x12_1).f2.f2, (⟨(rd_T28 l0 x12_1).f2.f3.f0, (rd_T28 l0 x12_1).f2.f3.f1⟩ : S24), (rd_T28 l0 x12_1).f2.f4, (rd_T28 l0 x12_1).f2.f5⟩ : S26)⟩ : S28) [.int .i64 ((rd_T28 l0 x12_1).f0), .int .i64 ((rd_T28 l0 x12_1).f1), .int .i64 ((rd_T28 l0 x12_1).f2.f0), .int .i64 ((rd_T28 l0 x12_1).f2.f1), .int .i64 ((rd_T28 l0 x12_1).f2.f2), .int .i64 ((rd_T28 l0 x12_1).f2.f3.f0), .int .i64 ((rd_T28 l0 x12_1).f2.f3.f1), .int .i64 ((rd_T28 l0 x12_1).f2.f4), .int .i64 ((rd_T28 l0 x12_1).f2.f5)] (fun k_ => k_ ≠ gb331) (fun _ => False) rfl (by first | (go_simp; done) | (go_simp; rfl)) ?aP (fun _ hk => hk.elim) ?aF ?aO ?aB ?aS ?aL ?_; (case aP => exact k28_mkM _ _ _ (⟨(rd_T28 l0 x12_1).f0, (rd_T28 l0 x12_1).f1, (⟨(rd_T28 l0 x12_1).f2.f0, (rd_T28 l0 x12_1).f2.f1, (rd_T28 l0 x12_1).f2.f2, (⟨(rd_T28 l0 x12_1).f2.f3.f0, (rd_T28 l0 x12_1).f2.f3.f1⟩ : S24), (rd_T28 l0 x12_1).f2.f4, (rd_T28 l0 x12_1).f2.f5⟩ : S26)⟩ : S28)); (case aB => exact (bq1 HB.out GE331.out)); (case aF => exact (fun k_ hk => Kd.freshB (g := gb331) (o := .cells #[.int .i64 ((rd_T28 l0 x12_1).f0), .int .i64 ((rd_T28 l0 x12_1).f1), .int .i64 ((rd_T28 l0 x12_1).f2.f0), .int .i64 ((rd_T28 l0 x12_1).f2.f1), .int .i64 ((rd_T28 l0 x12_1).f2.f2), .int .i64 ((rd_T28 l0 x12_1).f2.f3.f0), .int .i64 ((rd_T28 l0 x12_1).f2.f3.f1), .int .i64 ((rd_T28 l0 x12_1).f2.f4), .int .i64 ((rd_T28 l0 x12_1).f2.f5)] 28 (0, 0)) (pu BK331.out) k_ hk)); (case aO => exact (by (with_reducible repeat (first | apply Kd.R_alloc | apply Kd.R_drewN | apply Kd.R_drew)); exact Kd.R_mono (Kd.R_far (p := ⟨gb331, 8, none⟩) (Kd.R_far (p := ⟨gb331, 7, none⟩) (Kd.R_far (p := ⟨gb331, 6, none⟩) (Kd.R_far (p := ⟨gb331, 5, none⟩) (Kd.R_far (p := ⟨gb331, 4, none⟩) (Kd.R_far (p := ⟨gb331, 3, none⟩) (Kd.R_far (p := ⟨gb331, 2, none⟩) (Kd.R_far (p := ⟨gb331, 1, none⟩) (Kd.R_far (p := ⟨gb331, 0, none⟩) (Kd.R_mono HO_7.out (fun k_ hk => (⟨hk, hk.2⟩ : _ ∧ k_ ≠ gb331))) (fun _ hk => hk.2) (.int .i64 ((rd_T28 l0 x12_1).f0))) (fun _ hk => hk.2) (.int .i64 ((rd_T28 l0 x12_1).f1))) (fun _ hk => hk.2) (.int .i64 ((rd_T28 l0 x12_1).f2.f0))) (fun _ hk => hk.2) (.int .i64 ((rd_T28 l0 x12_1).f2.f1))) (fun _ hk => hk.2) (.int .i64 ((rd_T28 l0 x12_1).f2.f2))) (fun _ hk => hk.2) (.int .i64 ((rd_T28 l0 x12_1).f2.f3.f0))) (fun _ hk => hk.2) (.int .i64 ((rd_T28 l0 x12_1).f2.f3.f1))) (fun _ hk => hk.2) (.int .i64 ((rd_T28 l0 x12_1).f2.f4))) (fun _ hk => hk.2) (.int .i64 ((rd_T28 l0 x12_1).f2.f5))) (fun _ hk => hk.1.2))); (case aS => exact (below_size (bq1 HB.out GE331.out))); (case aL => have := LMc15.out; omega); intro v336 w18 ho hb hg hat; rw [← Ny335.out] at ho; have n0_ := Aside0.mk (blk_grown (g := gb331) (o := .cells #[.int .i64 ((rd_T28 l0 x12_1).f0), .int .i64 ((rd_T28 l0 x12_1).f1), .int .i64 ((rd_T28 l0 x12_1).f2.f0), .int .i64 ((rd_T28 l0 x12_1).f2.f1), .int .i64 ((rd_T28 l0 x12_1).f2.f2), .int .i64 ((rd_T28 l0 x12_1).f2.f3.f0), .int .i64 ((rd_T28 l0 x12_1).f2.f3.f1), .int .i64 ((rd_T28 l0 x12_1).f2.f4), .int .i64 ((rd_T28 l0 x12_1).f2.f5)] 28 (0, 0)) (pu BK331.out) hg (Kd.R_away HO_7.out (fun _ hk => hk.2))); have n1_ := Aside0.mk (hb); have n2_ := Aside0.mk (ho); clear BK331; clear HB; clear HO_7; have BK331 := n0_; have HB := n1_; have HO337 := n2_; clear n0_ n1_ n2_; clear ho hb hg hat))
 go_roundg k1
 case measure => have := HK1.out; omega
 case rel => exact ⟨(y335), (wrap64 (x12_1 + 1)), (by first | rfl | (simp; done) | (simp [*]; done)), H', ⟨by have := HK1.out; omega⟩, ⟨by (with_reducible repeat (first | apply Kd.R_alloc | apply Kd.R_drewN | apply Kd.R_drew)); exact Kd.R_mono HO337.out (fun _ hk => trivial)⟩, ⟨bq1 HB.out GE331.out⟩⟩)
 ·(
 rw [if_neg c15] at H
 exact absurd H (by simp))))
 ·(
 rw [if_neg c6] at H
 exact absurd H (by simp)))
 ·(
 rw [if_neg c5] at H
 exact absurd H (by simp)))
 ·(
 rw [if_neg c4] at H
 have c4b0 : decide (x12_1 < (l0.length : Int)) = false := decide_eq_false c4
 clear c4
 obtain rfl := Option.some.inj H
 go_wp2
 go_ret
 exact ⟨_, by first | rfl | (simp [errW_none, errW_some] <;> rfl) | (simp [*, errW_none, errW_some] <;> rfl), rq HO_7.out, bq HB.out⟩)))
end Go.Proofs.Ytdobkcphmpbhlaa.PGL
