-- Written by a program of this session (hprint.py) out of the translation and of hand-proved parts. Lean checks it.
import Derived.Test.YtdobkcphmpbhlaaPGLx0
namespace Go.Proofs.Ytdobkcphmpbhlaa.PGL
open Go.RowKit Go.Proofs.YtdobkcphmpbhlaaW.PrintWords Go.Proofs.YtdobkcphmpbhlaaW.PrintLast Go.Proofs.YtdobkcphmpbhlaaW.PrintMore
attribute [local go_sem] max2_int min2_int max_two min_two max_three min_three max_four min_four   -- for this text's walks alone
set_option linter.unusedVariables false
set_option linter.unusedSimpArgs false

/-! ### determinant_Lineage: function 19 -/
def determinant_Lineage.l0 : Nat → Int → List (S28) → List (S26) → Int → Int → Option ((List (S28)))
 | 0, _, _, _, _, _ => none
 | k + 1, x0, x5, x8, x9, x10 => if x10 < x9 then (if 0 ≤ x10 then (if x10 < (x8.length : Int) then (if x5.length < 1954687338268 then (determinant_Lineage.l0 k x0 (x5 ++ [(⟨x0, wrap64 (x10 + 1), (⟨(rd_T26 x8 x10).f0, (rd_T26 x8 x10).f1, (rd_T26 x8 x10).f2, (⟨(rd_T26 x8 x10).f3.f0, (rd_T26 x8 x10).f3.f1⟩ : S24), (rd_T26 x8 x10).f4, (rd_T26 x8 x10).f5⟩ : S26)⟩ : S28)]) x8 x9 (wrap64 (x10 + 1))) else (none)) else (none)) else (none)) else (some x5)
def determinant_Lineage.f (k : Nat) (a0 : Int) (l1 : List (S26)) : Option ((List (S28))) := determinant_Lineage.l0 k a0 ([] : List (S28)) l1 (l1.length : Int) 0
theorem determinant_Lineage.mono_l : ∀ k, (∀ y0 y1 y2 y3 y4, LeO (determinant_Lineage.l0 k y0 y1 y2 y3 y4) (determinant_Lineage.l0 (k + 1) y0 y1 y2 y3 y4))
 | 0 => fun _ _ _ _ _ r h => by simp [determinant_Lineage.l0] at h
 | k + 1 => by
  have ih0 := determinant_Lineage.mono_l k
  ·intro y0 y1 y2 y3 y4
   unfold determinant_Lineage.l0
   repeat' first
   | (with_reducible exact ih0 _ _ _ _ _)
   | (with_reducible exact LeO.refl _)
   | (with_reducible exact LeO.none _)
   | (with_reducible refine LeO.ite ?_ ?_)
   | (with_reducible refine LeO.bind ?_ (fun _ => ?_))
   | exact ih0 _ _ _ _ _
   | exact LeO.none _
   | refine LeO.ite ?_ ?_
   | refine LeO.bind ?_ (fun _ => ?_)
theorem determinant_Lineage.mono : ∀ a0 a1 k, LeO (determinant_Lineage.f k a0 a1) (determinant_Lineage.f (k + 1) a0 a1) := by
 intro a0 a1 k
 have ih0 := determinant_Lineage.mono_l k
 unfold determinant_Lineage.f
 repeat' first
   | (with_reducible exact ih0 _ _ _ _ _)
   | (with_reducible exact LeO.refl _)
   | (with_reducible exact LeO.none _)
   | (with_reducible refine LeO.ite ?_ ?_)
   | (with_reducible refine LeO.bind ?_ (fun _ => ?_))
   | exact ih0 _ _ _ _ _
   | exact LeO.none _
   | refine LeO.ite ?_ ?_
   | refine LeO.bind ?_ (fun _ => ?_)
set_option maxHeartbeats 8000000 in
set_option maxRecDepth 100000 in
theorem determinant_Lineage.calls (k : Nat) (a0 : Int) (A1 : Option Addr) (c1 : Nat) (l1 : List (S26)) (r : List (S28)) (w : World) (hr1 : Kd.C k26 w A1 l1.length l1) (hc1 : l1.length ≤ c1) (h : determinant_Lineage.f k a0 l1 = some r) :
  Calls Try.prog 19 #[.int .i64 a0, .slice A1 l1.length c1] w fun e w' => ∃ v0_ : Value, e = .returned (v0_) ∧ Kd.R k28 28 w' w.heap.size (fun _ => True) v0_ r ∧ Below w.heap.size w w' := by
 have hu26 := Try.underlying26
 have hu28 := Try.underlying28
 have HR1 := Aside0.mk hr1
 have HC1 := Aside0.mk hc1
 clear hr1 hc1
 have HB := Aside0.mk (Below.refl w.heap.size w)
 have H : (determinant_Lineage.l0 k a0 ([] : List (S28)) l1 (l1.length : Int) 0) = some r := h
 clear h
 have H' := Aside0.mk H
 clear H
 go_enter Try.func19, Try.ntmps19
 go_wp2
 go_loopg [5, 10] k (fun kq v5 v10 w' => ∃ (x5_1 : List (S28)) (x10_1 : Int), v10 = .int .i64 x10_1 ∧ Aside0 (determinant_Lineage.l0 kq a0 x5_1 l1 (l1.length : Int) x10_1 = some r) ∧ Aside0 (kq ≤ k) ∧ Aside0 (Kd.R k28 28 w' w.heap.size (fun _ => True) v5 x5_1) ∧ Aside0 (Below w.heap.size w w'))
 case atStart => exact ⟨(([] : List (S28))), (0), (by first | rfl | (simp; done) | (simp [*]; done)), H', ⟨Nat.le_refl _⟩, ⟨by first | exact Kd.R_nil _ _ _ _ _ | exact Kd.N_nil _ _ _ _ _ | exact Kd.V_nil _ _ _ _ _ | exact Kd.Q_nil _ _ _ _ _ | exact Kd.S_nil _ _ _ _ _⟩, ⟨bq HB.out⟩⟩
 case round =>(
 clear H'
 try clear c1
 try clear p2
 obtain ⟨x5_1, x10_1, rfl, HA, HK1, HO_5, HB⟩ := hrel
 cases gk with
 | zero => exact absurd HA.out (by simp [determinant_Lineage.l0])
 | succ k1 =>(
 have H := HA.out
 clear HA
 simp only [determinant_Lineage.l0] at H
 by_cases c3 : x10_1 < (l1.length : Int)
 ·(
 rw [if_pos c3] at H
 have c3b0 : decide (x10_1 < (l1.length : Int)) = true := decide_eq_true c3
 clear c3
 by_cases c4 : 0 ≤ x10_1
 ·(
 rw [if_pos c4] at H
 have c4b0 : decide (0 ≤ x10_1) = true := decide_eq_true c4
 clear c4
 by_cases c5 : x10_1 < (l1.length : Int)
 ·(
 rw [if_pos c5] at H
 have c5b0 : decide (x10_1 < (l1.length : Int)) = true := decide_eq_true c5
 clear c5
 by_cases c6 : x5_1.length < 1954687338268
 ·(
 rw [if_pos c6] at H
 have LMc6 := Aside0.mk c6
 clear c6
 obtain ⟨y103, hy103⟩ : ∃ y_ : List (S28), y_ = (x5_1 ++ [(⟨a0, wrap64 (x10_1 + 1), (⟨(rd_T26 l1 x10_1).f0, (rd_T26 l1 x10_1).f1, (rd_T26 l1 x10_1).f2, (⟨(rd_T26 l1 x10_1).f3.f0, (rd_T26 l1 x10_1).f3.f1⟩ : S24), (rd_T26 l1 x10_1).f4, (rd_T26 l1 x10_1).f5⟩ : S26)⟩ : S28)]) := ⟨_, rfl⟩
 replace H : (determinant_Lineage.l0 k1 a0 y103 l1 (l1.length : Int) (wrap64 (x10_1 + 1))) = some r := by first | (rw [hy103]; with_reducible exact H) | (have H2_ := (Option.bind_some _ _).symm.trans H; rw [hy103]; with_reducible exact H2_) | (have H2_ := (Option.bind_some _ _).symm.trans H; with_reducible exact H2_) | with_reducible exact H | (rw [hy103]; exact H) | exact H
 have Ny103 := Aside0.mk hy103
 clear hy103
 have H' := Aside0.mk H
 clear H
 have p101 : 0 ≤ (x10_1 : Int) := of_decide_eq_true (by first | (with_reducible assumption) | assumption)
 have q101 : x10_1 < (l1.length : Int) := of_decide_eq_true (by first | (with_reducible assumption) | assumption)
 obtain ⟨ad101, e101, hx101_0, hx101_1, hx101_2, hx101_3, hx101_4, hx101_5, hx101_6⟩ := at_T26 HR1.out x10_1 p101 q101
 cases e101
 replace hx101_0 := hce HB hx101_0
 replace hx101_1 := hce HB hx101_1
 replace hx101_2 := hce HB hx101_2
 replace hx101_3 := hce HB hx101_3
 replace hx101_4 := hce HB hx101_4
 replace hx101_5 := hce HB hx101_5
 replace hx101_6 := hce HB hx101_6
 replace p101 := eq_true p101
 replace q101 := eq_true q101
 go_wp2_with (first | ((with_reducible refine gate_dst (N := 7) rfl ?_); refine box_event ?hg (N := 7) ?hd (cs := #[.int .i64 0, .int .i64 0, .int .i64 0, .int .i64 0, .int .i64 0, .int .i64 0, .int .i64 0]) (t := 26) ?hr ?_; (case hd => rfl); (case hg => rfl); (case hr => first | (go_simp; done) | (go_simp; rfl)); intro gb102 hg w7 hbox hb; have n0_ := Aside0.mk (Kd.R_below (rq HO_5.out) hb); have n1_ := Aside0.mk (below_step (bq HB.out) hb); have n2_ := Aside0.mk (hbox); have n3_ := Aside0.mk ((by rw [hg]; exact (below_size (bq HB.out)) : w.heap.size ≤ gb102)); have n4_ := Aside0.mk ((by rw [hg]; exact (below_size (bq HB.out)) : w.heap.size ≤ gb102)); clear HO_5; clear HB; have HO_5 := n0_; have HB := n1_; have BK102 := n2_; have GW102 := n3_; have GE102 := n4_; clear n0_ n1_ n2_ n3_ n4_; clear hb hbox hg; have hcz8_0 : w7.cell? ⟨gb102, 0, none⟩ = some (.int .i64 0) := bc BK102.out 0; have hcz8_1 : w7.cell? ⟨gb102, 1, none⟩ = some (.int .i64 0) := bc BK102.out 1; have hcz8_2 : w7.cell? ⟨gb102, 2, none⟩ = some (.int .i64 0) := bc BK102.out 2; have hcz8_3 : w7.cell? ⟨gb102, 3, none⟩ = some (.int .i64 0) := bc BK102.out 3; have hcz8_4 : w7.cell? ⟨gb102, 4, none⟩ = some (.int .i64 0) := bc BK102.out 4; have hcz8_5 : w7.cell? ⟨gb102, 5, none⟩ = some (.int .i64 0) := bc BK102.out 5; have hcz8_6 : w7.cell? ⟨gb102, 6, none⟩ = some (.int .i64 0) := bc BK102.out 6; have hfz8_0 := blk_frozen BK102.out 0; have hfz8_1 := blk_frozen BK102.out 1; have hfz8_2 := blk_frozen BK102.out 2; have hfz8_3 := blk_frozen BK102.out 3; have hfz8_4 := blk_frozen BK102.out 4; have hfz8_5 := blk_frozen BK102.out 5; have hfz8_6 := blk_frozen BK102.out 6) | ((with_reducible refine gate_builtin (b := .append) (xs := #[.tmp 15, .tmp 21]) rfl ?_); at_builtin; refine Kd.R_append k28 (w0 := w) w.heap.size rfl (.tmp 15) (.tmp 21) 22 28 (.agg #[(.int .i64 0), (.int .i64 0), (.int .i64 0), (.int .i64 0), (.int .i64 0), (.int .i64 0), (.int .i64 0), (.int .i64 0), (.int .i64 0)]) 72 rfl Try.underlying22 info28 rfl (by decide) (by omega) u5 x5_1 (⟨a0, wrap64 (x10_1 + 1), (⟨(rd_T26 l1 x10_1).f0, (rd_T26 l1 x10_1).f1, (rd_T26 l1 x10_1).f2, (⟨(rd_T26 l1 x10_1).f3.f0, (rd_T26 l1 x10_1).f3.f1⟩ : S24), (rd_T26 l1 x10_1).f4, (rd_T26 l1 x10_1).f5⟩ : S26)⟩ : S28) [.int .i64 a0, .int .i64 (wrap64 (x10_1 + 1)), .int .i64 ((rd_T26 l1 x10_1).f0), .int .i64 ((rd_T26 l1 x10_1).f1), .int .i64 ((rd_T26 l1 x10_1).f2), .int .i64 ((rd_T26 l1 x10_1).f3.f0), .int .i64 ((rd_T26 l1 x10_1).f3.f1), .int .i64 ((rd_T26 l1 x10_1).f4), .int .i64 ((rd_T26 l1 x10_1).f5)] (fun _ => True) (fun _ => False) rfl (by first | (go_simp; done) | (go_simp; rfl)) ?aP (fun _ hk => hk.elim) ?aF ?aO ?aB ?aS ?aL ?_; (case aP => exact k28_mkM _ _ _ (⟨a0, wrap64 (x10_1 + 1), (⟨(rd_T26 l1 x10_1).f0, (rd_T26 l1 x10_1).f1, (rd_T26 l1 x10_1).f2, (⟨(rd_T26 l1 x10_1).f3.f0, (rd_T26 l1 x10_1).f3.f1⟩ : S24), (rd_T26 l1 x10_1).f4, (rd_T26 l1 x10_1).f5⟩ : S26)⟩ : S28)); (case aB => exact (bq1 HB.out GE102.out)); (case aF => exact (fun _ _ => trivial)); (case aO => exact (by (with_reducible repeat (first | apply Kd.R_alloc | apply Kd.R_drewN | apply Kd.R_drew)); exact Kd.R_mono (Kd.R_far (p := ⟨gb102, 6, none⟩) (Kd.R_far (p := ⟨gb102, 5, none⟩) (Kd.R_far (p := ⟨gb102, 4, none⟩) (Kd.R_far (p := ⟨gb102, 3, none⟩) (Kd.R_far (p := ⟨gb102, 2, none⟩) (Kd.R_far (p := ⟨gb102, 1, none⟩) (Kd.R_far (p := ⟨gb102, 0, none⟩) (Kd.R_types HO_5.out BK102.out (by decide)) (fun _ hk => hk.2) (.int .i64 ((rd_T26 l1 x10_1).f0))) (fun _ hk => hk.2) (.int .i64 ((rd_T26 l1 x10_1).f1))) (fun _ hk => hk.2) (.int .i64 ((rd_T26 l1 x10_1).f2))) (fun _ hk => hk.2) (.int .i64 ((rd_T26 l1 x10_1).f3.f0))) (fun _ hk => hk.2) (.int .i64 ((rd_T26 l1 x10_1).f3.f1))) (fun _ hk => hk.2) (.int .i64 ((rd_T26 l1 x10_1).f4))) (fun _ hk => hk.2) (.int .i64 ((rd_T26 l1 x10_1).f5))) (fun _ hk => trivial))); (case aS => exact (below_size (bq1 HB.out GE102.out))); (case aL => have := LMc6.out; omega); intro v104 w9 ho hb hg hat; rw [← Ny103.out] at ho; have n0_ := Aside0.mk (blk_grown (g := gb102) (o := .cells #[.int .i64 ((rd_T26 l1 x10_1).f0), .int .i64 ((rd_T26 l1 x10_1).f1), .int .i64 ((rd_T26 l1 x10_1).f2), .int .i64 ((rd_T26 l1 x10_1).f3.f0), .int .i64 ((rd_T26 l1 x10_1).f3.f1), .int .i64 ((rd_T26 l1 x10_1).f4), .int .i64 ((rd_T26 l1 x10_1).f5)] 26 (0, 0)) (pu BK102.out) hg (Kd.R_ne HO_5.out BK102.out (by decide))); have n1_ := Aside0.mk (hb); have n2_ := Aside0.mk (ho); clear BK102; clear HB; clear HO_5; have BK102 := n0_; have HB := n1_; have HO105 := n2_; clear n0_ n1_ n2_; clear ho hb hg hat))
 go_roundg k1
 case measure => have := HK1.out; omega
 case rel => exact ⟨(y103), (wrap64 (x10_1 + 1)), (by first | rfl | (simp; done) | (simp [*]; done)), H', ⟨by have := HK1.out; omega⟩, ⟨rq HO105.out⟩, ⟨bq1 HB.out GE102.out⟩⟩)
 ·(
 rw [if_neg c6] at H
 exact absurd H (by simp)))
 ·(
 rw [if_neg c5] at H
 exact absurd H (by simp)))
 ·(
 rw [if_neg c4] at H
 exact absurd H (by simp)))
 ·(
 rw [if_neg c3] at H
 have c3b0 : decide (x10_1 < (l1.length : Int)) = false := decide_eq_false c3
 clear c3
 obtain rfl := Option.some.inj H
 go_wp2
 go_ret
 exact ⟨_, by first | rfl | (simp [errW_none, errW_some] <;> rfl) | (simp [*, errW_none, errW_some] <;> rfl), rq HO_5.out, bq HB.out⟩)))
/-! ### rollbacknetref23_SameInts: function 20 -/
def rollbacknetref23_SameInts.l0 : Nat → List Int → List Int → Int → Option (Bool)
 | 0, _, _, _ => none
 | k + 1, x0, x1, x5 => if x5 < (x0.length : Int) then (if 0 ≤ x5 then (if x5 < (x1.length : Int) then (if (rd x0 x5) = (rd x1 x5) then (rollbacknetref23_SameInts.l0 k x0 x1 (wrap64 (x5 + 1))) else (some false)) else (none)) else (none)) else (some true)
def rollbacknetref23_SameInts.f (k : Nat) (l0 : List Int) (l1 : List Int) : Option (Bool) := if (l0.length : Int) = (l1.length : Int) then (rollbacknetref23_SameInts.l0 k l0 l1 0) else (some false)
theorem rollbacknetref23_SameInts.mono_l : ∀ k, (∀ y0 y1 y2, LeO (rollbacknetref23_SameInts.l0 k y0 y1 y2) (rollbacknetref23_SameInts.l0 (k + 1) y0 y1 y2))
 | 0 => fun _ _ _ r h => by simp [rollbacknetref23_SameInts.l0] at h
 | k + 1 => by
  have ih0 := rollbacknetref23_SameInts.mono_l k
  ·intro y0 y1 y2
   unfold rollbacknetref23_SameInts.l0
   repeat' first
   | (with_reducible exact ih0 _ _ _)
   | (with_reducible exact LeO.refl _)
   | (with_reducible exact LeO.none _)
   | (with_reducible refine LeO.ite ?_ ?_)
   | (with_reducible refine LeO.bind ?_ (fun _ => ?_))
   | exact ih0 _ _ _
   | exact LeO.none _
   | refine LeO.ite ?_ ?_
   | refine LeO.bind ?_ (fun _ => ?_)
theorem rollbacknetref23_SameInts.mono : ∀ a0 a1 k, LeO (rollbacknetref23_SameInts.f k a0 a1) (rollbacknetref23_SameInts.f (k + 1) a0 a1) := by
 intro a0 a1 k
 have ih0 := rollbacknetref23_SameInts.mono_l k
 unfold rollbacknetref23_SameInts.f
 repeat' first
   | (with_reducible exact ih0 _ _ _)
   | (with_reducible exact LeO.refl _)
   | (with_reducible exact LeO.none _)
   | (with_reducible refine LeO.ite ?_ ?_)
   | (with_reducible refine LeO.bind ?_ (fun _ => ?_))
   | exact ih0 _ _ _
   | exact LeO.none _
   | refine LeO.ite ?_ ?_
   | refine LeO.bind ?_ (fun _ => ?_)
set_option maxHeartbeats 8000000 in
set_option maxRecDepth 100000 in
theorem rollbacknetref23_SameInts.calls0 (k : Nat) (A0 : Option Addr) (c0 : Nat) (l0 : List Int) (A1 : Option Addr) (c1 : Nat) (l1 : List Int) (r : Bool) (w : World) (hr0 : Kd.C (Kd.int .i64) w A0 l0.length l0) (hc0 : l0.length ≤ c0) (hr1 : Kd.C (Kd.int .i64) w A1 l1.length l1) (hc1 : l1.length ≤ c1) (h : rollbacknetref23_SameInts.f k l0 l1 = some r) :
  Calls Try.prog 20 #[.slice A0 l0.length c0, .slice A1 l1.length c1] w fun e w' => e = .returned (.bool r) ∧ Drawn0 w w' := by
 have HR0 := Aside0.mk hr0
 have HC0 := Aside0.mk hc0
 clear hr0 hc0
 have HR1 := Aside0.mk hr1
 have HC1 := Aside0.mk hc1
 clear hr1 hc1
 have H : (if (l0.length : Int) = (l1.length : Int) then (rollbacknetref23_SameInts.l0 k l0 l1 0) else (some false)) = some r := h
 clear h
 by_cases c3 : (l0.length : Int) = (l1.length : Int)
 ·rw [if_pos c3] at H
  have c3b0 : ((l0.length : Int) == (l1.length : Int)) = true := beq_iff_eq.mpr c3
  have c3b1 : ((l0.length : Int) != (l1.length : Int)) = false := bne_eq_false_iff_eq.mpr c3
  have c3b2 : (l0.length == l1.length) = true := by first | simpa using c3 | (simp at c3 ⊢; omega)
  clear c3
  have H' := Aside0.mk H
  clear H
  go_enter Try.func20, Try.ntmps20
  go_wp2
  repeat (go_quiet (fail); try go_wp2)
  go_loopg [5] k (fun kq v5 w' => ∃ (x5_1 : Int), v5 = .int .i64 x5_1 ∧ Aside0 (rollbacknetref23_SameInts.l0 kq l0 l1 x5_1 = some r) ∧ Aside0 (kq ≤ k) ∧ Drawn0 w w')
  case atStart => exact ⟨(0), (by first | rfl | (simp; done) | (simp [*]; done)), H', ⟨Nat.le_refl _⟩, by repeat (first | exact Drawn0.refl _ | apply Drawn0.step)⟩
  case round =>
   clear H'
   try clear c1
   try clear c2
   try clear p2
   try clear c3
   try clear c3b0
   try clear c3b1
   try clear c3b2
   obtain ⟨x5_1, rfl, HA, HK1, ⟨m1, rfl⟩⟩ := hrel
   cases gk with
   | zero => exact absurd HA.out (by simp [rollbacknetref23_SameInts.l0])
   | succ k1 =>
    have H := HA.out
    clear HA
    simp only [rollbacknetref23_SameInts.l0] at H
    by_cases c4 : x5_1 < (l0.length : Int)
    ·rw [if_pos c4] at H
     have c4b0 : decide (x5_1 < (l0.length : Int)) = true := decide_eq_true c4
     clear c4
     by_cases c5 : 0 ≤ x5_1
     ·rw [if_pos c5] at H
      have c5b0 : decide (0 ≤ x5_1) = true := decide_eq_true c5
      clear c5
      by_cases c6 : x5_1 < (l1.length : Int)
      ·rw [if_pos c6] at H
       have c6b0 : decide (x5_1 < (l1.length : Int)) = true := decide_eq_true c6
       clear c6
       by_cases c7 : (rd l0 x5_1) = (rd l1 x5_1)
       ·rw [if_pos c7] at H
        have c7b0 : ((rd l0 x5_1) == (rd l1 x5_1)) = true := beq_iff_eq.mpr c7
        have c7b1 : ((rd l0 x5_1) != (rd l1 x5_1)) = false := bne_eq_false_iff_eq.mpr c7
        clear c7
        have H' := Aside0.mk H
        clear H
        have p106 : 0 ≤ (x5_1 : Int) := of_decide_eq_true (by first | (with_reducible assumption) | assumption)
        have q106 : x5_1 < (l0.length : Int) := of_decide_eq_true (by first | (with_reducible assumption) | assumption)
        obtain ⟨ad106, e106, hx106_0⟩ := Kd.at_int HR0.out x5_1 p106 q106
        cases e106
        replace p106 := eq_true p106
        replace q106 := eq_true q106
        have p107 : 0 ≤ (x5_1 : Int) := of_decide_eq_true (by first | (with_reducible assumption) | assumption)
        have q107 : x5_1 < (l1.length : Int) := of_decide_eq_true (by first | (with_reducible assumption) | assumption)
        obtain ⟨ad107, e107, hx107_0⟩ := Kd.at_int HR1.out x5_1 p107 q107
        cases e107
        replace p107 := eq_true p107
        replace q107 := eq_true q107
        go_wp2
        repeat (go_quiet (fail); try go_wp2)
        go_roundg k1
        case measure => have := HK1.out; omega
        case rel => exact ⟨(wrap64 (x5_1 + 1)), (by first | rfl | (simp; done) | (simp [*]; done)), H', ⟨by have := HK1.out; omega⟩, by repeat (first | exact Drawn0.refl _ | apply Drawn0.step)⟩
       ·rw [if_neg c7] at H
        have c7b0 : ((rd l0 x5_1) == (rd l1 x5_1)) = false := beq_eq_false_iff_ne.mpr c7
        have c7b1 : ((rd l0 x5_1) != (rd l1 x5_1)) = true := bne_iff_ne.mpr c7
        obtain rfl := Option.some.inj H
        have p106 : 0 ≤ (x5_1 : Int) := of_decide_eq_true (by first | (with_reducible assumption) | assumption)
        have q106 : x5_1 < (l0.length : Int) := of_decide_eq_true (by first | (with_reducible assumption) | assumption)
        obtain ⟨ad106, e106, hx106_0⟩ := Kd.at_int HR0.out x5_1 p106 q106
        cases e106
        replace p106 := eq_true p106
        replace q106 := eq_true q106
        have p107 : 0 ≤ (x5_1 : Int) := of_decide_eq_true (by first | (with_reducible assumption) | assumption)
        have q107 : x5_1 < (l1.length : Int) := of_decide_eq_true (by first | (with_reducible assumption) | assumption)
        obtain ⟨ad107, e107, hx107_0⟩ := Kd.at_int HR1.out x5_1 p107 q107
        cases e107
        replace p107 := eq_true p107
        replace q107 := eq_true q107
        go_wp2
        repeat (go_quiet (fail); try go_wp2)
        go_ret
        exact ⟨by first | rfl | (simp; done) | (simp [*]; done), by repeat (first | exact Drawn0.refl _ | apply Drawn0.step)⟩
      ·rw [if_neg c6] at H
       exact absurd H (by simp)
     ·rw [if_neg c5] at H
      exact absurd H (by simp)
    ·rw [if_neg c4] at H
     have c4b0 : decide (x5_1 < (l0.length : Int)) = false := decide_eq_false c4
     clear c4
     obtain rfl := Option.some.inj H
     go_wp2
     repeat (go_quiet (fail); try go_wp2)
     go_ret
     exact ⟨by first | rfl | (simp; done) | (simp [*]; done), by repeat (first | exact Drawn0.refl _ | apply Drawn0.step)⟩
 ·rw [if_neg c3] at H
  have c3b0 : ((l0.length : Int) == (l1.length : Int)) = false := beq_eq_false_iff_ne.mpr c3
  have c3b1 : ((l0.length : Int) != (l1.length : Int)) = true := bne_iff_ne.mpr c3
  have c3b2 : (l0.length == l1.length) = false := by first | simpa using c3 | (simp at c3 ⊢; omega)
  obtain rfl := Option.some.inj H
  go_enter Try.func20, Try.ntmps20
  go_wp2
  repeat (go_quiet (fail); try go_wp2)
  go_ret
  exact ⟨by first | rfl | (simp; done) | (simp [*]; done), by repeat (first | exact Drawn0.refl _ | apply Drawn0.step)⟩

theorem rollbacknetref23_SameInts.calls (k : Nat) (A0 : Option Addr) (c0 : Nat) (l0 : List Int) (A1 : Option Addr) (c1 : Nat) (l1 : List Int) (r : Bool) (w : World) (hr0 : Kd.C (Kd.int .i64) w A0 l0.length l0) (hc0 : l0.length ≤ c0) (hr1 : Kd.C (Kd.int .i64) w A1 l1.length l1) (hc1 : l1.length ≤ c1) (h : rollbacknetref23_SameInts.f k l0 l1 = some r) :
  Calls Try.prog 20 #[.slice A0 l0.length c0, .slice A1 l1.length c1] w fun e w' => e = .returned (.bool r) ∧ Below w.heap.size w w' := by
 refine (rollbacknetref23_SameInts.calls0 k A0 c0 l0 A1 c1 l1 r w hr0 hc0 hr1 hc1 h).mono ?_
 rintro e w' ⟨h1, ⟨nd, rfl⟩⟩
 exact ⟨h1, pw_below_drewN (Below.refl _ _) nd⟩
end Go.Proofs.Ytdobkcphmpbhlaa.PGL
