-- Written by a program of this session (hprint.py) out of the translation and of hand-proved parts. Lean checks it.
import Derived.Test.YtdobkcphmpbhlaaPGLx0
namespace Go.Proofs.Ytdobkcphmpbhlaa.PGL
open Go.RowKit Go.Proofs.YtdobkcphmpbhlaaW.PrintWords Go.Proofs.YtdobkcphmpbhlaaW.PrintLast Go.Proofs.YtdobkcphmpbhlaaW.PrintMore
attribute [local go_sem] max2_int min2_int max_two min_two max_three min_three max_four min_four   -- for this text's walks alone
set_option linter.unusedVariables false
set_option linter.unusedSimpArgs false

/-! ### rollbacknetref27_Cut: function 16 -/
def rollbacknetref27_Cut.l0 : Nat → List (S28) → Int → Int → List (S28) → Int → Option ((List (S28)))
 | 0, _, _, _, _, _ => none
 | k + 1, x0, x1, x2, x7, x8 => if x8 < (x0.length : Int) then (if 0 ≤ x8 then (if ((rd_T28 x0 x8).f0) = x1 then (if ((rd_T28 x0 x8).f1) ≤ x2 then (if x7.length < 1954687338268 then (rollbacknetref27_Cut.l0 k x0 x1 x2 (x7 ++ [(⟨(rd_T28 x0 x8).f0, (rd_T28 x0 x8).f1, (⟨(rd_T28 x0 x8).f2.f0, (rd_T28 x0 x8).f2.f1, (rd_T28 x0 x8).f2.f2, (⟨(rd_T28 x0 x8).f2.f3.f0, (rd_T28 x0 x8).f2.f3.f1⟩ : S24), (rd_T28 x0 x8).f2.f4, (rd_T28 x0 x8).f2.f5⟩ : S26)⟩ : S28)]) (wrap64 (x8 + 1))) else (none)) else (rollbacknetref27_Cut.l0 k x0 x1 x2 x7 (wrap64 (x8 + 1)))) else (if x7.length < 1954687338268 then (rollbacknetref27_Cut.l0 k x0 x1 x2 (x7 ++ [(⟨(rd_T28 x0 x8).f0, (rd_T28 x0 x8).f1, (⟨(rd_T28 x0 x8).f2.f0, (rd_T28 x0 x8).f2.f1, (rd_T28 x0 x8).f2.f2, (⟨(rd_T28 x0 x8).f2.f3.f0, (rd_T28 x0 x8).f2.f3.f1⟩ : S24), (rd_T28 x0 x8).f2.f4, (rd_T28 x0 x8).f2.f5⟩ : S26)⟩ : S28)]) (wrap64 (x8 + 1))) else (none))) else (none)) else (some x7)
def rollbacknetref27_Cut.f (k : Nat) (l0 : List (S28)) (a1 : Int) (a2 : Int) : Option ((List (S28))) := rollbacknetref27_Cut.l0 k l0 a1 a2 ([] : List (S28)) 0
theorem rollbacknetref27_Cut.mono_l : ∀ k, (∀ y0 y1 y2 y3 y4, LeO (rollbacknetref27_Cut.l0 k y0 y1 y2 y3 y4) (rollbacknetref27_Cut.l0 (k + 1) y0 y1 y2 y3 y4))
 | 0 => fun _ _ _ _ _ r h => by simp [rollbacknetref27_Cut.l0] at h
 | k + 1 => by
  have ih0 := rollbacknetref27_Cut.mono_l k
  ·intro y0 y1 y2 y3 y4
   unfold rollbacknetref27_Cut.l0
   repeat' first
   | (with_reducible exact ih0 _ _ _ _ _)
   | (with_reducible exact LeO.refl _)
   | (with_reducible exact LeO.none _)
   | (with_reducible refine LeO.ite ?_ ?_)
   | (with_reducible refine LeO.bind ?_ (fun _ => ?_))
   | exact ih0 _ _ _ _ _
   | exact LeO.none _
   | refine LeO.ite ?_ ?_
   | refine LeO.bind ?_ (fun _ => ?_)
theorem rollbacknetref27_Cut.mono : ∀ a0 a1 a2 k, LeO (rollbacknetref27_Cut.f k a0 a1 a2) (rollbacknetref27_Cut.f (k + 1) a0 a1 a2) := by
 intro a0 a1 a2 k
 have ih0 := rollbacknetref27_Cut.mono_l k
 unfold rollbacknetref27_Cut.f
 repeat' first
   | (with_reducible exact ih0 _ _ _ _ _)
   | (with_reducible exact LeO.refl _)
   | (with_reducible exact LeO.none _)
   | (with_reducible refine LeO.ite ?_ ?_)
   | (with_reducible refine LeO.bind ?_ (fun _ => ?_))
   | exact ih0 _ _ _ _ _
   | exact LeO.none _
   | refine LeO.ite ?_ ?_
   | refine LeO.bind ?_ (fun _ => ?_)
set_option maxHeartbeats 8000000 in
set_option maxRecDepth 100000 in
theorem rollbacknetref27_Cut.calls (k : Nat) (A0 : Option Addr) (c0 : Nat) (l0 : List (S28)) (a1 : Int) (a2 : Int) (r : List (S28)) (w : World) (hr0 : Kd.C k28 w A0 l0.length l0) (hc0 : l0.length ≤ c0) (h : rollbacknetref27_Cut.f k l0 a1 a2 = some r) :
  Calls Try.prog 16 #[.slice A0 l0.length c0, .int .i64 a1, .int .i64 a2] w fun e w' => ∃ v0_ : Value, e = .returned (v0_) ∧ Kd.R k28 28 w' w.heap.size (fun _ => True) v0_ r ∧ Below w.heap.size w w' := by
 have hu28 := Try.underlying28
 have HR0 := Aside0.mk hr0
 have HC0 := Aside0.mk hc0
 clear hr0 hc0
 have HB := Aside0.mk (Below.refl w.heap.size w)
 have H : (rollbacknetref27_Cut.l0 k l0 a1 a2 ([] : List (S28)) 0) = some r := h
 clear h
 have H' := Aside0.mk H
 clear H
 go_enter Try.func16, Try.ntmps16
 go_wp2
 go_loopg [7, 8] k (fun kq v7 v8 w' => ∃ (x7_1 : List (S28)) (x8_1 : Int), v8 = .int .i64 x8_1 ∧ Aside0 (rollbacknetref27_Cut.l0 kq l0 a1 a2 x7_1 x8_1 = some r) ∧ Aside0 (kq ≤ k) ∧ Aside0 (Kd.R k28 28 w' w.heap.size (fun _ => True) v7 x7_1) ∧ Aside0 (Below w.heap.size w w'))
 case atStart => exact ⟨(([] : List (S28))), (0), (by first | rfl | (simp; done) | (simp [*]; done)), H', ⟨Nat.le_refl _⟩, ⟨by first | exact Kd.R_nil _ _ _ _ _ | exact Kd.N_nil _ _ _ _ _ | exact Kd.V_nil _ _ _ _ _ | exact Kd.Q_nil _ _ _ _ _ | exact Kd.S_nil _ _ _ _ _⟩, ⟨bq HB.out⟩⟩
 case round =>(
 clear H'
 try clear c1
 try clear p2
 obtain ⟨x7_1, x8_1, rfl, HA, HK1, HO_7, HB⟩ := hrel
 cases gk with
 | zero => exact absurd HA.out (by simp [rollbacknetref27_Cut.l0])
 | succ k1 =>(
 have H := HA.out
 clear HA
 simp only [rollbacknetref27_Cut.l0] at H
 by_cases c4 : x8_1 < (l0.length : Int)
 ·(
 rw [if_pos c4] at H
 have c4b0 : decide (x8_1 < (l0.length : Int)) = true := decide_eq_true c4
 clear c4
 by_cases c5 : 0 ≤ x8_1
 ·(
 rw [if_pos c5] at H
 have c5b0 : decide (0 ≤ x8_1) = true := decide_eq_true c5
 clear c5
 by_cases c6 : ((rd_T28 l0 x8_1).f0) = a1
 ·(
 rw [if_pos c6] at H
 have c6b0 : (((rd_T28 l0 x8_1).f0) == a1) = true := beq_iff_eq.mpr c6
 have c6b1 : (((rd_T28 l0 x8_1).f0) != a1) = false := bne_eq_false_iff_eq.mpr c6
 clear c6
 by_cases c7 : ((rd_T28 l0 x8_1).f1) ≤ a2
 ·(
 rw [if_pos c7] at H
 have c7b0 : decide (((rd_T28 l0 x8_1).f1) ≤ a2) = true := decide_eq_true c7
 clear c7
 by_cases c8 : x7_1.length < 1954687338268
 ·(
 rw [if_pos c8] at H
 have LMc8 := Aside0.mk c8
 clear c8
 obtain ⟨y341, hy341⟩ : ∃ y_ : List (S28), y_ = (x7_1 ++ [(⟨(rd_T28 l0 x8_1).f0, (rd_T28 l0 x8_1).f1, (⟨(rd_T28 l0 x8_1).f2.f0, (rd_T28 l0 x8_1).f2.f1, (rd_T28 l0 x8_1).f2.f2, (⟨(rd_T28 l0 x8_1).f2.f3.f0, (rd_T28 l0 x8_1).f2.f3.f1⟩ : S24), (rd_T28 l0 x8_1).f2.f4, (rd_T28 l0 x8_1).f2.f5⟩ : S26)⟩ : S28)]) := ⟨_, rfl⟩
 replace H : (rollbacknetref27_Cut.l0 k1 l0 a1 a2 y341 (wrap64 (x8_1 + 1))) = some r := by first | (rw [hy341]; with_reducible exact H) | (have H2_ := (Option.bind_some _ _).symm.trans H; rw [hy341]; with_reducible exact H2_) | (have H2_ := (Option.bind_some _ _).symm.trans H; with_reducible exact H2_) | with_reducible exact H | (rw [hy341]; exact H) | exact H
 have Ny341 := Aside0.mk hy341
 clear hy341
 have H' := Aside0.mk H
 clear H
 have p338 : 0 ≤ (x8_1 : Int) := of_decide_eq_true (by first | (with_reducible assumption) | assumption)
 have q338 : x8_1 < (l0.length : Int) := of_decide_eq_true (by first | (with_reducible assumption) | assumption)
 obtain ⟨ad338, e338, hx338_0, hx338_1, hx338_2, hx338_3, hx338_4, hx338_5, hx338_6, hx338_7, hx338_8⟩ := at_T28 HR0.out x8_1 p338 q338
 cases e338
 replace hx338_0 := hce HB hx338_0
 replace hx338_1 := hce HB hx338_1
 replace hx338_2 := hce HB hx338_2
 replace hx338_3 := hce HB hx338_3
 replace hx338_4 := hce HB hx338_4
 replace hx338_5 := hce HB hx338_5
 replace hx338_6 := hce HB hx338_6
 replace hx338_7 := hce HB hx338_7
 replace hx338_8 := hce HB hx338_8
 replace p338 := eq_true p338
 replace q338 := eq_true q338
 have p339 : 0 ≤ (x8_1 : Int) := of_decide_eq_true (by first | (with_reducible assumption) | assumption)
 have q339 : x8_1 < (l0.length : Int) := of_decide_eq_true (by first | (with_reducible assumption) | assumption)
 obtain ⟨ad339, e339, hx339_0, hx339_1, hx339_2, hx339_3, hx339_4, hx339_5, hx339_6, hx339_7, hx339_8⟩ := at_T28 HR0.out x8_1 p339 q339
 obtain rfl : ad338 = ad339 := (by injection e339)
 replace hx339_0 := hce HB hx339_0
 replace hx339_1 := hce HB hx339_1
 replace hx339_2 := hce HB hx339_2
 replace hx339_3 := hce HB hx339_3
 replace hx339_4 := hce HB hx339_4
 replace hx339_5 := hce HB hx339_5
 replace hx339_6 := hce HB hx339_6
 replace hx339_7 := hce HB hx339_7
 replace hx339_8 := hce HB hx339_8
 replace p339 := eq_true p339
 replace q339 := eq_true q339
 have p340 : 0 ≤ (x8_1 : Int) := of_decide_eq_true (by first | (with_reducible assumption) | assumption)
 have q340 : x8_1 < (l0.length : Int) := of_decide_eq_true (by first | (with_reducible assumption) | assumption)
 obtain ⟨ad340, e340, hx340_0, hx340_1, hx340_2, hx340_3, hx340_4, hx340_5, hx340_6, hx340_7, hx340_8⟩ := at_T28 HR0.out x8_1 p340 q340
 obtain rfl : ad338 = ad340 := (by injection e340)
 replace hx340_0 := hce HB hx340_0
 replace hx340_1 := hce HB hx340_1
 replace hx340_2 := hce HB hx340_2
 replace hx340_3 := hce HB hx340_3
 replace hx340_4 := hce HB hx340_4
 replace hx340_5 := hce HB hx340_5
 replace hx340_6 := hce HB hx340_6
 replace hx340_7 := hce HB hx340_7
 replace hx340_8 := hce HB hx340_8
 replace p340 := eq_true p340
 replace q340 := eq_true q340
 go_wp2_with (first | ((with_reducible refine gate_builtin (b := .append) (xs := #[.tmp 31, .tmp 36]) rfl ?_); at_builtin; refine Kd.R_append k28 (w0 := w) w.heap.size rfl (.tmp 31) (.tmp 36) 22 28 (.agg #[(.int .i64 0), (.int .i64 0), (.int .i64 0), (.int .i64 0), (.int .i64 0), (.int .i64 0), (.int .i64 0), (.int .i64 0), (.int .i64 0)]) 72 rfl Try.underlying22 info28 rfl (by decide) (by omega) u7 x7_1 (⟨(rd_T28 l0 x8_1).f0, (rd_T28 l0 x8_1).f1, (⟨(rd_T28 l0 x8_1).f2.f0, (rd_T28 l0 x8_1).f2.f1, (rd_T28 l0 x8_1).f2.f2, (⟨(rd_T28 l0 x8_1).f2.f3.f0, (rd_T28 l0 x8_1).f2.f3.f1⟩ : S24), (rd_T28 l0 x8_1).f2.f4, (rd_T28 l0 x8_1).f2.f5⟩ : S26)⟩ : S28) [.int .i64 ((rd_T28 l0 x8_1).f0), .int .i64 ((rd_T28 l0 x8_1).f1), .int .i64 ((rd_T28 l0 x8_1).f2.f0), .int .i64 ((rd_T28 l0 x8_1).f2.f1), .int .i64 ((rd_T28 l0 x8_1).f2.f2), .int .i64 ((rd_T28 l0 x8_1).f2.f3.f0), .int .i64 ((rd_T28 l0 x8_1).f2.f3.f1), .int .i64 ((rd_T28 l0 x8_1).f2.f4), .int .i64 ((rd_T28 l0 x8_1).f2.f5)] (fun _ => True) (fun _ => False) rfl rfl ?aP (fun _ hk => hk.elim) ?aF ?aO ?aB ?aS ?aL ?_; (case aP => exact k28_mkM _ _ _ (⟨(rd_T28 l0 x8_1).f0, (rd_T28 l0 x8_1).f1, (⟨(rd_T28 l0 x8_1).f2.f0, (rd_T28 l0 x8_1).f2.f1, (rd_T28 l0 x8_1).f2.f2, (⟨(rd_T28 l0 x8_1).f2.f3.f0, (rd_T28 l0 x8_1).f2.f3.f1⟩ : S24), (rd_T28 l0 x8_1).f2.f4, (rd_T28 l0 x8_1).f2.f5⟩ : S26)⟩ : S28)); (case aB => exact (bq HB.out)); (case aF => exact (fun _ _ => trivial)); (case aO => exact (rq HO_7.out)); (case aS => exact (below_size (bq HB.out))); (case aL => have := LMc8.out; omega); intro v342 w9 ho hb hg hat; rw [← Ny341.out] at ho; have n0_ := Aside0.mk (hb); have n1_ := Aside0.mk (ho); clear HB; clear HO_7; have HB := n0_; have HO343 := n1_; clear n0_ n1_; clear ho hb hg hat))
 go_roundg k1
 case measure => have := HK1.out; omega
 case rel => exact ⟨(y341), (wrap64 (x8_1 + 1)), (by first | rfl | (simp; done) | (simp [*]; done)), H', ⟨by have := HK1.out; omega⟩, ⟨rq HO343.out⟩, ⟨bq HB.out⟩⟩)
 ·(
 rw [if_neg c8] at H
 exact absurd H (by simp)))
 ·(
 rw [if_neg c7] at H
 have c7b0 : decide (((rd_T28 l0 x8_1).f1) ≤ a2) = false := decide_eq_false c7
 clear c7
 have H' := Aside0.mk H
 clear H
 have p338 : 0 ≤ (x8_1 : Int) := of_decide_eq_true (by first | (with_reducible assumption) | assumption)
 have q338 : x8_1 < (l0.length : Int) := of_decide_eq_true (by first | (with_reducible assumption) | assumption)
 obtain ⟨ad338, e338, hx338_0, hx338_1, hx338_2, hx338_3, hx338_4, hx338_5, hx338_6, hx338_7, hx338_8⟩ := at_T28 HR0.out x8_1 p338 q338
 cases e338
 replace hx338_0 := hce HB hx338_0
 replace hx338_1 := hce HB hx338_1
 replace hx338_2 := hce HB hx338_2
 replace hx338_3 := hce HB hx338_3
 replace hx338_4 := hce HB hx338_4
 replace hx338_5 := hce HB hx338_5
 replace hx338_6 := hce HB hx338_6
 replace hx338_7 := hce HB hx338_7
 replace hx338_8 := hce HB hx338_8
 replace p338 := eq_true p338
 replace q338 := eq_true q338
 have p339 : 0 ≤ (x8_1 : Int) := of_decide_eq_true (by first | (with_reducible assumption) | assumption)
 have q339 : x8_1 < (l0.length : Int) := of_decide_eq_true (by first | (with_reducible assumption) | assumption)
 obtain ⟨ad339, e339, hx339_0, hx339_1, hx339_2, hx339_3, hx339_4, hx339_5, hx339_6, hx339_7, hx339_8⟩ := at_T28 HR0.out x8_1 p339 q339
 obtain rfl : ad338 = ad339 := (by injection e339)
 replace hx339_0 := hce HB hx339_0
 replace hx339_1 := hce HB hx339_1
 replace hx339_2 := hce HB hx339_2
 replace hx339_3 := hce HB hx339_3
 replace hx339_4 := hce HB hx339_4
 replace hx339_5 := hce HB hx339_5
 replace hx339_6 := hce HB hx339_6
 replace hx339_7 := hce HB hx339_7
 replace hx339_8 := hce HB hx339_8
 replace p339 := eq_true p339
 replace q339 := eq_true q339
 go_wp2
 go_roundg k1
 case measure => have := HK1.out; omega
 case rel => exact ⟨(x7_1), (wrap64 (x8_1 + 1)), (by first | rfl | (simp; done) | (simp [*]; done)), H', ⟨by have := HK1.out; omega⟩, ⟨rq HO_7.out⟩, ⟨bq HB.out⟩⟩))
 ·(
 rw [if_neg c6] at H
 have c6b0 : (((rd_T28 l0 x8_1).f0) == a1) = false := beq_eq_false_iff_ne.mpr c6
 have c6b1 : (((rd_T28 l0 x8_1).f0) != a1) = true := bne_iff_ne.mpr c6
 by_cases c10 : x7_1.length < 1954687338268
 ·(
 rw [if_pos c10] at H
 have LMc10 := Aside0.mk c10
 clear c10
 obtain ⟨y345, hy345⟩ : ∃ y_ : List (S28), y_ = (x7_1 ++ [(⟨(rd_T28 l0 x8_1).f0, (rd_T28 l0 x8_1).f1, (⟨(rd_T28 l0 x8_1).f2.f0, (rd_T28 l0 x8_1).f2.f1, (rd_T28 l0 x8_1).f2.f2, (⟨(rd_T28 l0 x8_1).f2.f3.f0, (rd_T28 l0 x8_1).f2.f3.f1⟩ : S24), (rd_T28 l0 x8_1).f2.f4, (rd_T28 l0 x8_1).f2.f5⟩ : S26)⟩ : S28)]) := ⟨_, rfl⟩
 replace H : (rollbacknetref27_Cut.l0 k1 l0 a1 a2 y345 (wrap64 (x8_1 + 1))) = some r := by first | (rw [hy345]; with_reducible exact H) | (have H2_ := (Option.bind_some _ _).symm.trans H; rw [hy345]; with_reducible exact H2_) | (have H2_ := (Option.bind_some _ _).symm.trans H; with_reducible exact H2_) | with_reducible exact H | (rw [hy345]; exact H) | exact H
 have Ny345 := Aside0.mk hy345
 clear hy345
 have H' := Aside0.mk H
 clear H
 have p338 : 0 ≤ (x8_1 : Int) := of_decide_eq_true (by first | (with_reducible assumption) | assumption)
 have q338 : x8_1 < (l0.length : Int) := of_decide_eq_true (by first | (with_reducible assumption) | assumption)
 obtain ⟨ad338, e338, hx338_0, hx338_1, hx338_2, hx338_3, hx338_4, hx338_5, hx338_6, hx338_7, hx338_8⟩ := at_T28 HR0.out x8_1 p338 q338
 cases e338
 replace hx338_0 := hce HB hx338_0
 replace hx338_1 := hce HB hx338_1
 replace hx338_2 := hce HB hx338_2
 replace hx338_3 := hce HB hx338_3
 replace hx338_4 := hce HB hx338_4
 replace hx338_5 := hce HB hx338_5
 replace hx338_6 := hce HB hx338_6
 replace hx338_7 := hce HB hx338_7
 replace hx338_8 := hce HB hx338_8
 replace p338 := eq_true p338
 replace q338 := eq_true q338
 have p344 : 0 ≤ (x8_1 : Int) := of_decide_eq_true (by first | (with_reducible assumption) | assumption)
 have q344 : x8_1 < (l0.length : Int) := of_decide_eq_true (by first | (with_reducible assumption) | assumption)
 obtain ⟨ad344, e344, hx344_0, hx344_1, hx344_2, hx344_3, hx344_4, hx344_5, hx344_6, hx344_7, hx344_8⟩ := at_T28 HR0.out x8_1 p344 q344
 obtain rfl : ad338 = ad344 := (by injection e344)
 replace hx344_0 := hce HB hx344_0
 replace hx344_1 := hce HB hx344_1
 replace hx344_2 := hce HB hx344_2
 replace hx344_3 := hce HB hx344_3
 replace hx344_4 := hce HB hx344_4
 replace hx344_5 := hce HB hx344_5
 replace hx344_6 := hce HB hx344_6
 replace hx344_7 := hce HB hx344_7
 replace hx344_8 := hce HB hx344_8
 replace p344 := eq_true p344
 replace q344 := eq_true q344
 go_wp2_with (first | ((with_reducible refine gate_builtin (b := .append) (xs := #[.tmp 31, .tmp 36]) rfl ?_); at_builtin; refine Kd.R_append k28 (w0 := w) w.heap.size rfl (.tmp 31) (.tmp 36) 22 28 (.agg #[(.int .i64 0), (.int .i64 0), (.int .i64 0), (.int .i64 0), (.int .i64 0), (.int .i64 0), (.int .i64 0), (.int .i64 0), (.int .i64 0)]) 72 rfl Try.underlying22 info28 rfl (by decide) (by omega) u7 x7_1 (⟨(rd_T28 l0 x8_1).f0, (rd_T28 l0 x8_1).f1, (⟨(rd_T28 l0 x8_1).f2.f0, (rd_T28 l0 x8_1).f2.f1, (rd_T28 l0 x8_1).f2.f2, (⟨(rd_T28 l0 x8_1).f2.f3.f0, (rd_T28 l0 x8_1).f2.f3.f1⟩ : S24), (rd_T28 l0 x8_1).f2.f4, (rd_T28 l0 x8_1).f2.f5⟩ : S26)⟩ : S28) [.int .i64 ((rd_T28 l0 x8_1).f0), .int .i64 ((rd_T28 l0 x8_1).f1), .int .i64 ((rd_T28 l0 x8_1).f2.f0), .int .i64 ((rd_T28 l0 x8_1).f2.f1), .int .i64 ((rd_T28 l0 x8_1).f2.f2), .int .i64 ((rd_T28 l0 x8_1).f2.f3.f0), .int .i64 ((rd_T28 l0 x8_1).f2.f3.f1), .int .i64 ((rd_T28 l0 x8_1).f2.f4), .int .i64 ((rd_T28 l0 x8_1).f2.f5)] (fun _ => True) (fun _ => False) rfl rfl ?aP (fun _ hk => hk.elim) ?aF ?aO ?aB ?aS ?aL ?_; (case aP => exact k28_mkM _ _ _ (⟨(rd_T28 l0 x8_1).f0, (rd_T28 l0 x8_1).f1, (⟨(rd_T28 l0 x8_1).f2.f0, (rd_T28 l0 x8_1).f2.f1, (rd_T28 l0 x8_1).f2.f2, (⟨(rd_T28 l0 x8_1).f2.f3.f0, (rd_T28 l0 x8_1).f2.f3.f1⟩ : S24), (rd_T28 l0 x8_1).f2.f4, (rd_T28 l0 x8_1).f2.f5⟩ : S26)⟩ : S28)); (case aB => exact (bq HB.out)); (case aF => exact (fun _ _ => trivial)); (case aO => exact (rq HO_7.out)); (case aS => exact (below_size (bq HB.out))); (case aL => have := LMc10.out; omega); intro v346 w11 ho hb hg hat; rw [← Ny345.out] at ho; have n0_ := Aside0.mk (hb); have n1_ := Aside0.mk (ho); clear HB; clear HO_7; have HB := n0_; have HO347 := n1_; clear n0_ n1_; clear ho hb hg hat))
 go_roundg k1
 case measure => have := HK1.out; omega
 case rel => exact ⟨(y345), (wrap64 (x8_1 + 1)), (by first | rfl | (simp; done) | (simp [*]; done)), H', ⟨by have := HK1.out; omega⟩, ⟨rq HO347.out⟩, ⟨bq HB.out⟩⟩)
 ·(
 rw [if_neg c10] at H
 exact absurd H (by simp))))
 ·(
 rw [if_neg c5] at H
 exact absurd H (by simp)))
 ·(
 rw [if_neg c4] at H
 have c4b0 : decide (x8_1 < (l0.length : Int)) = false := decide_eq_false c4
 clear c4
 obtain rfl := Option.some.inj H
 go_wp2
 go_ret
 exact ⟨_, by first | rfl | (simp [errW_none, errW_some] <;> rfl) | (simp [*, errW_none, errW_some] <;> rfl), rq HO_7.out, bq HB.out⟩)))
/-! ### determinant_Discard: function 17 -/
def determinant_Discard.l0 : Nat → Int → Int → List (S28) → List (S28) → Int → Int → Option ((List (S28)))
 | 0, _, _, _, _, _, _ => none
 | k + 1, x1, x2, x7, x10, x11, x12 => if x12 < x11 then (if 0 ≤ x12 then (if x12 < (x10.length : Int) then (if ((rd_T28 x10 x12).f0) = x1 then (if ((rd_T28 x10 x12).f1) > x2 then (if x7.length < 1954687338268 then (determinant_Discard.l0 k x1 x2 (x7 ++ [(⟨(rd_T28 x10 x12).f0, (rd_T28 x10 x12).f1, (⟨(rd_T28 x10 x12).f2.f0, (rd_T28 x10 x12).f2.f1, (rd_T28 x10 x12).f2.f2, (⟨(rd_T28 x10 x12).f2.f3.f0, (rd_T28 x10 x12).f2.f3.f1⟩ : S24), (rd_T28 x10 x12).f2.f4, (rd_T28 x10 x12).f2.f5⟩ : S26)⟩ : S28)]) x10 x11 (wrap64 (x12 + 1))) else (none)) else (determinant_Discard.l0 k x1 x2 x7 x10 x11 (wrap64 (x12 + 1)))) else (if x7.length < 1954687338268 then (determinant_Discard.l0 k x1 x2 (x7 ++ [(⟨(rd_T28 x10 x12).f0, (rd_T28 x10 x12).f1, (⟨(rd_T28 x10 x12).f2.f0, (rd_T28 x10 x12).f2.f1, (rd_T28 x10 x12).f2.f2, (⟨(rd_T28 x10 x12).f2.f3.f0, (rd_T28 x10 x12).f2.f3.f1⟩ : S24), (rd_T28 x10 x12).f2.f4, (rd_T28 x10 x12).f2.f5⟩ : S26)⟩ : S28)]) x10 x11 (wrap64 (x12 + 1))) else (none))) else (none)) else (none)) else (some x7)
def determinant_Discard.f (k : Nat) (l0 : List (S28)) (a1 : Int) (a2 : Int) : Option ((List (S28))) := determinant_Discard.l0 k a1 a2 ([] : List (S28)) l0 (l0.length : Int) 0
theorem determinant_Discard.mono_l : ∀ k, (∀ y0 y1 y2 y3 y4 y5, LeO (determinant_Discard.l0 k y0 y1 y2 y3 y4 y5) (determinant_Discard.l0 (k + 1) y0 y1 y2 y3 y4 y5))
 | 0 => fun _ _ _ _ _ _ r h => by simp [determinant_Discard.l0] at h
 | k + 1 => by
  have ih0 := determinant_Discard.mono_l k
  ·intro y0 y1 y2 y3 y4 y5
   unfold determinant_Discard.l0
   repeat' first
   | (with_reducible exact ih0 _ _ _ _ _ _)
   | (with_reducible exact LeO.refl _)
   | (with_reducible exact LeO.none _)
   | (with_reducible refine LeO.ite ?_ ?_)
   | (with_reducible refine LeO.bind ?_ (fun _ => ?_))
   | exact ih0 _ _ _ _ _ _
   | exact LeO.none _
   | refine LeO.ite ?_ ?_
   | refine LeO.bind ?_ (fun _ => ?_)
theorem determinant_Discard.mono : ∀ a0 a1 a2 k, LeO (determinant_Discard.f k a0 a1 a2) (determinant_Discard.f (k + 1) a0 a1 a2) := by
 intro a0 a1 a2 k
 have ih0 := determinant_Discard.mono_l k
 unfold determinant_Discard.f
 repeat' first
   | (with_reducible exact ih0 _ _ _ _ _ _)
   | (with_reducible exact LeO.refl _)
   | (with_reducible exact LeO.none _)
   | (with_reducible refine LeO.ite ?_ ?_)
   | (with_reducible refine LeO.bind ?_ (fun _ => ?_))
   | exact ih0 _ _ _ _ _ _
   | exact LeO.none _
   | refine LeO.ite ?_ ?_
   | refine LeO.bind ?_ (fun _ => ?_)
set_option maxHeartbeats 8000000 in
set_option maxRecDepth 100000 in
theorem determinant_Discard.calls (k : Nat) (A0 : Option Addr) (c0 : Nat) (l0 : List (S28)) (a1 : Int) (a2 : Int) (r : List (S28)) (w : World) (hr0 : Kd.C k28 w A0 l0.length l0) (hc0 : l0.length ≤ c0) (h : determinant_Discard.f k l0 a1 a2 = some r) :
  Calls Try.prog 17 #[.slice A0 l0.length c0, .int .i64 a1, .int .i64 a2] w fun e w' => ∃ v0_ : Value, e = .returned (v0_) ∧ Kd.R k28 28 w' w.heap.size (fun _ => True) v0_ r ∧ Below w.heap.size w w' := by
 have hu28 := Try.underlying28
 have HR0 := Aside0.mk hr0
 have HC0 := Aside0.mk hc0
 clear hr0 hc0
 have HB := Aside0.mk (Below.refl w.heap.size w)
 have H : (determinant_Discard.l0 k a1 a2 ([] : List (S28)) l0 (l0.length : Int) 0) = some r := h
 clear h
 have H' := Aside0.mk H
 clear H
 go_enter Try.func17, Try.ntmps17
 go_wp2
 go_loopg [7, 12] k (fun kq v7 v12 w' => ∃ (x7_1 : List (S28)) (x12_1 : Int), v12 = .int .i64 x12_1 ∧ Aside0 (determinant_Discard.l0 kq a1 a2 x7_1 l0 (l0.length : Int) x12_1 = some r) ∧ Aside0 (kq ≤ k) ∧ Aside0 (Kd.R k28 28 w' w.heap.size (fun _ => True) v7 x7_1) ∧ Aside0 (Below w.heap.size w w'))
 case atStart => exact ⟨(([] : List (S28))), (0), (by first | rfl | (simp; done) | (simp [*]; done)), H', ⟨Nat.le_refl _⟩, ⟨by first | exact Kd.R_nil _ _ _ _ _ | exact Kd.N_nil _ _ _ _ _ | exact Kd.V_nil _ _ _ _ _ | exact Kd.Q_nil _ _ _ _ _ | exact Kd.S_nil _ _ _ _ _⟩, ⟨bq HB.out⟩⟩
 case round =>(
 clear H'
 try clear c1
 try clear p2
 obtain ⟨x7_1, x12_1, rfl, HA, HK1, HO_7, HB⟩ := hrel
 cases gk with
 | zero => exact absurd HA.out (by simp [determinant_Discard.l0])
 | succ k1 =>(
 have H := HA.out
 clear HA
 simp only [determinant_Discard.l0] at H
 by_cases c4 : x12_1 < (l0.length : Int)
 ·(
 rw [if_pos c4] at H
 have c4b0 : decide (x12_1 < (l0.length : Int)) = true := decide_eq_true c4
 clear c4
 by_cases c5 : 0 ≤ x12_1
 ·(
 rw [if_pos c5] at H
 have c5b0 : decide (0 ≤ x12_1) = true := decide_eq_true c5
 clear c5
 by_cases c6 : x12_1 < (l0.length : Int)
 ·(
 rw [if_pos c6] at H
 have c6b0 : decide (x12_1 < (l0.length : Int)) = true := decide_eq_true c6
 clear c6
 by_cases c7 : ((rd_T28 l0 x12_1).f0) = a1
 ·(
 rw [if_pos c7] at H
 have c7b0 : (((rd_T28 l0 x12_1).f0) == a1) = true := beq_iff_eq.mpr c7
 have c7b1 : (((rd_T28 l0 x12_1).f0) != a1) = false := bne_eq_false_iff_eq.mpr c7
 clear c7
 by_cases c8 : ((rd_T28 l0 x12_1).f1) > a2
 ·(
 rw [if_pos c8] at H
 have c8b0 : decide (a2 < ((rd_T28 l0 x12_1).f1)) = true := decide_eq_true c8
 clear c8
 by_cases c9 : x7_1.length < 1954687338268
 ·(
 rw [if_pos c9] at H
 have LMc9 := Aside0.mk c9
 clear c9
 obtain ⟨y350, hy350⟩ : ∃ y_ : List (S28), y_ = (x7_1 ++ [(⟨(rd_T28 l0 x12_1).f0, (rd_T28 l0 x12_1).f1, (⟨(rd_T28 l0 x12_1).f2.f0, (rd_T28 l0 x12_1).f2.f1, (rd_T28 l0 x12_1).f2.f2, (⟨(rd_T28 l0 x12_1).f2.f3.f0, (rd_T28 l0 x12_1).f2.f3.f1⟩ : S24), (rd_T28 l0 x12_1).f2.f4, (rd_T28 l0 x12_1).f2.f5⟩ : S26)⟩ : S28)]) := ⟨_, rfl⟩
 replace H : (determinant_Discard.l0 k1 a1 a2 y350 l0 (l0.length : Int) (wrap64 (x12_1 + 1))) = some r := by first | (rw [hy350]; with_reducible exact H) | (have H2_ := (Option.bind_some _ _).symm.trans H; rw [hy350]; with_reducible exact H2_) | (have H2_ := (Option.bind_some _ _).symm.trans H; with_reducible exact H2_) | with_reducible exact H | (rw [hy350]; exact H) | exact H
 have Ny350 := Aside0.mk hy350
 clear hy350
 have H' := Aside0.mk H
 clear H
 have p348 : 0 ≤ (x12_1 : Int) := of_decide_eq_true (by first | (with_reducible assumption) | assumption)
 have q348 : x12_1 < (l0.length : Int) := of_decide_eq_true (by first | (with_reducible assumption) | assumption)
 obtain ⟨ad348, e348, hx348_0, hx348_1, hx348_2, hx348_3, hx348_4, hx348_5, hx348_6, hx348_7, hx348_8⟩ := at_T28 HR0.out x12_1 p348 q348
 cases e348
 replace hx348_0 := hce HB hx348_0
 replace hx348_1 := hce HB hx348_1
 replace hx348_2 := hce HB hx348_2
 replace hx348_3 := hce HB hx348_3
 replace hx348_4 := hce HB hx348_4
 replace hx348_5 := hce HB hx348_5
 replace hx348_6 := hce HB hx348_6
 replace hx348_7 := hce HB hx348_7
 replace hx348_8 := hce HB hx348_8
 replace p348 := eq_true p348
 replace q348 := eq_true q348
 go_wp2_with (first | ((with_reducible refine gate_dst (N := 9) rfl ?_); refine box_event ?hg (N := 9) ?hd (cs := #[.int .i64 0, .int .i64 0, .int .i64 0, .int .i64 0, .int .i64 0, .int .i64 0, .int .i64 0, .int .i64 0, .int .i64 0]) (t := 28) ?hr ?_; (case hd => rfl); (case hg => rfl); (case hr => first | (go_simp; done) | (go_simp; rfl)); intro gb349 hg w10 hbox hb; have n0_ := Aside0.mk (Kd.R_below (Kd.R_elderB (rq HO_7.out) gb349 (Nat.le_of_eq hg.symm)) hb); have n1_ := Aside0.mk (below_step (bq HB.out) hb); have n2_ := Aside0.mk (hbox); have n3_ := Aside0.mk ((by rw [hg]; exact (below_size (bq HB.out)) : w.heap.size ≤ gb349)); have n4_ := Aside0.mk ((by rw [hg]; exact (below_size (bq HB.out)) : w.heap.size ≤ gb349)); clear HO_7; clear HB; have HO_7 := n0_; have HB := n1_; have BK349 := n2_; have GW349 := n3_; have GE349 := n4_; clear n0_ n1_ n2_ n3_ n4_; clear hb hbox hg; have hcz11_0 : w10.cell? ⟨gb349, 0, none⟩ = some (.int .i64 0) := bc BK349.out 0; have hcz11_1 : w10.cell? ⟨gb349, 1, none⟩ = some (.int .i64 0) := bc BK349.out 1; have hcz11_2 : w10.cell? ⟨gb349, 2, none⟩ = some (.int .i64 0) := bc BK349.out 2; have hcz11_3 : w10.cell? ⟨gb349, 3, none⟩ = some (.int .i64 0) := bc BK349.out 3; have hcz11_4 : w10.cell? ⟨gb349, 4, none⟩ = some (.int .i64 0) := bc BK349.out 4; have hcz11_5 : w10.cell? ⟨gb349, 5, none⟩ = some (.int .i64 0) := bc BK349.out 5; have hcz11_6 : w10.cell? ⟨gb349, 6, none⟩ = some (.int .i64 0) := bc BK349.out 6; have hcz11_7 : w10.cell? ⟨gb349, 7, none⟩ = some (.int .i64 0) := bc BK349.out 7; have hcz11_8 : w10.cell? ⟨gb349, 8, none⟩ = some (.int .i64 0) := bc BK349.out 8; have hfz11_0 := blk_frozen BK349.out 0; have hfz11_1 := blk_frozen BK349.out 1; have hfz11_2 := blk_frozen BK349.out 2; have hfz11_3 := blk_frozen BK349.out 3; have hfz11_4 := blk_frozen BK349.out 4; have hfz11_5 := blk_frozen BK349.out 5; have hfz11_6 := blk_frozen BK349.out 6; have hfz11_7 := blk_frozen BK349.out 7; have hfz11_8 := blk_frozen BK349.out 8) | ((with_reducible refine gate_builtin (b := .append) (xs := #[.tmp 26, .tmp 28]) rfl ?_); at_builtin; refine Kd.R_append k28 (w0 := w) w.heap.size rfl (.tmp 26) (.tmp 28) 22 28 (.agg #[(.int .i64 0), (.int .i64 0), (.int .i64 0), (.int .i64 0), (.int .i64 0), (.int .i64 0), (.int .i64 0), (.int .i64 0), (.int .i64 0)]) 72 rfl Try.underlying22 info28 rfl (by decide) (by omega) u7 x7_1 (⟨(rd_T28 l0 x12_1).f0, (rd_T28 l0 x12_1).f1, (⟨(rd_T28 l0 x12_1).f2.f0, (rd_T28 l0 x12_1).f2.f1, (rd_T28 l0 x12_1).f2.f2, (⟨(rd_T28 l0 x12_1).f2.f3.f0, (rd_T28 l0 x12_1).f2.f3.f1⟩ : S24), (rd_T28 l0 x12_1).f2.f4, (rd_T28 l0 x12_1).f2.f5⟩ : S26)⟩ : S28) [.int .i64 ((rd_T28 l0 x12_1).f0), .int .i64 ((rd_T28 l0 x12_1).f1), .int .i64 ((rd_T28 l0 x12_1).f2.f0), .int .i64 ((rd_T28 l0 x12_1).f2.f1), .int .i64 ((rd_T28 l0 x12_1).f2.f2), .int .i64 ((rd_T28 l0 x12_1).f2.f3.f0), .int .i64 ((rd_T28 l0 x12_1).f2.f3.f1), .int .i64 ((rd_T28 l0 x12_1).f2.f4), .int .i64 ((rd_T28 l0 x12_1).f2.f5)] (fun k_ => k_ ≠ gb349) (fun _ => False) rfl (by first | (go_simp; done) | (go_simp; rfl)) ?aP (fun _ hk => hk.elim) ?aF ?aO ?aB ?aS ?aL ?_; (case aP => exact k28_mkM _ _ _ (⟨(rd_T28 l0 x12_1).f0, (rd_T28 l0 x12_1).f1, (⟨(rd_T28 l0 x12_1).f2.f0, (rd_T28 l0 x12_1).f2.f1, (rd_T28 l0 x12_1).f2.f2, (⟨(rd_T28 l0 x12_1).f2.f3.f0, (rd_T28 l0 x12_1).f2.f3.f1⟩ : S24), (rd_T28 l0 x12_1).f2.f4, (rd_T28 l0 x12_1).f2.f5⟩ : S26)⟩ : S28)); (case aB => exact (bq1 HB.out GE349.out)); (case aF => exact (fun k_ hk => Kd.freshB (g := gb349) (o := .cells #[.int .i64 ((rd_T28 l0 x12_1).f0), .int .i64 ((rd_T28 l0 x12_1).f1), .int .i64 ((rd_T28 l0 x12_1).f2.f0), .int .i64 ((rd_T28 l0 x12_1).f2.f1), .int .i64 ((rd_T28 l0 x12_1).f2.f2), .int .i64 ((rd_T28 l0 x12_1).f2.f3.f0), .int .i64 ((rd_T28 l0 x12_1).f2.f3.f1), .int .i64 ((rd_T28 l0 x12_1).f2.f4), .int .i64 ((rd_T28 l0 x12_1).f2.f5)] 28 (0, 0)) (pu BK349.out) k_ hk)); (case aO => exact (by (with_reducible repeat (first | apply Kd.R_alloc | apply Kd.R_drewN | apply Kd.R_drew)); exact Kd.R_mono (Kd.R_far (p := ⟨gb349, 8, none⟩) (Kd.R_far (p := ⟨gb349, 7, none⟩) (Kd.R_far (p := ⟨gb349, 6, none⟩) (Kd.R_far (p := ⟨gb349, 5, none⟩) (Kd.R_far (p := ⟨gb349, 4, none⟩) (Kd.R_far (p := ⟨gb349, 3, none⟩) (Kd.R_far (p := ⟨gb349, 2, none⟩) (Kd.R_far (p := ⟨gb349, 1, none⟩) (Kd.R_far (p := ⟨gb349, 0, none⟩) (Kd.R_mono HO_7.out (fun k_ hk => (⟨hk, hk.2⟩ : _ ∧ k_ ≠ gb349))) (fun _ hk => hk.2) (.int .i64 ((rd_T28 l0 x12_1).f0))) (fun _ hk => hk.2) (.int .i64 ((rd_T28 l0 x12_1).f1))) (fun _ hk => hk.2) (.int .i64 ((rd_T28 l0 x12_1).f2.f0))) (fun _ hk => hk.2) (.int .i64 ((rd_T28 l0 x12_1).f2.f1))) (fun _ hk => hk.2) (.int .i64 ((rd_T28 l0 x12_1).f2.f2))) (fun _ hk => hk.2) (.int .i64 ((rd_T28 l0 x12_1).f2.f3.f0))) (fun _ hk => hk.2) (.int .i64 ((rd_T28 l0 x12_1).f2.f3.f1))) (fun _ hk => hk.2) (.int .i64 ((rd_T28 l0 x12_1).f2.f4))) (fun _ hk => hk.2) (.int .i64 ((rd_T28 l0 x12_1).f2.f5))) (fun _ hk => hk.1.2))); (case aS => exact (below_size (bq1 HB.out GE349.out))); (case aL => have := LMc9.out; omega); intro v351 w12 ho hb hg hat; rw [← Ny350.out] at ho; have n0_ := Aside0.mk (blk_grown (g := gb349) (o := .cells #[.int .i64 ((rd_T28 l0 x12_1).f0), .int .i64 ((rd_T28 l0 x12_1).f1), .int .i64 ((rd_T28 l0 x12_1).f2.f0), .int .i64 ((rd_T28 l0 x12_1).f2.f1), .int .i64 ((rd_T28 l0 x12_1).f2.f2), .int .i64 ((rd_T28 l0 x12_1).f2.f3.f0), .int .i64 ((rd_T28 l0 x12_1).f2.f3.f1), .int .i64 ((rd_T28 l0 x12_1).f2.f4), .int .i64 ((rd_T28 l0 x12_1).f2.f5)] 28 (0, 0)) (pu BK349.out) hg (Kd.R_away HO_7.out (fun _ hk => hk.2))); have n1_ := Aside0.mk (hb); have n2_ := Aside0.mk (ho); clear BK349; clear HB; clear HO_7; have BK349 := n0_; have HB := n1_; have HO352 := n2_; clear n0_ n1_ n2_; clear ho hb hg hat))
 go_roundg k1
 case measure => have := HK1.out; omega
 case rel => exact ⟨(y350), (wrap64 (x12_1 + 1)), (by first | rfl | (simp; done) | (simp [*]; done)), H', ⟨by have := HK1.out; omega⟩, ⟨by (with_reducible repeat (first | apply Kd.R_alloc | apply Kd.R_drewN | apply Kd.R_drew)); exact Kd.R_mono HO352.out (fun _ hk => trivial)⟩, ⟨bq1 HB.out GE349.out⟩⟩)
 ·(
 rw [if_neg c9] at H
 exact absurd H (by simp)))
 ·(
 rw [if_neg c8] at H
 have c8b0 : decide (a2 < ((rd_T28 l0 x12_1).f1)) = false := decide_eq_false c8
 clear c8
 have H' := Aside0.mk H
 clear H
 have p348 : 0 ≤ (x12_1 : Int) := of_decide_eq_true (by first | (with_reducible assumption) | assumption)
 have q348 : x12_1 < (l0.length : Int) := of_decide_eq_true (by first | (with_reducible assumption) | assumption)
 obtain ⟨ad348, e348, hx348_0, hx348_1, hx348_2, hx348_3, hx348_4, hx348_5, hx348_6, hx348_7, hx348_8⟩ := at_T28 HR0.out x12_1 p348 q348
 cases e348
 replace hx348_0 := hce HB hx348_0
 replace hx348_1 := hce HB hx348_1
 replace hx348_2 := hce HB hx348_2
 replace hx348_3 := hce HB hx348_3
 replace hx348_4 := hce HB hx348_4
 replace hx348_5 := hce HB hx348_5
 replace hx348_6 := hce HB hx348_6
 replace hx348_7 := hce HB hx348_7
 replace hx348_8 := hce HB hx348_8
 replace p348 := eq_true p348
 replace q348 := eq_true q348
 go_wp2_with (first | ((with_reducible refine gate_dst (N := 9) rfl ?_); refine box_event ?hg (N := 9) ?hd (cs := #[.int .i64 0, .int .i64 0, .int .i64 0, .int .i64 0, .int .i64 0, .int .i64 0, .int .i64 0, .int .i64 0, .int .i64 0]) (t := 28) ?hr ?_; (case hd => rfl); (case hg => rfl); (case hr => first | (go_simp; done) | (go_simp; rfl)); intro gb349 hg w13 hbox hb; have n0_ := Aside0.mk (Kd.R_below (Kd.R_elderB (rq HO_7.out) gb349 (Nat.le_of_eq hg.symm)) hb); have n1_ := Aside0.mk (below_step (bq HB.out) hb); have n2_ := Aside0.mk (hbox); have n3_ := Aside0.mk ((by rw [hg]; exact (below_size (bq HB.out)) : w.heap.size ≤ gb349)); have n4_ := Aside0.mk ((by rw [hg]; exact (below_size (bq HB.out)) : w.heap.size ≤ gb349)); clear HO_7; clear HB; have HO_7 := n0_; have HB := n1_; have BK349 := n2_; have GW349 := n3_; have GE349 := n4_; clear n0_ n1_ n2_ n3_ n4_; clear hb hbox hg; have hcz14_0 : w13.cell? ⟨gb349, 0, none⟩ = some (.int .i64 0) := bc BK349.out 0; have hcz14_1 : w13.cell? ⟨gb349, 1, none⟩ = some (.int .i64 0) := bc BK349.out 1; have hcz14_2 : w13.cell? ⟨gb349, 2, none⟩ = some (.int .i64 0) := bc BK349.out 2; have hcz14_3 : w13.cell? ⟨gb349, 3, none⟩ = some (.int .i64 0) := bc BK349.out 3; have hcz14_4 : w13.cell? ⟨gb349, 4, none⟩ = some (.int .i64 0) := bc BK349.out 4; have hcz14_5 : w13.cell? ⟨gb349, 5, none⟩ = some (.int .i64 0) := bc BK349.out 5; have hcz14_6 : w13.cell? ⟨gb349, 6, none⟩ = some (.int .i64 0) := bc BK349.out 6; have hcz14_7 : w13.cell? ⟨gb349, 7, none⟩ = some (.int .i64 0) := bc BK349.out 7; have hcz14_8 : w13.cell? ⟨gb349, 8, none⟩ = some (.int .i64 0) := bc BK349.out 8; have hfz14_0 := blk_frozen BK349.out 0; have hfz14_1 := blk_frozen BK349.out 1; have hfz14_2 := blk_frozen BK349.out 2; have hfz14_3 := blk_frozen BK349.out 3; have hfz14_4 := blk_frozen BK349.out 4; have hfz14_5 := blk_frozen BK349.out 5; have hfz14_6 := blk_frozen BK349.out 6; have hfz14_7 := blk_frozen BK349.out 7; have hfz14_8 := blk_frozen BK349.out 8))
 go_roundg k1
 case measure => have := HK1.out; omega
 case rel => exact ⟨(x7_1), (wrap64 (x12_1 + 1)), (by first | rfl | (simp; done) | (simp [*]; done)), H', ⟨by have := HK1.out; omega⟩, ⟨by (with_reducible repeat (first | apply Kd.R_alloc | apply Kd.R_drewN | apply Kd.R_drew)); exact Kd.R_mono (Kd.R_far (p := ⟨gb349, 8, none⟩) (Kd.R_far (p := ⟨gb349, 7, none⟩) (Kd.R_far (p := ⟨gb349, 6, none⟩) (Kd.R_far (p := ⟨gb349, 5, none⟩) (Kd.R_far (p := ⟨gb349, 4, none⟩) (Kd.R_far (p := ⟨gb349, 3, none⟩) (Kd.R_far (p := ⟨gb349, 2, none⟩) (Kd.R_far (p := ⟨gb349, 1, none⟩) (Kd.R_far (p := ⟨gb349, 0, none⟩) (Kd.R_mono HO_7.out (fun k_ hk => (⟨hk, hk.2⟩ : _ ∧ k_ ≠ gb349))) (fun _ hk => hk.2) (.int .i64 ((rd_T28 l0 x12_1).f0))) (fun _ hk => hk.2) (.int .i64 ((rd_T28 l0 x12_1).f1))) (fun _ hk => hk.2) (.int .i64 ((rd_T28 l0 x12_1).f2.f0))) (fun _ hk => hk.2) (.int .i64 ((rd_T28 l0 x12_1).f2.f1))) (fun _ hk => hk.2) (.int .i64 ((rd_T28 l0 x12_1).f2.f2))) (fun _ hk => hk.2) (.int .i64 ((rd_T28 l0 x12_1).f2.f3.f0))) (fun _ hk => hk.2) (.int .i64 ((rd_T28 l0 x12_1).f2.f3.f1))) (fun _ hk => hk.2) (.int .i64 ((rd_T28 l0 x12_1).f2.f4))) (fun _ hk => hk.2) (.int .i64 ((rd_T28 l0 x12_1).f2.f5))) (fun _ hk => trivial)⟩, ⟨bq1 HB.out GE349.out⟩⟩))
 ·(
 rw [if_neg c7] at H
 have c7b0 : (((rd_T28 l0 x12_1).f0) == a1) = false := beq_eq_false_iff_ne.mpr c7
 have c7b1 : (((rd_T28 l0 x12_1).f0) != a1) = true := bne_iff_ne.mpr c7
 by_cases c15 : x7_1.length < 1954687338268
 ·(
 rw [if_pos c15] at H
 have LMc15 := Aside0.mk c15
 clear c15
 obtain ⟨y353, hy353⟩ : ∃ y_ : List (S28), y_ = (x7_1 ++ [(⟨(rd_T28 l0 x12_1).f0, (rd_T28 l0 x12_1).f1, (⟨(rd_T28 l0 x12_1).f2.f0, (rd_T28 l0 x12_1).f2.f1, (rd_T28 l0 x12_1).f2.f2, (⟨(rd_T28 l0 x12_1).f2.f3.f0, (rd_T28 l0 x12_1).f2.f3.f1⟩ : S24), (rd_T28 l0 x12_1).f2.f4, (rd_T28 l0 x12_1).f2.f5⟩ : S26)⟩ : S28)]) := ⟨_, rfl⟩
 replace H : (determinant_Discard.l0 k1 a1 a2 y353 l0 (l0.length : Int) (wrap64 (x12_1 + 1))) = some r := by first | (rw [hy353]; with_reducible exact H) | (have H2_ := (Option.bind_some _ _).symm.trans H; rw [hy353]; with_reducible exact H2_) | (have H2_ := (Option.bind_some _ _).symm.trans H; with_reducible exact H2_) | with_reducible exact H | (rw [hy353]; exact H) | exact H
 have Ny353 := Aside0.mk hy353
 clear hy353
 have H' := Aside0.mk H
 clear H
 have p348 : 0 ≤ (x12_1 : Int) := of_decide_eq_true (by first | (with_reducible assumption) | assumption)
 have q348 : x12_1 < (l0.length : Int) := of_decide_eq_true (by first | (with_reducible assumption) | assumption)
 obtain ⟨ad348, e348, hx348_0, hx348_1, hx348_2, hx348_3, hx348_4, hx348_5, hx348_6, hx348_7, hx348_8⟩ := at_T28 HR0.out x12_1 p348 q348
 cases e348
 replace hx348_0 := hce HB hx348_0
 replace hx348_1 := hce HB hx348_1
 replace hx348_2 := hce HB hx348_2
 replace hx348_3 := hce HB hx348_3
 replace hx348_4 := hce HB hx348_4
 replace hx348_5 := hce HB hx348_5
 replace hx348_6 := hce HB hx348_6
 replace hx348_7 := hce HB hx348_7
 replace hx348_8 := hce HB hx348_8
 replace p348 := eq_true p348
 replace q348 := eq_true q348
 go_wp2_with (first | ((with_reducible refine gate_dst (N := 9) rfl ?_); refine box_event ?hg (N := 9) ?hd (cs := #[.int .i64 0, .int .i64 0, .int .i64 0, .int .i64 0, .int .i64 0, .int .i64 0, .int .i64 0, .int .i64 0, .int .i64 0]) (t := 28) ?hr ?_; (case hd => rfl); (case hg => rfl); (case hr => first | (go_simp; done) | (go_simp; rfl)); intro gb349 hg w16 hbox hb; have n0_ := Aside0.mk (Kd.R_below (Kd.R_elderB (rq HO_7.out) gb349 (Nat.le_of_eq hg.symm)) hb); have n1_ := Aside0.mk (below_step (bq HB.out) hb); have n2_ := Aside0.mk (hbox); have n3_ := Aside0.mk ((by rw [hg]; exact (below_size (bq HB.out)) : w.heap.size ≤ gb349)); have n4_ := Aside0.mk ((by rw [hg]; exact (below_size (bq HB.out)) : w.heap.size ≤ gb349)); clear HO_7; clear HB; have HO_7 := n0_; have HB := n1_; have BK349 := n2_; have GW349 := n3_; have GE349 := n4_; clear n0_ n1_ n2_ n3_ n4_; clear hb hbox hg; have hcz17_0 : w16.cell? ⟨gb349, 0, none⟩ = some (.int .i64 0) := bc BK349.out 0; have hcz17_1 : w16.cell? ⟨gb349, 1, none⟩ = some (.int .i64 0) := bc BK349.out 1; have hcz17_2 : w16.cell? ⟨gb349, 2, none⟩ = some (.int .i64 0) := bc BK349.out 2; have hcz17_3 : w16.cell? ⟨gb349, 3, none⟩ = some (.int .i64 0) := bc BK349.out 3; have hcz17_4 : w16.cell? ⟨gb349, 4, none⟩ = some (.int .i64 0) := bc BK349.out 4; have hcz17_5 : w16.cell? ⟨gb349, 5, none⟩ = some (.int .i64 0) := bc BK349.out 5; have hcz17_6 : w16.cell? ⟨gb349, 6, none⟩ = some (.int .i64 0) := bc BK349.out 6; have hcz17_7 : w16.cell? ⟨gb349, 7, none⟩ = some (.int .i64 0) := bc BK349.out 7; have hcz17_8 : w16.cell? ⟨gb349, 8, none⟩ = some (.int .i64 0) := bc BK349.out 8; have hfz17_0 := blk_frozen BK349.out 0; have hfz17_1 := blk_frozen BK349.out 1; have hfz17_2 := blk_frozen BK349.out 2; have hfz17_3 := blk_frozen BK349.out 3; have hfz17_4 := blk_frozen BK349.out 4; have hfz17_5 := blk_frozen BK349.out 5; have hfz17_6 := blk_frozen BK349.out 6; have hfz17_7 := blk_frozen BK349.out 7; have hfz17_8 := blk_frozen BK349.out 8) | ((with_reducible refine gate_builtin (b := .append) (xs := #[.tmp 26, .tmp 28]) rfl ?_); at_builtin; refine Kd.R_append k28 (w0 := w) w.heap.size rfl (.tmp 26) (.tmp 28) 22 28 (.agg #[(.int .i64 0), (.int .i64 0), (.int .i64 0), (.int .i64 0), (.int .i64 0), (.int .i64 0), (.int .i64 0), (.int .i64 0), (.int .i64 0)]) 72 rfl Try.underlying22 info28 rfl (by decide) (by omega) u7 x7_1 (⟨(rd_T28 l0 x12_1).f0, (rd_T28 l0 x12_1).f1, (⟨(rd_T28 l0 x12_1).f2.f0, (rd_T28 l0 x12_1).f2.f1, (rd_T28 l0 x12_1).f2.f2, (⟨(rd_T28 l0 x12_1).f2.f3.f0, (rd_T28 l0 x12_1).f2.f3.f1⟩ : S24), (rd_T28 l0 x12_1).f2.f4, (rd_T28 l0 x12_1).f2.f5⟩ : S26)⟩ : S28) [.int .i64 ((rd_T28 l0 x12_1).f0), .int .i64 ((rd_T28 l0 x12_1).f1), .int .i64 ((rd_T28 l0 x12_1).f2.f0), .int .i64 ((rd_T28 l0 x12_1).f2.f1), .int .i64 ((rd_T28 l0 x12_1).f2.f2), .int .i64 ((rd_T28 l0 x12_1).f2.f3.f0), .int .i64 ((rd_T28 l0 x12_1).f2.f3.f1), .int .i64 ((rd_T28 l0 x12_1).f2.f4), .int .i64 ((rd_T28 l0 x12_1).f2.f5)] (fun k_ => k_ ≠ gb349) (fun _ => False) rfl (by first | (go_simp; done) | (go_simp; rfl)) ?aP (fun _ hk => hk.elim) ?aF ?aO ?aB ?aS ?aL ?_; (case aP => exact k28_mkM _ _ _ (⟨(rd_T28 l0 x12_1).f0, (rd_T28 l0 x12_1).f1, (⟨(rd_T28 l0 x12_1).f2.f0, (rd_T28 l0 x12_1).f2.f1, (rd_T28 l0 x12_1).f2.f2, (⟨(rd_T28 l0 x12_1).f2.f3.f0, (rd_T28 l0 x12_1).f2.f3.f1⟩ : S24), (rd_T28 l0 x12_1).f2.f4, (rd_T28 l0 x12_1).f2.f5⟩ : S26)⟩ : S28)); (case aB => exact (bq1 HB.out GE349.out)); (case aF => exact (fun k_ hk => Kd.freshB (g := gb349) (o := .cells #[.int .i64 ((rd_T28 l0 x12_1).f0), .int .i64 ((rd_T28 l0 x12_1).f1), .int .i64 ((rd_T28 l0 x12_1).f2.f0), .int .i64 ((rd_T28 l0 x12_1).f2.f1), .int .i64 ((rd_T28 l0 x12_1).f2.f2), .int .i64 ((rd_T28 l0 x12_1).f2.f3.f0), .int .i64 ((rd_T28 l0 x12_1).f2.f3.f1), .int .i64 ((rd_T28 l0 x12_1).f2.f4), .int .i64 ((rd_T28 l0 x12_1).f2.f5)] 28 (0, 0)) (pu BK349.out) k_ hk)); (case aO => exact (by (with_reducible repeat (first | apply Kd.R_alloc | apply Kd.R_drewN | apply Kd.R_drew)); exact Kd.R_mono (Kd.R_far (p := ⟨gb349, 8, none⟩) (Kd.R_far (p := ⟨gb349, 7, none⟩) (Kd.R_far (p := ⟨gb349, 6, none⟩) (Kd.R_far (p := ⟨gb349, 5, none⟩) (Kd.R_far (p := ⟨gb349, 4, none⟩) (Kd.R_far (p := ⟨gb349, 3, none⟩) (Kd.R_far (p := ⟨gb349, 2, none⟩) (Kd.R_far (p := ⟨gb349, 1, none⟩) (Kd.R_far (p := ⟨gb349, 0, none⟩) (Kd.R_mono HO_7.out (fun k_ hk => (⟨hk, hk.2⟩ : _ ∧ k_ ≠ gb349))) (fun _ hk => hk.2) (.int .i64 ((rd_T28 l0 x12_1).f0))) (fun _ hk => hk.2) (.int .i64 ((rd_T28 l0 x12_1).f1))) (fun _ hk => hk.2) (.int .i64 ((rd_T28 l0 x12_1).f2.f0))) (fun _ hk => hk.2) (.int .i64 ((rd_T28 l0 x12_1).f2.f1))) (fun _ hk => hk.2) (.int .i64 ((rd_T28 l0 x12_1).f2.f2))) (fun _ hk => hk.2) (.int .i64 ((rd_T28 l0 x12_1).f2.f3.f0))) (fun _ hk => hk.2) (.int .i64 ((rd_T28 l0 x12_1).f2.f3.f1))) (fun _ hk => hk.2) (.int .i64 ((rd_T28 l0 x12_1).f2.f4))) (fun _ hk => hk.2) (.int .i64 ((rd_T28 l0 x12_1).f2.f5))) (fun _ hk => hk.1.2))); (case aS => exact (below_size (bq1 HB.out GE349.out))); (case aL => have := LMc15.out; omega); intro v354 w18 ho hb hg hat; rw [← Ny353.out] at ho; have n0_ := Aside0.mk (blk_grown (g := gb349) (o := .cells #[.int .i64 ((rd_T28 l0 x12_1).f0), .int .i64 ((rd_T28 l0 x12_1).f1), .int .i64 ((rd_T28 l0 x12_1).f2.f0), .int .i64 ((rd_T28 l0 x12_1).f2.f1), .int .i64 ((rd_T28 l0 x12_1).f2.f2), .int .i64 ((rd_T28 l0 x12_1).f2.f3.f0), .int .i64 ((rd_T28 l0 x12_1).f2.f3.f1), .int .i64 ((rd_T28 l0 x12_1).f2.f4), .int .i64 ((rd_T28 l0 x12_1).f2.f5)] 28 (0, 0)) (pu BK349.out) hg (Kd.R_away HO_7.out (fun _ hk => hk.2))); have n1_ := Aside0.mk (hb); have n2_ := Aside0.mk (ho); clear BK349; clear HB; clear HO_7; have BK349 := n0_; have HB := n1_; have HO355 := n2_; clear n0_ n1_ n2_; clear ho hb hg hat))
 go_roundg k1
 case measure => have := HK1.out; omega
 case rel => exact ⟨(y353), (wrap64 (x12_1 + 1)), (by first | rfl | (simp; done) | (simp [*]; done)), H', ⟨by have := HK1.out; omega⟩, ⟨by (with_reducible repeat (first | apply Kd.R_alloc | apply Kd.R_drewN | apply Kd.R_drew)); exact Kd.R_mono HO355.out (fun _ hk => trivial)⟩, ⟨bq1 HB.out GE349.out⟩⟩)
 ·(
 rw [if_neg c15] at H
 exact absurd H (by simp))))
 ·(
 rw [if_neg c6] at H
 exact absurd H (by simp)))
 ·(
 rw [if_neg c5] at H
 exact absurd H (by simp)))
 ·(
 rw [if_neg c4] at H
 have c4b0 : decide (x12_1 < (l0.length : Int)) = false := decide_eq_false c4
 clear c4
 obtain rfl := Option.some.inj H
 go_wp2
 go_ret
 exact ⟨_, by first | rfl | (simp [errW_none, errW_some] <;> rfl) | (simp [*, errW_none, errW_some] <;> rfl), rq HO_7.out, bq HB.out⟩)))
end Go.Proofs.Ytdobkcphmpbhlaa.PGL
