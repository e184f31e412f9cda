-- Written by a program of this session (hprint.py) out of the translation and of hand-proved parts. Lean checks it.
import Derived.Test.YtdobkcphmpbhlaaPGLx0
namespace Go.Proofs.Ytdobkcphmpbhlaa.PGL
open Go.RowKit Go.Proofs.YtdobkcphmpbhlaaW.PrintWords Go.Proofs.YtdobkcphmpbhlaaW.PrintLast Go.Proofs.YtdobkcphmpbhlaaW.PrintMore
attribute [local go_sem] max2_int min2_int max_two min_two max_three min_three max_four min_four   -- for this text's walks alone
set_option linter.unusedVariables false
set_option linter.unusedSimpArgs false

/-! ### rollbacknetref27_Discard: function 18 -/
def rollbacknetref27_Discard.l0 : Nat → List (S28) → Int → Int → List (S28) → Int → Option ((List (S28)))
 | 0, _, _, _, _, _ => none
 | k + 1, x0, x1, x2, x7, x8 => if x8 < (x0.length : Int) then (if 0 ≤ x8 then (if ((rd_T28 x0 x8).f0) = x1 then (if ((rd_T28 x0 x8).f1) > x2 then (if x7.length < 1954687338268 then (rollbacknetref27_Discard.l0 k x0 x1 x2 (x7 ++ [(⟨(rd_T28 x0 x8).f0, (rd_T28 x0 x8).f1, (⟨(rd_T28 x0 x8).f2.f0, (rd_T28 x0 x8).f2.f1, (rd_T28 x0 x8).f2.f2, (⟨(rd_T28 x0 x8).f2.f3.f0, (rd_T28 x0 x8).f2.f3.f1⟩ : S24), (rd_T28 x0 x8).f2.f4, (rd_T28 x0 x8).f2.f5⟩ : S26)⟩ : S28)]) (wrap64 (x8 + 1))) else (none)) else (rollbacknetref27_Discard.l0 k x0 x1 x2 x7 (wrap64 (x8 + 1)))) else (if x7.length < 1954687338268 then (rollbacknetref27_Discard.l0 k x0 x1 x2 (x7 ++ [(⟨(rd_T28 x0 x8).f0, (rd_T28 x0 x8).f1, (⟨(rd_T28 x0 x8).f2.f0, (rd_T28 x0 x8).f2.f1, (rd_T28 x0 x8).f2.f2, (⟨(rd_T28 x0 x8).f2.f3.f0, (rd_T28 x0 x8).f2.f3.f1⟩ : S24), (rd_T28 x0 x8).f2.f4, (rd_T28 x0 x8).f2.f5⟩ : S26)⟩ : S28)]) (wrap64 (x8 + 1))) else (none))) else (none)) else (some x7)
def rollbacknetref27_Discard.f (k : Nat) (l0 : List (S28)) (a1 : Int) (a2 : Int) : Option ((List (S28))) := rollbacknetref27_Discard.l0 k l0 a1 a2 ([] : List (S28)) 0
theorem rollbacknetref27_Discard.mono_l : ∀ k, (∀ y0 y1 y2 y3 y4, LeO (rollbacknetref27_Discard.l0 k y0 y1 y2 y3 y4) (rollbacknetref27_Discard.l0 (k + 1) y0 y1 y2 y3 y4))
 | 0 => fun _ _ _ _ _ r h => by simp [rollbacknetref27_Discard.l0] at h
 | k + 1 => by
  have ih0 := rollbacknetref27_Discard.mono_l k
  ·intro y0 y1 y2 y3 y4
   unfold rollbacknetref27_Discard.l0
   repeat' first
   | (with_reducible exact ih0 _ _ _ _ _)
   | (with_reducible exact LeO.refl _)
   | (with_reducible exact LeO.none _)
   | (with_reducible refine LeO.ite ?_ ?_)
   | (with_reducible refine LeO.bind ?_ (fun _ => ?_))
   | exact ih0 _ _ _ _ _
   | exact LeO.none _
   | refine LeO.ite ?_ ?_
   | refine LeO.bind ?_ (fun _ => ?_)
theorem rollbacknetref27_Discard.mono : ∀ a0 a1 a2 k, LeO (rollbacknetref27_Discard.f k a0 a1 a2) (rollbacknetref27_Discard.f (k + 1) a0 a1 a2) := by
 intro a0 a1 a2 k
 have ih0 := rollbacknetref27_Discard.mono_l k
 unfold rollbacknetref27_Discard.f
 repeat' first
   | (with_reducible exact ih0 _ _ _ _ _)
   | (with_reducible exact LeO.refl _)
   | (with_reducible exact LeO.none _)
   | (with_reducible refine LeO.ite ?_ ?_)
   | (with_reducible refine LeO.bind ?_ (fun _ => ?_))
   | exact ih0 _ _ _ _ _
   | exact LeO.none _
   | refine LeO.ite ?_ ?_
   | refine LeO.bind ?_ (fun _ => ?_)
set_option maxHeartbeats 8000000 in
set_option maxRecDepth 100000 in
theorem rollbacknetref27_Discard.calls (k : Nat) (A0 : Option Addr) (c0 : Nat) (l0 : List (S28)) (a1 : Int) (a2 : Int) (r : List (S28)) (w : World) (hr0 : Kd.C k28 w A0 l0.length l0) (hc0 : l0.length ≤ c0) (h : rollbacknetref27_Discard.f k l0 a1 a2 = some r) :
  Calls Try.prog 18 #[.slice A0 l0.length c0, .int .i64 a1, .int .i64 a2] w fun e w' => ∃ v0_ : Value, e = .returned (v0_) ∧ Kd.R k28 28 w' w.heap.size (fun _ => True) v0_ r ∧ Below w.heap.size w w' := by
 have hu28 := Try.underlying28
 have HR0 := Aside0.mk hr0
 have HC0 := Aside0.mk hc0
 clear hr0 hc0
 have HB := Aside0.mk (Below.refl w.heap.size w)
 have H : (rollbacknetref27_Discard.l0 k l0 a1 a2 ([] : List (S28)) 0) = some r := h
 clear h
 have H' := Aside0.mk H
 clear H
 go_enter Try.func18, Try.ntmps18
 go_wp2
 go_loopg [7, 8] k (fun kq v7 v8 w' => ∃ (x7_1 : List (S28)) (x8_1 : Int), v8 = .int .i64 x8_1 ∧ Aside0 (rollbacknetref27_Discard.l0 kq l0 a1 a2 x7_1 x8_1 = some r) ∧ Aside0 (kq ≤ k) ∧ Aside0 (Kd.R k28 28 w' w.heap.size (fun _ => True) v7 x7_1) ∧ Aside0 (Below w.heap.size w w'))
 case atStart => exact ⟨(([] : List (S28))), (0), (by first | rfl | (simp; done) | (simp [*]; done)), H', ⟨Nat.le_refl _⟩, ⟨by first | exact Kd.R_nil _ _ _ _ _ | exact Kd.N_nil _ _ _ _ _ | exact Kd.V_nil _ _ _ _ _ | exact Kd.Q_nil _ _ _ _ _ | exact Kd.S_nil _ _ _ _ _⟩, ⟨bq HB.out⟩⟩
 case round =>(
 clear H'
 try clear c1
 try clear p2
 obtain ⟨x7_1, x8_1, rfl, HA, HK1, HO_7, HB⟩ := hrel
 cases gk with
 | zero => exact absurd HA.out (by simp [rollbacknetref27_Discard.l0])
 | succ k1 =>(
 have H := HA.out
 clear HA
 simp only [rollbacknetref27_Discard.l0] at H
 by_cases c4 : x8_1 < (l0.length : Int)
 ·(
 rw [if_pos c4] at H
 have c4b0 : decide (x8_1 < (l0.length : Int)) = true := decide_eq_true c4
 clear c4
 by_cases c5 : 0 ≤ x8_1
 ·(
 rw [if_pos c5] at H
 have c5b0 : decide (0 ≤ x8_1) = true := decide_eq_true c5
 clear c5
 by_cases c6 : ((rd_T28 l0 x8_1).f0) = a1
 ·(
 rw [if_pos c6] at H
 have c6b0 : (((rd_T28 l0 x8_1).f0) == a1) = true := beq_iff_eq.mpr c6
 have c6b1 : (((rd_T28 l0 x8_1).f0) != a1) = false := bne_eq_false_iff_eq.mpr c6
 clear c6
 by_cases c7 : ((rd_T28 l0 x8_1).f1) > a2
 ·(
 rw [if_pos c7] at H
 have c7b0 : decide (a2 < ((rd_T28 l0 x8_1).f1)) = true := decide_eq_true c7
 clear c7
 by_cases c8 : x7_1.length < 1954687338268
 ·(
 rw [if_pos c8] at H
 have LMc8 := Aside0.mk c8
 clear c8
 obtain ⟨y359, hy359⟩ : ∃ y_ : List (S28), y_ = (x7_1 ++ [(⟨(rd_T28 l0 x8_1).f0, (rd_T28 l0 x8_1).f1, (⟨(rd_T28 l0 x8_1).f2.f0, (rd_T28 l0 x8_1).f2.f1, (rd_T28 l0 x8_1).f2.f2, (⟨(rd_T28 l0 x8_1).f2.f3.f0, (rd_T28 l0 x8_1).f2.f3.f1⟩ : S24), (rd_T28 l0 x8_1).f2.f4, (rd_T28 l0 x8_1).f2.f5⟩ : S26)⟩ : S28)]) := ⟨_, rfl⟩
 replace H : (rollbacknetref27_Discard.l0 k1 l0 a1 a2 y359 (wrap64 (x8_1 + 1))) = some r := by first | (rw [hy359]; with_reducible exact H) | (have H2_ := (Option.bind_some _ _).symm.trans H; rw [hy359]; with_reducible exact H2_) | (have H2_ := (Option.bind_some _ _).symm.trans H; with_reducible exact H2_) | with_reducible exact H | (rw [hy359]; exact H) | exact H
 have Ny359 := Aside0.mk hy359
 clear hy359
 have H' := Aside0.mk H
 clear H
 have p356 : 0 ≤ (x8_1 : Int) := of_decide_eq_true (by first | (with_reducible assumption) | assumption)
 have q356 : x8_1 < (l0.length : Int) := of_decide_eq_true (by first | (with_reducible assumption) | assumption)
 obtain ⟨ad356, e356, hx356_0, hx356_1, hx356_2, hx356_3, hx356_4, hx356_5, hx356_6, hx356_7, hx356_8⟩ := at_T28 HR0.out x8_1 p356 q356
 cases e356
 replace hx356_0 := hce HB hx356_0
 replace hx356_1 := hce HB hx356_1
 replace hx356_2 := hce HB hx356_2
 replace hx356_3 := hce HB hx356_3
 replace hx356_4 := hce HB hx356_4
 replace hx356_5 := hce HB hx356_5
 replace hx356_6 := hce HB hx356_6
 replace hx356_7 := hce HB hx356_7
 replace hx356_8 := hce HB hx356_8
 replace p356 := eq_true p356
 replace q356 := eq_true q356
 have p357 : 0 ≤ (x8_1 : Int) := of_decide_eq_true (by first | (with_reducible assumption) | assumption)
 have q357 : x8_1 < (l0.length : Int) := of_decide_eq_true (by first | (with_reducible assumption) | assumption)
 obtain ⟨ad357, e357, hx357_0, hx357_1, hx357_2, hx357_3, hx357_4, hx357_5, hx357_6, hx357_7, hx357_8⟩ := at_T28 HR0.out x8_1 p357 q357
 obtain rfl : ad356 = ad357 := (by injection e357)
 replace hx357_0 := hce HB hx357_0
 replace hx357_1 := hce HB hx357_1
 replace hx357_2 := hce HB hx357_2
 replace hx357_3 := hce HB hx357_3
 replace hx357_4 := hce HB hx357_4
 replace hx357_5 := hce HB hx357_5
 replace hx357_6 := hce HB hx357_6
 replace hx357_7 := hce HB hx357_7
 replace hx357_8 := hce HB hx357_8
 replace p357 := eq_true p357
 replace q357 := eq_true q357
 have p358 : 0 ≤ (x8_1 : Int) := of_decide_eq_true (by first | (with_reducible assumption) | assumption)
 have q358 : x8_1 < (l0.length : Int) := of_decide_eq_true (by first | (with_reducible assumption) | assumption)
 obtain ⟨ad358, e358, hx358_0, hx358_1, hx358_2, hx358_3, hx358_4, hx358_5, hx358_6, hx358_7, hx358_8⟩ := at_T28 HR0.out x8_1 p358 q358
 obtain rfl : ad356 = ad358 := (by injection e358)
 replace hx358_0 := hce HB hx358_0
 replace hx358_1 := hce HB hx358_1
 replace hx358_2 := hce HB hx358_2
 replace hx358_3 := hce HB hx358_3
 replace hx358_4 := hce HB hx358_4
 replace hx358_5 := hce HB hx358_5
 replace hx358_6 := hce HB hx358_6
 replace hx358_7 := hce HB hx358_7
 replace hx358_8 := hce HB hx358_8
 replace p358 := eq_true p358
 replace q358 := eq_true q358
 go_wp2_with (first | ((with_reducible refine gate_builtin (b := .append) (xs := #[.tmp 31, .tmp 36]) rfl ?_); at_builtin; refine Kd.R_append k28 (w0 := w) w.heap.size rfl (.tmp 31) (.tmp 36) 22 28 (.agg #[(.int .i64 0), (.int .i64 0), (.int .i64 0), (.int .i64 0), (.int .i64 0), (.int .i64 0), (.int .i64 0), (.int .i64 0), (.int .i64 0)]) 72 rfl Try.underlying22 info28 rfl (by decide) (by omega) u7 x7_1 (⟨(rd_T28 l0 x8_1).f0, (rd_T28 l0 x8_1).f1, (⟨(rd_T28 l0 x8_1).f2.f0, (rd_T28 l0 x8_1).f2.f1, (rd_T28 l0 x8_1).f2.f2, (⟨(rd_T28 l0 x8_1).f2.f3.f0, (rd_T28 l0 x8_1).f2.f3.f1⟩ : S24), (rd_T28 l0 x8_1).f2.f4, (rd_T28 l0 x8_1).f2.f5⟩ : S26)⟩ : S28) [.int .i64 ((rd_T28 l0 x8_1).f0), .int .i64 ((rd_T28 l0 x8_1).f1), .int .i64 ((rd_T28 l0 x8_1).f2.f0), .int .i64 ((rd_T28 l0 x8_1).f2.f1), .int .i64 ((rd_T28 l0 x8_1).f2.f2), .int .i64 ((rd_T28 l0 x8_1).f2.f3.f0), .int .i64 ((rd_T28 l0 x8_1).f2.f3.f1), .int .i64 ((rd_T28 l0 x8_1).f2.f4), .int .i64 ((rd_T28 l0 x8_1).f2.f5)] (fun _ => True) (fun _ => False) rfl rfl ?aP (fun _ hk => hk.elim) ?aF ?aO ?aB ?aS ?aL ?_; (case aP => exact k28_mkM _ _ _ (⟨(rd_T28 l0 x8_1).f0, (rd_T28 l0 x8_1).f1, (⟨(rd_T28 l0 x8_1).f2.f0, (rd_T28 l0 x8_1).f2.f1, (rd_T28 l0 x8_1).f2.f2, (⟨(rd_T28 l0 x8_1).f2.f3.f0, (rd_T28 l0 x8_1).f2.f3.f1⟩ : S24), (rd_T28 l0 x8_1).f2.f4, (rd_T28 l0 x8_1).f2.f5⟩ : S26)⟩ : S28)); (case aB => exact (bq HB.out)); (case aF => exact (fun _ _ => trivial)); (case aO => exact (rq HO_7.out)); (case aS => exact (below_size (bq HB.out))); (case aL => have := LMc8.out; omega); intro v360 w9 ho hb hg hat; rw [← Ny359.out] at ho; have n0_ := Aside0.mk (hb); have n1_ := Aside0.mk (ho); clear HB; clear HO_7; have HB := n0_; have HO361 := n1_; clear n0_ n1_; clear ho hb hg hat))
 go_roundg k1
 case measure => have := HK1.out; omega
 case rel => exact ⟨(y359), (wrap64 (x8_1 + 1)), (by first | rfl | (simp; done) | (simp [*]; done)), H', ⟨by have := HK1.out; omega⟩, ⟨rq HO361.out⟩, ⟨bq HB.out⟩⟩)
 ·(
 rw [if_neg c8] at H
 exact absurd H (by simp)))
 ·(
 rw [if_neg c7] at H
 have c7b0 : decide (a2 < ((rd_T28 l0 x8_1).f1)) = false := decide_eq_false c7
 clear c7
 have H' := Aside0.mk H
 clear H
 have p356 : 0 ≤ (x8_1 : Int) := of_decide_eq_true (by first | (with_reducible assumption) | assumption)
 have q356 : x8_1 < (l0.length : Int) := of_decide_eq_true (by first | (with_reducible assumption) | assumption)
 obtain ⟨ad356, e356, hx356_0, hx356_1, hx356_2, hx356_3, hx356_4, hx356_5, hx356_6, hx356_7, hx356_8⟩ := at_T28 HR0.out x8_1 p356 q356
 cases e356
 replace hx356_0 := hce HB hx356_0
 replace hx356_1 := hce HB hx356_1
 replace hx356_2 := hce HB hx356_2
 replace hx356_3 := hce HB hx356_3
 replace hx356_4 := hce HB hx356_4
 replace hx356_5 := hce HB hx356_5
 replace hx356_6 := hce HB hx356_6
 replace hx356_7 := hce HB hx356_7
 replace hx356_8 := hce HB hx356_8
 replace p356 := eq_true p356
 replace q356 := eq_true q356
 have p357 : 0 ≤ (x8_1 : Int) := of_decide_eq_true (by first | (with_reducible assumption) | assumption)
 have q357 : x8_1 < (l0.length : Int) := of_decide_eq_true (by first | (with_reducible assumption) | assumption)
 obtain ⟨ad357, e357, hx357_0, hx357_1, hx357_2, hx357_3, hx357_4, hx357_5, hx357_6, hx357_7, hx357_8⟩ := at_T28 HR0.out x8_1 p357 q357
 obtain rfl : ad356 = ad357 := (by injection e357)
 replace hx357_0 := hce HB hx357_0
 replace hx357_1 := hce HB hx357_1
 replace hx357_2 := hce HB hx357_2
 replace hx357_3 := hce HB hx357_3
 replace hx357_4 := hce HB hx357_4
 replace hx357_5 := hce HB hx357_5
 replace hx357_6 := hce HB hx357_6
 replace hx357_7 := hce HB hx357_7
 replace hx357_8 := hce HB hx357_8
 replace p357 := eq_true p357
 replace q357 := eq_true q357
 go_wp2
 go_roundg k1
 case measure => have := HK1.out; omega
 case rel => exact ⟨(x7_1), (wrap64 (x8_1 + 1)), (by first | rfl | (simp; done) | (simp [*]; done)), H', ⟨by have := HK1.out; omega⟩, ⟨rq HO_7.out⟩, ⟨bq HB.out⟩⟩))
 ·(
 rw [if_neg c6] at H
 have c6b0 : (((rd_T28 l0 x8_1).f0) == a1) = false := beq_eq_false_iff_ne.mpr c6
 have c6b1 : (((rd_T28 l0 x8_1).f0) != a1) = true := bne_iff_ne.mpr c6
 by_cases c10 : x7_1.length < 1954687338268
 ·(
 rw [if_pos c10] at H
 have LMc10 := Aside0.mk c10
 clear c10
 obtain ⟨y363, hy363⟩ : ∃ y_ : List (S28), y_ = (x7_1 ++ [(⟨(rd_T28 l0 x8_1).f0, (rd_T28 l0 x8_1).f1, (⟨(rd_T28 l0 x8_1).f2.f0, (rd_T28 l0 x8_1).f2.f1, (rd_T28 l0 x8_1).f2.f2, (⟨(rd_T28 l0 x8_1).f2.f3.f0, (rd_T28 l0 x8_1).f2.f3.f1⟩ : S24), (rd_T28 l0 x8_1).f2.f4, (rd_T28 l0 x8_1).f2.f5⟩ : S26)⟩ : S28)]) := ⟨_, rfl⟩
 replace H : (rollbacknetref27_Discard.l0 k1 l0 a1 a2 y363 (wrap64 (x8_1 + 1))) = some r := by first | (rw [hy363]; with_reducible exact H) | (have H2_ := (Option.bind_some _ _).symm.trans H; rw [hy363]; with_reducible exact H2_) | (have H2_ := (Option.bind_some _ _).symm.trans H; with_reducible exact H2_) | with_reducible exact H | (rw [hy363]; exact H) | exact H
 have Ny363 := Aside0.mk hy363
 clear hy363
 have H' := Aside0.mk H
 clear H
 have p356 : 0 ≤ (x8_1 : Int) := of_decide_eq_true (by first | (with_reducible assumption) | assumption)
 have q356 : x8_1 < (l0.length : Int) := of_decide_eq_true (by first | (with_reducible assumption) | assumption)
 obtain ⟨ad356, e356, hx356_0, hx356_1, hx356_2, hx356_3, hx356_4, hx356_5, hx356_6, hx356_7, hx356_8⟩ := at_T28 HR0.out x8_1 p356 q356
 cases e356
 replace hx356_0 := hce HB hx356_0
 replace hx356_1 := hce HB hx356_1
 replace hx356_2 := hce HB hx356_2
 replace hx356_3 := hce HB hx356_3
 replace hx356_4 := hce HB hx356_4
 replace hx356_5 := hce HB hx356_5
 replace hx356_6 := hce HB hx356_6
 replace hx356_7 := hce HB hx356_7
 replace hx356_8 := hce HB hx356_8
 replace p356 := eq_true p356
 replace q356 := eq_true q356
 have p362 : 0 ≤ (x8_1 : Int) := of_decide_eq_true (by first | (with_reducible assumption) | assumption)
 have q362 : x8_1 < (l0.length : Int) := of_decide_eq_true (by first | (with_reducible assumption) | assumption)
 obtain ⟨ad362, e362, hx362_0, hx362_1, hx362_2, hx362_3, hx362_4, hx362_5, hx362_6, hx362_7, hx362_8⟩ := at_T28 HR0.out x8_1 p362 q362
 obtain rfl : ad356 = ad362 := (by injection e362)
 replace hx362_0 := hce HB hx362_0
 replace hx362_1 := hce HB hx362_1
 replace hx362_2 := hce HB hx362_2
 replace hx362_3 := hce HB hx362_3
 replace hx362_4 := hce HB hx362_4
 replace hx362_5 := hce HB hx362_5
 replace hx362_6 := hce HB hx362_6
 replace hx362_7 := hce HB hx362_7
 replace hx362_8 := hce HB hx362_8
 replace p362 := eq_true p362
 replace q362 := eq_true q362
 go_wp2_with (first | ((with_reducible refine gate_builtin (b := .append) (xs := #[.tmp 31, .tmp 36]) rfl ?_); at_builtin; refine Kd.R_append k28 (w0 := w) w.heap.size rfl (.tmp 31) (.tmp 36) 22 28 (.agg #[(.int .i64 0), (.int .i64 0), (.int .i64 0), (.int .i64 0), (.int .i64 0), (.int .i64 0), (.int .i64 0), (.int .i64 0), (.int .i64 0)]) 72 rfl Try.underlying22 info28 rfl (by decide) (by omega) u7 x7_1 (⟨(rd_T28 l0 x8_1).f0, (rd_T28 l0 x8_1).f1, (⟨(rd_T28 l0 x8_1).f2.f0, (rd_T28 l0 x8_1).f2.f1, (rd_T28 l0 x8_1).f2.f2, (⟨(rd_T28 l0 x8_1).f2.f3.f0, (rd_T28 l0 x8_1).f2.f3.f1⟩ : S24), (rd_T28 l0 x8_1).f2.f4, (rd_T28 l0 x8_1).f2.f5⟩ : S26)⟩ : S28) [.int .i64 ((rd_T28 l0 x8_1).f0), .int .i64 ((rd_T28 l0 x8_1).f1), .int .i64 ((rd_T28 l0 x8_1).f2.f0), .int .i64 ((rd_T28 l0 x8_1).f2.f1), .int .i64 ((rd_T28 l0 x8_1).f2.f2), .int .i64 ((rd_T28 l0 x8_1).f2.f3.f0), .int .i64 ((rd_T28 l0 x8_1).f2.f3.f1), .int .i64 ((rd_T28 l0 x8_1).f2.f4), .int .i64 ((rd_T28 l0 x8_1).f2.f5)] (fun _ => True) (fun _ => False) rfl rfl ?aP (fun _ hk => hk.elim) ?aF ?aO ?aB ?aS ?aL ?_; (case aP => exact k28_mkM _ _ _ (⟨(rd_T28 l0 x8_1).f0, (rd_T28 l0 x8_1).f1, (⟨(rd_T28 l0 x8_1).f2.f0, (rd_T28 l0 x8_1).f2.f1, (rd_T28 l0 x8_1).f2.f2, (⟨(rd_T28 l0 x8_1).f2.f3.f0, (rd_T28 l0 x8_1).f2.f3.f1⟩ : S24), (rd_T28 l0 x8_1).f2.f4, (rd_T28 l0 x8_1).f2.f5⟩ : S26)⟩ : S28)); (case aB => exact (bq HB.out)); (case aF => exact (fun _ _ => trivial)); (case aO => exact (rq HO_7.out)); (case aS => exact (below_size (bq HB.out))); (case aL => have := LMc10.out; omega); intro v364 w11 ho hb hg hat; rw [← Ny363.out] at ho; have n0_ := Aside0.mk (hb); have n1_ := Aside0.mk (ho); clear HB; clear HO_7; have HB := n0_; have HO365 := n1_; clear n0_ n1_; clear ho hb hg hat))
 go_roundg k1
 case measure => have := HK1.out; omega
 case rel => exact ⟨(y363), (wrap64 (x8_1 + 1)), (by first | rfl | (simp; done) | (simp [*]; done)), H', ⟨by have := HK1.out; omega⟩, ⟨rq HO365.out⟩, ⟨bq HB.out⟩⟩)
 ·(
 rw [if_neg c10] at H
 exact absurd H (by simp))))
 ·(
 rw [if_neg c5] at H
 exact absurd H (by simp)))
 ·(
 rw [if_neg c4] at H
 have c4b0 : decide (x8_1 < (l0.length : Int)) = false := decide_eq_false c4
 clear c4
 obtain rfl := Option.some.inj H
 go_wp2
 go_ret
 exact ⟨_, by first | rfl | (simp [errW_none, errW_some] <;> rfl) | (simp [*, errW_none, errW_some] <;> rfl), rq HO_7.out, bq HB.out⟩)))
end Go.Proofs.Ytdobkcphmpbhlaa.PGL
