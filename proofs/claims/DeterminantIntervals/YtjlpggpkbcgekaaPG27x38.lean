-- Written by a program of this session (hprint.py) out of the translation and of hand-proved parts. Lean checks it.
import Derived.Test.YtjlpggpkbcgekaaPG27x0
import Derived.Test.YtjlpggpkbcgekaaPG27x32
namespace Go.Proofs.Ytjlpggpkbcgekaa.PG27
open Go.RowKit Go.Proofs.YtjlpggpkbcgekaaW.PrintWords Go.Proofs.YtjlpggpkbcgekaaW.PrintLast Go.Proofs.YtjlpggpkbcgekaaW.PrintMore
attribute [local go_sem] max2_int min2_int max_two min_two max_three min_three max_four min_four   -- for this text's walks alone
set_option linter.unusedVariables false
set_option linter.unusedSimpArgs false

/-! ### rollbacknetref27_Restorable: function 19 -/
mutual
def rollbacknetref27_Restorable.l0 : Nat → Int → List (S37) → List Int → List (S39) → List Int → Bool → Int → Option (List Int)
 | 0, _, _, _, _, _, _, _ => none
 | k + 1, x0, x1, x2, x3, x9, x10, x11 => if x11 ≤ (x1.length : Int) then (if x10 = true then (if 0 ≤ (wrap64 (x11 - 1)) then (if (wrap64 (x11 - 1)) < (x1.length : Int) then ((rollbacknetref27_Has.f k x3 x0 x11 ((rd_T37 x1 (wrap64 (x11 - 1))).f0) ((rd_T37 x1 (wrap64 (x11 - 1))).f1) ((rd_T37 x1 (wrap64 (x11 - 1))).f2) ((rd_T37 x1 (wrap64 (x11 - 1))).f3.f0) ((rd_T37 x1 (wrap64 (x11 - 1))).f3.f1) ((rd_T37 x1 (wrap64 (x11 - 1))).f4) ((rd_T37 x1 (wrap64 (x11 - 1))).f5)).bind fun t709 => (rollbacknetref27_Restorable.j1 k x0 x1 x2 x3 x9 t709 x11)) else (none)) else (none)) else (rollbacknetref27_Restorable.j1 k x0 x1 x2 x3 x9 false x11)) else (some x9)
def rollbacknetref27_Restorable.j1 : Nat → Int → List (S37) → List Int → List (S39) → List Int → Bool → Int → Option (List Int)
 | 0, _, _, _, _, _, _, _ => none
 | k + 1, x0, x1, x2, x3, x9, x10, x11 => rollbacknetref27_Restorable.l1 k x0 x1 x2 x3 x9 x10 x11 0
def rollbacknetref27_Restorable.l1 : Nat → Int → List (S37) → List Int → List (S39) → List Int → Bool → Int → Int → Option (List Int)
 | 0, _, _, _, _, _, _, _, _ => none
 | k + 1, x0, x1, x2, x3, x9, x10, x11, x12 => if x12 < (x2.length : Int) then (if x10 = true then (rollbacknetref27_Restorable.l1 k x0 x1 x2 x3 x9 true x11 (wrap64 (x12 + 1))) else (if 0 ≤ x12 then (rollbacknetref27_Restorable.l1 k x0 x1 x2 x3 x9 ((rd x2 x12) == x11) x11 (wrap64 (x12 + 1))) else (none))) else (if x10 = true then (if x9.length < 17592186044416 then (rollbacknetref27_Restorable.l0 k x0 x1 x2 x3 (x9 ++ [x11]) x10 (wrap64 (x11 + 1))) else (none)) else (rollbacknetref27_Restorable.l0 k x0 x1 x2 x3 x9 x10 (wrap64 (x11 + 1))))
end
def rollbacknetref27_Restorable.f (k : Nat) (a0 : Int) (l1 : List (S37)) (l2 : List Int) (l3 : List (S39)) : Option (List Int) := rollbacknetref27_Restorable.l0 k a0 l1 l2 l3 ([] : List Int) false 0
theorem rollbacknetref27_Restorable.mono_l : ∀ k, (∀ y0 y1 y2 y3 y4 y5 y6, LeO (rollbacknetref27_Restorable.l0 k y0 y1 y2 y3 y4 y5 y6) (rollbacknetref27_Restorable.l0 (k + 1) y0 y1 y2 y3 y4 y5 y6)) ∧ (∀ y0 y1 y2 y3 y4 y5 y6, LeO (rollbacknetref27_Restorable.j1 k y0 y1 y2 y3 y4 y5 y6) (rollbacknetref27_Restorable.j1 (k + 1) y0 y1 y2 y3 y4 y5 y6)) ∧ (∀ y0 y1 y2 y3 y4 y5 y6 y7, LeO (rollbacknetref27_Restorable.l1 k y0 y1 y2 y3 y4 y5 y6 y7) (rollbacknetref27_Restorable.l1 (k + 1) y0 y1 y2 y3 y4 y5 y6 y7))
 | 0 => ⟨fun _ _ _ _ _ _ _ r h => by simp [rollbacknetref27_Restorable.l0] at h, fun _ _ _ _ _ _ _ r h => by simp [rollbacknetref27_Restorable.j1] at h, fun _ _ _ _ _ _ _ _ r h => by simp [rollbacknetref27_Restorable.l1] at h⟩
 | k + 1 => by
  obtain ⟨ih0, ih1, ih2⟩ := rollbacknetref27_Restorable.mono_l k
  refine ⟨?_, ?_, ?_⟩
  ·intro y0 y1 y2 y3 y4 y5 y6
   unfold rollbacknetref27_Restorable.l0
   repeat' first
   | (with_reducible exact ih0 _ _ _ _ _ _ _)
   | (with_reducible exact ih1 _ _ _ _ _ _ _)
   | (with_reducible exact ih2 _ _ _ _ _ _ _ _)
   | (with_reducible exact rollbacknetref27_Has.mono _ _ _ _ _ _ _ _ _ _ _)
   | (with_reducible exact LeO.refl _)
   | (with_reducible exact LeO.none _)
   | (with_reducible refine LeO.ite ?_ ?_)
   | (with_reducible refine LeO.bind ?_ (fun _ => ?_))
   | exact ih0 _ _ _ _ _ _ _
   | exact ih1 _ _ _ _ _ _ _
   | exact ih2 _ _ _ _ _ _ _ _
   | exact rollbacknetref27_Has.mono _ _ _ _ _ _ _ _ _ _ _
   | exact LeO.none _
   | refine LeO.ite ?_ ?_
   | refine LeO.bind ?_ (fun _ => ?_)
  ·intro y0 y1 y2 y3 y4 y5 y6
   unfold rollbacknetref27_Restorable.j1
   repeat' first
   | (with_reducible exact ih0 _ _ _ _ _ _ _)
   | (with_reducible exact ih1 _ _ _ _ _ _ _)
   | (with_reducible exact ih2 _ _ _ _ _ _ _ _)
   | (with_reducible exact rollbacknetref27_Has.mono _ _ _ _ _ _ _ _ _ _ _)
   | (with_reducible exact LeO.refl _)
   | (with_reducible exact LeO.none _)
   | (with_reducible refine LeO.ite ?_ ?_)
   | (with_reducible refine LeO.bind ?_ (fun _ => ?_))
   | exact ih0 _ _ _ _ _ _ _
   | exact ih1 _ _ _ _ _ _ _
   | exact ih2 _ _ _ _ _ _ _ _
   | exact rollbacknetref27_Has.mono _ _ _ _ _ _ _ _ _ _ _
   | exact LeO.none _
   | refine LeO.ite ?_ ?_
   | refine LeO.bind ?_ (fun _ => ?_)
  ·intro y0 y1 y2 y3 y4 y5 y6 y7
   unfold rollbacknetref27_Restorable.l1
   repeat' first
   | (with_reducible exact ih0 _ _ _ _ _ _ _)
   | (with_reducible exact ih1 _ _ _ _ _ _ _)
   | (with_reducible exact ih2 _ _ _ _ _ _ _ _)
   | (with_reducible exact rollbacknetref27_Has.mono _ _ _ _ _ _ _ _ _ _ _)
   | (with_reducible exact LeO.refl _)
   | (with_reducible exact LeO.none _)
   | (with_reducible refine LeO.ite ?_ ?_)
   | (with_reducible refine LeO.bind ?_ (fun _ => ?_))
   | exact ih0 _ _ _ _ _ _ _
   | exact ih1 _ _ _ _ _ _ _
   | exact ih2 _ _ _ _ _ _ _ _
   | exact rollbacknetref27_Has.mono _ _ _ _ _ _ _ _ _ _ _
   | exact LeO.none _
   | refine LeO.ite ?_ ?_
   | refine LeO.bind ?_ (fun _ => ?_)
theorem rollbacknetref27_Restorable.mono : ∀ a0 a1 a2 a3 k, LeO (rollbacknetref27_Restorable.f k a0 a1 a2 a3) (rollbacknetref27_Restorable.f (k + 1) a0 a1 a2 a3) := by
 intro a0 a1 a2 a3 k
 obtain ⟨ih0, ih1, ih2⟩ := rollbacknetref27_Restorable.mono_l k
 unfold rollbacknetref27_Restorable.f
 repeat' first
   | (with_reducible exact ih0 _ _ _ _ _ _ _)
   | (with_reducible exact ih1 _ _ _ _ _ _ _)
   | (with_reducible exact ih2 _ _ _ _ _ _ _ _)
   | (with_reducible exact rollbacknetref27_Has.mono _ _ _ _ _ _ _ _ _ _ _)
   | (with_reducible exact LeO.refl _)
   | (with_reducible exact LeO.none _)
   | (with_reducible refine LeO.ite ?_ ?_)
   | (with_reducible refine LeO.bind ?_ (fun _ => ?_))
   | exact ih0 _ _ _ _ _ _ _
   | exact ih1 _ _ _ _ _ _ _
   | exact ih2 _ _ _ _ _ _ _ _
   | exact rollbacknetref27_Has.mono _ _ _ _ _ _ _ _ _ _ _
   | exact LeO.none _
   | refine LeO.ite ?_ ?_
   | refine LeO.bind ?_ (fun _ => ?_)
set_option maxHeartbeats 8000000 in
set_option maxRecDepth 100000 in
theorem rollbacknetref27_Restorable.calls (k : Nat) (a0 : Int) (A1 : Option Addr) (c1 : Nat) (l1 : List (S37)) (A2 : Option Addr) (c2 : Nat) (l2 : List Int) (A3 : Option Addr) (c3 : Nat) (l3 : List (S39)) (r : List Int) (w : World) (hr1 : Kd.C k37 w A1 l1.length l1) (hc1 : l1.length ≤ c1) (hr2 : Kd.C (Kd.int .i64) w A2 l2.length l2) (hc2 : l2.length ≤ c2) (hr3 : Kd.C k39 w A3 l3.length l3) (hc3 : l3.length ≤ c3) (h : rollbacknetref27_Restorable.f k a0 l1 l2 l3 = some r) :
  Calls Try.prog 19 #[.int .i64 a0, .slice A1 l1.length c1, .slice A2 l2.length c2, .slice A3 l3.length c3] w fun e w' => ∃ v0_ : Value, e = .returned (v0_) ∧ Kd.R (Kd.int .i64) 3 w' w.heap.size (fun _ => True) v0_ r ∧ Below w.heap.size w w' := by
 have hu37 := Try.underlying37
 have hu39 := Try.underlying39
 have HR1 := Aside0.mk hr1
 have HC1 := Aside0.mk hc1
 clear hr1 hc1
 have HR2 := Aside0.mk hr2
 have HC2 := Aside0.mk hc2
 clear hr2 hc2
 have HR3 := Aside0.mk hr3
 have HC3 := Aside0.mk hc3
 clear hr3 hc3
 have HB := Aside0.mk (Below.refl w.heap.size w)
 have H : (rollbacknetref27_Restorable.l0 k a0 l1 l2 l3 ([] : List Int) false 0) = some r := h
 clear h
 have H' := Aside0.mk H
 clear H
 go_enter Try.func19, Try.ntmps19
 go_wp2
 go_loopg [9, 10, 11] k (fun kq v9 v10 v11 w' => ∃ (x9_1 : List Int) (x10_1 : Bool) (x11_1 : Int), v10 = .bool x10_1 ∧ v11 = .int .i64 x11_1 ∧ Aside0 (rollbacknetref27_Restorable.l0 kq a0 l1 l2 l3 x9_1 x10_1 x11_1 = some r) ∧ Aside0 (kq ≤ k) ∧ Aside0 (Kd.R (Kd.int .i64) 3 w' w.heap.size (fun _ => True) v9 x9_1) ∧ Aside0 (Below w.heap.size w w'))
 case atStart => exact ⟨(([] : List Int)), (false), (0), (by first | rfl | (simp; done) | (simp [*]; done)), (by first | rfl | (simp; done) | (simp [*]; done)), H', ⟨Nat.le_refl _⟩, ⟨by first | exact Kd.R_nil _ _ _ _ _ | exact Kd.N_nil _ _ _ _ _ | exact Kd.V_nil _ _ _ _ _ | exact Kd.Q_nil _ _ _ _ _ | exact Kd.S_nil _ _ _ _ _⟩, ⟨bq HB.out⟩⟩
 case round =>
  clear H'
  try clear c1
  try clear c2
  try clear p2
  try clear c3
  obtain ⟨x9_1, x10_1, x11_1, rfl, rfl, HA, HK1, HO_9, HB⟩ := hrel
  cases gk with
  | zero => exact absurd HA.out (by simp [rollbacknetref27_Restorable.l0])
  | succ k1 =>
   have H := HA.out
   clear HA
   simp only [rollbacknetref27_Restorable.l0] at H
   by_cases c5 : x11_1 ≤ (l1.length : Int)
   ·rw [if_pos c5] at H
    have c5b0 : decide (x11_1 ≤ (l1.length : Int)) = true := decide_eq_true c5
    clear c5
    have HC6 := Aside0.mk H
    clear H
    go_upto_region 6 with (fail)
    go_cut [10] (fun v10 wc => ∃ (kq : Nat) (x10_5 : Bool), v10 = .bool x10_5 ∧ Aside0 (rollbacknetref27_Restorable.j1 kq a0 l1 l2 l3 x9_1 x10_5 x11_1 = some r) ∧ Aside0 (kq ≤ k1) ∧ Aside0 (Kd.R (Kd.int .i64) 3 wc w.heap.size (fun _ => True) u9 x9_1) ∧ Aside0 (Below w.heap.size w wc))
    case first =>
     have H := HC6.out
     clear HC6
     by_cases c7 : x10_1 = true
     ·subst c7
      have H1 : (if 0 ≤ (wrap64 (x11_1 - 1)) then (if (wrap64 (x11_1 - 1)) < (l1.length : Int) then ((rollbacknetref27_Has.f k1 l3 a0 x11_1 ((rd_T37 l1 (wrap64 (x11_1 - 1))).f0) ((rd_T37 l1 (wrap64 (x11_1 - 1))).f1) ((rd_T37 l1 (wrap64 (x11_1 - 1))).f2) ((rd_T37 l1 (wrap64 (x11_1 - 1))).f3.f0) ((rd_T37 l1 (wrap64 (x11_1 - 1))).f3.f1) ((rd_T37 l1 (wrap64 (x11_1 - 1))).f4) ((rd_T37 l1 (wrap64 (x11_1 - 1))).f5)).bind fun t709 => (rollbacknetref27_Restorable.j1 k1 a0 l1 l2 l3 x9_1 t709 x11_1)) else (none)) else (none)) = some r := by rw [if_pos rfl] at H; exact H
      clear H
      have H := H1
      clear H1
      obtain ⟨ji8, hji8⟩ : ∃ j_ : Int, (wrap64 (x11_1 - 1)) = j_ := ⟨_, rfl⟩
      replace H : (if 0 ≤ (ji8) then (if (ji8) < (l1.length : Int) then ((rollbacknetref27_Has.f k1 l3 a0 x11_1 ((rd_T37 l1 (ji8)).f0) ((rd_T37 l1 (ji8)).f1) ((rd_T37 l1 (ji8)).f2) ((rd_T37 l1 (ji8)).f3.f0) ((rd_T37 l1 (ji8)).f3.f1) ((rd_T37 l1 (ji8)).f4) ((rd_T37 l1 (ji8)).f5)).bind fun t709 => (rollbacknetref27_Restorable.j1 k1 a0 l1 l2 l3 x9_1 t709 x11_1)) else (none)) else (none)) = some r := by first | (rw [hji8] at H; exact H) | (simp only [hji8] at H ⊢; exact H)
      have hji8w : (IntKind.i64.wrap (x11_1 - 1)) = ji8 := (i64_w _).trans hji8
      by_cases c9 : 0 ≤ (ji8)
      ·rw [if_pos c9] at H
       have c9b0 : decide (0 ≤ (ji8)) = true := decide_eq_true c9
       clear c9
       (first | rw [c9b0] | (simp only [i64_w, i32_w]; rw [c9b0]) | skip)
       by_cases c10 : (ji8) < (l1.length : Int)
       ·rw [if_pos c10] at H
        have c10b0 : decide ((ji8) < (l1.length : Int)) = true := decide_eq_true c10
        clear c10
        replace H := Option.bind_eq_some_iff.mp H
        obtain ⟨t709, A110, H⟩ := H
        replace H : (rollbacknetref27_Restorable.j1 k1 a0 l1 l2 l3 x9_1 t709 x11_1) = some r := H
        have A11 := Aside0.mk A110
        clear A110
        have H' := Aside0.mk H
        clear H
        have p708 : 0 ≤ ((ji8) : Int) := of_decide_eq_true (by first | (with_reducible assumption) | assumption)
        have q708 : (ji8) < (l1.length : Int) := of_decide_eq_true (by first | (with_reducible assumption) | assumption)
        obtain ⟨ad708, e708, hx708_0, hx708_1, hx708_2, hx708_3, hx708_4, hx708_5, hx708_6⟩ := at_T37 HR1.out (ji8) p708 q708
        cases e708
        replace hx708_0 := (HB.out.cell (World.block_lt_of_cell? w _ hx708_0)).trans hx708_0
        replace hx708_1 := (HB.out.cell (World.block_lt_of_cell? w _ hx708_1)).trans hx708_1
        replace hx708_2 := (HB.out.cell (World.block_lt_of_cell? w _ hx708_2)).trans hx708_2
        replace hx708_3 := (HB.out.cell (World.block_lt_of_cell? w _ hx708_3)).trans hx708_3
        replace hx708_4 := (HB.out.cell (World.block_lt_of_cell? w _ hx708_4)).trans hx708_4
        replace hx708_5 := (HB.out.cell (World.block_lt_of_cell? w _ hx708_5)).trans hx708_5
        replace hx708_6 := (HB.out.cell (World.block_lt_of_cell? w _ hx708_6)).trans hx708_6
        replace p708 := eq_true p708
        replace q708 := eq_true q708
        go_wp2_with (first | (go_at_call 35; (with_reducible refine (rollbacknetref27_Has.calls k1 _ _ l3 a0 x11_1 ((rd_T37 l1 (ji8)).f0) ((rd_T37 l1 (ji8)).f1) ((rd_T37 l1 (ji8)).f2) ((rd_T37 l1 (ji8)).f3.f0) ((rd_T37 l1 (ji8)).f3.f1) ((rd_T37 l1 (ji8)).f4) ((rd_T37 l1 (ji8)).f5) t709 _ ?side1 ?side2 A11.out).mono ?_); (case side1 => repeat (first | exact (Kd.C_below HR3.out HB.out) | (with_reducible refine Kd.C_alloc ?_ _) | (with_reducible refine Kd.C_drewN ?_ _) | (with_reducible refine Kd.C_drew ?_))); (case side2 => exact HC3.out); rintro e w12 ⟨rfl, hb⟩; have n0_ := Aside0.mk (Kd.R_below (rq HO_9.out) hb); have n1_ := Aside0.mk (below_step (bq HB.out) hb); clear HO_9; clear HB; have HO_9 := n0_; have HB := n1_; clear n0_ n1_; (try clear hb); (try clear hb2); (try clear hk); (try clear hi)))
        go_meet
        case rel => exact ⟨_, (t709), (by first | rfl | (simp; done) | (simp [*]; done)), H', ⟨by have := HK1.out; first | omega | exact Nat.le_refl _⟩, ⟨rq HO_9.out⟩, ⟨bq HB.out⟩⟩
       ·rw [if_neg c10] at H
        exact absurd H (by simp)
      ·rw [if_neg c9] at H
       exact absurd H (by simp)
     ·replace c7 := Bool.eq_false_iff.mpr c7
      subst c7
      have H1 : (rollbacknetref27_Restorable.j1 k1 a0 l1 l2 l3 x9_1 false x11_1) = some r := by rw [if_neg (show ¬ (false = true) by decide)] at H; exact H
      clear H
      have H := H1
      clear H1
      have H' := Aside0.mk H
      clear H
      go_wp2
      go_meet
      case rel => exact ⟨_, (false), (by first | rfl | (simp; done) | (simp [*]; done)), H', ⟨by have := HK1.out; first | omega | exact Nat.le_refl _⟩, ⟨rq HO_9.out⟩, ⟨bq HB.out⟩⟩
    case rest =>
     clear HC6
     try clear c1
     try clear c2
     try clear p2
     try clear c3
     try clear c5
     try clear c5b0
     try clear p6
     try clear c7
     try clear p7
     try clear q7
     try clear hx7
     try clear c9
     try clear c9b0
     try clear c10
     try clear c10b0
     try clear hx708_0
     try clear hx708_1
     try clear hx708_2
     try clear hx708_3
     try clear hx708_4
     try clear hx708_5
     try clear hx708_6
     try clear p2
     try clear p708
     try clear q708
     obtain ⟨kq, x10_5, rfl, HA, HJ5, HO_9, HB⟩ := hcut
     cases kq with
     | zero => exact absurd HA.out (by simp [rollbacknetref27_Restorable.j1])
     | succ kj5 =>
      have H := HA.out
      clear HA
      simp only [rollbacknetref27_Restorable.j1] at H
      have H' := Aside0.mk H
      clear H
      go_wp2
      go_loopg [10, 12] kj5 (fun kq v10 v12 w' => ∃ (x10_3 : Bool) (x12_3 : Int), v10 = .bool x10_3 ∧ v12 = .int .i64 x12_3 ∧ Aside0 (rollbacknetref27_Restorable.l1 kq a0 l1 l2 l3 x9_1 x10_3 x11_1 x12_3 = some r) ∧ Aside0 (kq ≤ kj5) ∧ Aside0 (Kd.R (Kd.int .i64) 3 w' w.heap.size (fun _ => True) u9 x9_1) ∧ Aside0 (Below w.heap.size w w'))
      case atStart => exact ⟨(x10_5), (0), (by first | rfl | (simp; done) | (simp [*]; done)), (by first | rfl | (simp; done) | (simp [*]; done)), H', ⟨Nat.le_refl _⟩, ⟨rq HO_9.out⟩, ⟨bq HB.out⟩⟩
      case round =>
       clear H'
       try clear c1
       try clear c2
       try clear p2
       try clear c3
       try clear c5
       try clear c5b0
       try clear p6
       try clear c7
       try clear p7
       try clear q7
       try clear hx7
       try clear c9
       try clear c9b0
       try clear c10
       try clear c10b0
       try clear hx708_0
       try clear hx708_1
       try clear hx708_2
       try clear hx708_3
       try clear hx708_4
       try clear hx708_5
       try clear hx708_6
       try clear p2
       try clear p6
       try clear p7
       try clear p708
       try clear q7
       try clear q708
       obtain ⟨x10_3, x12_3, rfl, rfl, HA, HK3, HO_9, HB⟩ := hrel
       cases gk with
       | zero => exact absurd HA.out (by simp [rollbacknetref27_Restorable.l1])
       | succ k3 =>
        have H := HA.out
        clear HA
        simp only [rollbacknetref27_Restorable.l1] at H
        by_cases c13 : x12_3 < (l2.length : Int)
        ·rw [if_pos c13] at H
         have c13b0 : decide (x12_3 < (l2.length : Int)) = true := decide_eq_true c13
         clear c13
         by_cases c14 : x10_3 = true
         ·subst c14
          have H1 : (rollbacknetref27_Restorable.l1 k3 a0 l1 l2 l3 x9_1 true x11_1 (wrap64 (x12_3 + 1))) = some r := by rw [if_pos rfl] at H; exact H
          clear H
          have H := H1
          clear H1
          have H' := Aside0.mk H
          clear H
          go_wp2
          go_roundg k3
          case measure => have := HK1.out; have := HJ5.out; have := HK3.out; omega
          case rel => exact ⟨(true), (wrap64 (x12_3 + 1)), (by first | rfl | (simp; done) | (simp [*]; done)), (by first | rfl | (simp; done) | (simp [*]; done)), H', ⟨by have := HK1.out; have := HJ5.out; have := HK3.out; omega⟩, ⟨rq HO_9.out⟩, ⟨bq HB.out⟩⟩
         ·replace c14 := Bool.eq_false_iff.mpr c14
          subst c14
          have H1 : (if 0 ≤ x12_3 then (rollbacknetref27_Restorable.l1 k3 a0 l1 l2 l3 x9_1 ((rd l2 x12_3) == x11_1) x11_1 (wrap64 (x12_3 + 1))) else (none)) = some r := by rw [if_neg (show ¬ (false = true) by decide)] at H; exact H
          clear H
          have H := H1
          clear H1
          by_cases c15 : 0 ≤ x12_3
          ·rw [if_pos c15] at H
           have c15b0 : decide (0 ≤ x12_3) = true := decide_eq_true c15
           clear c15
           have H' := Aside0.mk H
           clear H
           have p710 : 0 ≤ (x12_3 : Int) := of_decide_eq_true (by first | (with_reducible assumption) | assumption)
           have q710 : x12_3 < (l2.length : Int) := of_decide_eq_true (by first | (with_reducible assumption) | assumption)
           obtain ⟨ad710, e710, hx710_0⟩ := Kd.at_int HR2.out x12_3 p710 q710
           cases e710
           replace hx710_0 := (HB.out.cell (World.block_lt_of_cell? w _ hx710_0)).trans hx710_0
           replace p710 := eq_true p710
           replace q710 := eq_true q710
           go_wp2
           go_roundg k3
           case measure => have := HK1.out; have := HJ5.out; have := HK3.out; omega
           case rel => exact ⟨(((rd l2 x12_3) == x11_1)), (wrap64 (x12_3 + 1)), (by first | rfl | (simp; done) | (simp [*]; done)), (by first | rfl | (simp; done) | (simp [*]; done)), H', ⟨by have := HK1.out; have := HJ5.out; have := HK3.out; omega⟩, ⟨rq HO_9.out⟩, ⟨bq HB.out⟩⟩
          ·rw [if_neg c15] at H
           exact absurd H (by simp)
        ·rw [if_neg c13] at H
         have c13b0 : decide (x12_3 < (l2.length : Int)) = false := decide_eq_false c13
         clear c13
         by_cases c16 : x10_3 = true
         ·subst c16
          have H1 : (if x9_1.length < 17592186044416 then (rollbacknetref27_Restorable.l0 k3 a0 l1 l2 l3 (x9_1 ++ [x11_1]) true (wrap64 (x11_1 + 1))) else (none)) = some r := by rw [if_pos rfl] at H; exact H
          clear H
          have H := H1
          clear H1
          by_cases c17 : x9_1.length < 17592186044416
          ·rw [if_pos c17] at H
           have LMc17 := Aside0.mk c17
           clear c17
           obtain ⟨y711, hy711⟩ : ∃ y_ : List Int, y_ = (x9_1 ++ [x11_1]) := ⟨_, rfl⟩
           replace H : (rollbacknetref27_Restorable.l0 k3 a0 l1 l2 l3 y711 true (wrap64 (x11_1 + 1))) = some r := by first | (rw [hy711]; with_reducible exact H) | (have H2_ := (Option.bind_some _ _).symm.trans H; rw [hy711]; with_reducible exact H2_) | (have H2_ := (Option.bind_some _ _).symm.trans H; with_reducible exact H2_) | with_reducible exact H | (rw [hy711]; exact H) | exact H
           have Ny711 := Aside0.mk hy711
           clear hy711
           have H' := Aside0.mk H
           clear H
           go_wp2_with (first | ((with_reducible refine gate_builtin (b := .append) (xs := #[.tmp 48, .tmp 50]) rfl ?_); at_builtin; refine Kd.R_append (Kd.int .i64) (w0 := w) w.heap.size rfl (.tmp 48) (.tmp 50) 23 3 (.int .i64 0) 8 rfl Try.underlying23 info3 rfl (by decide) (by omega) u9 x9_1 x11_1 [.int .i64 x11_1] (fun _ => True) (fun _ => False) rfl rfl ?aP (fun _ hk => hk.elim) ?aF ?aO ?aB ?aS ?aL ?_; (case aP => exact rfl); (case aB => exact (bq HB.out)); (case aF => exact (fun _ _ => trivial)); (case aO => exact (rq HO_9.out)); (case aS => exact (below_size (bq HB.out))); (case aL => have := LMc17.out; omega); intro v712 w18 ho hb hg hat; rw [← Ny711.out] at ho; have n0_ := Aside0.mk (hb); have n1_ := Aside0.mk (ho); clear HB; clear HO_9; have HB := n0_; have HO713 := n1_; clear n0_ n1_; clear ho hb hg hat))
           go_roundg k3
           case measure => have := HK1.out; have := HJ5.out; have := HK3.out; omega
           case rel => exact ⟨(y711), (true), (wrap64 (x11_1 + 1)), (by first | rfl | (simp; done) | (simp [*]; done)), (by first | rfl | (simp; done) | (simp [*]; done)), H', ⟨by have := HK1.out; have := HJ5.out; have := HK3.out; omega⟩, ⟨rq HO713.out⟩, ⟨bq HB.out⟩⟩
          ·rw [if_neg c17] at H
           exact absurd H (by simp)
         ·replace c16 := Bool.eq_false_iff.mpr c16
          subst c16
          have H1 : (rollbacknetref27_Restorable.l0 k3 a0 l1 l2 l3 x9_1 false (wrap64 (x11_1 + 1))) = some r := by rw [if_neg (show ¬ (false = true) by decide)] at H; exact H
          clear H
          have H := H1
          clear H1
          have H' := Aside0.mk H
          clear H
          go_wp2
          go_roundg k3
          case measure => have := HK1.out; have := HJ5.out; have := HK3.out; omega
          case rel => exact ⟨(x9_1), (false), (wrap64 (x11_1 + 1)), (by first | rfl | (simp; done) | (simp [*]; done)), (by first | rfl | (simp; done) | (simp [*]; done)), H', ⟨by have := HK1.out; have := HJ5.out; have := HK3.out; omega⟩, ⟨rq HO_9.out⟩, ⟨bq HB.out⟩⟩
   ·rw [if_neg c5] at H
    have c5b0 : decide (x11_1 ≤ (l1.length : Int)) = false := decide_eq_false c5
    clear c5
    obtain rfl := Option.some.inj H
    go_wp2
    go_ret
    exact ⟨_, by first | rfl | (simp [errW_none, errW_some] <;> rfl) | (simp [*, errW_none, errW_some] <;> rfl), rq HO_9.out, bq HB.out⟩

end Go.Proofs.Ytjlpggpkbcgekaa.PG27
