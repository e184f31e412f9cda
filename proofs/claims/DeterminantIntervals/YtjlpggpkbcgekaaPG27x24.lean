-- Written by a program of this session (hprint.py) out of the translation and of hand-proved parts. Lean checks it.
import Derived.Test.YtjlpggpkbcgekaaPG27x0
import Derived.Test.YtjlpggpkbcgekaaPG27x3
import Derived.Test.YtjlpggpkbcgekaaPG27x5
import Derived.Test.YtjlpggpkbcgekaaPG27x6
import Derived.Test.YtjlpggpkbcgekaaPG27x19
import Derived.Test.YtjlpggpkbcgekaaPG27x21
namespace Go.Proofs.Ytjlpggpkbcgekaa.PG27
open Go.RowKit Go.Proofs.YtjlpggpkbcgekaaW.PrintWords Go.Proofs.YtjlpggpkbcgekaaW.PrintLast Go.Proofs.YtjlpggpkbcgekaaW.PrintMore
attribute [local go_sem] max2_int min2_int max_two min_two max_three min_three max_four min_four   -- for this text's walks alone
set_option linter.unusedVariables false
set_option linter.unusedSimpArgs false

/-! ### rollbacknetlaw27_DeterminantIntervals: function 8 -/
mutual
def rollbacknetlaw27_DeterminantIntervals.l0 : Nat → Int → List (S37) → List Int → List (S39) → Int → Int → List Int → Int → Option (Bool)
 | 0, _, _, _, _, _, _, _, _ => none
 | k + 1, x3, x4, x5, x6, x7, x8, x9, x10 => if x10 < (x5.length : Int) then (if 0 ≤ x10 then (if (rd x5 x10) ≥ 0 then (rollbacknetlaw27_DeterminantIntervals.j1 k x3 x4 x5 x6 x7 x8 x9 x10 (decide ((rd x5 x10) ≤ (x4.length : Int)))) else (rollbacknetlaw27_DeterminantIntervals.j1 k x3 x4 x5 x6 x7 x8 x9 x10 false)) else (none)) else (if x7 < 0 then ((determinant_Restorable.f x3 x4 x9 x6).bind fun t459 => (some ((t459.length : Int) == 0))) else (if 0 ≤ x8 then (if x8 ≤ (x4.length : Int) then ((determinant_Lineage.f k x3 (x4.take (x8 : Int).toNat)).bind fun t466 => ((determinant_Merge.f k x6 t466).bind fun t469 => ((determinant_Restorable.f x3 x4 x9 t469).bind fun t472 => (if (t472.length : Int) = 0 then (rollbacknetlaw27_DeterminantIntervals.j2 k t472 true) else (if 0 < (t472.length : Int) then (if (rd t472 0) = x7 then (if 0 ≤ (wrap64 ((t472.length : Int) - 1)) then (if (wrap64 ((t472.length : Int) - 1)) < (t472.length : Int) then (rollbacknetlaw27_DeterminantIntervals.j2 k t472 (decide ((rd t472 (wrap64 ((t472.length : Int) - 1))) < x8))) else (none)) else (none)) else (rollbacknetlaw27_DeterminantIntervals.j2 k t472 true)) else (none)))))) else (none)) else (none)))
def rollbacknetlaw27_DeterminantIntervals.j1 : Nat → Int → List (S37) → List Int → List (S39) → Int → Int → List Int → Int → Bool → Option (Bool)
 | 0, _, _, _, _, _, _, _, _, _ => none
 | k + 1, x3, x4, x5, x6, x7, x8, x9, x10, x41 => if x41 = true then (if 0 ≤ x10 then (if x10 < (x5.length : Int) then (if x9.length < 17592186044416 then ((some (x9 ++ [rd x5 x10] : List Int)).bind fun y450 => (if x7 < 0 then (rollbacknetlaw27_DeterminantIntervals.l0 k x3 x4 x5 x6 (rd x5 x10) (mx x8 (rd x5 x10)) y450 (wrap64 (x10 + 1))) else (if (rd x5 x10) < x7 then (rollbacknetlaw27_DeterminantIntervals.l0 k x3 x4 x5 x6 (rd x5 x10) (mx x8 (rd x5 x10)) y450 (wrap64 (x10 + 1))) else (rollbacknetlaw27_DeterminantIntervals.l0 k x3 x4 x5 x6 x7 (mx x8 (rd x5 x10)) y450 (wrap64 (x10 + 1)))))) else (none)) else (none)) else (none)) else (rollbacknetlaw27_DeterminantIntervals.l0 k x3 x4 x5 x6 x7 x8 x9 (wrap64 (x10 + 1)))
def rollbacknetlaw27_DeterminantIntervals.j2 : Nat → List Int → Bool → Option (Bool)
 | 0, _, _ => none
 | k + 1, x11, x108 => if x108 = true then (some false) else (rollbacknetlaw27_DeterminantIntervals.l1 k x11 0)
def rollbacknetlaw27_DeterminantIntervals.l1 : Nat → List Int → Int → Option (Bool)
 | 0, _, _ => none
 | k + 1, x11, x12 => if (wrap64 (x12 + 1)) < (x11.length : Int) then (if 0 ≤ (wrap64 (x12 + 1)) then (if 0 ≤ x12 then (if x12 < (x11.length : Int) then (if (rd x11 (wrap64 (x12 + 1))) = (wrap64 ((rd x11 x12) + 1)) then (rollbacknetlaw27_DeterminantIntervals.l1 k x11 (wrap64 (x12 + 1))) else (some false)) else (none)) else (none)) else (none)) else (some true)
end
def rollbacknetlaw27_DeterminantIntervals.f (k : Nat) (l0 : List Int) : Option (Bool) := (rollbacknetlaw27_awake.f k).bind fun t436 => (if t436 = true then ((rollbacknetlaw27_scene.f k l0).bind fun bt437 => (rollbacknetlaw27_DeterminantIntervals.l0 k bt437.1 bt437.2.1 bt437.2.2.1 bt437.2.2.2 (-1) (-1) ([] : List Int) 0)) else (some false))
theorem rollbacknetlaw27_DeterminantIntervals.mono_l : ∀ k, (∀ y0 y1 y2 y3 y4 y5 y6 y7, LeO (rollbacknetlaw27_DeterminantIntervals.l0 k y0 y1 y2 y3 y4 y5 y6 y7) (rollbacknetlaw27_DeterminantIntervals.l0 (k + 1) y0 y1 y2 y3 y4 y5 y6 y7)) ∧ (∀ y0 y1 y2 y3 y4 y5 y6 y7 y8, LeO (rollbacknetlaw27_DeterminantIntervals.j1 k y0 y1 y2 y3 y4 y5 y6 y7 y8) (rollbacknetlaw27_DeterminantIntervals.j1 (k + 1) y0 y1 y2 y3 y4 y5 y6 y7 y8)) ∧ (∀ y0 y1, LeO (rollbacknetlaw27_DeterminantIntervals.j2 k y0 y1) (rollbacknetlaw27_DeterminantIntervals.j2 (k + 1) y0 y1)) ∧ (∀ y0 y1, LeO (rollbacknetlaw27_DeterminantIntervals.l1 k y0 y1) (rollbacknetlaw27_DeterminantIntervals.l1 (k + 1) y0 y1))
 | 0 => ⟨fun _ _ _ _ _ _ _ _ r h => by simp [rollbacknetlaw27_DeterminantIntervals.l0] at h, fun _ _ _ _ _ _ _ _ _ r h => by simp [rollbacknetlaw27_DeterminantIntervals.j1] at h, fun _ _ r h => by simp [rollbacknetlaw27_DeterminantIntervals.j2] at h, fun _ _ r h => by simp [rollbacknetlaw27_DeterminantIntervals.l1] at h⟩
 | k + 1 => by
  obtain ⟨ih0, ih1, ih2, ih3⟩ := rollbacknetlaw27_DeterminantIntervals.mono_l k
  refine ⟨?_, ?_, ?_, ?_⟩
  ·intro y0 y1 y2 y3 y4 y5 y6 y7
   unfold rollbacknetlaw27_DeterminantIntervals.l0
   repeat' first
   | (with_reducible exact ih0 _ _ _ _ _ _ _ _)
   | (with_reducible exact ih1 _ _ _ _ _ _ _ _ _)
   | (with_reducible exact ih2 _ _)
   | (with_reducible exact ih3 _ _)
   | (with_reducible exact determinant_Lineage.mono _ _ _)
   | (with_reducible exact determinant_Merge.mono _ _ _)
   | (with_reducible exact rollbacknetlaw27_awake.mono _)
   | (with_reducible exact rollbacknetlaw27_scene.mono _ _)
   | (with_reducible exact LeO.refl _)
   | (with_reducible exact LeO.none _)
   | (with_reducible refine LeO.ite ?_ ?_)
   | (with_reducible refine LeO.bind ?_ (fun _ => ?_))
   | exact ih0 _ _ _ _ _ _ _ _
   | exact ih1 _ _ _ _ _ _ _ _ _
   | exact ih2 _ _
   | exact ih3 _ _
   | exact determinant_Lineage.mono _ _ _
   | exact determinant_Merge.mono _ _ _
   | exact rollbacknetlaw27_awake.mono _
   | exact rollbacknetlaw27_scene.mono _ _
   | exact LeO.none _
   | refine LeO.ite ?_ ?_
   | refine LeO.bind ?_ (fun _ => ?_)
  ·intro y0 y1 y2 y3 y4 y5 y6 y7 y8
   unfold rollbacknetlaw27_DeterminantIntervals.j1
   repeat' first
   | (with_reducible exact ih0 _ _ _ _ _ _ _ _)
   | (with_reducible exact ih1 _ _ _ _ _ _ _ _ _)
   | (with_reducible exact ih2 _ _)
   | (with_reducible exact ih3 _ _)
   | (with_reducible exact determinant_Lineage.mono _ _ _)
   | (with_reducible exact determinant_Merge.mono _ _ _)
   | (with_reducible exact rollbacknetlaw27_awake.mono _)
   | (with_reducible exact rollbacknetlaw27_scene.mono _ _)
   | (with_reducible exact LeO.refl _)
   | (with_reducible exact LeO.none _)
   | (with_reducible refine LeO.ite ?_ ?_)
   | (with_reducible refine LeO.bind ?_ (fun _ => ?_))
   | exact ih0 _ _ _ _ _ _ _ _
   | exact ih1 _ _ _ _ _ _ _ _ _
   | exact ih2 _ _
   | exact ih3 _ _
   | exact determinant_Lineage.mono _ _ _
   | exact determinant_Merge.mono _ _ _
   | exact rollbacknetlaw27_awake.mono _
   | exact rollbacknetlaw27_scene.mono _ _
   | exact LeO.none _
   | refine LeO.ite ?_ ?_
   | refine LeO.bind ?_ (fun _ => ?_)
  ·intro y0 y1
   unfold rollbacknetlaw27_DeterminantIntervals.j2
   repeat' first
   | (with_reducible exact ih0 _ _ _ _ _ _ _ _)
   | (with_reducible exact ih1 _ _ _ _ _ _ _ _ _)
   | (with_reducible exact ih2 _ _)
   | (with_reducible exact ih3 _ _)
   | (with_reducible exact determinant_Lineage.mono _ _ _)
   | (with_reducible exact determinant_Merge.mono _ _ _)
   | (with_reducible exact rollbacknetlaw27_awake.mono _)
   | (with_reducible exact rollbacknetlaw27_scene.mono _ _)
   | (with_reducible exact LeO.refl _)
   | (with_reducible exact LeO.none _)
   | (with_reducible refine LeO.ite ?_ ?_)
   | (with_reducible refine LeO.bind ?_ (fun _ => ?_))
   | exact ih0 _ _ _ _ _ _ _ _
   | exact ih1 _ _ _ _ _ _ _ _ _
   | exact ih2 _ _
   | exact ih3 _ _
   | exact determinant_Lineage.mono _ _ _
   | exact determinant_Merge.mono _ _ _
   | exact rollbacknetlaw27_awake.mono _
   | exact rollbacknetlaw27_scene.mono _ _
   | exact LeO.none _
   | refine LeO.ite ?_ ?_
   | refine LeO.bind ?_ (fun _ => ?_)
  ·intro y0 y1
   unfold rollbacknetlaw27_DeterminantIntervals.l1
   repeat' first
   | (with_reducible exact ih0 _ _ _ _ _ _ _ _)
   | (with_reducible exact ih1 _ _ _ _ _ _ _ _ _)
   | (with_reducible exact ih2 _ _)
   | (with_reducible exact ih3 _ _)
   | (with_reducible exact determinant_Lineage.mono _ _ _)
   | (with_reducible exact determinant_Merge.mono _ _ _)
   | (with_reducible exact rollbacknetlaw27_awake.mono _)
   | (with_reducible exact rollbacknetlaw27_scene.mono _ _)
   | (with_reducible exact LeO.refl _)
   | (with_reducible exact LeO.none _)
   | (with_reducible refine LeO.ite ?_ ?_)
   | (with_reducible refine LeO.bind ?_ (fun _ => ?_))
   | exact ih0 _ _ _ _ _ _ _ _
   | exact ih1 _ _ _ _ _ _ _ _ _
   | exact ih2 _ _
   | exact ih3 _ _
   | exact determinant_Lineage.mono _ _ _
   | exact determinant_Merge.mono _ _ _
   | exact rollbacknetlaw27_awake.mono _
   | exact rollbacknetlaw27_scene.mono _ _
   | exact LeO.none _
   | refine LeO.ite ?_ ?_
   | refine LeO.bind ?_ (fun _ => ?_)
theorem rollbacknetlaw27_DeterminantIntervals.mono : ∀ a0 k, LeO (rollbacknetlaw27_DeterminantIntervals.f k a0) (rollbacknetlaw27_DeterminantIntervals.f (k + 1) a0) := by
 intro a0 k
 obtain ⟨ih0, ih1, ih2, ih3⟩ := rollbacknetlaw27_DeterminantIntervals.mono_l k
 unfold rollbacknetlaw27_DeterminantIntervals.f
 repeat' first
   | (with_reducible exact ih0 _ _ _ _ _ _ _ _)
   | (with_reducible exact ih1 _ _ _ _ _ _ _ _ _)
   | (with_reducible exact ih2 _ _)
   | (with_reducible exact ih3 _ _)
   | (with_reducible exact determinant_Lineage.mono _ _ _)
   | (with_reducible exact determinant_Merge.mono _ _ _)
   | (with_reducible exact rollbacknetlaw27_awake.mono _)
   | (with_reducible exact rollbacknetlaw27_scene.mono _ _)
   | (with_reducible exact LeO.refl _)
   | (with_reducible exact LeO.none _)
   | (with_reducible refine LeO.ite ?_ ?_)
   | (with_reducible refine LeO.bind ?_ (fun _ => ?_))
   | exact ih0 _ _ _ _ _ _ _ _
   | exact ih1 _ _ _ _ _ _ _ _ _
   | exact ih2 _ _
   | exact ih3 _ _
   | exact determinant_Lineage.mono _ _ _
   | exact determinant_Merge.mono _ _ _
   | exact rollbacknetlaw27_awake.mono _
   | exact rollbacknetlaw27_scene.mono _ _
   | exact LeO.none _
   | refine LeO.ite ?_ ?_
   | refine LeO.bind ?_ (fun _ => ?_)
set_option maxHeartbeats 8000000 in
set_option maxRecDepth 100000 in
theorem rollbacknetlaw27_DeterminantIntervals.calls (k : Nat) (A0 : Option Addr) (c0 : Nat) (l0 : List Int) (r : Bool) (w : World) (hr0 : Kd.C (Kd.int .u8) w A0 l0.length l0) (hc0 : l0.length ≤ c0) (h : rollbacknetlaw27_DeterminantIntervals.f k l0 = some r) :
  Calls Try.prog 8 #[.slice A0 l0.length c0] w fun e w' => e = .returned (.bool r) ∧ Below w.heap.size w w' := by
 have HR0 := Aside0.mk hr0
 have HC0 := Aside0.mk hc0
 clear hr0 hc0
 have HB := Aside0.mk (Below.refl w.heap.size w)
 have H : ((rollbacknetlaw27_awake.f k).bind fun t436 => (if t436 = true then ((rollbacknetlaw27_scene.f k l0).bind fun bt437 => (rollbacknetlaw27_DeterminantIntervals.l0 k bt437.1 bt437.2.1 bt437.2.2.1 bt437.2.2.2 (-1) (-1) ([] : List Int) 0)) else (some false))) = some r := h
 clear h
 replace H := Option.bind_eq_some_iff.mp H
 obtain ⟨t436, A20, H⟩ := H
 replace H : (if t436 = true then ((rollbacknetlaw27_scene.f k l0).bind fun bt437 => (rollbacknetlaw27_DeterminantIntervals.l0 k bt437.1 bt437.2.1 bt437.2.2.1 bt437.2.2.2 (-1) (-1) ([] : List Int) 0)) else (some false)) = some r := H
 have A2 := Aside0.mk A20
 clear A20
 by_cases c3 : t436 = true
 ·subst c3
  have H1 : ((rollbacknetlaw27_scene.f k l0).bind fun bt437 => (rollbacknetlaw27_DeterminantIntervals.l0 k bt437.1 bt437.2.1 bt437.2.2.1 bt437.2.2.2 (-1) (-1) ([] : List Int) 0)) = some r := by rw [if_pos rfl] at H; exact H
  clear H
  have H := H1
  clear H1
  replace H := Option.bind_eq_some_iff.mp H
  obtain ⟨⟨t437, t438, t439, t440⟩, A40, H⟩ := H
  replace H : (rollbacknetlaw27_DeterminantIntervals.l0 k t437 t438 t439 t440 (-1) (-1) ([] : List Int) 0) = some r := H
  have A4 := Aside0.mk A40
  clear A40
  have H' := Aside0.mk H
  clear H
  go_enter Try.func8, Try.ntmps8
  go_wp2_with (first | (go_at_call 12; (with_reducible refine (rollbacknetlaw27_awake.calls k  true _ A2.out).mono ?_); rintro e w5 ⟨rfl, hb⟩; have n0_ := Aside0.mk (below_step (bq HB.out) hb); clear HB; have HB := n0_; clear n0_; (try clear hb); (try clear hb2); (try clear hk); (try clear hi)) | (go_at_call 13; (with_reducible refine (rollbacknetlaw27_scene.calls k _ _ l0 t437 t438 t439 t440 _ ?side1 ?side2 A4.out).mono ?_); (case side1 => repeat (first | exact (Kd.C_below HR0.out HB.out) | (with_reducible refine Kd.C_alloc ?_ _) | (with_reducible refine Kd.C_drewN ?_ _) | (with_reducible refine Kd.C_drew ?_))); (case side2 => exact HC0.out); rintro e w6 ⟨v441, v443, v445, rfl, ho0, ho1, ho2, hb⟩; have n0_ := Aside0.mk (Kd.R_lower ho0 (below_size (bq HB.out))); have n1_ := Aside0.mk (Kd.R_lower ho1 (below_size (bq HB.out))); have n2_ := Aside0.mk (Kd.R_lower ho2 (below_size (bq HB.out))); have n3_ := Aside0.mk (below_step (bq HB.out) hb); clear HB; have HO442 := n0_; have HO444 := n1_; have HO446 := n2_; have HB := n3_; clear n0_ n1_ n2_ n3_; (try clear hb); (try clear hb2); (try clear hk); (try clear hi); (try clear ho0); (try clear ho1); (try clear ho2)))
  repeat (go_quiet (first | (go_at_call 12; (with_reducible refine (rollbacknetlaw27_awake.calls k  true _ A2.out).mono ?_); rintro e w5 ⟨rfl, hb⟩; have n0_ := Aside0.mk (below_step (bq HB.out) hb); clear HB; have HB := n0_; clear n0_; (try clear hb); (try clear hb2); (try clear hk); (try clear hi)) | (go_at_call 13; (with_reducible refine (rollbacknetlaw27_scene.calls k _ _ l0 t437 t438 t439 t440 _ ?side1 ?side2 A4.out).mono ?_); (case side1 => repeat (first | exact (Kd.C_below HR0.out HB.out) | (with_reducible refine Kd.C_alloc ?_ _) | (with_reducible refine Kd.C_drewN ?_ _) | (with_reducible refine Kd.C_drew ?_))); (case side2 => exact HC0.out); rintro e w6 ⟨v441, v443, v445, rfl, ho0, ho1, ho2, hb⟩; have n0_ := Aside0.mk (Kd.R_lower ho0 (below_size (bq HB.out))); have n1_ := Aside0.mk (Kd.R_lower ho1 (below_size (bq HB.out))); have n2_ := Aside0.mk (Kd.R_lower ho2 (below_size (bq HB.out))); have n3_ := Aside0.mk (below_step (bq HB.out) hb); clear HB; have HO442 := n0_; have HO444 := n1_; have HO446 := n2_; have HB := n3_; clear n0_ n1_ n2_ n3_; (try clear hb); (try clear hb2); (try clear hk); (try clear hi); (try clear ho0); (try clear ho1); (try clear ho2))); try go_wp2_with (first | (go_at_call 12; (with_reducible refine (rollbacknetlaw27_awake.calls k  true _ A2.out).mono ?_); rintro e w5 ⟨rfl, hb⟩; have n0_ := Aside0.mk (below_step (bq HB.out) hb); clear HB; have HB := n0_; clear n0_; (try clear hb); (try clear hb2); (try clear hk); (try clear hi)) | (go_at_call 13; (with_reducible refine (rollbacknetlaw27_scene.calls k _ _ l0 t437 t438 t439 t440 _ ?side1 ?side2 A4.out).mono ?_); (case side1 => repeat (first | exact (Kd.C_below HR0.out HB.out) | (with_reducible refine Kd.C_alloc ?_ _) | (with_reducible refine Kd.C_drewN ?_ _) | (with_reducible refine Kd.C_drew ?_))); (case side2 => exact HC0.out); rintro e w6 ⟨v441, v443, v445, rfl, ho0, ho1, ho2, hb⟩; have n0_ := Aside0.mk (Kd.R_lower ho0 (below_size (bq HB.out))); have n1_ := Aside0.mk (Kd.R_lower ho1 (below_size (bq HB.out))); have n2_ := Aside0.mk (Kd.R_lower ho2 (below_size (bq HB.out))); have n3_ := Aside0.mk (below_step (bq HB.out) hb); clear HB; have HO442 := n0_; have HO444 := n1_; have HO446 := n2_; have HB := n3_; clear n0_ n1_ n2_ n3_; (try clear hb); (try clear hb2); (try clear hk); (try clear hi); (try clear ho0); (try clear ho1); (try clear ho2))))
  go_loopg [7, 8, 9, 10] k (fun kq v7 v8 v9 v10 w' => ∃ (x7_1 : Int) (x8_1 : Int) (x9_1 : List Int) (x10_1 : Int), v7 = .int .i64 x7_1 ∧ v8 = .int .i64 x8_1 ∧ v10 = .int .i64 x10_1 ∧ Aside0 (rollbacknetlaw27_DeterminantIntervals.l0 kq t437 t438 t439 t440 x7_1 x8_1 x9_1 x10_1 = some r) ∧ Aside0 (kq ≤ k) ∧ Aside0 (Kd.R k37 37 w' w.heap.size (fun _ => True) v441 t438) ∧ Aside0 (Kd.R (Kd.int .i64) 3 w' w.heap.size (fun k_ => some k_ ≠ (v9 : Value).ownBlock) v443 t439) ∧ Aside0 (Kd.R k39 39 w' w.heap.size (fun _ => True) v445 t440) ∧ Aside0 (Kd.R (Kd.int .i64) 3 w' w.heap.size (fun k_ => some k_ ≠ (v443 : Value).ownBlock) v9 x9_1) ∧ Aside0 (Below w.heap.size w w'))
  case atStart => exact ⟨((-1)), ((-1)), (([] : List Int)), (0), (by first | rfl | (simp; done) | (simp [*]; done)), (by first | rfl | (simp; done) | (simp [*]; done)), (by first | rfl | (simp; done) | (simp [*]; done)), H', ⟨Nat.le_refl _⟩, ⟨rq HO442.out⟩, ⟨by (with_reducible repeat (first | apply Kd.R_alloc | apply Kd.R_drewN | apply Kd.R_drew)); exact Kd.R_mono HO444.out (fun _ hk => (by simp [Value.ownBlock]))⟩, ⟨rq HO446.out⟩, ⟨by first | exact Kd.R_nil _ _ _ _ _ | exact Kd.N_nil _ _ _ _ _ | exact Kd.V_nil _ _ _ _ _ | exact Kd.Q_nil _ _ _ _ _ | exact Kd.S_nil _ _ _ _ _⟩, ⟨bq HB.out⟩⟩
  case round =>
   clear H'
   try clear p2
   try clear c3
   obtain ⟨x7_1, x8_1, x9_1, x10_1, rfl, rfl, rfl, HA, HK1, HO_4, HO_5, HO_6, HO_9, HB⟩ := hrel
   cases gk with
   | zero => exact absurd HA.out (by simp [rollbacknetlaw27_DeterminantIntervals.l0])
   | succ k1 =>
    have H := HA.out
    clear HA
    simp only [rollbacknetlaw27_DeterminantIntervals.l0] at H
    by_cases c7 : x10_1 < (t439.length : Int)
    ·rw [if_pos c7] at H
     have c7b0 : decide (x10_1 < (t439.length : Int)) = true := decide_eq_true c7
     clear c7
     have HC8 := Aside0.mk H
     clear H
     obtain ⟨Ao9, co9, eo9⟩ := Kd.R_slice HO_5.out
     subst eo9
     go_upto_region 9 with (fail)
     repeat (go_quiet (fail); go_upto_region 9 with (fail))
     go_cut [41] (fun v41 wc => ∃ (kq : Nat) (x41_7 : Bool), v41 = .bool x41_7 ∧ Aside0 (rollbacknetlaw27_DeterminantIntervals.j1 kq t437 t438 t439 t440 x7_1 x8_1 x9_1 x10_1 x41_7 = some r) ∧ Aside0 (kq ≤ k1) ∧ Aside0 (Kd.R k37 37 wc w.heap.size (fun _ => True) v441 t438) ∧ Aside0 (Kd.R (Kd.int .i64) 3 wc w.heap.size (fun k_ => some k_ ≠ (u9 : Value).ownBlock) (.slice Ao9 t439.length co9) t439) ∧ Aside0 (Kd.R k39 39 wc w.heap.size (fun _ => True) v445 t440) ∧ Aside0 (Kd.R (Kd.int .i64) 3 wc w.heap.size (fun k_ => some k_ ≠ ((.slice Ao9 t439.length co9) : Value).ownBlock) u9 x9_1) ∧ Aside0 (Below w.heap.size w wc))
     case first =>
      have H := HC8.out
      clear HC8
      by_cases c10 : 0 ≤ x10_1
      ·rw [if_pos c10] at H
       have c10b0 : decide (0 ≤ x10_1) = true := decide_eq_true c10
       clear c10
       (first | rw [c10b0] | (simp only [i64_w, i32_w]; rw [c10b0]) | skip)
       by_cases c11 : (rd t439 x10_1) ≥ 0
       ·rw [if_pos c11] at H
        have c11b0 : decide (0 ≤ (rd t439 x10_1)) = true := decide_eq_true c11
        clear c11
        have H' := Aside0.mk H
        clear H
        have p447 : 0 ≤ (x10_1 : Int) := of_decide_eq_true (by first | (with_reducible assumption) | assumption)
        have q447 : x10_1 < (t439.length : Int) := of_decide_eq_true (by first | (with_reducible assumption) | assumption)
        obtain ⟨ad447, e447, hx447_0⟩ := Kd.at_int (Kd.R_reads' HO_5.out).2.2 x10_1 p447 q447
        cases e447
        replace p447 := eq_true p447
        replace q447 := eq_true q447
        have p448 : 0 ≤ (x10_1 : Int) := of_decide_eq_true (by first | (with_reducible assumption) | assumption)
        have q448 : x10_1 < (t439.length : Int) := of_decide_eq_true (by first | (with_reducible assumption) | assumption)
        obtain ⟨ad448, e448, hx448_0⟩ := Kd.at_int (Kd.R_reads' HO_5.out).2.2 x10_1 p448 q448
        obtain rfl : ad447 = ad448 := (by injection e448)
        replace p448 := eq_true p448
        replace q448 := eq_true q448
        obtain ⟨Ao12, co12, eo12⟩ := Kd.R_slice HO_4.out
        subst eo12
        go_wp2
        repeat (go_quiet (fail); try go_wp2)
        go_meet
        case rel => exact ⟨_, (decide ((rd t439 x10_1) ≤ (t438.length : Int))), (by first | rfl | (simp; done) | (simp [*]; done)), H', ⟨by have := HK1.out; first | omega | exact Nat.le_refl _⟩, ⟨rq HO_4.out⟩, ⟨rq HO_5.out⟩, ⟨rq HO_6.out⟩, ⟨rq HO_9.out⟩, ⟨bq HB.out⟩⟩
       ·rw [if_neg c11] at H
        have c11b0 : decide (0 ≤ (rd t439 x10_1)) = false := decide_eq_false c11
        clear c11
        have H' := Aside0.mk H
        clear H
        have p447 : 0 ≤ (x10_1 : Int) := of_decide_eq_true (by first | (with_reducible assumption) | assumption)
        have q447 : x10_1 < (t439.length : Int) := of_decide_eq_true (by first | (with_reducible assumption) | assumption)
        obtain ⟨ad447, e447, hx447_0⟩ := Kd.at_int (Kd.R_reads' HO_5.out).2.2 x10_1 p447 q447
        cases e447
        replace p447 := eq_true p447
        replace q447 := eq_true q447
        go_wp2
        repeat (go_quiet (fail); try go_wp2)
        go_meet
        case rel => exact ⟨_, (false), (by first | rfl | (simp; done) | (simp [*]; done)), H', ⟨by have := HK1.out; first | omega | exact Nat.le_refl _⟩, ⟨rq HO_4.out⟩, ⟨rq HO_5.out⟩, ⟨rq HO_6.out⟩, ⟨rq HO_9.out⟩, ⟨bq HB.out⟩⟩
      ·rw [if_neg c10] at H
       exact absurd H (by simp)
     case rest =>
      clear HC8
      try clear c1
      try clear p2
      try clear c3
      try clear p4
      try clear q4
      try clear hx4
      try clear c7
      try clear c7b0
      try clear c8
      try clear c10
      try clear c10b0
      try clear c11
      try clear c11b0
      try clear hx447_0
      try clear hx448_0
      try clear p2
      try clear p447
      try clear p448
      try clear q447
      try clear q448
      obtain ⟨kq, x41_7, rfl, HA, HJ7, HO_4, HO_5, HO_6, HO_9, HB⟩ := hcut
      cases kq with
      | zero => exact absurd HA.out (by simp [rollbacknetlaw27_DeterminantIntervals.j1])
      | succ kj7 =>
       have H := HA.out
       clear HA
       simp only [rollbacknetlaw27_DeterminantIntervals.j1] at H
       by_cases c13 : x41_7 = true
       ·subst c13
        have H1 : (if 0 ≤ x10_1 then (if x10_1 < (t439.length : Int) then (if x9_1.length < 17592186044416 then ((some (x9_1 ++ [rd t439 x10_1] : List Int)).bind fun y450 => (if x7_1 < 0 then (rollbacknetlaw27_DeterminantIntervals.l0 kj7 t437 t438 t439 t440 (rd t439 x10_1) (mx x8_1 (rd t439 x10_1)) y450 (wrap64 (x10_1 + 1))) else (if (rd t439 x10_1) < x7_1 then (rollbacknetlaw27_DeterminantIntervals.l0 kj7 t437 t438 t439 t440 (rd t439 x10_1) (mx x8_1 (rd t439 x10_1)) y450 (wrap64 (x10_1 + 1))) else (rollbacknetlaw27_DeterminantIntervals.l0 kj7 t437 t438 t439 t440 x7_1 (mx x8_1 (rd t439 x10_1)) y450 (wrap64 (x10_1 + 1)))))) else (none)) else (none)) else (none)) = some r := by rw [if_pos rfl] at H; exact H
        clear H
        have H := H1
        clear H1
        by_cases c14 : 0 ≤ x10_1
        ·rw [if_pos c14] at H
         have c14b0 : decide (0 ≤ x10_1) = true := decide_eq_true c14
         clear c14
         by_cases c15 : x10_1 < (t439.length : Int)
         ·rw [if_pos c15] at H
          have c15b0 : decide (x10_1 < (t439.length : Int)) = true := decide_eq_true c15
          clear c15
          by_cases c16 : x9_1.length < 17592186044416
          ·rw [if_pos c16] at H
           have LMc16 := Aside0.mk c16
           clear c16
           obtain ⟨y450, hy450⟩ : ∃ y_ : List Int, y_ = (x9_1 ++ [rd t439 x10_1]) := ⟨_, rfl⟩
           replace H : (if x7_1 < 0 then (rollbacknetlaw27_DeterminantIntervals.l0 kj7 t437 t438 t439 t440 (rd t439 x10_1) (mx x8_1 (rd t439 x10_1)) y450 (wrap64 (x10_1 + 1))) else (if (rd t439 x10_1) < x7_1 then (rollbacknetlaw27_DeterminantIntervals.l0 kj7 t437 t438 t439 t440 (rd t439 x10_1) (mx x8_1 (rd t439 x10_1)) y450 (wrap64 (x10_1 + 1))) else (rollbacknetlaw27_DeterminantIntervals.l0 kj7 t437 t438 t439 t440 x7_1 (mx x8_1 (rd t439 x10_1)) y450 (wrap64 (x10_1 + 1))))) = some r := by first | (rw [hy450]; with_reducible exact H) | (have H2_ := (Option.bind_some _ _).symm.trans H; rw [hy450]; with_reducible exact H2_) | (have H2_ := (Option.bind_some _ _).symm.trans H; with_reducible exact H2_) | with_reducible exact H | (rw [hy450]; exact H) | exact H
           have Ny450 := Aside0.mk hy450
           clear hy450
           by_cases c17 : x7_1 < 0
           ·rw [if_pos c17] at H
            have c17b0 : decide (x7_1 < 0) = true := decide_eq_true c17
            clear c17
            obtain ⟨ji18, hji18⟩ : ∃ j_ : Int, (mx x8_1 (rd t439 x10_1)) = j_ := ⟨_, rfl⟩
            replace H : (rollbacknetlaw27_DeterminantIntervals.l0 kj7 t437 t438 t439 t440 (rd t439 x10_1) ji18 y450 (wrap64 (x10_1 + 1))) = some r := by first | (rw [hji18] at H; exact H) | (simp only [hji18] at H ⊢; exact H)
            have hji18_ : (if x8_1 < (rd t439 x10_1) then (rd t439 x10_1) else x8_1) = ji18 := hji18
            have H' := Aside0.mk H
            clear H
            have p449 : 0 ≤ (x10_1 : Int) := of_decide_eq_true (by first | (with_reducible assumption) | assumption)
            have q449 : x10_1 < (t439.length : Int) := of_decide_eq_true (by first | (with_reducible assumption) | assumption)
            obtain ⟨ad449, e449, hx449_0⟩ := Kd.at_int (Kd.R_reads' HO_5.out).2.2 x10_1 p449 q449
            cases e449
            replace p449 := eq_true p449
            replace q449 := eq_true q449
            go_wp2_with (first | ((with_reducible refine gate_builtin (b := .append) (xs := #[.tmp 42, .tmp 47]) rfl ?_); (try (refine gate_guard (by rfl) ?_; dsimp only)); at_builtin; refine Kd.R_append (Kd.int .i64) (w0 := w) w.heap.size rfl (.tmp 42) (.tmp 47) 23 3 (.int .i64 0) 8 rfl Try.underlying23 info3 rfl (by decide) (by omega) u9 x9_1 (rd t439 x10_1) [.int .i64 (rd t439 x10_1)] (fun k_ => some k_ ≠ (.slice (some ad449) t439.length co9 : Value).ownBlock) (fun _ => False) rfl rfl ?aP (fun _ hk => hk.elim) ?aF ?aO ?aB ?aS ?aL ?_; (case aP => exact rfl); (case aB => exact (bq HB.out)); (case aF => exact (fun k_ hk => Kd.fresh' (Kd.R_lt (rq HO_5.out)) k_ hk)); (case aO => exact (rq HO_9.out)); (case aS => exact (below_size (bq HB.out))); (case aL => have := LMc16.out; omega); intro v451 w19 ho hb hg hat; rw [← Ny450.out] at ho; have n0_ := Aside0.mk (Kd.R_over' (rq HO_4.out) (Kd.R_typed (rq HO_9.out)) (by decide) hg); have n1_ := Aside0.mk (Kd.R_after (ok := (fun _ => True)) (by (with_reducible repeat (first | apply Kd.R_alloc | apply Kd.R_drewN | apply Kd.R_drew)); exact Kd.R_mono HO_5.out (fun _ hk => ⟨trivial, hk⟩)) hg hat); have n2_ := Aside0.mk (Kd.R_over' (rq HO_6.out) (Kd.R_typed (rq HO_9.out)) (by decide) hg); have n3_ := Aside0.mk (hb); have n4_ := Aside0.mk (ho); clear HO_4; clear HO_5; clear HO_6; clear HB; clear HO_9; have HO_4 := n0_; have HO_5 := n1_; have HO_6 := n2_; have HB := n3_; have HO452 := n4_; clear n0_ n1_ n2_ n3_ n4_; clear ho hb hg hat; have p453 : 0 ≤ (x10_1 : Int) := of_decide_eq_true (by first | (with_reducible assumption) | assumption); have q453 : x10_1 < (t439.length : Int) := of_decide_eq_true (by first | (with_reducible assumption) | assumption); obtain ⟨ad453, e453, hx453_0⟩ := Kd.at_int (Kd.R_reads' HO_5.out).2.2 x10_1 p453 q453; obtain rfl : ad449 = ad453 := (by injection e453); replace p453 := eq_true p453; replace q453 := eq_true q453; have p454 : 0 ≤ (x10_1 : Int) := of_decide_eq_true (by first | (with_reducible assumption) | assumption); have q454 : x10_1 < (t439.length : Int) := of_decide_eq_true (by first | (with_reducible assumption) | assumption); obtain ⟨ad454, e454, hx454_0⟩ := Kd.at_int (Kd.R_reads' HO_5.out).2.2 x10_1 p454 q454; obtain rfl : ad449 = ad454 := (by injection e454); replace p454 := eq_true p454; replace q454 := eq_true q454))
            repeat (go_quiet (first | ((with_reducible refine gate_builtin (b := .append) (xs := #[.tmp 42, .tmp 47]) rfl ?_); (try (refine gate_guard (by rfl) ?_; dsimp only)); at_builtin; refine Kd.R_append (Kd.int .i64) (w0 := w) w.heap.size rfl (.tmp 42) (.tmp 47) 23 3 (.int .i64 0) 8 rfl Try.underlying23 info3 rfl (by decide) (by omega) u9 x9_1 (rd t439 x10_1) [.int .i64 (rd t439 x10_1)] (fun k_ => some k_ ≠ (.slice (some ad449) t439.length co9 : Value).ownBlock) (fun _ => False) rfl rfl ?aP (fun _ hk => hk.elim) ?aF ?aO ?aB ?aS ?aL ?_; (case aP => exact rfl); (case aB => exact (bq HB.out)); (case aF => exact (fun k_ hk => Kd.fresh' (Kd.R_lt (rq HO_5.out)) k_ hk)); (case aO => exact (rq HO_9.out)); (case aS => exact (below_size (bq HB.out))); (case aL => have := LMc16.out; omega); intro v451 w19 ho hb hg hat; rw [← Ny450.out] at ho; have n0_ := Aside0.mk (Kd.R_over' (rq HO_4.out) (Kd.R_typed (rq HO_9.out)) (by decide) hg); have n1_ := Aside0.mk (Kd.R_after (ok := (fun _ => True)) (by (with_reducible repeat (first | apply Kd.R_alloc | apply Kd.R_drewN | apply Kd.R_drew)); exact Kd.R_mono HO_5.out (fun _ hk => ⟨trivial, hk⟩)) hg hat); have n2_ := Aside0.mk (Kd.R_over' (rq HO_6.out) (Kd.R_typed (rq HO_9.out)) (by decide) hg); have n3_ := Aside0.mk (hb); have n4_ := Aside0.mk (ho); clear HO_4; clear HO_5; clear HO_6; clear HB; clear HO_9; have HO_4 := n0_; have HO_5 := n1_; have HO_6 := n2_; have HB := n3_; have HO452 := n4_; clear n0_ n1_ n2_ n3_ n4_; clear ho hb hg hat; have p453 : 0 ≤ (x10_1 : Int) := of_decide_eq_true (by first | (with_reducible assumption) | assumption); have q453 : x10_1 < (t439.length : Int) := of_decide_eq_true (by first | (with_reducible assumption) | assumption); obtain ⟨ad453, e453, hx453_0⟩ := Kd.at_int (Kd.R_reads' HO_5.out).2.2 x10_1 p453 q453; obtain rfl : ad449 = ad453 := (by injection e453); replace p453 := eq_true p453; replace q453 := eq_true q453; have p454 : 0 ≤ (x10_1 : Int) := of_decide_eq_true (by first | (with_reducible assumption) | assumption); have q454 : x10_1 < (t439.length : Int) := of_decide_eq_true (by first | (with_reducible assumption) | assumption); obtain ⟨ad454, e454, hx454_0⟩ := Kd.at_int (Kd.R_reads' HO_5.out).2.2 x10_1 p454 q454; obtain rfl : ad449 = ad454 := (by injection e454); replace p454 := eq_true p454; replace q454 := eq_true q454)); try go_wp2_with (first | ((with_reducible refine gate_builtin (b := .append) (xs := #[.tmp 42, .tmp 47]) rfl ?_); (try (refine gate_guard (by rfl) ?_; dsimp only)); at_builtin; refine Kd.R_append (Kd.int .i64) (w0 := w) w.heap.size rfl (.tmp 42) (.tmp 47) 23 3 (.int .i64 0) 8 rfl Try.underlying23 info3 rfl (by decide) (by omega) u9 x9_1 (rd t439 x10_1) [.int .i64 (rd t439 x10_1)] (fun k_ => some k_ ≠ (.slice (some ad449) t439.length co9 : Value).ownBlock) (fun _ => False) rfl rfl ?aP (fun _ hk => hk.elim) ?aF ?aO ?aB ?aS ?aL ?_; (case aP => exact rfl); (case aB => exact (bq HB.out)); (case aF => exact (fun k_ hk => Kd.fresh' (Kd.R_lt (rq HO_5.out)) k_ hk)); (case aO => exact (rq HO_9.out)); (case aS => exact (below_size (bq HB.out))); (case aL => have := LMc16.out; omega); intro v451 w19 ho hb hg hat; rw [← Ny450.out] at ho; have n0_ := Aside0.mk (Kd.R_over' (rq HO_4.out) (Kd.R_typed (rq HO_9.out)) (by decide) hg); have n1_ := Aside0.mk (Kd.R_after (ok := (fun _ => True)) (by (with_reducible repeat (first | apply Kd.R_alloc | apply Kd.R_drewN | apply Kd.R_drew)); exact Kd.R_mono HO_5.out (fun _ hk => ⟨trivial, hk⟩)) hg hat); have n2_ := Aside0.mk (Kd.R_over' (rq HO_6.out) (Kd.R_typed (rq HO_9.out)) (by decide) hg); have n3_ := Aside0.mk (hb); have n4_ := Aside0.mk (ho); clear HO_4; clear HO_5; clear HO_6; clear HB; clear HO_9; have HO_4 := n0_; have HO_5 := n1_; have HO_6 := n2_; have HB := n3_; have HO452 := n4_; clear n0_ n1_ n2_ n3_ n4_; clear ho hb hg hat; have p453 : 0 ≤ (x10_1 : Int) := of_decide_eq_true (by first | (with_reducible assumption) | assumption); have q453 : x10_1 < (t439.length : Int) := of_decide_eq_true (by first | (with_reducible assumption) | assumption); obtain ⟨ad453, e453, hx453_0⟩ := Kd.at_int (Kd.R_reads' HO_5.out).2.2 x10_1 p453 q453; obtain rfl : ad449 = ad453 := (by injection e453); replace p453 := eq_true p453; replace q453 := eq_true q453; have p454 : 0 ≤ (x10_1 : Int) := of_decide_eq_true (by first | (with_reducible assumption) | assumption); have q454 : x10_1 < (t439.length : Int) := of_decide_eq_true (by first | (with_reducible assumption) | assumption); obtain ⟨ad454, e454, hx454_0⟩ := Kd.at_int (Kd.R_reads' HO_5.out).2.2 x10_1 p454 q454; obtain rfl : ad449 = ad454 := (by injection e454); replace p454 := eq_true p454; replace q454 := eq_true q454)))
            go_roundg kj7
            case measure => have := HK1.out; have := HJ7.out; omega
            case rel => exact ⟨(rd t439 x10_1), (ji18), (y450), (wrap64 (x10_1 + 1)), (by first | rfl | (simp; done) | (simp [*]; done)), (by first | rfl | (simp; done) | (simp only [← hji18] <;> (first | rfl | simp)) | (simp [*]; done)), (by first | rfl | (simp; done) | (simp [*]; done)), H', ⟨by have := HK1.out; have := HJ7.out; omega⟩, ⟨rq HO_4.out⟩, ⟨by (with_reducible repeat (first | apply Kd.R_alloc | apply Kd.R_drewN | apply Kd.R_drew)); exact Kd.R_mono HO_5.out (fun _ hk => hk.2)⟩, ⟨rq HO_6.out⟩, ⟨rq HO452.out⟩, ⟨bq HB.out⟩⟩
           ·rw [if_neg c17] at H
            have c17b0 : decide (x7_1 < 0) = false := decide_eq_false c17
            clear c17
            by_cases c20 : (rd t439 x10_1) < x7_1
            ·rw [if_pos c20] at H
             have c20b0 : decide ((rd t439 x10_1) < x7_1) = true := decide_eq_true c20
             clear c20
             obtain ⟨ji21, hji21⟩ : ∃ j_ : Int, (mx x8_1 (rd t439 x10_1)) = j_ := ⟨_, rfl⟩
             replace H : (rollbacknetlaw27_DeterminantIntervals.l0 kj7 t437 t438 t439 t440 (rd t439 x10_1) ji21 y450 (wrap64 (x10_1 + 1))) = some r := by first | (rw [hji21] at H; exact H) | (simp only [hji21] at H ⊢; exact H)
             have hji21_ : (if x8_1 < (rd t439 x10_1) then (rd t439 x10_1) else x8_1) = ji21 := hji21
             have H' := Aside0.mk H
             clear H
             have p449 : 0 ≤ (x10_1 : Int) := of_decide_eq_true (by first | (with_reducible assumption) | assumption)
             have q449 : x10_1 < (t439.length : Int) := of_decide_eq_true (by first | (with_reducible assumption) | assumption)
             obtain ⟨ad449, e449, hx449_0⟩ := Kd.at_int (Kd.R_reads' HO_5.out).2.2 x10_1 p449 q449
             cases e449
             replace p449 := eq_true p449
             replace q449 := eq_true q449
             go_wp2_with (first | ((with_reducible refine gate_builtin (b := .append) (xs := #[.tmp 42, .tmp 47]) rfl ?_); (try (refine gate_guard (by rfl) ?_; dsimp only)); at_builtin; refine Kd.R_append (Kd.int .i64) (w0 := w) w.heap.size rfl (.tmp 42) (.tmp 47) 23 3 (.int .i64 0) 8 rfl Try.underlying23 info3 rfl (by decide) (by omega) u9 x9_1 (rd t439 x10_1) [.int .i64 (rd t439 x10_1)] (fun k_ => some k_ ≠ (.slice (some ad449) t439.length co9 : Value).ownBlock) (fun _ => False) rfl rfl ?aP (fun _ hk => hk.elim) ?aF ?aO ?aB ?aS ?aL ?_; (case aP => exact rfl); (case aB => exact (bq HB.out)); (case aF => exact (fun k_ hk => Kd.fresh' (Kd.R_lt (rq HO_5.out)) k_ hk)); (case aO => exact (rq HO_9.out)); (case aS => exact (below_size (bq HB.out))); (case aL => have := LMc16.out; omega); intro v451 w22 ho hb hg hat; rw [← Ny450.out] at ho; have n0_ := Aside0.mk (Kd.R_over' (rq HO_4.out) (Kd.R_typed (rq HO_9.out)) (by decide) hg); have n1_ := Aside0.mk (Kd.R_after (ok := (fun _ => True)) (by (with_reducible repeat (first | apply Kd.R_alloc | apply Kd.R_drewN | apply Kd.R_drew)); exact Kd.R_mono HO_5.out (fun _ hk => ⟨trivial, hk⟩)) hg hat); have n2_ := Aside0.mk (Kd.R_over' (rq HO_6.out) (Kd.R_typed (rq HO_9.out)) (by decide) hg); have n3_ := Aside0.mk (hb); have n4_ := Aside0.mk (ho); clear HO_4; clear HO_5; clear HO_6; clear HB; clear HO_9; have HO_4 := n0_; have HO_5 := n1_; have HO_6 := n2_; have HB := n3_; have HO452 := n4_; clear n0_ n1_ n2_ n3_ n4_; clear ho hb hg hat; have p455 : 0 ≤ (x10_1 : Int) := of_decide_eq_true (by first | (with_reducible assumption) | assumption); have q455 : x10_1 < (t439.length : Int) := of_decide_eq_true (by first | (with_reducible assumption) | assumption); obtain ⟨ad455, e455, hx455_0⟩ := Kd.at_int (Kd.R_reads' HO_5.out).2.2 x10_1 p455 q455; obtain rfl : ad449 = ad455 := (by injection e455); replace p455 := eq_true p455; replace q455 := eq_true q455; have p456 : 0 ≤ (x10_1 : Int) := of_decide_eq_true (by first | (with_reducible assumption) | assumption); have q456 : x10_1 < (t439.length : Int) := of_decide_eq_true (by first | (with_reducible assumption) | assumption); obtain ⟨ad456, e456, hx456_0⟩ := Kd.at_int (Kd.R_reads' HO_5.out).2.2 x10_1 p456 q456; obtain rfl : ad449 = ad456 := (by injection e456); replace p456 := eq_true p456; replace q456 := eq_true q456; have p457 : 0 ≤ (x10_1 : Int) := of_decide_eq_true (by first | (with_reducible assumption) | assumption); have q457 : x10_1 < (t439.length : Int) := of_decide_eq_true (by first | (with_reducible assumption) | assumption); obtain ⟨ad457, e457, hx457_0⟩ := Kd.at_int (Kd.R_reads' HO_5.out).2.2 x10_1 p457 q457; obtain rfl : ad449 = ad457 := (by injection e457); replace p457 := eq_true p457; replace q457 := eq_true q457))
             repeat (go_quiet (first | ((with_reducible refine gate_builtin (b := .append) (xs := #[.tmp 42, .tmp 47]) rfl ?_); (try (refine gate_guard (by rfl) ?_; dsimp only)); at_builtin; refine Kd.R_append (Kd.int .i64) (w0 := w) w.heap.size rfl (.tmp 42) (.tmp 47) 23 3 (.int .i64 0) 8 rfl Try.underlying23 info3 rfl (by decide) (by omega) u9 x9_1 (rd t439 x10_1) [.int .i64 (rd t439 x10_1)] (fun k_ => some k_ ≠ (.slice (some ad449) t439.length co9 : Value).ownBlock) (fun _ => False) rfl rfl ?aP (fun _ hk => hk.elim) ?aF ?aO ?aB ?aS ?aL ?_; (case aP => exact rfl); (case aB => exact (bq HB.out)); (case aF => exact (fun k_ hk => Kd.fresh' (Kd.R_lt (rq HO_5.out)) k_ hk)); (case aO => exact (rq HO_9.out)); (case aS => exact (below_size (bq HB.out))); (case aL => have := LMc16.out; omega); intro v451 w22 ho hb hg hat; rw [← Ny450.out] at ho; have n0_ := Aside0.mk (Kd.R_over' (rq HO_4.out) (Kd.R_typed (rq HO_9.out)) (by decide) hg); have n1_ := Aside0.mk (Kd.R_after (ok := (fun _ => True)) (by (with_reducible repeat (first | apply Kd.R_alloc | apply Kd.R_drewN | apply Kd.R_drew)); exact Kd.R_mono HO_5.out (fun _ hk => ⟨trivial, hk⟩)) hg hat); have n2_ := Aside0.mk (Kd.R_over' (rq HO_6.out) (Kd.R_typed (rq HO_9.out)) (by decide) hg); have n3_ := Aside0.mk (hb); have n4_ := Aside0.mk (ho); clear HO_4; clear HO_5; clear HO_6; clear HB; clear HO_9; have HO_4 := n0_; have HO_5 := n1_; have HO_6 := n2_; have HB := n3_; have HO452 := n4_; clear n0_ n1_ n2_ n3_ n4_; clear ho hb hg hat; have p455 : 0 ≤ (x10_1 : Int) := of_decide_eq_true (by first | (with_reducible assumption) | assumption); have q455 : x10_1 < (t439.length : Int) := of_decide_eq_true (by first | (with_reducible assumption) | assumption); obtain ⟨ad455, e455, hx455_0⟩ := Kd.at_int (Kd.R_reads' HO_5.out).2.2 x10_1 p455 q455; obtain rfl : ad449 = ad455 := (by injection e455); replace p455 := eq_true p455; replace q455 := eq_true q455; have p456 : 0 ≤ (x10_1 : Int) := of_decide_eq_true (by first | (with_reducible assumption) | assumption); have q456 : x10_1 < (t439.length : Int) := of_decide_eq_true (by first | (with_reducible assumption) | assumption); obtain ⟨ad456, e456, hx456_0⟩ := Kd.at_int (Kd.R_reads' HO_5.out).2.2 x10_1 p456 q456; obtain rfl : ad449 = ad456 := (by injection e456); replace p456 := eq_true p456; replace q456 := eq_true q456; have p457 : 0 ≤ (x10_1 : Int) := of_decide_eq_true (by first | (with_reducible assumption) | assumption); have q457 : x10_1 < (t439.length : Int) := of_decide_eq_true (by first | (with_reducible assumption) | assumption); obtain ⟨ad457, e457, hx457_0⟩ := Kd.at_int (Kd.R_reads' HO_5.out).2.2 x10_1 p457 q457; obtain rfl : ad449 = ad457 := (by injection e457); replace p457 := eq_true p457; replace q457 := eq_true q457)); try go_wp2_with (first | ((with_reducible refine gate_builtin (b := .append) (xs := #[.tmp 42, .tmp 47]) rfl ?_); (try (refine gate_guard (by rfl) ?_; dsimp only)); at_builtin; refine Kd.R_append (Kd.int .i64) (w0 := w) w.heap.size rfl (.tmp 42) (.tmp 47) 23 3 (.int .i64 0) 8 rfl Try.underlying23 info3 rfl (by decide) (by omega) u9 x9_1 (rd t439 x10_1) [.int .i64 (rd t439 x10_1)] (fun k_ => some k_ ≠ (.slice (some ad449) t439.length co9 : Value).ownBlock) (fun _ => False) rfl rfl ?aP (fun _ hk => hk.elim) ?aF ?aO ?aB ?aS ?aL ?_; (case aP => exact rfl); (case aB => exact (bq HB.out)); (case aF => exact (fun k_ hk => Kd.fresh' (Kd.R_lt (rq HO_5.out)) k_ hk)); (case aO => exact (rq HO_9.out)); (case aS => exact (below_size (bq HB.out))); (case aL => have := LMc16.out; omega); intro v451 w22 ho hb hg hat; rw [← Ny450.out] at ho; have n0_ := Aside0.mk (Kd.R_over' (rq HO_4.out) (Kd.R_typed (rq HO_9.out)) (by decide) hg); have n1_ := Aside0.mk (Kd.R_after (ok := (fun _ => True)) (by (with_reducible repeat (first | apply Kd.R_alloc | apply Kd.R_drewN | apply Kd.R_drew)); exact Kd.R_mono HO_5.out (fun _ hk => ⟨trivial, hk⟩)) hg hat); have n2_ := Aside0.mk (Kd.R_over' (rq HO_6.out) (Kd.R_typed (rq HO_9.out)) (by decide) hg); have n3_ := Aside0.mk (hb); have n4_ := Aside0.mk (ho); clear HO_4; clear HO_5; clear HO_6; clear HB; clear HO_9; have HO_4 := n0_; have HO_5 := n1_; have HO_6 := n2_; have HB := n3_; have HO452 := n4_; clear n0_ n1_ n2_ n3_ n4_; clear ho hb hg hat; have p455 : 0 ≤ (x10_1 : Int) := of_decide_eq_true (by first | (with_reducible assumption) | assumption); have q455 : x10_1 < (t439.length : Int) := of_decide_eq_true (by first | (with_reducible assumption) | assumption); obtain ⟨ad455, e455, hx455_0⟩ := Kd.at_int (Kd.R_reads' HO_5.out).2.2 x10_1 p455 q455; obtain rfl : ad449 = ad455 := (by injection e455); replace p455 := eq_true p455; replace q455 := eq_true q455; have p456 : 0 ≤ (x10_1 : Int) := of_decide_eq_true (by first | (with_reducible assumption) | assumption); have q456 : x10_1 < (t439.length : Int) := of_decide_eq_true (by first | (with_reducible assumption) | assumption); obtain ⟨ad456, e456, hx456_0⟩ := Kd.at_int (Kd.R_reads' HO_5.out).2.2 x10_1 p456 q456; obtain rfl : ad449 = ad456 := (by injection e456); replace p456 := eq_true p456; replace q456 := eq_true q456; have p457 : 0 ≤ (x10_1 : Int) := of_decide_eq_true (by first | (with_reducible assumption) | assumption); have q457 : x10_1 < (t439.length : Int) := of_decide_eq_true (by first | (with_reducible assumption) | assumption); obtain ⟨ad457, e457, hx457_0⟩ := Kd.at_int (Kd.R_reads' HO_5.out).2.2 x10_1 p457 q457; obtain rfl : ad449 = ad457 := (by injection e457); replace p457 := eq_true p457; replace q457 := eq_true q457)))
             go_roundg kj7
             case measure => have := HK1.out; have := HJ7.out; omega
             case rel => exact ⟨(rd t439 x10_1), (ji21), (y450), (wrap64 (x10_1 + 1)), (by first | rfl | (simp; done) | (simp [*]; done)), (by first | rfl | (simp; done) | (simp only [← hji21] <;> (first | rfl | simp)) | (simp [*]; done)), (by first | rfl | (simp; done) | (simp [*]; done)), H', ⟨by have := HK1.out; have := HJ7.out; omega⟩, ⟨rq HO_4.out⟩, ⟨by (with_reducible repeat (first | apply Kd.R_alloc | apply Kd.R_drewN | apply Kd.R_drew)); exact Kd.R_mono HO_5.out (fun _ hk => hk.2)⟩, ⟨rq HO_6.out⟩, ⟨rq HO452.out⟩, ⟨bq HB.out⟩⟩
            ·rw [if_neg c20] at H
             have c20b0 : decide ((rd t439 x10_1) < x7_1) = false := decide_eq_false c20
             clear c20
             obtain ⟨ji23, hji23⟩ : ∃ j_ : Int, (mx x8_1 (rd t439 x10_1)) = j_ := ⟨_, rfl⟩
             replace H : (rollbacknetlaw27_DeterminantIntervals.l0 kj7 t437 t438 t439 t440 x7_1 ji23 y450 (wrap64 (x10_1 + 1))) = some r := by first | (rw [hji23] at H; exact H) | (simp only [hji23] at H ⊢; exact H)
             have hji23_ : (if x8_1 < (rd t439 x10_1) then (rd t439 x10_1) else x8_1) = ji23 := hji23
             have H' := Aside0.mk H
             clear H
             have p449 : 0 ≤ (x10_1 : Int) := of_decide_eq_true (by first | (with_reducible assumption) | assumption)
             have q449 : x10_1 < (t439.length : Int) := of_decide_eq_true (by first | (with_reducible assumption) | assumption)
             obtain ⟨ad449, e449, hx449_0⟩ := Kd.at_int (Kd.R_reads' HO_5.out).2.2 x10_1 p449 q449
             cases e449
             replace p449 := eq_true p449
             replace q449 := eq_true q449
             go_wp2_with (first | ((with_reducible refine gate_builtin (b := .append) (xs := #[.tmp 42, .tmp 47]) rfl ?_); (try (refine gate_guard (by rfl) ?_; dsimp only)); at_builtin; refine Kd.R_append (Kd.int .i64) (w0 := w) w.heap.size rfl (.tmp 42) (.tmp 47) 23 3 (.int .i64 0) 8 rfl Try.underlying23 info3 rfl (by decide) (by omega) u9 x9_1 (rd t439 x10_1) [.int .i64 (rd t439 x10_1)] (fun k_ => some k_ ≠ (.slice (some ad449) t439.length co9 : Value).ownBlock) (fun _ => False) rfl rfl ?aP (fun _ hk => hk.elim) ?aF ?aO ?aB ?aS ?aL ?_; (case aP => exact rfl); (case aB => exact (bq HB.out)); (case aF => exact (fun k_ hk => Kd.fresh' (Kd.R_lt (rq HO_5.out)) k_ hk)); (case aO => exact (rq HO_9.out)); (case aS => exact (below_size (bq HB.out))); (case aL => have := LMc16.out; omega); intro v451 w24 ho hb hg hat; rw [← Ny450.out] at ho; have n0_ := Aside0.mk (Kd.R_over' (rq HO_4.out) (Kd.R_typed (rq HO_9.out)) (by decide) hg); have n1_ := Aside0.mk (Kd.R_after (ok := (fun _ => True)) (by (with_reducible repeat (first | apply Kd.R_alloc | apply Kd.R_drewN | apply Kd.R_drew)); exact Kd.R_mono HO_5.out (fun _ hk => ⟨trivial, hk⟩)) hg hat); have n2_ := Aside0.mk (Kd.R_over' (rq HO_6.out) (Kd.R_typed (rq HO_9.out)) (by decide) hg); have n3_ := Aside0.mk (hb); have n4_ := Aside0.mk (ho); clear HO_4; clear HO_5; clear HO_6; clear HB; clear HO_9; have HO_4 := n0_; have HO_5 := n1_; have HO_6 := n2_; have HB := n3_; have HO452 := n4_; clear n0_ n1_ n2_ n3_ n4_; clear ho hb hg hat; have p455 : 0 ≤ (x10_1 : Int) := of_decide_eq_true (by first | (with_reducible assumption) | assumption); have q455 : x10_1 < (t439.length : Int) := of_decide_eq_true (by first | (with_reducible assumption) | assumption); obtain ⟨ad455, e455, hx455_0⟩ := Kd.at_int (Kd.R_reads' HO_5.out).2.2 x10_1 p455 q455; obtain rfl : ad449 = ad455 := (by injection e455); replace p455 := eq_true p455; replace q455 := eq_true q455; have p458 : 0 ≤ (x10_1 : Int) := of_decide_eq_true (by first | (with_reducible assumption) | assumption); have q458 : x10_1 < (t439.length : Int) := of_decide_eq_true (by first | (with_reducible assumption) | assumption); obtain ⟨ad458, e458, hx458_0⟩ := Kd.at_int (Kd.R_reads' HO_5.out).2.2 x10_1 p458 q458; obtain rfl : ad449 = ad458 := (by injection e458); replace p458 := eq_true p458; replace q458 := eq_true q458))
             repeat (go_quiet (first | ((with_reducible refine gate_builtin (b := .append) (xs := #[.tmp 42, .tmp 47]) rfl ?_); (try (refine gate_guard (by rfl) ?_; dsimp only)); at_builtin; refine Kd.R_append (Kd.int .i64) (w0 := w) w.heap.size rfl (.tmp 42) (.tmp 47) 23 3 (.int .i64 0) 8 rfl Try.underlying23 info3 rfl (by decide) (by omega) u9 x9_1 (rd t439 x10_1) [.int .i64 (rd t439 x10_1)] (fun k_ => some k_ ≠ (.slice (some ad449) t439.length co9 : Value).ownBlock) (fun _ => False) rfl rfl ?aP (fun _ hk => hk.elim) ?aF ?aO ?aB ?aS ?aL ?_; (case aP => exact rfl); (case aB => exact (bq HB.out)); (case aF => exact (fun k_ hk => Kd.fresh' (Kd.R_lt (rq HO_5.out)) k_ hk)); (case aO => exact (rq HO_9.out)); (case aS => exact (below_size (bq HB.out))); (case aL => have := LMc16.out; omega); intro v451 w24 ho hb hg hat; rw [← Ny450.out] at ho; have n0_ := Aside0.mk (Kd.R_over' (rq HO_4.out) (Kd.R_typed (rq HO_9.out)) (by decide) hg); have n1_ := Aside0.mk (Kd.R_after (ok := (fun _ => True)) (by (with_reducible repeat (first | apply Kd.R_alloc | apply Kd.R_drewN | apply Kd.R_drew)); exact Kd.R_mono HO_5.out (fun _ hk => ⟨trivial, hk⟩)) hg hat); have n2_ := Aside0.mk (Kd.R_over' (rq HO_6.out) (Kd.R_typed (rq HO_9.out)) (by decide) hg); have n3_ := Aside0.mk (hb); have n4_ := Aside0.mk (ho); clear HO_4; clear HO_5; clear HO_6; clear HB; clear HO_9; have HO_4 := n0_; have HO_5 := n1_; have HO_6 := n2_; have HB := n3_; have HO452 := n4_; clear n0_ n1_ n2_ n3_ n4_; clear ho hb hg hat; have p455 : 0 ≤ (x10_1 : Int) := of_decide_eq_true (by first | (with_reducible assumption) | assumption); have q455 : x10_1 < (t439.length : Int) := of_decide_eq_true (by first | (with_reducible assumption) | assumption); obtain ⟨ad455, e455, hx455_0⟩ := Kd.at_int (Kd.R_reads' HO_5.out).2.2 x10_1 p455 q455; obtain rfl : ad449 = ad455 := (by injection e455); replace p455 := eq_true p455; replace q455 := eq_true q455; have p458 : 0 ≤ (x10_1 : Int) := of_decide_eq_true (by first | (with_reducible assumption) | assumption); have q458 : x10_1 < (t439.length : Int) := of_decide_eq_true (by first | (with_reducible assumption) | assumption); obtain ⟨ad458, e458, hx458_0⟩ := Kd.at_int (Kd.R_reads' HO_5.out).2.2 x10_1 p458 q458; obtain rfl : ad449 = ad458 := (by injection e458); replace p458 := eq_true p458; replace q458 := eq_true q458)); try go_wp2_with (first | ((with_reducible refine gate_builtin (b := .append) (xs := #[.tmp 42, .tmp 47]) rfl ?_); (try (refine gate_guard (by rfl) ?_; dsimp only)); at_builtin; refine Kd.R_append (Kd.int .i64) (w0 := w) w.heap.size rfl (.tmp 42) (.tmp 47) 23 3 (.int .i64 0) 8 rfl Try.underlying23 info3 rfl (by decide) (by omega) u9 x9_1 (rd t439 x10_1) [.int .i64 (rd t439 x10_1)] (fun k_ => some k_ ≠ (.slice (some ad449) t439.length co9 : Value).ownBlock) (fun _ => False) rfl rfl ?aP (fun _ hk => hk.elim) ?aF ?aO ?aB ?aS ?aL ?_; (case aP => exact rfl); (case aB => exact (bq HB.out)); (case aF => exact (fun k_ hk => Kd.fresh' (Kd.R_lt (rq HO_5.out)) k_ hk)); (case aO => exact (rq HO_9.out)); (case aS => exact (below_size (bq HB.out))); (case aL => have := LMc16.out; omega); intro v451 w24 ho hb hg hat; rw [← Ny450.out] at ho; have n0_ := Aside0.mk (Kd.R_over' (rq HO_4.out) (Kd.R_typed (rq HO_9.out)) (by decide) hg); have n1_ := Aside0.mk (Kd.R_after (ok := (fun _ => True)) (by (with_reducible repeat (first | apply Kd.R_alloc | apply Kd.R_drewN | apply Kd.R_drew)); exact Kd.R_mono HO_5.out (fun _ hk => ⟨trivial, hk⟩)) hg hat); have n2_ := Aside0.mk (Kd.R_over' (rq HO_6.out) (Kd.R_typed (rq HO_9.out)) (by decide) hg); have n3_ := Aside0.mk (hb); have n4_ := Aside0.mk (ho); clear HO_4; clear HO_5; clear HO_6; clear HB; clear HO_9; have HO_4 := n0_; have HO_5 := n1_; have HO_6 := n2_; have HB := n3_; have HO452 := n4_; clear n0_ n1_ n2_ n3_ n4_; clear ho hb hg hat; have p455 : 0 ≤ (x10_1 : Int) := of_decide_eq_true (by first | (with_reducible assumption) | assumption); have q455 : x10_1 < (t439.length : Int) := of_decide_eq_true (by first | (with_reducible assumption) | assumption); obtain ⟨ad455, e455, hx455_0⟩ := Kd.at_int (Kd.R_reads' HO_5.out).2.2 x10_1 p455 q455; obtain rfl : ad449 = ad455 := (by injection e455); replace p455 := eq_true p455; replace q455 := eq_true q455; have p458 : 0 ≤ (x10_1 : Int) := of_decide_eq_true (by first | (with_reducible assumption) | assumption); have q458 : x10_1 < (t439.length : Int) := of_decide_eq_true (by first | (with_reducible assumption) | assumption); obtain ⟨ad458, e458, hx458_0⟩ := Kd.at_int (Kd.R_reads' HO_5.out).2.2 x10_1 p458 q458; obtain rfl : ad449 = ad458 := (by injection e458); replace p458 := eq_true p458; replace q458 := eq_true q458)))
             go_roundg kj7
             case measure => have := HK1.out; have := HJ7.out; omega
             case rel => exact ⟨(x7_1), (ji23), (y450), (wrap64 (x10_1 + 1)), (by first | rfl | (simp; done) | (simp [*]; done)), (by first | rfl | (simp; done) | (simp only [← hji23] <;> (first | rfl | simp)) | (simp [*]; done)), (by first | rfl | (simp; done) | (simp [*]; done)), H', ⟨by have := HK1.out; have := HJ7.out; omega⟩, ⟨rq HO_4.out⟩, ⟨by (with_reducible repeat (first | apply Kd.R_alloc | apply Kd.R_drewN | apply Kd.R_drew)); exact Kd.R_mono HO_5.out (fun _ hk => hk.2)⟩, ⟨rq HO_6.out⟩, ⟨rq HO452.out⟩, ⟨bq HB.out⟩⟩
          ·rw [if_neg c16] at H
           exact absurd H (by simp)
         ·rw [if_neg c15] at H
          exact absurd H (by simp)
        ·rw [if_neg c14] at H
         exact absurd H (by simp)
       ·replace c13 := Bool.eq_false_iff.mpr c13
        subst c13
        have H1 : (rollbacknetlaw27_DeterminantIntervals.l0 kj7 t437 t438 t439 t440 x7_1 x8_1 x9_1 (wrap64 (x10_1 + 1))) = some r := by rw [if_neg (show ¬ (false = true) by decide)] at H; exact H
        clear H
        have H := H1
        clear H1
        have H' := Aside0.mk H
        clear H
        go_wp2
        repeat (go_quiet (fail); try go_wp2)
        go_roundg kj7
        case measure => have := HK1.out; have := HJ7.out; omega
        case rel => exact ⟨(x7_1), (x8_1), (x9_1), (wrap64 (x10_1 + 1)), (by first | rfl | (simp; done) | (simp [*]; done)), (by first | rfl | (simp; done) | (simp [*]; done)), (by first | rfl | (simp; done) | (simp [*]; done)), H', ⟨by have := HK1.out; have := HJ7.out; omega⟩, ⟨rq HO_4.out⟩, ⟨rq HO_5.out⟩, ⟨rq HO_6.out⟩, ⟨rq HO_9.out⟩, ⟨bq HB.out⟩⟩
    ·rw [if_neg c7] at H
     have c7b0 : decide (x10_1 < (t439.length : Int)) = false := decide_eq_false c7
     clear c7
     by_cases c25 : x7_1 < 0
     ·rw [if_pos c25] at H
      have c25b0 : decide (x7_1 < 0) = true := decide_eq_true c25
      clear c25
      replace H := Option.bind_eq_some_iff.mp H
      obtain ⟨t459, A260, H⟩ := H
      replace H : (some ((t459.length : Int) == 0)) = some r := H
      have A26 := Aside0.mk A260
      clear A260
      obtain rfl := Option.some.inj H
      obtain ⟨Ao27, co27, eo27⟩ := Kd.R_slice HO_5.out
      subst eo27
      obtain ⟨Ao28, co28, eo28⟩ := Kd.R_slice HO_4.out
      subst eo28
      obtain ⟨Ao29, co29, eo29⟩ := Kd.R_slice HO_9.out
      subst eo29
      obtain ⟨Ao30, co30, eo30⟩ := Kd.R_slice HO_6.out
      subst eo30
      go_wp2_with (first | (go_at_call 18; (with_reducible refine (determinant_Restorable.calls t437 _ _ t438 _ _ x9_1 _ _ t440 t459 _ ?side1 ?side2 ?side3 ?side4 ?side5 ?side6 A26.out).mono ?_); (case side1 => repeat (first | exact (Kd.R_reads' HO_4.out).2.2 | (with_reducible refine Kd.C_alloc ?_ _) | (with_reducible refine Kd.C_drewN ?_ _) | (with_reducible refine Kd.C_drew ?_))); (case side2 => exact (Kd.R_reads' HO_4.out).2.1); (case side3 => repeat (first | exact (Kd.R_reads' HO_9.out).2.2 | (with_reducible refine Kd.C_alloc ?_ _) | (with_reducible refine Kd.C_drewN ?_ _) | (with_reducible refine Kd.C_drew ?_))); (case side4 => exact (Kd.R_reads' HO_9.out).2.1); (case side5 => repeat (first | exact (Kd.R_reads' HO_6.out).2.2 | (with_reducible refine Kd.C_alloc ?_ _) | (with_reducible refine Kd.C_drewN ?_ _) | (with_reducible refine Kd.C_drew ?_))); (case side6 => exact (Kd.R_reads' HO_6.out).2.1); rintro e w31 ⟨v460, rfl, ho0, hb⟩; have n0_ := Aside0.mk (Kd.R_below (rq HO_4.out) hb); have n1_ := Aside0.mk (Kd.R_elder' (rq HO_5.out) (Kd.R_base ho0) hb); have n2_ := Aside0.mk (Kd.R_below (rq HO_6.out) hb); have n3_ := Aside0.mk (Kd.R_elder' (rq HO_9.out) (Kd.R_base ho0) hb); have n4_ := Aside0.mk (Kd.R_lower (Kd.R_new' (Kd.R_new' ho0 (Kd.R_lt (rq HO_5.out))) (Kd.R_lt (rq HO_9.out))) (below_size (bq HB.out))); have n5_ := Aside0.mk (below_step (bq HB.out) hb); clear HO_4; clear HO_5; clear HO_6; clear HO_9; clear HB; have HO_4 := n0_; have HO_5 := n1_; have HO_6 := n2_; have HO_9 := n3_; have HO461 := n4_; have HB := n5_; clear n0_ n1_ n2_ n3_ n4_ n5_; (try clear hb); (try clear hb2); (try clear hk); (try clear hi); (try clear ho0); obtain ⟨Ao32, co32, eo32⟩ := Kd.R_slice HO461.out; subst eo32))
      repeat (go_quiet (first | (go_at_call 18; (with_reducible refine (determinant_Restorable.calls t437 _ _ t438 _ _ x9_1 _ _ t440 t459 _ ?side1 ?side2 ?side3 ?side4 ?side5 ?side6 A26.out).mono ?_); (case side1 => repeat (first | exact (Kd.R_reads' HO_4.out).2.2 | (with_reducible refine Kd.C_alloc ?_ _) | (with_reducible refine Kd.C_drewN ?_ _) | (with_reducible refine Kd.C_drew ?_))); (case side2 => exact (Kd.R_reads' HO_4.out).2.1); (case side3 => repeat (first | exact (Kd.R_reads' HO_9.out).2.2 | (with_reducible refine Kd.C_alloc ?_ _) | (with_reducible refine Kd.C_drewN ?_ _) | (with_reducible refine Kd.C_drew ?_))); (case side4 => exact (Kd.R_reads' HO_9.out).2.1); (case side5 => repeat (first | exact (Kd.R_reads' HO_6.out).2.2 | (with_reducible refine Kd.C_alloc ?_ _) | (with_reducible refine Kd.C_drewN ?_ _) | (with_reducible refine Kd.C_drew ?_))); (case side6 => exact (Kd.R_reads' HO_6.out).2.1); rintro e w31 ⟨v460, rfl, ho0, hb⟩; have n0_ := Aside0.mk (Kd.R_below (rq HO_4.out) hb); have n1_ := Aside0.mk (Kd.R_elder' (rq HO_5.out) (Kd.R_base ho0) hb); have n2_ := Aside0.mk (Kd.R_below (rq HO_6.out) hb); have n3_ := Aside0.mk (Kd.R_elder' (rq HO_9.out) (Kd.R_base ho0) hb); have n4_ := Aside0.mk (Kd.R_lower (Kd.R_new' (Kd.R_new' ho0 (Kd.R_lt (rq HO_5.out))) (Kd.R_lt (rq HO_9.out))) (below_size (bq HB.out))); have n5_ := Aside0.mk (below_step (bq HB.out) hb); clear HO_4; clear HO_5; clear HO_6; clear HO_9; clear HB; have HO_4 := n0_; have HO_5 := n1_; have HO_6 := n2_; have HO_9 := n3_; have HO461 := n4_; have HB := n5_; clear n0_ n1_ n2_ n3_ n4_ n5_; (try clear hb); (try clear hb2); (try clear hk); (try clear hi); (try clear ho0); obtain ⟨Ao32, co32, eo32⟩ := Kd.R_slice HO461.out; subst eo32)); try go_wp2_with (first | (go_at_call 18; (with_reducible refine (determinant_Restorable.calls t437 _ _ t438 _ _ x9_1 _ _ t440 t459 _ ?side1 ?side2 ?side3 ?side4 ?side5 ?side6 A26.out).mono ?_); (case side1 => repeat (first | exact (Kd.R_reads' HO_4.out).2.2 | (with_reducible refine Kd.C_alloc ?_ _) | (with_reducible refine Kd.C_drewN ?_ _) | (with_reducible refine Kd.C_drew ?_))); (case side2 => exact (Kd.R_reads' HO_4.out).2.1); (case side3 => repeat (first | exact (Kd.R_reads' HO_9.out).2.2 | (with_reducible refine Kd.C_alloc ?_ _) | (with_reducible refine Kd.C_drewN ?_ _) | (with_reducible refine Kd.C_drew ?_))); (case side4 => exact (Kd.R_reads' HO_9.out).2.1); (case side5 => repeat (first | exact (Kd.R_reads' HO_6.out).2.2 | (with_reducible refine Kd.C_alloc ?_ _) | (with_reducible refine Kd.C_drewN ?_ _) | (with_reducible refine Kd.C_drew ?_))); (case side6 => exact (Kd.R_reads' HO_6.out).2.1); rintro e w31 ⟨v460, rfl, ho0, hb⟩; have n0_ := Aside0.mk (Kd.R_below (rq HO_4.out) hb); have n1_ := Aside0.mk (Kd.R_elder' (rq HO_5.out) (Kd.R_base ho0) hb); have n2_ := Aside0.mk (Kd.R_below (rq HO_6.out) hb); have n3_ := Aside0.mk (Kd.R_elder' (rq HO_9.out) (Kd.R_base ho0) hb); have n4_ := Aside0.mk (Kd.R_lower (Kd.R_new' (Kd.R_new' ho0 (Kd.R_lt (rq HO_5.out))) (Kd.R_lt (rq HO_9.out))) (below_size (bq HB.out))); have n5_ := Aside0.mk (below_step (bq HB.out) hb); clear HO_4; clear HO_5; clear HO_6; clear HO_9; clear HB; have HO_4 := n0_; have HO_5 := n1_; have HO_6 := n2_; have HO_9 := n3_; have HO461 := n4_; have HB := n5_; clear n0_ n1_ n2_ n3_ n4_ n5_; (try clear hb); (try clear hb2); (try clear hk); (try clear hi); (try clear ho0); obtain ⟨Ao32, co32, eo32⟩ := Kd.R_slice HO461.out; subst eo32)))
      go_ret
      exact ⟨by first | rfl | (simp [errW_none, errW_some] <;> rfl) | (simp [*, errW_none, errW_some] <;> rfl), bq HB.out⟩
     ·rw [if_neg c25] at H
      have c25b0 : decide (x7_1 < 0) = false := decide_eq_false c25
      clear c25
      by_cases c33 : 0 ≤ x8_1
      ·rw [if_pos c33] at H
       have c33b0 := eq_true c33
       have c33b1 : decide (0 ≤ x8_1) = true := decide_eq_true c33
       clear c33
       by_cases c34 : x8_1 ≤ (t438.length : Int)
       ·rw [if_pos c34] at H
        have c34b0 := eq_true c34
        have c34b1 : decide (x8_1 ≤ (t438.length : Int)) = true := decide_eq_true c34
        clear c34
        obtain ⟨y462, hy462⟩ : ∃ y_ : List (S37), y_ = (t438.take (x8_1 : Int).toNat) := ⟨_, rfl⟩
        replace H : ((determinant_Lineage.f k1 t437 y462).bind fun t466 => ((determinant_Merge.f k1 t440 t466).bind fun t469 => ((determinant_Restorable.f t437 t438 x9_1 t469).bind fun t472 => (if (t472.length : Int) = 0 then (rollbacknetlaw27_DeterminantIntervals.j2 k1 t472 true) else (if 0 < (t472.length : Int) then (if (rd t472 0) = x7_1 then (if 0 ≤ (wrap64 ((t472.length : Int) - 1)) then (if (wrap64 ((t472.length : Int) - 1)) < (t472.length : Int) then (rollbacknetlaw27_DeterminantIntervals.j2 k1 t472 (decide ((rd t472 (wrap64 ((t472.length : Int) - 1))) < x8_1))) else (none)) else (none)) else (rollbacknetlaw27_DeterminantIntervals.j2 k1 t472 true)) else (none)))))) = some r := by first | (rw [hy462]; with_reducible exact H) | (have H2_ := (Option.bind_some _ _).symm.trans H; rw [hy462]; with_reducible exact H2_) | (have H2_ := (Option.bind_some _ _).symm.trans H; with_reducible exact H2_) | with_reducible exact H | (rw [hy462]; exact H) | exact H
        have Ny462 := Aside0.mk hy462
        clear hy462
        replace H := Option.bind_eq_some_iff.mp H
        obtain ⟨t466, A350, H⟩ := H
        replace H : ((determinant_Merge.f k1 t440 t466).bind fun t469 => ((determinant_Restorable.f t437 t438 x9_1 t469).bind fun t472 => (if (t472.length : Int) = 0 then (rollbacknetlaw27_DeterminantIntervals.j2 k1 t472 true) else (if 0 < (t472.length : Int) then (if (rd t472 0) = x7_1 then (if 0 ≤ (wrap64 ((t472.length : Int) - 1)) then (if (wrap64 ((t472.length : Int) - 1)) < (t472.length : Int) then (rollbacknetlaw27_DeterminantIntervals.j2 k1 t472 (decide ((rd t472 (wrap64 ((t472.length : Int) - 1))) < x8_1))) else (none)) else (none)) else (rollbacknetlaw27_DeterminantIntervals.j2 k1 t472 true)) else (none))))) = some r := H
        have A35 := Aside0.mk A350
        clear A350
        replace H := Option.bind_eq_some_iff.mp H
        obtain ⟨t469, A360, H⟩ := H
        replace H : ((determinant_Restorable.f t437 t438 x9_1 t469).bind fun t472 => (if (t472.length : Int) = 0 then (rollbacknetlaw27_DeterminantIntervals.j2 k1 t472 true) else (if 0 < (t472.length : Int) then (if (rd t472 0) = x7_1 then (if 0 ≤ (wrap64 ((t472.length : Int) - 1)) then (if (wrap64 ((t472.length : Int) - 1)) < (t472.length : Int) then (rollbacknetlaw27_DeterminantIntervals.j2 k1 t472 (decide ((rd t472 (wrap64 ((t472.length : Int) - 1))) < x8_1))) else (none)) else (none)) else (rollbacknetlaw27_DeterminantIntervals.j2 k1 t472 true)) else (none)))) = some r := H
        have A36 := Aside0.mk A360
        clear A360
        replace H := Option.bind_eq_some_iff.mp H
        obtain ⟨t472, A370, H⟩ := H
        replace H : (if (t472.length : Int) = 0 then (rollbacknetlaw27_DeterminantIntervals.j2 k1 t472 true) else (if 0 < (t472.length : Int) then (if (rd t472 0) = x7_1 then (if 0 ≤ (wrap64 ((t472.length : Int) - 1)) then (if (wrap64 ((t472.length : Int) - 1)) < (t472.length : Int) then (rollbacknetlaw27_DeterminantIntervals.j2 k1 t472 (decide ((rd t472 (wrap64 ((t472.length : Int) - 1))) < x8_1))) else (none)) else (none)) else (rollbacknetlaw27_DeterminantIntervals.j2 k1 t472 true)) else (none))) = some r := H
        have A37 := Aside0.mk A370
        clear A370
        have HC38 := Aside0.mk H
        clear H
        obtain ⟨Ao39, co39, eo39⟩ := Kd.R_slice HO_5.out
        subst eo39
        obtain ⟨Ao41, co41, eo41⟩ := Kd.R_slice HO_4.out
        subst eo41
        have q40 : (x8_1 : Int) ≤ ((t438.length : Int) : Int) := of_decide_eq_true (by first | (with_reducible assumption) | assumption)
        obtain ⟨i040, hi040, _, hsz40, _⟩ := info_parts info37
        have hroom40 : t438.length ≤ co41 := (Kd.R_reads' HO_4.out).2.1
        have hC40 : Kd.C k37 _ Ao41 t438.length t438 := (Kd.R_reads' HO_4.out).2.2
        have hcut40 := cut_to (P := Try.prog) 22 37 .i64 Try.underlying22 hi040 Ao41 t438.length co41 x8_1 (of_decide_eq_true (by first | (with_reducible assumption) | assumption)) q40 hroom40
        have hr40 := Kd.C_take (m := (x8_1 : Int).toNat) hC40 (by omega)
        have hy40 : y462.length = (x8_1 : Int).toNat := (by rw [Ny462.out, List.length_take]; omega)
        rw [← Ny462.out] at hr40
        rw [← hy40] at hcut40
        have HR465 := Aside0.mk hr40
        have HC465 := Aside0.mk (show y462.length ≤ co41 from by omega)
        clear hr40 hC40 hroom40 hi040 hsz40
        have KY40 := Aside0.mk hy40
        clear hy40
        have KL40 := Aside0.mk (show (x8_1 : Int).toNat ≤ t438.length from by omega)
        replace q40 := eq_true q40
        go_upto_region 17 with (first | (go_at_call 15; (with_reducible refine (determinant_Lineage.calls k1 t437 _ _ y462 t466 _ ?side1 ?side2 A35.out).mono ?_); (case side1 => repeat (first | exact (by repeat (first | (with_reducible exact HR465.out) | (with_reducible refine Kd.C_alloc ?_ _) | (with_reducible refine Kd.C_drewN ?_ _) | (with_reducible refine Kd.C_drew ?_) | exact HR465.out)) | (with_reducible refine Kd.C_alloc ?_ _) | (with_reducible refine Kd.C_drewN ?_ _) | (with_reducible refine Kd.C_drew ?_))); (case side2 => exact HC465.out); rintro e w42 ⟨v467, rfl, ho0, hb⟩; have n0_ := Aside0.mk (Kd.R_below (rq HO_4.out) hb); have n1_ := Aside0.mk (Kd.R_below (rq HO_5.out) hb); have n2_ := Aside0.mk (Kd.R_elder' (rq HO_6.out) (Kd.R_base ho0) hb); have n3_ := Aside0.mk (Kd.R_below (rq HO_9.out) hb); have n4_ := Aside0.mk (Kd.R_lower (Kd.R_new' ho0 (Kd.R_lt (rq HO_6.out))) (below_size (bq HB.out))); have n5_ := Aside0.mk (Kd.C_below (by repeat (first | (with_reducible exact HR465.out) | (with_reducible refine Kd.C_alloc ?_ _) | (with_reducible refine Kd.C_drewN ?_ _) | (with_reducible refine Kd.C_drew ?_) | exact HR465.out)) hb); have n6_ := Aside0.mk (below_step (bq HB.out) hb); clear HO_4; clear HO_5; clear HO_6; clear HO_9; clear HR465; clear HB; have HO_4 := n0_; have HO_5 := n1_; have HO_6 := n2_; have HO_9 := n3_; have HO468 := n4_; have HR465 := n5_; have HB := n6_; clear n0_ n1_ n2_ n3_ n4_ n5_ n6_; (try clear hb); (try clear hb2); (try clear hk); (try clear hi); (try clear ho0); obtain ⟨Ao43, co43, eo43⟩ := Kd.R_slice HO_6.out; subst eo43; obtain ⟨Ao44, co44, eo44⟩ := Kd.R_slice HO468.out; subst eo44) | (go_at_call 25; (with_reducible refine (determinant_Merge.calls k1 _ _ t440 _ _ t466 t469 _ ?side1 ?side2 ?side3 ?side4 A36.out).mono ?_); (case side1 => repeat (first | exact (Kd.R_reads' HO_6.out).2.2 | (with_reducible refine Kd.C_alloc ?_ _) | (with_reducible refine Kd.C_drewN ?_ _) | (with_reducible refine Kd.C_drew ?_))); (case side2 => exact (Kd.R_reads' HO_6.out).2.1); (case side3 => repeat (first | exact (Kd.R_reads' HO468.out).2.2 | (with_reducible refine Kd.C_alloc ?_ _) | (with_reducible refine Kd.C_drewN ?_ _) | (with_reducible refine Kd.C_drew ?_))); (case side4 => exact (Kd.R_reads' HO468.out).2.1); rintro e w45 ⟨v470, rfl, ho0, hb⟩; have n0_ := Aside0.mk (Kd.R_below (rq HO_4.out) hb); have n1_ := Aside0.mk (Kd.R_below (rq HO_5.out) hb); have n2_ := Aside0.mk (Kd.R_elder' (rq HO_6.out) (Kd.R_base ho0) hb); have n3_ := Aside0.mk (Kd.R_below (rq HO_9.out) hb); have n4_ := Aside0.mk (Kd.R_elder' (rq HO468.out) (Kd.R_base ho0) hb); have n5_ := Aside0.mk (Kd.R_lower (Kd.R_new' (Kd.R_new' ho0 (Kd.R_lt (rq HO_6.out))) (Kd.R_lt (rq HO468.out))) (below_size (bq HB.out))); have n6_ := Aside0.mk (Kd.C_below (by repeat (first | (with_reducible exact HR465.out) | (with_reducible refine Kd.C_alloc ?_ _) | (with_reducible refine Kd.C_drewN ?_ _) | (with_reducible refine Kd.C_drew ?_) | exact HR465.out)) hb); have n7_ := Aside0.mk (below_step (bq HB.out) hb); clear HO_4; clear HO_5; clear HO_6; clear HO_9; clear HO468; clear HR465; clear HB; have HO_4 := n0_; have HO_5 := n1_; have HO_6 := n2_; have HO_9 := n3_; have HO468 := n4_; have HO471 := n5_; have HR465 := n6_; have HB := n7_; clear n0_ n1_ n2_ n3_ n4_ n5_ n6_ n7_; (try clear hb); (try clear hb2); (try clear hk); (try clear hi); (try clear ho0); obtain ⟨Ao46, co46, eo46⟩ := Kd.R_slice HO_9.out; subst eo46; obtain ⟨Ao47, co47, eo47⟩ := Kd.R_slice HO471.out; subst eo47) | (go_at_call 18; (with_reducible refine (determinant_Restorable.calls t437 _ _ t438 _ _ x9_1 _ _ t469 t472 _ ?side1 ?side2 ?side3 ?side4 ?side5 ?side6 A37.out).mono ?_); (case side1 => repeat (first | exact (Kd.R_reads' HO_4.out).2.2 | (with_reducible refine Kd.C_alloc ?_ _) | (with_reducible refine Kd.C_drewN ?_ _) | (with_reducible refine Kd.C_drew ?_))); (case side2 => exact (Kd.R_reads' HO_4.out).2.1); (case side3 => repeat (first | exact (Kd.R_reads' HO_9.out).2.2 | (with_reducible refine Kd.C_alloc ?_ _) | (with_reducible refine Kd.C_drewN ?_ _) | (with_reducible refine Kd.C_drew ?_))); (case side4 => exact (Kd.R_reads' HO_9.out).2.1); (case side5 => repeat (first | exact (Kd.R_reads' HO471.out).2.2 | (with_reducible refine Kd.C_alloc ?_ _) | (with_reducible refine Kd.C_drewN ?_ _) | (with_reducible refine Kd.C_drew ?_))); (case side6 => exact (Kd.R_reads' HO471.out).2.1); rintro e w48 ⟨v473, rfl, ho0, hb⟩; have n0_ := Aside0.mk (Kd.R_below (rq HO_4.out) hb); have n1_ := Aside0.mk (Kd.R_elder' (rq HO_5.out) (Kd.R_base ho0) hb); have n2_ := Aside0.mk (Kd.R_below (rq HO_6.out) hb); have n3_ := Aside0.mk (Kd.R_elder' (rq HO_9.out) (Kd.R_base ho0) hb); have n4_ := Aside0.mk (Kd.R_below (rq HO468.out) hb); have n5_ := Aside0.mk (Kd.R_below (rq HO471.out) hb); have n6_ := Aside0.mk (Kd.R_lower (Kd.R_new' (Kd.R_new' ho0 (Kd.R_lt (rq HO_5.out))) (Kd.R_lt (rq HO_9.out))) (below_size (bq HB.out))); have n7_ := Aside0.mk (Kd.C_below (by repeat (first | (with_reducible exact HR465.out) | (with_reducible refine Kd.C_alloc ?_ _) | (with_reducible refine Kd.C_drewN ?_ _) | (with_reducible refine Kd.C_drew ?_) | exact HR465.out)) hb); have n8_ := Aside0.mk (below_step (bq HB.out) hb); clear HO_4; clear HO_5; clear HO_6; clear HO_9; clear HO468; clear HO471; clear HR465; clear HB; have HO_4 := n0_; have HO_5 := n1_; have HO_6 := n2_; have HO_9 := n3_; have HO468 := n4_; have HO471 := n5_; have HO474 := n6_; have HR465 := n7_; have HB := n8_; clear n0_ n1_ n2_ n3_ n4_ n5_ n6_ n7_ n8_; (try clear hb); (try clear hb2); (try clear hk); (try clear hi); (try clear ho0)))
        repeat (go_quiet (first | (go_at_call 15; (with_reducible refine (determinant_Lineage.calls k1 t437 _ _ y462 t466 _ ?side1 ?side2 A35.out).mono ?_); (case side1 => repeat (first | exact (by repeat (first | (with_reducible exact HR465.out) | (with_reducible refine Kd.C_alloc ?_ _) | (with_reducible refine Kd.C_drewN ?_ _) | (with_reducible refine Kd.C_drew ?_) | exact HR465.out)) | (with_reducible refine Kd.C_alloc ?_ _) | (with_reducible refine Kd.C_drewN ?_ _) | (with_reducible refine Kd.C_drew ?_))); (case side2 => exact HC465.out); rintro e w42 ⟨v467, rfl, ho0, hb⟩; have n0_ := Aside0.mk (Kd.R_below (rq HO_4.out) hb); have n1_ := Aside0.mk (Kd.R_below (rq HO_5.out) hb); have n2_ := Aside0.mk (Kd.R_elder' (rq HO_6.out) (Kd.R_base ho0) hb); have n3_ := Aside0.mk (Kd.R_below (rq HO_9.out) hb); have n4_ := Aside0.mk (Kd.R_lower (Kd.R_new' ho0 (Kd.R_lt (rq HO_6.out))) (below_size (bq HB.out))); have n5_ := Aside0.mk (Kd.C_below (by repeat (first | (with_reducible exact HR465.out) | (with_reducible refine Kd.C_alloc ?_ _) | (with_reducible refine Kd.C_drewN ?_ _) | (with_reducible refine Kd.C_drew ?_) | exact HR465.out)) hb); have n6_ := Aside0.mk (below_step (bq HB.out) hb); clear HO_4; clear HO_5; clear HO_6; clear HO_9; clear HR465; clear HB; have HO_4 := n0_; have HO_5 := n1_; have HO_6 := n2_; have HO_9 := n3_; have HO468 := n4_; have HR465 := n5_; have HB := n6_; clear n0_ n1_ n2_ n3_ n4_ n5_ n6_; (try clear hb); (try clear hb2); (try clear hk); (try clear hi); (try clear ho0); obtain ⟨Ao43, co43, eo43⟩ := Kd.R_slice HO_6.out; subst eo43; obtain ⟨Ao44, co44, eo44⟩ := Kd.R_slice HO468.out; subst eo44) | (go_at_call 25; (with_reducible refine (determinant_Merge.calls k1 _ _ t440 _ _ t466 t469 _ ?side1 ?side2 ?side3 ?side4 A36.out).mono ?_); (case side1 => repeat (first | exact (Kd.R_reads' HO_6.out).2.2 | (with_reducible refine Kd.C_alloc ?_ _) | (with_reducible refine Kd.C_drewN ?_ _) | (with_reducible refine Kd.C_drew ?_))); (case side2 => exact (Kd.R_reads' HO_6.out).2.1); (case side3 => repeat (first | exact (Kd.R_reads' HO468.out).2.2 | (with_reducible refine Kd.C_alloc ?_ _) | (with_reducible refine Kd.C_drewN ?_ _) | (with_reducible refine Kd.C_drew ?_))); (case side4 => exact (Kd.R_reads' HO468.out).2.1); rintro e w45 ⟨v470, rfl, ho0, hb⟩; have n0_ := Aside0.mk (Kd.R_below (rq HO_4.out) hb); have n1_ := Aside0.mk (Kd.R_below (rq HO_5.out) hb); have n2_ := Aside0.mk (Kd.R_elder' (rq HO_6.out) (Kd.R_base ho0) hb); have n3_ := Aside0.mk (Kd.R_below (rq HO_9.out) hb); have n4_ := Aside0.mk (Kd.R_elder' (rq HO468.out) (Kd.R_base ho0) hb); have n5_ := Aside0.mk (Kd.R_lower (Kd.R_new' (Kd.R_new' ho0 (Kd.R_lt (rq HO_6.out))) (Kd.R_lt (rq HO468.out))) (below_size (bq HB.out))); have n6_ := Aside0.mk (Kd.C_below (by repeat (first | (with_reducible exact HR465.out) | (with_reducible refine Kd.C_alloc ?_ _) | (with_reducible refine Kd.C_drewN ?_ _) | (with_reducible refine Kd.C_drew ?_) | exact HR465.out)) hb); have n7_ := Aside0.mk (below_step (bq HB.out) hb); clear HO_4; clear HO_5; clear HO_6; clear HO_9; clear HO468; clear HR465; clear HB; have HO_4 := n0_; have HO_5 := n1_; have HO_6 := n2_; have HO_9 := n3_; have HO468 := n4_; have HO471 := n5_; have HR465 := n6_; have HB := n7_; clear n0_ n1_ n2_ n3_ n4_ n5_ n6_ n7_; (try clear hb); (try clear hb2); (try clear hk); (try clear hi); (try clear ho0); obtain ⟨Ao46, co46, eo46⟩ := Kd.R_slice HO_9.out; subst eo46; obtain ⟨Ao47, co47, eo47⟩ := Kd.R_slice HO471.out; subst eo47) | (go_at_call 18; (with_reducible refine (determinant_Restorable.calls t437 _ _ t438 _ _ x9_1 _ _ t469 t472 _ ?side1 ?side2 ?side3 ?side4 ?side5 ?side6 A37.out).mono ?_); (case side1 => repeat (first | exact (Kd.R_reads' HO_4.out).2.2 | (with_reducible refine Kd.C_alloc ?_ _) | (with_reducible refine Kd.C_drewN ?_ _) | (with_reducible refine Kd.C_drew ?_))); (case side2 => exact (Kd.R_reads' HO_4.out).2.1); (case side3 => repeat (first | exact (Kd.R_reads' HO_9.out).2.2 | (with_reducible refine Kd.C_alloc ?_ _) | (with_reducible refine Kd.C_drewN ?_ _) | (with_reducible refine Kd.C_drew ?_))); (case side4 => exact (Kd.R_reads' HO_9.out).2.1); (case side5 => repeat (first | exact (Kd.R_reads' HO471.out).2.2 | (with_reducible refine Kd.C_alloc ?_ _) | (with_reducible refine Kd.C_drewN ?_ _) | (with_reducible refine Kd.C_drew ?_))); (case side6 => exact (Kd.R_reads' HO471.out).2.1); rintro e w48 ⟨v473, rfl, ho0, hb⟩; have n0_ := Aside0.mk (Kd.R_below (rq HO_4.out) hb); have n1_ := Aside0.mk (Kd.R_elder' (rq HO_5.out) (Kd.R_base ho0) hb); have n2_ := Aside0.mk (Kd.R_below (rq HO_6.out) hb); have n3_ := Aside0.mk (Kd.R_elder' (rq HO_9.out) (Kd.R_base ho0) hb); have n4_ := Aside0.mk (Kd.R_below (rq HO468.out) hb); have n5_ := Aside0.mk (Kd.R_below (rq HO471.out) hb); have n6_ := Aside0.mk (Kd.R_lower (Kd.R_new' (Kd.R_new' ho0 (Kd.R_lt (rq HO_5.out))) (Kd.R_lt (rq HO_9.out))) (below_size (bq HB.out))); have n7_ := Aside0.mk (Kd.C_below (by repeat (first | (with_reducible exact HR465.out) | (with_reducible refine Kd.C_alloc ?_ _) | (with_reducible refine Kd.C_drewN ?_ _) | (with_reducible refine Kd.C_drew ?_) | exact HR465.out)) hb); have n8_ := Aside0.mk (below_step (bq HB.out) hb); clear HO_4; clear HO_5; clear HO_6; clear HO_9; clear HO468; clear HO471; clear HR465; clear HB; have HO_4 := n0_; have HO_5 := n1_; have HO_6 := n2_; have HO_9 := n3_; have HO468 := n4_; have HO471 := n5_; have HO474 := n6_; have HR465 := n7_; have HB := n8_; clear n0_ n1_ n2_ n3_ n4_ n5_ n6_ n7_ n8_; (try clear hb); (try clear hb2); (try clear hk); (try clear hi); (try clear ho0))); go_upto_region 17 with (first | (go_at_call 15; (with_reducible refine (determinant_Lineage.calls k1 t437 _ _ y462 t466 _ ?side1 ?side2 A35.out).mono ?_); (case side1 => repeat (first | exact (by repeat (first | (with_reducible exact HR465.out) | (with_reducible refine Kd.C_alloc ?_ _) | (with_reducible refine Kd.C_drewN ?_ _) | (with_reducible refine Kd.C_drew ?_) | exact HR465.out)) | (with_reducible refine Kd.C_alloc ?_ _) | (with_reducible refine Kd.C_drewN ?_ _) | (with_reducible refine Kd.C_drew ?_))); (case side2 => exact HC465.out); rintro e w42 ⟨v467, rfl, ho0, hb⟩; have n0_ := Aside0.mk (Kd.R_below (rq HO_4.out) hb); have n1_ := Aside0.mk (Kd.R_below (rq HO_5.out) hb); have n2_ := Aside0.mk (Kd.R_elder' (rq HO_6.out) (Kd.R_base ho0) hb); have n3_ := Aside0.mk (Kd.R_below (rq HO_9.out) hb); have n4_ := Aside0.mk (Kd.R_lower (Kd.R_new' ho0 (Kd.R_lt (rq HO_6.out))) (below_size (bq HB.out))); have n5_ := Aside0.mk (Kd.C_below (by repeat (first | (with_reducible exact HR465.out) | (with_reducible refine Kd.C_alloc ?_ _) | (with_reducible refine Kd.C_drewN ?_ _) | (with_reducible refine Kd.C_drew ?_) | exact HR465.out)) hb); have n6_ := Aside0.mk (below_step (bq HB.out) hb); clear HO_4; clear HO_5; clear HO_6; clear HO_9; clear HR465; clear HB; have HO_4 := n0_; have HO_5 := n1_; have HO_6 := n2_; have HO_9 := n3_; have HO468 := n4_; have HR465 := n5_; have HB := n6_; clear n0_ n1_ n2_ n3_ n4_ n5_ n6_; (try clear hb); (try clear hb2); (try clear hk); (try clear hi); (try clear ho0); obtain ⟨Ao43, co43, eo43⟩ := Kd.R_slice HO_6.out; subst eo43; obtain ⟨Ao44, co44, eo44⟩ := Kd.R_slice HO468.out; subst eo44) | (go_at_call 25; (with_reducible refine (determinant_Merge.calls k1 _ _ t440 _ _ t466 t469 _ ?side1 ?side2 ?side3 ?side4 A36.out).mono ?_); (case side1 => repeat (first | exact (Kd.R_reads' HO_6.out).2.2 | (with_reducible refine Kd.C_alloc ?_ _) | (with_reducible refine Kd.C_drewN ?_ _) | (with_reducible refine Kd.C_drew ?_))); (case side2 => exact (Kd.R_reads' HO_6.out).2.1); (case side3 => repeat (first | exact (Kd.R_reads' HO468.out).2.2 | (with_reducible refine Kd.C_alloc ?_ _) | (with_reducible refine Kd.C_drewN ?_ _) | (with_reducible refine Kd.C_drew ?_))); (case side4 => exact (Kd.R_reads' HO468.out).2.1); rintro e w45 ⟨v470, rfl, ho0, hb⟩; have n0_ := Aside0.mk (Kd.R_below (rq HO_4.out) hb); have n1_ := Aside0.mk (Kd.R_below (rq HO_5.out) hb); have n2_ := Aside0.mk (Kd.R_elder' (rq HO_6.out) (Kd.R_base ho0) hb); have n3_ := Aside0.mk (Kd.R_below (rq HO_9.out) hb); have n4_ := Aside0.mk (Kd.R_elder' (rq HO468.out) (Kd.R_base ho0) hb); have n5_ := Aside0.mk (Kd.R_lower (Kd.R_new' (Kd.R_new' ho0 (Kd.R_lt (rq HO_6.out))) (Kd.R_lt (rq HO468.out))) (below_size (bq HB.out))); have n6_ := Aside0.mk (Kd.C_below (by repeat (first | (with_reducible exact HR465.out) | (with_reducible refine Kd.C_alloc ?_ _) | (with_reducible refine Kd.C_drewN ?_ _) | (with_reducible refine Kd.C_drew ?_) | exact HR465.out)) hb); have n7_ := Aside0.mk (below_step (bq HB.out) hb); clear HO_4; clear HO_5; clear HO_6; clear HO_9; clear HO468; clear HR465; clear HB; have HO_4 := n0_; have HO_5 := n1_; have HO_6 := n2_; have HO_9 := n3_; have HO468 := n4_; have HO471 := n5_; have HR465 := n6_; have HB := n7_; clear n0_ n1_ n2_ n3_ n4_ n5_ n6_ n7_; (try clear hb); (try clear hb2); (try clear hk); (try clear hi); (try clear ho0); obtain ⟨Ao46, co46, eo46⟩ := Kd.R_slice HO_9.out; subst eo46; obtain ⟨Ao47, co47, eo47⟩ := Kd.R_slice HO471.out; subst eo47) | (go_at_call 18; (with_reducible refine (determinant_Restorable.calls t437 _ _ t438 _ _ x9_1 _ _ t469 t472 _ ?side1 ?side2 ?side3 ?side4 ?side5 ?side6 A37.out).mono ?_); (case side1 => repeat (first | exact (Kd.R_reads' HO_4.out).2.2 | (with_reducible refine Kd.C_alloc ?_ _) | (with_reducible refine Kd.C_drewN ?_ _) | (with_reducible refine Kd.C_drew ?_))); (case side2 => exact (Kd.R_reads' HO_4.out).2.1); (case side3 => repeat (first | exact (Kd.R_reads' HO_9.out).2.2 | (with_reducible refine Kd.C_alloc ?_ _) | (with_reducible refine Kd.C_drewN ?_ _) | (with_reducible refine Kd.C_drew ?_))); (case side4 => exact (Kd.R_reads' HO_9.out).2.1); (case side5 => repeat (first | exact (Kd.R_reads' HO471.out).2.2 | (with_reducible refine Kd.C_alloc ?_ _) | (with_reducible refine Kd.C_drewN ?_ _) | (with_reducible refine Kd.C_drew ?_))); (case side6 => exact (Kd.R_reads' HO471.out).2.1); rintro e w48 ⟨v473, rfl, ho0, hb⟩; have n0_ := Aside0.mk (Kd.R_below (rq HO_4.out) hb); have n1_ := Aside0.mk (Kd.R_elder' (rq HO_5.out) (Kd.R_base ho0) hb); have n2_ := Aside0.mk (Kd.R_below (rq HO_6.out) hb); have n3_ := Aside0.mk (Kd.R_elder' (rq HO_9.out) (Kd.R_base ho0) hb); have n4_ := Aside0.mk (Kd.R_below (rq HO468.out) hb); have n5_ := Aside0.mk (Kd.R_below (rq HO471.out) hb); have n6_ := Aside0.mk (Kd.R_lower (Kd.R_new' (Kd.R_new' ho0 (Kd.R_lt (rq HO_5.out))) (Kd.R_lt (rq HO_9.out))) (below_size (bq HB.out))); have n7_ := Aside0.mk (Kd.C_below (by repeat (first | (with_reducible exact HR465.out) | (with_reducible refine Kd.C_alloc ?_ _) | (with_reducible refine Kd.C_drewN ?_ _) | (with_reducible refine Kd.C_drew ?_) | exact HR465.out)) hb); have n8_ := Aside0.mk (below_step (bq HB.out) hb); clear HO_4; clear HO_5; clear HO_6; clear HO_9; clear HO468; clear HO471; clear HR465; clear HB; have HO_4 := n0_; have HO_5 := n1_; have HO_6 := n2_; have HO_9 := n3_; have HO468 := n4_; have HO471 := n5_; have HO474 := n6_; have HR465 := n7_; have HB := n8_; clear n0_ n1_ n2_ n3_ n4_ n5_ n6_ n7_ n8_; (try clear hb); (try clear hb2); (try clear hk); (try clear hi); (try clear ho0))))
        (try simp only [Act.put, List.setIfInBounds_toArray, List.set_cons_zero, List.set_cons_succ])
        go_cut [108] (fun v108 wc => ∃ (kq : Nat) (x108_37 : Bool), v108 = .bool x108_37 ∧ Aside0 (rollbacknetlaw27_DeterminantIntervals.j2 kq t472 x108_37 = some r) ∧ Aside0 (kq ≤ k1) ∧ Aside0 (Kd.R (Kd.int .i64) 3 wc w.heap.size (fun _ => True) v473 t472) ∧ Aside0 (Kd.C k37 wc Ao41 y462.length y462) ∧ Aside0 (Below w.heap.size w wc))
        case first =>
         have H := HC38.out
         clear HC38
         by_cases c49 : (t472.length : Int) = 0
         ·rw [if_pos c49] at H
          have c49b0 : ((t472.length : Int) == 0) = true := beq_iff_eq.mpr c49
          have c49b1 : ((t472.length : Int) != 0) = false := bne_eq_false_iff_eq.mpr c49
          clear c49
          (first | rw [c49b0] | (simp only [i64_w, i32_w]; rw [c49b0]) | skip)
          have H' := Aside0.mk H
          clear H
          obtain ⟨Ao50, co50, eo50⟩ := Kd.R_slice HO474.out
          subst eo50
          go_wp2
          repeat (go_quiet (fail); try go_wp2)
          go_meet
          case rel => exact ⟨_, (true), (by first | rfl | (simp; done) | (simp [*]; done)), H', ⟨by have := HK1.out; first | omega | exact Nat.le_refl _⟩, ⟨by (with_reducible repeat (first | apply Kd.R_alloc | apply Kd.R_drewN | apply Kd.R_drew)); exact Kd.R_mono HO474.out (fun _ hk => trivial)⟩, ⟨by repeat (first | (with_reducible exact HR465.out) | (with_reducible refine Kd.C_alloc ?_ _) | (with_reducible refine Kd.C_drewN ?_ _) | (with_reducible refine Kd.C_drew ?_) | exact HR465.out)⟩, ⟨bq HB.out⟩⟩
         ·rw [if_neg c49] at H
          have c49b0 : ((t472.length : Int) == 0) = false := beq_eq_false_iff_ne.mpr c49
          have c49b1 : ((t472.length : Int) != 0) = true := bne_iff_ne.mpr c49
          have c49b2 : ¬ (t472 = []) := fun h_ => c49 (by rw [h_]; rfl)
          (first | rw [c49b0] | (simp only [i64_w, i32_w]; rw [c49b0]) | skip)
          by_cases c51 : 0 < (t472.length : Int)
          ·rw [if_pos c51] at H
           have c51b0 : decide (0 < (t472.length : Int)) = true := decide_eq_true c51
           have c51b1 : decide (0 < t472.length) = true := decide_eq_true (by omega)
           clear c51
           by_cases c52 : (rd t472 0) = x7_1
           ·rw [if_pos c52] at H
            have c52b0 : ((rd t472 0) == x7_1) = true := beq_iff_eq.mpr c52
            have c52b1 : ((rd t472 0) != x7_1) = false := bne_eq_false_iff_eq.mpr c52
            clear c52
            obtain ⟨ji53, hji53⟩ : ∃ j_ : Int, (wrap64 ((t472.length : Int) - 1)) = j_ := ⟨_, rfl⟩
            replace H : (if 0 ≤ (ji53) then (if (ji53) < (t472.length : Int) then (rollbacknetlaw27_DeterminantIntervals.j2 k1 t472 (decide ((rd t472 (ji53)) < x8_1))) else (none)) else (none)) = some r := by first | (rw [hji53] at H; exact H) | (simp only [hji53] at H ⊢; exact H)
            have hji53w : (IntKind.i64.wrap ((t472.length : Int) - 1)) = ji53 := (i64_w _).trans hji53
            by_cases c54 : 0 ≤ (ji53)
            ·rw [if_pos c54] at H
             have c54b0 : decide (0 ≤ (ji53)) = true := decide_eq_true c54
             clear c54
             by_cases c55 : (ji53) < (t472.length : Int)
             ·rw [if_pos c55] at H
              have c55b0 : decide ((ji53) < (t472.length : Int)) = true := decide_eq_true c55
              clear c55
              have H' := Aside0.mk H
              clear H
              obtain ⟨Ao56, co56, eo56⟩ := Kd.R_slice HO474.out
              subst eo56
              have p475 : 0 ≤ (0 : Int) := (by omega)
              have q475 : 0 < (t472.length : Int) := of_decide_eq_true (by first | (with_reducible assumption) | assumption)
              obtain ⟨ad475, e475, hx475_0⟩ := Kd.at_int (Kd.R_reads' HO474.out).2.2 0 p475 q475
              cases e475
              have qi475 : (0 < t472.length) = True := eq_true (by omega)
              (try rw [show ((0 : Int)).toNat = 0 from rfl] at hx475_0)
              (try rw [Addr.add_zero'] at hx475_0)
              replace p475 := eq_true p475
              replace q475 := eq_true q475
              have p476 : 0 ≤ ((ji53) : Int) := of_decide_eq_true (by first | (with_reducible assumption) | assumption)
              have q476 : (ji53) < (t472.length : Int) := of_decide_eq_true (by first | (with_reducible assumption) | assumption)
              obtain ⟨ad476, e476, hx476_0⟩ := Kd.at_int (Kd.R_reads' HO474.out).2.2 (ji53) p476 q476
              obtain rfl : ad475 = ad476 := (by injection e476)
              replace p476 := eq_true p476
              replace q476 := eq_true q476
              go_wp2
              repeat (go_quiet (fail); try go_wp2)
              go_meet
              case rel => exact ⟨_, (decide ((rd t472 (ji53)) < x8_1)), (by first | rfl | (simp; done) | (simp only [← hji53] <;> (first | rfl | simp)) | (simp [*]; done)), H', ⟨by have := HK1.out; first | omega | exact Nat.le_refl _⟩, ⟨by (with_reducible repeat (first | apply Kd.R_alloc | apply Kd.R_drewN | apply Kd.R_drew)); exact Kd.R_mono HO474.out (fun _ hk => trivial)⟩, ⟨by repeat (first | (with_reducible exact HR465.out) | (with_reducible refine Kd.C_alloc ?_ _) | (with_reducible refine Kd.C_drewN ?_ _) | (with_reducible refine Kd.C_drew ?_) | exact HR465.out)⟩, ⟨bq HB.out⟩⟩
             ·rw [if_neg c55] at H
              exact absurd H (by simp)
            ·rw [if_neg c54] at H
             exact absurd H (by simp)
           ·rw [if_neg c52] at H
            have c52b0 : ((rd t472 0) == x7_1) = false := beq_eq_false_iff_ne.mpr c52
            have c52b1 : ((rd t472 0) != x7_1) = true := bne_iff_ne.mpr c52
            have H' := Aside0.mk H
            clear H
            obtain ⟨Ao57, co57, eo57⟩ := Kd.R_slice HO474.out
            subst eo57
            have p475 : 0 ≤ (0 : Int) := (by omega)
            have q475 : 0 < (t472.length : Int) := of_decide_eq_true (by first | (with_reducible assumption) | assumption)
            obtain ⟨ad475, e475, hx475_0⟩ := Kd.at_int (Kd.R_reads' HO474.out).2.2 0 p475 q475
            cases e475
            have qi475 : (0 < t472.length) = True := eq_true (by omega)
            (try rw [show ((0 : Int)).toNat = 0 from rfl] at hx475_0)
            (try rw [Addr.add_zero'] at hx475_0)
            replace p475 := eq_true p475
            replace q475 := eq_true q475
            go_wp2
            repeat (go_quiet (fail); try go_wp2)
            go_meet
            case rel => exact ⟨_, (true), (by first | rfl | (simp; done) | (simp [*]; done)), H', ⟨by have := HK1.out; first | omega | exact Nat.le_refl _⟩, ⟨by (with_reducible repeat (first | apply Kd.R_alloc | apply Kd.R_drewN | apply Kd.R_drew)); exact Kd.R_mono HO474.out (fun _ hk => trivial)⟩, ⟨by repeat (first | (with_reducible exact HR465.out) | (with_reducible refine Kd.C_alloc ?_ _) | (with_reducible refine Kd.C_drewN ?_ _) | (with_reducible refine Kd.C_drew ?_) | exact HR465.out)⟩, ⟨bq HB.out⟩⟩
          ·rw [if_neg c51] at H
           exact absurd H (by simp)
        case rest =>
         clear HC38
         try clear c1
         try clear c2
         try clear p2
         try clear c3
         try clear c4
         try clear p4
         try clear q4
         try clear hx4
         try clear qi4
         try clear c5
         try clear p6
         try clear c7
         try clear c7b0
         try clear c8
         try clear c10
         try clear c10b0
         try clear c11
         try clear c11b0
         try clear c13
         try clear c14
         try clear c14b0
         try clear c15
         try clear c15b0
         try clear c16
         try clear c17
         try clear c17b0
         try clear c20
         try clear c20b0
         try clear c25
         try clear c25b0
         try clear c33
         try clear c33b0
         try clear c33b1
         try clear c34
         try clear c34b0
         try clear c34b1
         try clear q40
         try clear p44
         try clear q44
         try clear hx44
         try clear p45
         try clear q45
         try clear hx45
         try clear p47
         try clear q47
         try clear hx47
         try clear qi47
         try clear c49
         try clear c49b0
         try clear c49b1
         try clear c49b2
         try clear c51
         try clear c51b0
         try clear c51b1
         try clear c52
         try clear c52b0
         try clear c52b1
         try clear c54
         try clear c54b0
         try clear c55
         try clear c55b0
         try clear hx447_0
         try clear hx448_0
         try clear hx449_0
         try clear hx453_0
         try clear hx454_0
         try clear hx455_0
         try clear hx456_0
         try clear hx457_0
         try clear hx458_0
         try clear hx475_0
         try clear hx476_0
         try clear p2
         try clear p4
         try clear p447
         try clear p448
         try clear p449
         try clear p453
         try clear p454
         try clear p455
         try clear p456
         try clear p457
         try clear p458
         try clear p475
         try clear p476
         try clear q4
         try clear q40
         try clear q447
         try clear q448
         try clear q449
         try clear q453
         try clear q454
         try clear q455
         try clear q456
         try clear q457
         try clear q458
         try clear q475
         try clear q476
         obtain ⟨kq, x108_37, rfl, HA, HJ37, HO_11, HR465, HB⟩ := hcut
         cases kq with
         | zero => exact absurd HA.out (by simp [rollbacknetlaw27_DeterminantIntervals.j2])
         | succ kj37 =>
          have H := HA.out
          clear HA
          simp only [rollbacknetlaw27_DeterminantIntervals.j2] at H
          by_cases c58 : x108_37 = true
          ·subst c58
           have H1 : (some false) = some r := by rw [if_pos rfl] at H; exact H
           clear H
           have H := H1
           clear H1
           obtain rfl := Option.some.inj H
           go_wp2
           repeat (go_quiet (fail); try go_wp2)
           go_ret
           exact ⟨by first | rfl | (simp [errW_none, errW_some] <;> rfl) | (simp [*, errW_none, errW_some] <;> rfl), bq HB.out⟩
          ·replace c58 := Bool.eq_false_iff.mpr c58
           subst c58
           have H1 : (rollbacknetlaw27_DeterminantIntervals.l1 kj37 t472 0) = some r := by rw [if_neg (show ¬ (false = true) by decide)] at H; exact H
           clear H
           have H := H1
           clear H1
           have H' := Aside0.mk H
           clear H
           go_wp2
           repeat (go_quiet (fail); try go_wp2)
           go_loopg [12] kj37 (fun kq v12 w' => ∃ (x12_3 : Int), v12 = .int .i64 x12_3 ∧ Aside0 (rollbacknetlaw27_DeterminantIntervals.l1 kq t472 x12_3 = some r) ∧ Aside0 (kq ≤ kj37) ∧ Aside0 (Kd.R (Kd.int .i64) 3 w' w.heap.size (fun _ => True) v473 t472) ∧ Aside0 (Kd.C k37 w' Ao41 y462.length y462) ∧ Aside0 (Below w.heap.size w w'))
           case atStart => exact ⟨(0), (by first | rfl | (simp; done) | (simp [*]; done)), H', ⟨Nat.le_refl _⟩, ⟨rq HO_11.out⟩, ⟨by repeat (first | (with_reducible exact HR465.out) | (with_reducible refine Kd.C_alloc ?_ _) | (with_reducible refine Kd.C_drewN ?_ _) | (with_reducible refine Kd.C_drew ?_) | exact HR465.out)⟩, ⟨bq HB.out⟩⟩
           case round =>
            clear H'
            try clear c1
            try clear c2
            try clear p2
            try clear c3
            try clear c4
            try clear p4
            try clear q4
            try clear hx4
            try clear qi4
            try clear c5
            try clear p6
            try clear c7
            try clear c7b0
            try clear c8
            try clear c10
            try clear c10b0
            try clear c11
            try clear c11b0
            try clear c13
            try clear c14
            try clear c14b0
            try clear c15
            try clear c15b0
            try clear c16
            try clear c17
            try clear c17b0
            try clear c20
            try clear c20b0
            try clear c25
            try clear c25b0
            try clear c33
            try clear c33b0
            try clear c33b1
            try clear c34
            try clear c34b0
            try clear c34b1
            try clear q40
            try clear p44
            try clear q44
            try clear hx44
            try clear p45
            try clear q45
            try clear hx45
            try clear p47
            try clear q47
            try clear hx47
            try clear qi47
            try clear c49
            try clear c49b0
            try clear c49b1
            try clear c49b2
            try clear c51
            try clear c51b0
            try clear c51b1
            try clear c52
            try clear c52b0
            try clear c52b1
            try clear c54
            try clear c54b0
            try clear c55
            try clear c55b0
            try clear c58
            try clear hx447_0
            try clear hx448_0
            try clear hx449_0
            try clear hx453_0
            try clear hx454_0
            try clear hx455_0
            try clear hx456_0
            try clear hx457_0
            try clear hx458_0
            try clear hx475_0
            try clear hx476_0
            try clear p2
            try clear p4
            try clear p44
            try clear p447
            try clear p448
            try clear p449
            try clear p45
            try clear p453
            try clear p454
            try clear p455
            try clear p456
            try clear p457
            try clear p458
            try clear p47
            try clear p475
            try clear p476
            try clear p6
            try clear q4
            try clear q40
            try clear q44
            try clear q447
            try clear q448
            try clear q449
            try clear q45
            try clear q453
            try clear q454
            try clear q455
            try clear q456
            try clear q457
            try clear q458
            try clear q47
            try clear q475
            try clear q476
            obtain ⟨x12_3, rfl, HA, HK3, HO_11, HR465, HB⟩ := hrel
            cases gk with
            | zero => exact absurd HA.out (by simp [rollbacknetlaw27_DeterminantIntervals.l1])
            | succ k3 =>
             have H := HA.out
             clear HA
             simp only [rollbacknetlaw27_DeterminantIntervals.l1] at H
             by_cases c59 : (wrap64 (x12_3 + 1)) < (t472.length : Int)
             ·rw [if_pos c59] at H
              have c59b0 : decide ((wrap64 (x12_3 + 1)) < (t472.length : Int)) = true := decide_eq_true c59
              clear c59
              obtain ⟨ji60, hji60⟩ : ∃ j_ : Int, (wrap64 (x12_3 + 1)) = j_ := ⟨_, rfl⟩
              replace H : (if 0 ≤ (ji60) then (if 0 ≤ x12_3 then (if x12_3 < (t472.length : Int) then (if (rd t472 (ji60)) = (wrap64 ((rd t472 x12_3) + 1)) then (rollbacknetlaw27_DeterminantIntervals.l1 k3 t472 ji60) else (some false)) else (none)) else (none)) else (none)) = some r := by first | (rw [hji60] at H; exact H) | (simp only [hji60] at H ⊢; exact H)
              (try rw [hji60] at c59b0)
              have hji60w : (IntKind.i64.wrap (x12_3 + 1)) = ji60 := (i64_w _).trans hji60
              by_cases c61 : 0 ≤ (ji60)
              ·rw [if_pos c61] at H
               have c61b0 : decide (0 ≤ (ji60)) = true := decide_eq_true c61
               clear c61
               by_cases c62 : 0 ≤ x12_3
               ·rw [if_pos c62] at H
                have c62b0 : decide (0 ≤ x12_3) = true := decide_eq_true c62
                clear c62
                by_cases c63 : x12_3 < (t472.length : Int)
                ·rw [if_pos c63] at H
                 have c63b0 : decide (x12_3 < (t472.length : Int)) = true := decide_eq_true c63
                 clear c63
                 by_cases c64 : (rd t472 (ji60)) = (wrap64 ((rd t472 x12_3) + 1))
                 ·rw [if_pos c64] at H
                  have c64b0 : ((rd t472 (ji60)) == (wrap64 ((rd t472 x12_3) + 1))) = true := beq_iff_eq.mpr c64
                  have c64b1 : ((rd t472 (ji60)) != (wrap64 ((rd t472 x12_3) + 1))) = false := bne_eq_false_iff_eq.mpr c64
                  clear c64
                  have H' := Aside0.mk H
                  clear H
                  obtain ⟨Ao65, co65, eo65⟩ := Kd.R_slice HO_11.out
                  subst eo65
                  have p477 : 0 ≤ ((ji60) : Int) := of_decide_eq_true (by first | (with_reducible assumption) | assumption)
                  have q477 : (ji60) < (t472.length : Int) := of_decide_eq_true (by first | (with_reducible assumption) | assumption)
                  obtain ⟨ad477, e477, hx477_0⟩ := Kd.at_int (Kd.R_reads' HO_11.out).2.2 (ji60) p477 q477
                  cases e477
                  replace p477 := eq_true p477
                  replace q477 := eq_true q477
                  have p478 : 0 ≤ (x12_3 : Int) := of_decide_eq_true (by first | (with_reducible assumption) | assumption)
                  have q478 : x12_3 < (t472.length : Int) := of_decide_eq_true (by first | (with_reducible assumption) | assumption)
                  obtain ⟨ad478, e478, hx478_0⟩ := Kd.at_int (Kd.R_reads' HO_11.out).2.2 x12_3 p478 q478
                  obtain rfl : ad477 = ad478 := (by injection e478)
                  replace p478 := eq_true p478
                  replace q478 := eq_true q478
                  go_wp2
                  repeat (go_quiet (fail); try go_wp2)
                  go_roundg k3
                  case measure => have := HK1.out; have := HJ37.out; have := HK3.out; omega
                  case rel => exact ⟨(ji60), (by first | rfl | (simp; done) | (simp only [← hji60] <;> (first | rfl | simp)) | (simp [*]; done)), H', ⟨by have := HK1.out; have := HJ37.out; have := HK3.out; omega⟩, ⟨rq HO_11.out⟩, ⟨by repeat (first | (with_reducible exact HR465.out) | (with_reducible refine Kd.C_alloc ?_ _) | (with_reducible refine Kd.C_drewN ?_ _) | (with_reducible refine Kd.C_drew ?_) | exact HR465.out)⟩, ⟨bq HB.out⟩⟩
                 ·rw [if_neg c64] at H
                  have c64b0 : ((rd t472 (ji60)) == (wrap64 ((rd t472 x12_3) + 1))) = false := beq_eq_false_iff_ne.mpr c64
                  have c64b1 : ((rd t472 (ji60)) != (wrap64 ((rd t472 x12_3) + 1))) = true := bne_iff_ne.mpr c64
                  obtain rfl := Option.some.inj H
                  obtain ⟨Ao66, co66, eo66⟩ := Kd.R_slice HO_11.out
                  subst eo66
                  have p477 : 0 ≤ ((ji60) : Int) := of_decide_eq_true (by first | (with_reducible assumption) | assumption)
                  have q477 : (ji60) < (t472.length : Int) := of_decide_eq_true (by first | (with_reducible assumption) | assumption)
                  obtain ⟨ad477, e477, hx477_0⟩ := Kd.at_int (Kd.R_reads' HO_11.out).2.2 (ji60) p477 q477
                  cases e477
                  replace p477 := eq_true p477
                  replace q477 := eq_true q477
                  have p478 : 0 ≤ (x12_3 : Int) := of_decide_eq_true (by first | (with_reducible assumption) | assumption)
                  have q478 : x12_3 < (t472.length : Int) := of_decide_eq_true (by first | (with_reducible assumption) | assumption)
                  obtain ⟨ad478, e478, hx478_0⟩ := Kd.at_int (Kd.R_reads' HO_11.out).2.2 x12_3 p478 q478
                  obtain rfl : ad477 = ad478 := (by injection e478)
                  replace p478 := eq_true p478
                  replace q478 := eq_true q478
                  go_wp2
                  repeat (go_quiet (fail); try go_wp2)
                  go_ret
                  exact ⟨by first | rfl | (simp [errW_none, errW_some] <;> rfl) | (simp only [← hji60]; first | rfl | (simp [errW_none, errW_some] <;> rfl)) | (simp [*, errW_none, errW_some] <;> rfl), bq HB.out⟩
                ·rw [if_neg c63] at H
                 exact absurd H (by simp)
               ·rw [if_neg c62] at H
                exact absurd H (by simp)
              ·rw [if_neg c61] at H
               exact absurd H (by simp)
             ·rw [if_neg c59] at H
              have c59b0 : decide ((wrap64 (x12_3 + 1)) < (t472.length : Int)) = false := decide_eq_false c59
              clear c59
              obtain rfl := Option.some.inj H
              obtain ⟨Ao67, co67, eo67⟩ := Kd.R_slice HO_11.out
              subst eo67
              go_wp2
              repeat (go_quiet (fail); try go_wp2)
              go_ret
              exact ⟨by first | rfl | (simp [errW_none, errW_some] <;> rfl) | (simp [*, errW_none, errW_some] <;> rfl), bq HB.out⟩
       ·rw [if_neg c34] at H
        exact absurd H (by simp)
      ·rw [if_neg c33] at H
       exact absurd H (by simp)
 ·replace c3 := Bool.eq_false_iff.mpr c3
  subst c3
  have H1 : (some false) = some r := by rw [if_neg (show ¬ (false = true) by decide)] at H; exact H
  clear H
  have H := H1
  clear H1
  obtain rfl := Option.some.inj H
  go_enter Try.func8, Try.ntmps8
  go_wp2_with (first | (go_at_call 12; (with_reducible refine (rollbacknetlaw27_awake.calls k  false _ A2.out).mono ?_); rintro e w68 ⟨rfl, hb⟩; have n0_ := Aside0.mk (below_step (bq HB.out) hb); clear HB; have HB := n0_; clear n0_; (try clear hb); (try clear hb2); (try clear hk); (try clear hi)))
  repeat (go_quiet (first | (go_at_call 12; (with_reducible refine (rollbacknetlaw27_awake.calls k  false _ A2.out).mono ?_); rintro e w68 ⟨rfl, hb⟩; have n0_ := Aside0.mk (below_step (bq HB.out) hb); clear HB; have HB := n0_; clear n0_; (try clear hb); (try clear hb2); (try clear hk); (try clear hi))); try go_wp2_with (first | (go_at_call 12; (with_reducible refine (rollbacknetlaw27_awake.calls k  false _ A2.out).mono ?_); rintro e w68 ⟨rfl, hb⟩; have n0_ := Aside0.mk (below_step (bq HB.out) hb); clear HB; have HB := n0_; clear n0_; (try clear hb); (try clear hb2); (try clear hk); (try clear hi))))
  go_ret
  exact ⟨by first | rfl | (simp [errW_none, errW_some] <;> rfl) | (simp [*, errW_none, errW_some] <;> rfl), bq HB.out⟩

/-- THE ONE PURE STATEMENT of rollbacknetlaw27_DeterminantIntervals. -/
def rollbacknetlaw27_DeterminantIntervals.Pure : Prop := ∀ (p0 : List Int), (okRow 1 (okInt .u8)) p0 → ∃ k, rollbacknetlaw27_DeterminantIntervals.f k p0 = some true

end Go.Proofs.Ytjlpggpkbcgekaa.PG27
