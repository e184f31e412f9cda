-- Written by a program of this session (hprint.py) out of the translation and of hand-proved parts. Lean checks it.
import Derived.Test.YtjlpggpkbcgekaaPDeterminantPartsx0
import Derived.Test.YtjlpggpkbcgekaaPDeterminantPartsx3
import Derived.Test.YtjlpggpkbcgekaaPDeterminantPartsx4
import Derived.Test.YtjlpggpkbcgekaaPDeterminantPartsx7
namespace Go.Proofs.Ytjlpggpkbcgekaa.PDeterminantParts
open Go.RowKit Go.Proofs.YtjlpggpkbcgekaaW.PrintWords Go.Proofs.YtjlpggpkbcgekaaW.PrintLast Go.Proofs.YtjlpggpkbcgekaaW.PrintMore
attribute [local go_sem] max2_int min2_int max_two min_two max_three min_three max_four min_four   -- for this text's walks alone
set_option linter.unusedVariables false
set_option linter.unusedSimpArgs false

/-! ### rollbacknetlaw27_DeterminantParts: function 10 -/
def rollbacknetlaw27_DeterminantParts.l0 : Nat → List (S39) → Int → Int → List (S39) → List (S39) → Int → Int → Option (Bool)
 | 0, _, _, _, _, _, _, _ => none
 | k + 1, x7, x8, x9, x10, x11, x12, x13 => if x13 < (x7.length : Int) then (if 0 ≤ x13 then (if ((rd_T39 x7 x13).f0) = x8 then (rollbacknetlaw27_DeterminantParts.l0 k x7 x8 x9 x10 x11 x12 (wrap64 (x13 + 1))) else (rollbacknetlaw27_DeterminantParts.l0 k x7 x8 x9 x10 x11 (wrap64 (x12 + 1)) (wrap64 (x13 + 1)))) else (none)) else (if (wrap64 ((x10.length : Int) + (x11.length : Int))) = (wrap64 ((x7.length : Int) + x12)) then ((determinant_Discard.f k x10 x8 x9).bind fun t296 => (if (t296.length : Int) = x12 then ((determinant_Merge.f k x10 x11).bind fun t299 => ((determinant_Merge.f k x7 ([] : List (S39))).bind fun t302 => ((rollbacknetref27_Same.f k t299 t302).bind fun t305 => (some t305)))) else (some false))) else (some false))
def rollbacknetlaw27_DeterminantParts.f (k : Nat) (l0 : List Int) (a1 : Int) (a2 : Int) : Option (Bool) := (rollbacknetlaw27_awake.f k).bind fun t279 => (if t279 = true then ((rollbacknetmake_New.f l0 200).bind fun bt280 => ((rollbacknetmake_Codes_Dets.f k bt280.1 bt280.2 14).bind fun bt283 => ((rollbacknetmake_Mod.f a1 4).bind fun t287 => ((rollbacknetmake_Mod.f a2 9).bind fun t288 => ((determinant_Cut.f k bt283.1 t287 (wrap64 (t288 - 1))).bind fun t289 => ((determinant_Discard.f k bt283.1 t287 (wrap64 (t288 - 1))).bind fun t292 => (rollbacknetlaw27_DeterminantParts.l0 k bt283.1 t287 (wrap64 (t288 - 1)) t289 t292 0 0))))))) else (some false))
theorem rollbacknetlaw27_DeterminantParts.mono_l : ∀ k, (∀ y0 y1 y2 y3 y4 y5 y6, LeO (rollbacknetlaw27_DeterminantParts.l0 k y0 y1 y2 y3 y4 y5 y6) (rollbacknetlaw27_DeterminantParts.l0 (k + 1) y0 y1 y2 y3 y4 y5 y6))
 | 0 => fun _ _ _ _ _ _ _ r h => by simp [rollbacknetlaw27_DeterminantParts.l0] at h
 | k + 1 => by
  have ih0 := rollbacknetlaw27_DeterminantParts.mono_l k
  ·intro y0 y1 y2 y3 y4 y5 y6
   unfold rollbacknetlaw27_DeterminantParts.l0
   repeat' first
   | (with_reducible exact ih0 _ _ _ _ _ _ _)
   | (with_reducible exact determinant_Cut.mono _ _ _ _)
   | (with_reducible exact determinant_Discard.mono _ _ _ _)
   | (with_reducible exact determinant_Merge.mono _ _ _)
   | (with_reducible exact rollbacknetlaw27_awake.mono _)
   | (with_reducible exact rollbacknetmake_Codes_Dets.mono _ _ _ _)
   | (with_reducible exact rollbacknetref27_Same.mono _ _ _)
   | (with_reducible exact LeO.refl _)
   | (with_reducible exact LeO.none _)
   | (with_reducible refine LeO.ite ?_ ?_)
   | (with_reducible refine LeO.bind ?_ (fun _ => ?_))
   | exact ih0 _ _ _ _ _ _ _
   | exact determinant_Cut.mono _ _ _ _
   | exact determinant_Discard.mono _ _ _ _
   | exact determinant_Merge.mono _ _ _
   | exact rollbacknetlaw27_awake.mono _
   | exact rollbacknetmake_Codes_Dets.mono _ _ _ _
   | exact rollbacknetref27_Same.mono _ _ _
   | exact LeO.none _
   | refine LeO.ite ?_ ?_
   | refine LeO.bind ?_ (fun _ => ?_)
theorem rollbacknetlaw27_DeterminantParts.mono : ∀ a0 a1 a2 k, LeO (rollbacknetlaw27_DeterminantParts.f k a0 a1 a2) (rollbacknetlaw27_DeterminantParts.f (k + 1) a0 a1 a2) := by
 intro a0 a1 a2 k
 have ih0 := rollbacknetlaw27_DeterminantParts.mono_l k
 unfold rollbacknetlaw27_DeterminantParts.f
 repeat' first
   | (with_reducible exact ih0 _ _ _ _ _ _ _)
   | (with_reducible exact determinant_Cut.mono _ _ _ _)
   | (with_reducible exact determinant_Discard.mono _ _ _ _)
   | (with_reducible exact determinant_Merge.mono _ _ _)
   | (with_reducible exact rollbacknetlaw27_awake.mono _)
   | (with_reducible exact rollbacknetmake_Codes_Dets.mono _ _ _ _)
   | (with_reducible exact rollbacknetref27_Same.mono _ _ _)
   | (with_reducible exact LeO.refl _)
   | (with_reducible exact LeO.none _)
   | (with_reducible refine LeO.ite ?_ ?_)
   | (with_reducible refine LeO.bind ?_ (fun _ => ?_))
   | exact ih0 _ _ _ _ _ _ _
   | exact determinant_Cut.mono _ _ _ _
   | exact determinant_Discard.mono _ _ _ _
   | exact determinant_Merge.mono _ _ _
   | exact rollbacknetlaw27_awake.mono _
   | exact rollbacknetmake_Codes_Dets.mono _ _ _ _
   | exact rollbacknetref27_Same.mono _ _ _
   | exact LeO.none _
   | refine LeO.ite ?_ ?_
   | refine LeO.bind ?_ (fun _ => ?_)
set_option maxHeartbeats 8000000 in
set_option maxRecDepth 100000 in
theorem rollbacknetlaw27_DeterminantParts.calls (k : Nat) (A0 : Option Addr) (c0 : Nat) (l0 : List Int) (a1 : Int) (a2 : Int) (r : Bool) (w : World) (hr0 : Kd.C (Kd.int .u8) w A0 l0.length l0) (hc0 : l0.length ≤ c0) (h : rollbacknetlaw27_DeterminantParts.f k l0 a1 a2 = some r) :
  Calls Try.prog 10 #[.slice A0 l0.length c0, .int .i64 a1, .int .i64 a2] w fun e w' => e = .returned (.bool r) ∧ Below w.heap.size w w' := by
 have HR0 := Aside0.mk hr0
 have HC0 := Aside0.mk hc0
 clear hr0 hc0
 have HB := Aside0.mk (Below.refl w.heap.size w)
 have H : ((rollbacknetlaw27_awake.f k).bind fun t279 => (if t279 = true then ((rollbacknetmake_New.f l0 200).bind fun bt280 => ((rollbacknetmake_Codes_Dets.f k bt280.1 bt280.2 14).bind fun bt283 => ((rollbacknetmake_Mod.f a1 4).bind fun t287 => ((rollbacknetmake_Mod.f a2 9).bind fun t288 => ((determinant_Cut.f k bt283.1 t287 (wrap64 (t288 - 1))).bind fun t289 => ((determinant_Discard.f k bt283.1 t287 (wrap64 (t288 - 1))).bind fun t292 => (rollbacknetlaw27_DeterminantParts.l0 k bt283.1 t287 (wrap64 (t288 - 1)) t289 t292 0 0))))))) else (some false))) = some r := h
 clear h
 replace H := Option.bind_eq_some_iff.mp H
 obtain ⟨t279, A40, H⟩ := H
 replace H : (if t279 = true then ((rollbacknetmake_New.f l0 200).bind fun bt280 => ((rollbacknetmake_Codes_Dets.f k bt280.1 bt280.2 14).bind fun bt283 => ((rollbacknetmake_Mod.f a1 4).bind fun t287 => ((rollbacknetmake_Mod.f a2 9).bind fun t288 => ((determinant_Cut.f k bt283.1 t287 (wrap64 (t288 - 1))).bind fun t289 => ((determinant_Discard.f k bt283.1 t287 (wrap64 (t288 - 1))).bind fun t292 => (rollbacknetlaw27_DeterminantParts.l0 k bt283.1 t287 (wrap64 (t288 - 1)) t289 t292 0 0))))))) else (some false)) = some r := H
 have A4 := Aside0.mk A40
 clear A40
 by_cases c5 : t279 = true
 ·subst c5
  have H1 : ((rollbacknetmake_New.f l0 200).bind fun bt280 => ((rollbacknetmake_Codes_Dets.f k bt280.1 bt280.2 14).bind fun bt283 => ((rollbacknetmake_Mod.f a1 4).bind fun t287 => ((rollbacknetmake_Mod.f a2 9).bind fun t288 => ((determinant_Cut.f k bt283.1 t287 (wrap64 (t288 - 1))).bind fun t289 => ((determinant_Discard.f k bt283.1 t287 (wrap64 (t288 - 1))).bind fun t292 => (rollbacknetlaw27_DeterminantParts.l0 k bt283.1 t287 (wrap64 (t288 - 1)) t289 t292 0 0))))))) = some r := by rw [if_pos rfl] at H; exact H
  clear H
  have H := H1
  clear H1
  replace H := Option.bind_eq_some_iff.mp H
  obtain ⟨⟨t280, t281⟩, A60, H⟩ := H
  replace H : ((rollbacknetmake_Codes_Dets.f k t280 t281 14).bind fun bt283 => ((rollbacknetmake_Mod.f a1 4).bind fun t287 => ((rollbacknetmake_Mod.f a2 9).bind fun t288 => ((determinant_Cut.f k bt283.1 t287 (wrap64 (t288 - 1))).bind fun t289 => ((determinant_Discard.f k bt283.1 t287 (wrap64 (t288 - 1))).bind fun t292 => (rollbacknetlaw27_DeterminantParts.l0 k bt283.1 t287 (wrap64 (t288 - 1)) t289 t292 0 0)))))) = some r := H
  have A6 := Aside0.mk A60
  clear A60
  replace H := Option.bind_eq_some_iff.mp H
  obtain ⟨⟨t283, t286⟩, A70, H⟩ := H
  replace H : ((rollbacknetmake_Mod.f a1 4).bind fun t287 => ((rollbacknetmake_Mod.f a2 9).bind fun t288 => ((determinant_Cut.f k t283 t287 (wrap64 (t288 - 1))).bind fun t289 => ((determinant_Discard.f k t283 t287 (wrap64 (t288 - 1))).bind fun t292 => (rollbacknetlaw27_DeterminantParts.l0 k t283 t287 (wrap64 (t288 - 1)) t289 t292 0 0))))) = some r := H
  have A7 := Aside0.mk A70
  clear A70
  replace H := Option.bind_eq_some_iff.mp H
  obtain ⟨t287, A80, H⟩ := H
  replace H : ((rollbacknetmake_Mod.f a2 9).bind fun t288 => ((determinant_Cut.f k t283 t287 (wrap64 (t288 - 1))).bind fun t289 => ((determinant_Discard.f k t283 t287 (wrap64 (t288 - 1))).bind fun t292 => (rollbacknetlaw27_DeterminantParts.l0 k t283 t287 (wrap64 (t288 - 1)) t289 t292 0 0)))) = some r := H
  have A8 := Aside0.mk A80
  clear A80
  replace H := Option.bind_eq_some_iff.mp H
  obtain ⟨t288, A90, H⟩ := H
  replace H : ((determinant_Cut.f k t283 t287 (wrap64 (t288 - 1))).bind fun t289 => ((determinant_Discard.f k t283 t287 (wrap64 (t288 - 1))).bind fun t292 => (rollbacknetlaw27_DeterminantParts.l0 k t283 t287 (wrap64 (t288 - 1)) t289 t292 0 0))) = some r := H
  have A9 := Aside0.mk A90
  clear A90
  replace H := Option.bind_eq_some_iff.mp H
  obtain ⟨t289, A100, H⟩ := H
  replace H : ((determinant_Discard.f k t283 t287 (wrap64 (t288 - 1))).bind fun t292 => (rollbacknetlaw27_DeterminantParts.l0 k t283 t287 (wrap64 (t288 - 1)) t289 t292 0 0)) = some r := H
  have A10 := Aside0.mk A100
  clear A100
  replace H := Option.bind_eq_some_iff.mp H
  obtain ⟨t292, A110, H⟩ := H
  replace H : (rollbacknetlaw27_DeterminantParts.l0 k t283 t287 (wrap64 (t288 - 1)) t289 t292 0 0) = some r := H
  have A11 := Aside0.mk A110
  clear A110
  have H' := Aside0.mk H
  clear H
  go_enter Try.func10, Try.ntmps10
  go_wp2_with (first | ((with_reducible refine gate_callee (f := 12) rfl ?_); refine goesL_ (some 14) rfl rfl Try.func12 (by kernel_rfl) rfl #[] rfl (by (try simp only [List.map_toArray, List.map_cons, List.map_nil]); first | done | rfl | (simp only [List.length_drop, List.length_take]; rfl)) ?_; (with_reducible refine (rollbacknetlaw27_awake.calls k  true _ A4.out).mono ?_); rintro e w12 ⟨rfl, hb⟩; refine ⟨_, rfl, ?_⟩; have n0_ := Aside0.mk (below_step (by repeat (first | (with_reducible first | exact HB.out | apply below_alloc | apply pw_below_drewN | apply below_drew1) | exact HB.out)) hb); clear HB; have HB := n0_; clear n0_; (try clear hb); (try clear hb2); (try clear hk); (try clear hi)) | ((with_reducible refine gate_callee (f := 23) rfl ?_); refine goesL_ (some 17) rfl rfl Try.func23 (by kernel_rfl) rfl #[.slice A0 l0.length c0, .int .i64 200] rfl (by (try simp only [List.map_toArray, List.map_cons, List.map_nil]); first | done | rfl | (simp only [List.length_drop, List.length_take]; rfl)) ?_; (with_reducible refine (rollbacknetmake_New.calls _ _ l0 200 t280 t281 w _ ?side1 ?side2 ?side3 A6.out).mono ?_); (case side1 => repeat (first | (with_reducible first | exact HB.out | apply below_alloc | apply pw_below_drewN | apply below_drew1) | exact HB.out)); (case side2 => exact HR0.out); (case side3 => exact HC0.out); rintro e w13 ⟨g282, rfl, hi, hb, hb2⟩; refine ⟨_, rfl, ?_⟩; have n0_ := Aside0.mk (hb); have n1_ := Aside0.mk (hi); clear HB; have HB := n0_; have HI282 := n1_; clear n0_ n1_; (try clear hb); (try clear hb2); (try clear hk); (try clear hi)) | ((with_reducible refine gate_callee (f := 24) rfl ?_); refine goesL_ (some 18) rfl rfl Try.func24 (by kernel_rfl) rfl #[.pointer (some ⟨g282, 0, none⟩), .int .i64 14] rfl (by (try simp only [List.map_toArray, List.map_cons, List.map_nil]); first | done | rfl | (simp only [List.length_drop, List.length_take]; rfl)) ?_; (with_reducible refine (rollbacknetmake_Codes_Dets.calls k g282 t280 t281 14 t283 t286 w _ ?side1 ?side2 A7.out).mono ?_); (case side1 => repeat (first | (with_reducible first | exact HI282.out | apply IsS66.alloc | apply IsS66.drewN | apply IsS66.drew | apply IsS66.set_1) | exact HI282.out)); (case side2 => repeat (first | (with_reducible first | exact HB.out | apply below_alloc | apply pw_below_drewN | apply below_drew1 | refine below_set ?_ (IsS66.ge HI282.out)) | exact HB.out)); rintro e w14 ⟨v284, rfl, ho0, hi, hb, hk⟩; refine ⟨_, rfl, ?_⟩; have n0_ := Aside0.mk (Kd.R_lower ho0 (below_size (by repeat (first | (with_reducible first | exact HB.out | apply below_alloc | apply pw_below_drewN | apply below_drew1 | refine below_set ?_ (IsS66.ge HI282.out)) | exact HB.out)))); have n1_ := Aside0.mk (hb); have n2_ := Aside0.mk (hi); clear HB; clear HI282; have HO285 := n0_; have HB := n1_; have HI282 := n2_; clear n0_ n1_ n2_; (try clear hb); (try clear hb2); (try clear hk); (try clear hi); (try clear ho0)) | ((with_reducible refine gate_callee (f := 27) rfl ?_); refine goesL_ (some 20) rfl rfl Try.func27 (by kernel_rfl) rfl #[.int .i64 a1, .int .i64 4] rfl (by (try simp only [List.map_toArray, List.map_cons, List.map_nil]); first | done | rfl | (simp only [List.length_drop, List.length_take]; rfl)) ?_; (with_reducible refine (rollbacknetmake_Mod.calls a1 4 t287 _ A8.out).mono ?_); rintro e w' ⟨rfl, ⟨nd, rfl⟩⟩; refine ⟨_, rfl, ?_⟩) | ((with_reducible refine gate_callee (f := 27) rfl ?_); refine goesL_ (some 22) rfl rfl Try.func27 (by kernel_rfl) rfl #[.int .i64 a2, .int .i64 9] rfl (by (try simp only [List.map_toArray, List.map_cons, List.map_nil]); first | done | rfl | (simp only [List.length_drop, List.length_take]; rfl)) ?_; (with_reducible refine (rollbacknetmake_Mod.calls a2 9 t288 _ A9.out).mono ?_); rintro e w' ⟨rfl, ⟨nd, rfl⟩⟩; refine ⟨_, rfl, ?_⟩; obtain ⟨Ao15, co15, eo15⟩ := Kd.R_slice HO285.out; subst eo15) | ((with_reducible refine gate_callee (f := 31) rfl ?_); refine goesL_ (some 27) rfl rfl Try.func31 (by kernel_rfl) rfl #[.slice Ao15 t283.length co15, .int .i64 t287, .int .i64 (wrap64 (t288 - 1))] rfl (by (try simp only [List.map_toArray, List.map_cons, List.map_nil]); first | done | rfl | (simp only [List.length_drop, List.length_take]; rfl)) ?_; (with_reducible refine (determinant_Cut.calls k _ _ t283 t287 (wrap64 (t288 - 1)) t289 _ ?side1 ?side2 A10.out).mono ?_); (case side1 => repeat (first | exact (Kd.R_reads' HO285.out).2.2 | (with_reducible refine Kd.C_alloc ?_ _) | (with_reducible refine Kd.C_drewN ?_ _) | (with_reducible refine Kd.C_drew ?_))); (case side2 => exact (Kd.R_reads' HO285.out).2.1); rintro e w16 ⟨v290, rfl, ho0, hb⟩; refine ⟨_, rfl, ?_⟩; have n0_ := Aside0.mk (Kd.R_elder' (by (with_reducible repeat (first | apply Kd.R_alloc | apply Kd.R_drewN | apply Kd.R_drew)); exact HO285.out) (Kd.R_base ho0) hb); have n1_ := Aside0.mk (Kd.R_lower (Kd.R_new' ho0 (Kd.R_lt (by (with_reducible repeat (first | apply Kd.R_alloc | apply Kd.R_drewN | apply Kd.R_drew)); exact HO285.out))) (below_size (by repeat (first | (with_reducible first | exact HB.out | apply below_alloc | apply pw_below_drewN | apply below_drew1 | refine below_set ?_ (IsS66.ge HI282.out)) | exact HB.out)))); have n2_ := Aside0.mk (IsS66.below (by repeat (first | (with_reducible first | exact HI282.out | apply IsS66.alloc | apply IsS66.drewN | apply IsS66.drew | apply IsS66.set_1) | exact HI282.out)) hb); have n3_ := Aside0.mk (below_step (by repeat (first | (with_reducible first | exact HB.out | apply below_alloc | apply pw_below_drewN | apply below_drew1 | refine below_set ?_ (IsS66.ge HI282.out)) | exact HB.out)) hb); clear HO285; clear HI282; clear HB; have HO285 := n0_; have HO291 := n1_; have HI282 := n2_; have HB := n3_; clear n0_ n1_ n2_ n3_; (try clear hb); (try clear hb2); (try clear hk); (try clear hi); (try clear ho0)) | ((with_reducible refine gate_callee (f := 32) rfl ?_); refine goesL_ (some 31) rfl rfl Try.func32 (by kernel_rfl) rfl #[.slice Ao15 t283.length co15, .int .i64 t287, .int .i64 (wrap64 (t288 - 1))] rfl (by (try simp only [List.map_toArray, List.map_cons, List.map_nil]); first | done | rfl | (simp only [List.length_drop, List.length_take]; rfl)) ?_; (with_reducible refine (determinant_Discard.calls k _ _ t283 t287 (wrap64 (t288 - 1)) t292 _ ?side1 ?side2 A11.out).mono ?_); (case side1 => repeat (first | exact (Kd.R_reads' HO285.out).2.2 | (with_reducible refine Kd.C_alloc ?_ _) | (with_reducible refine Kd.C_drewN ?_ _) | (with_reducible refine Kd.C_drew ?_))); (case side2 => exact (Kd.R_reads' HO285.out).2.1); rintro e w17 ⟨v293, rfl, ho0, hb⟩; refine ⟨_, rfl, ?_⟩; have n0_ := Aside0.mk (Kd.R_elder' (by (with_reducible repeat (first | apply Kd.R_alloc | apply Kd.R_drewN | apply Kd.R_drew)); exact HO285.out) (Kd.R_base ho0) hb); have n1_ := Aside0.mk (Kd.R_elder' (by (with_reducible repeat (first | apply Kd.R_alloc | apply Kd.R_drewN | apply Kd.R_drew)); exact HO291.out) (Kd.R_base ho0) hb); have n2_ := Aside0.mk (Kd.R_lower (Kd.R_new' (Kd.R_new' ho0 (Kd.R_lt (by (with_reducible repeat (first | apply Kd.R_alloc | apply Kd.R_drewN | apply Kd.R_drew)); exact HO285.out))) (Kd.R_lt (by (with_reducible repeat (first | apply Kd.R_alloc | apply Kd.R_drewN | apply Kd.R_drew)); exact HO291.out))) (below_size (by repeat (first | (with_reducible first | exact HB.out | apply below_alloc | apply pw_below_drewN | apply below_drew1 | refine below_set ?_ (IsS66.ge HI282.out)) | exact HB.out)))); have n3_ := Aside0.mk (IsS66.below (by repeat (first | (with_reducible first | exact HI282.out | apply IsS66.alloc | apply IsS66.drewN | apply IsS66.drew | apply IsS66.set_1) | exact HI282.out)) hb); have n4_ := Aside0.mk (below_step (by repeat (first | (with_reducible first | exact HB.out | apply below_alloc | apply pw_below_drewN | apply below_drew1 | refine below_set ?_ (IsS66.ge HI282.out)) | exact HB.out)) hb); clear HO285; clear HO291; clear HI282; clear HB; have HO285 := n0_; have HO291 := n1_; have HO294 := n2_; have HI282 := n3_; have HB := n4_; clear n0_ n1_ n2_ n3_ n4_; (try clear hb); (try clear hb2); (try clear hk); (try clear hi); (try clear ho0)))
  go_loopg [12, 13] k (fun kq v12 v13 w' => ∃ (x12_1 : Int) (x13_1 : Int), v12 = .int .i64 x12_1 ∧ v13 = .int .i64 x13_1 ∧ Aside0 (rollbacknetlaw27_DeterminantParts.l0 kq t283 t287 (wrap64 (t288 - 1)) t289 t292 x12_1 x13_1 = some r) ∧ Aside0 (kq ≤ k) ∧ Aside0 (Kd.R k39 39 w' w.heap.size (fun k_ => some k_ ≠ (v290 : Value).ownBlock ∧ some k_ ≠ (v293 : Value).ownBlock) (.slice Ao15 t283.length co15) t283) ∧ Aside0 (Kd.R k39 39 w' w.heap.size (fun k_ => some k_ ≠ ((.slice Ao15 t283.length co15) : Value).ownBlock ∧ some k_ ≠ (v293 : Value).ownBlock) v290 t289) ∧ Aside0 (Kd.R k39 39 w' w.heap.size (fun k_ => some k_ ≠ ((.slice Ao15 t283.length co15) : Value).ownBlock ∧ some k_ ≠ (v290 : Value).ownBlock) v293 t292) ∧ Aside0 (Below w.heap.size w w'))
  case atStart => exact ⟨(0), (0), (by first | rfl | (simp; done) | (simp [*]; done)), (by first | rfl | (simp; done) | (simp [*]; done)), H', ⟨Nat.le_refl _⟩, ⟨by (with_reducible repeat (first | apply Kd.R_alloc | apply Kd.R_drewN | apply Kd.R_drew)); exact Kd.R_mono HO285.out (fun _ hk => ⟨hk.1.2, hk.2⟩)⟩, ⟨by (with_reducible repeat (first | apply Kd.R_alloc | apply Kd.R_drewN | apply Kd.R_drew)); exact Kd.R_mono HO291.out (fun _ hk => ⟨hk.1.2, hk.2⟩)⟩, ⟨by (with_reducible repeat (first | apply Kd.R_alloc | apply Kd.R_drewN | apply Kd.R_drew)); exact Kd.R_mono HO294.out (fun _ hk => ⟨hk.1.2, hk.2⟩)⟩, ⟨by repeat (first | (with_reducible first | exact HB.out | apply below_alloc | apply pw_below_drewN | apply below_drew1 | refine below_set ?_ (IsS66.ge HI282.out)) | exact HB.out)⟩⟩
  case round =>
   clear H'
   try clear c1
   try clear c2
   try clear p2
   try clear c3
   try clear c5
   try clear p6
   try clear c10
   try clear c12
   obtain ⟨x12_1, x13_1, rfl, rfl, HA, HK1, HO_7, HO_10, HO_11, HB⟩ := hrel
   cases gk with
   | zero => exact absurd HA.out (by simp [rollbacknetlaw27_DeterminantParts.l0])
   | succ k1 =>
    have H := HA.out
    clear HA
    simp only [rollbacknetlaw27_DeterminantParts.l0] at H
    by_cases c18 : x13_1 < (t283.length : Int)
    ·rw [if_pos c18] at H
     have c18b0 : decide (x13_1 < (t283.length : Int)) = true := decide_eq_true c18
     clear c18
     by_cases c19 : 0 ≤ x13_1
     ·rw [if_pos c19] at H
      have c19b0 : decide (0 ≤ x13_1) = true := decide_eq_true c19
      clear c19
      by_cases c20 : ((rd_T39 t283 x13_1).f0) = t287
      ·rw [if_pos c20] at H
       have c20b0 : (((rd_T39 t283 x13_1).f0) == t287) = true := beq_iff_eq.mpr c20
       have c20b1 : (((rd_T39 t283 x13_1).f0) != t287) = false := bne_eq_false_iff_eq.mpr c20
       clear c20
       have H' := Aside0.mk H
       clear H
       have p295 : 0 ≤ (x13_1 : Int) := of_decide_eq_true (by first | (with_reducible assumption) | assumption)
       have q295 : x13_1 < (t283.length : Int) := of_decide_eq_true (by first | (with_reducible assumption) | assumption)
       obtain ⟨ad295, e295, hx295_0, hx295_1, hx295_2, hx295_3, hx295_4, hx295_5, hx295_6, hx295_7, hx295_8⟩ := at_T39 (Kd.R_reads' HO_7.out).2.2 x13_1 p295 q295
       cases e295
       replace p295 := eq_true p295
       replace q295 := eq_true q295
       go_wp2
       go_roundg k1
       case measure => have := HK1.out; omega
       case rel => exact ⟨(x12_1), (wrap64 (x13_1 + 1)), (by first | rfl | (simp; done) | (simp [*]; done)), (by first | rfl | (simp; done) | (simp [*]; done)), H', ⟨by have := HK1.out; omega⟩, ⟨by (with_reducible repeat (first | apply Kd.R_alloc | apply Kd.R_drewN | apply Kd.R_drew)); exact HO_7.out⟩, ⟨by (with_reducible repeat (first | apply Kd.R_alloc | apply Kd.R_drewN | apply Kd.R_drew)); exact HO_10.out⟩, ⟨by (with_reducible repeat (first | apply Kd.R_alloc | apply Kd.R_drewN | apply Kd.R_drew)); exact HO_11.out⟩, ⟨by repeat (first | (with_reducible first | exact HB.out | apply below_alloc | apply pw_below_drewN | apply below_drew1) | exact HB.out)⟩⟩
      ·rw [if_neg c20] at H
       have c20b0 : (((rd_T39 t283 x13_1).f0) == t287) = false := beq_eq_false_iff_ne.mpr c20
       have c20b1 : (((rd_T39 t283 x13_1).f0) != t287) = true := bne_iff_ne.mpr c20
       have H' := Aside0.mk H
       clear H
       have p295 : 0 ≤ (x13_1 : Int) := of_decide_eq_true (by first | (with_reducible assumption) | assumption)
       have q295 : x13_1 < (t283.length : Int) := of_decide_eq_true (by first | (with_reducible assumption) | assumption)
       obtain ⟨ad295, e295, hx295_0, hx295_1, hx295_2, hx295_3, hx295_4, hx295_5, hx295_6, hx295_7, hx295_8⟩ := at_T39 (Kd.R_reads' HO_7.out).2.2 x13_1 p295 q295
       cases e295
       replace p295 := eq_true p295
       replace q295 := eq_true q295
       go_wp2
       go_roundg k1
       case measure => have := HK1.out; omega
       case rel => exact ⟨(wrap64 (x12_1 + 1)), (wrap64 (x13_1 + 1)), (by first | rfl | (simp; done) | (simp [*]; done)), (by first | rfl | (simp; done) | (simp [*]; done)), H', ⟨by have := HK1.out; omega⟩, ⟨by (with_reducible repeat (first | apply Kd.R_alloc | apply Kd.R_drewN | apply Kd.R_drew)); exact HO_7.out⟩, ⟨by (with_reducible repeat (first | apply Kd.R_alloc | apply Kd.R_drewN | apply Kd.R_drew)); exact HO_10.out⟩, ⟨by (with_reducible repeat (first | apply Kd.R_alloc | apply Kd.R_drewN | apply Kd.R_drew)); exact HO_11.out⟩, ⟨by repeat (first | (with_reducible first | exact HB.out | apply below_alloc | apply pw_below_drewN | apply below_drew1) | exact HB.out)⟩⟩
     ·rw [if_neg c19] at H
      exact absurd H (by simp)
    ·rw [if_neg c18] at H
     have c18b0 : decide (x13_1 < (t283.length : Int)) = false := decide_eq_false c18
     clear c18
     by_cases c21 : (wrap64 ((t289.length : Int) + (t292.length : Int))) = (wrap64 ((t283.length : Int) + x12_1))
     ·rw [if_pos c21] at H
      have c21b0 : ((wrap64 ((t289.length : Int) + (t292.length : Int))) == (wrap64 ((t283.length : Int) + x12_1))) = true := beq_iff_eq.mpr c21
      have c21b1 : ((wrap64 ((t289.length : Int) + (t292.length : Int))) != (wrap64 ((t283.length : Int) + x12_1))) = false := bne_eq_false_iff_eq.mpr c21
      clear c21
      replace H := Option.bind_eq_some_iff.mp H
      obtain ⟨t296, A220, H⟩ := H
      replace H : (if (t296.length : Int) = x12_1 then ((determinant_Merge.f k1 t289 t292).bind fun t299 => ((determinant_Merge.f k1 t283 ([] : List (S39))).bind fun t302 => ((rollbacknetref27_Same.f k1 t299 t302).bind fun t305 => (some t305)))) else (some false)) = some r := H
      have A22 := Aside0.mk A220
      clear A220
      by_cases c23 : (t296.length : Int) = x12_1
      ·rw [if_pos c23] at H
       have c23b0 : ((t296.length : Int) == x12_1) = true := beq_iff_eq.mpr c23
       have c23b1 : ((t296.length : Int) != x12_1) = false := bne_eq_false_iff_eq.mpr c23
       clear c23
       replace H := Option.bind_eq_some_iff.mp H
       obtain ⟨t299, A240, H⟩ := H
       replace H : ((determinant_Merge.f k1 t283 ([] : List (S39))).bind fun t302 => ((rollbacknetref27_Same.f k1 t299 t302).bind fun t305 => (some t305))) = some r := H
       have A24 := Aside0.mk A240
       clear A240
       replace H := Option.bind_eq_some_iff.mp H
       obtain ⟨t302, A250, H⟩ := H
       replace H : ((rollbacknetref27_Same.f k1 t299 t302).bind fun t305 => (some t305)) = some r := H
       have A25 := Aside0.mk A250
       clear A250
       replace H := Option.bind_eq_some_iff.mp H
       obtain ⟨t305, A260, H⟩ := H
       replace H : (some t305) = some r := H
       have A26 := Aside0.mk A260
       clear A260
       obtain rfl := Option.some.inj H
       obtain ⟨Ao27, co27, eo27⟩ := Kd.R_slice HO_10.out
       subst eo27
       obtain ⟨Ao28, co28, eo28⟩ := Kd.R_slice HO_11.out
       subst eo28
       go_wp2_with (first | (go_at_call 32; (with_reducible refine (determinant_Discard.calls k1 _ _ t289 t287 (wrap64 (t288 - 1)) t296 _ ?side1 ?side2 A22.out).mono ?_); (case side1 => repeat (first | exact (Kd.R_reads' HO_10.out).2.2 | (with_reducible refine Kd.C_alloc ?_ _) | (with_reducible refine Kd.C_drewN ?_ _) | (with_reducible refine Kd.C_drew ?_))); (case side2 => exact (Kd.R_reads' HO_10.out).2.1); rintro e w29 ⟨v297, rfl, ho0, hb⟩; have n0_ := Aside0.mk (Kd.R_elder' (by (with_reducible repeat (first | apply Kd.R_alloc | apply Kd.R_drewN | apply Kd.R_drew)); exact HO_7.out) (Kd.R_base ho0) hb); have n1_ := Aside0.mk (Kd.R_elder' (by (with_reducible repeat (first | apply Kd.R_alloc | apply Kd.R_drewN | apply Kd.R_drew)); exact HO_10.out) (Kd.R_base ho0) hb); have n2_ := Aside0.mk (Kd.R_elder' (by (with_reducible repeat (first | apply Kd.R_alloc | apply Kd.R_drewN | apply Kd.R_drew)); exact HO_11.out) (Kd.R_base ho0) hb); have n3_ := Aside0.mk (Kd.R_lower (Kd.R_new' (Kd.R_new' (Kd.R_new' ho0 (Kd.R_lt (by (with_reducible repeat (first | apply Kd.R_alloc | apply Kd.R_drewN | apply Kd.R_drew)); exact HO_7.out))) (Kd.R_lt (by (with_reducible repeat (first | apply Kd.R_alloc | apply Kd.R_drewN | apply Kd.R_drew)); exact HO_10.out))) (Kd.R_lt (by (with_reducible repeat (first | apply Kd.R_alloc | apply Kd.R_drewN | apply Kd.R_drew)); exact HO_11.out))) (below_size (by repeat (first | (with_reducible first | exact HB.out | apply below_alloc | apply pw_below_drewN | apply below_drew1) | exact HB.out)))); have n4_ := Aside0.mk (below_step (by repeat (first | (with_reducible first | exact HB.out | apply below_alloc | apply pw_below_drewN | apply below_drew1) | exact HB.out)) hb); clear HO_7; clear HO_10; clear HO_11; clear HB; have HO_7 := n0_; have HO_10 := n1_; have HO_11 := n2_; have HO298 := n3_; have HB := n4_; clear n0_ n1_ n2_ n3_ n4_; (try clear hb); (try clear hb2); (try clear hk); (try clear hi); (try clear ho0); obtain ⟨Ao30, co30, eo30⟩ := Kd.R_slice HO298.out; subst eo30) | (go_at_call 25; (with_reducible refine (determinant_Merge.calls k1 _ _ t289 _ _ t292 t299 _ ?side1 ?side2 ?side3 ?side4 A24.out).mono ?_); (case side1 => repeat (first | exact (Kd.R_reads' HO_10.out).2.2 | (with_reducible refine Kd.C_alloc ?_ _) | (with_reducible refine Kd.C_drewN ?_ _) | (with_reducible refine Kd.C_drew ?_))); (case side2 => exact (Kd.R_reads' HO_10.out).2.1); (case side3 => repeat (first | exact (Kd.R_reads' HO_11.out).2.2 | (with_reducible refine Kd.C_alloc ?_ _) | (with_reducible refine Kd.C_drewN ?_ _) | (with_reducible refine Kd.C_drew ?_))); (case side4 => exact (Kd.R_reads' HO_11.out).2.1); rintro e w31 ⟨v300, rfl, ho0, hb⟩; have n0_ := Aside0.mk (Kd.R_elder' (by (with_reducible repeat (first | apply Kd.R_alloc | apply Kd.R_drewN | apply Kd.R_drew)); exact HO_7.out) (Kd.R_base ho0) hb); have n1_ := Aside0.mk (Kd.R_elder' (by (with_reducible repeat (first | apply Kd.R_alloc | apply Kd.R_drewN | apply Kd.R_drew)); exact HO_10.out) (Kd.R_base ho0) hb); have n2_ := Aside0.mk (Kd.R_elder' (by (with_reducible repeat (first | apply Kd.R_alloc | apply Kd.R_drewN | apply Kd.R_drew)); exact HO_11.out) (Kd.R_base ho0) hb); have n3_ := Aside0.mk (Kd.R_elder' (by (with_reducible repeat (first | apply Kd.R_alloc | apply Kd.R_drewN | apply Kd.R_drew)); exact HO298.out) (Kd.R_base ho0) hb); have n4_ := Aside0.mk (Kd.R_lower (Kd.R_new' (Kd.R_new' (Kd.R_new' (Kd.R_new' ho0 (Kd.R_lt (by (with_reducible repeat (first | apply Kd.R_alloc | apply Kd.R_drewN | apply Kd.R_drew)); exact HO_7.out))) (Kd.R_lt (by (with_reducible repeat (first | apply Kd.R_alloc | apply Kd.R_drewN | apply Kd.R_drew)); exact HO_10.out))) (Kd.R_lt (by (with_reducible repeat (first | apply Kd.R_alloc | apply Kd.R_drewN | apply Kd.R_drew)); exact HO_11.out))) (Kd.R_lt (by (with_reducible repeat (first | apply Kd.R_alloc | apply Kd.R_drewN | apply Kd.R_drew)); exact HO298.out))) (below_size (by repeat (first | (with_reducible first | exact HB.out | apply below_alloc | apply pw_below_drewN | apply below_drew1) | exact HB.out)))); have n5_ := Aside0.mk (below_step (by repeat (first | (with_reducible first | exact HB.out | apply below_alloc | apply pw_below_drewN | apply below_drew1) | exact HB.out)) hb); clear HO_7; clear HO_10; clear HO_11; clear HO298; clear HB; have HO_7 := n0_; have HO_10 := n1_; have HO_11 := n2_; have HO298 := n3_; have HO301 := n4_; have HB := n5_; clear n0_ n1_ n2_ n3_ n4_ n5_; (try clear hb); (try clear hb2); (try clear hk); (try clear hi); (try clear ho0)) | (go_at_call 25; (refine (determinant_Merge.calls k1 _ _ t283 _ _ ([] : List (S39)) t302 _ ?side1 ?side2 ?side3 ?side4 A25.out).mono ?_); (case side1 => repeat (first | exact (Kd.R_reads' HO_7.out).2.2 | (with_reducible refine Kd.C_alloc ?_ _) | (with_reducible refine Kd.C_drewN ?_ _) | (with_reducible refine Kd.C_drew ?_))); (case side2 => exact (Kd.R_reads' HO_7.out).2.1); (case side3 => exact Kd.C_nil _ _); (case side4 => exact Nat.le_refl _); rintro e w32 ⟨v303, rfl, ho0, hb⟩; have n0_ := Aside0.mk (Kd.R_elder' (by (with_reducible repeat (first | apply Kd.R_alloc | apply Kd.R_drewN | apply Kd.R_drew)); exact HO_7.out) (Kd.R_base ho0) hb); have n1_ := Aside0.mk (Kd.R_elder' (by (with_reducible repeat (first | apply Kd.R_alloc | apply Kd.R_drewN | apply Kd.R_drew)); exact HO_10.out) (Kd.R_base ho0) hb); have n2_ := Aside0.mk (Kd.R_elder' (by (with_reducible repeat (first | apply Kd.R_alloc | apply Kd.R_drewN | apply Kd.R_drew)); exact HO_11.out) (Kd.R_base ho0) hb); have n3_ := Aside0.mk (Kd.R_elder' (by (with_reducible repeat (first | apply Kd.R_alloc | apply Kd.R_drewN | apply Kd.R_drew)); exact HO298.out) (Kd.R_base ho0) hb); have n4_ := Aside0.mk (Kd.R_elder' (by (with_reducible repeat (first | apply Kd.R_alloc | apply Kd.R_drewN | apply Kd.R_drew)); exact HO301.out) (Kd.R_base ho0) hb); have n5_ := Aside0.mk (Kd.R_lower (Kd.R_new' (Kd.R_new' (Kd.R_new' (Kd.R_new' (Kd.R_new' ho0 (Kd.R_lt (by (with_reducible repeat (first | apply Kd.R_alloc | apply Kd.R_drewN | apply Kd.R_drew)); exact HO_7.out))) (Kd.R_lt (by (with_reducible repeat (first | apply Kd.R_alloc | apply Kd.R_drewN | apply Kd.R_drew)); exact HO_10.out))) (Kd.R_lt (by (with_reducible repeat (first | apply Kd.R_alloc | apply Kd.R_drewN | apply Kd.R_drew)); exact HO_11.out))) (Kd.R_lt (by (with_reducible repeat (first | apply Kd.R_alloc | apply Kd.R_drewN | apply Kd.R_drew)); exact HO298.out))) (Kd.R_lt (by (with_reducible repeat (first | apply Kd.R_alloc | apply Kd.R_drewN | apply Kd.R_drew)); exact HO301.out))) (below_size (by repeat (first | (with_reducible first | exact HB.out | apply below_alloc | apply pw_below_drewN | apply below_drew1) | exact HB.out)))); have n6_ := Aside0.mk (below_step (by repeat (first | (with_reducible first | exact HB.out | apply below_alloc | apply pw_below_drewN | apply below_drew1) | exact HB.out)) hb); clear HO_7; clear HO_10; clear HO_11; clear HO298; clear HO301; clear HB; have HO_7 := n0_; have HO_10 := n1_; have HO_11 := n2_; have HO298 := n3_; have HO301 := n4_; have HO304 := n5_; have HB := n6_; clear n0_ n1_ n2_ n3_ n4_ n5_ n6_; (try clear hb); (try clear hb2); (try clear hk); (try clear hi); (try clear ho0); obtain ⟨Ao33, co33, eo33⟩ := Kd.R_slice HO301.out; subst eo33; obtain ⟨Ao34, co34, eo34⟩ := Kd.R_slice HO304.out; subst eo34) | (go_at_call 14; (with_reducible refine (rollbacknetref27_Same.calls k1 _ _ t299 _ _ t302 t305 _ ?side1 ?side2 ?side3 ?side4 A26.out).mono ?_); (case side1 => repeat (first | exact (Kd.R_reads' HO301.out).2.2 | (with_reducible refine Kd.C_alloc ?_ _) | (with_reducible refine Kd.C_drewN ?_ _) | (with_reducible refine Kd.C_drew ?_))); (case side2 => exact (Kd.R_reads' HO301.out).2.1); (case side3 => repeat (first | exact (Kd.R_reads' HO304.out).2.2 | (with_reducible refine Kd.C_alloc ?_ _) | (with_reducible refine Kd.C_drewN ?_ _) | (with_reducible refine Kd.C_drew ?_))); (case side4 => exact (Kd.R_reads' HO304.out).2.1); rintro e w' ⟨rfl, ⟨nd, rfl⟩⟩))
       go_ret
       exact ⟨by first | rfl | (simp [errW_none, errW_some] <;> rfl) | (simp [*, errW_none, errW_some] <;> rfl), by repeat (first | (with_reducible first | exact HB.out | apply below_alloc | apply pw_below_drewN | apply below_drew1) | exact HB.out)⟩
      ·rw [if_neg c23] at H
       have c23b0 : ((t296.length : Int) == x12_1) = false := beq_eq_false_iff_ne.mpr c23
       have c23b1 : ((t296.length : Int) != x12_1) = true := bne_iff_ne.mpr c23
       obtain rfl := Option.some.inj H
       obtain ⟨Ao35, co35, eo35⟩ := Kd.R_slice HO_10.out
       subst eo35
       obtain ⟨Ao36, co36, eo36⟩ := Kd.R_slice HO_11.out
       subst eo36
       go_wp2_with (first | (go_at_call 32; (with_reducible refine (determinant_Discard.calls k1 _ _ t289 t287 (wrap64 (t288 - 1)) t296 _ ?side1 ?side2 A22.out).mono ?_); (case side1 => repeat (first | exact (Kd.R_reads' HO_10.out).2.2 | (with_reducible refine Kd.C_alloc ?_ _) | (with_reducible refine Kd.C_drewN ?_ _) | (with_reducible refine Kd.C_drew ?_))); (case side2 => exact (Kd.R_reads' HO_10.out).2.1); rintro e w37 ⟨v297, rfl, ho0, hb⟩; have n0_ := Aside0.mk (Kd.R_elder' (by (with_reducible repeat (first | apply Kd.R_alloc | apply Kd.R_drewN | apply Kd.R_drew)); exact HO_7.out) (Kd.R_base ho0) hb); have n1_ := Aside0.mk (Kd.R_elder' (by (with_reducible repeat (first | apply Kd.R_alloc | apply Kd.R_drewN | apply Kd.R_drew)); exact HO_10.out) (Kd.R_base ho0) hb); have n2_ := Aside0.mk (Kd.R_elder' (by (with_reducible repeat (first | apply Kd.R_alloc | apply Kd.R_drewN | apply Kd.R_drew)); exact HO_11.out) (Kd.R_base ho0) hb); have n3_ := Aside0.mk (Kd.R_lower (Kd.R_new' (Kd.R_new' (Kd.R_new' ho0 (Kd.R_lt (by (with_reducible repeat (first | apply Kd.R_alloc | apply Kd.R_drewN | apply Kd.R_drew)); exact HO_7.out))) (Kd.R_lt (by (with_reducible repeat (first | apply Kd.R_alloc | apply Kd.R_drewN | apply Kd.R_drew)); exact HO_10.out))) (Kd.R_lt (by (with_reducible repeat (first | apply Kd.R_alloc | apply Kd.R_drewN | apply Kd.R_drew)); exact HO_11.out))) (below_size (by repeat (first | (with_reducible first | exact HB.out | apply below_alloc | apply pw_below_drewN | apply below_drew1) | exact HB.out)))); have n4_ := Aside0.mk (below_step (by repeat (first | (with_reducible first | exact HB.out | apply below_alloc | apply pw_below_drewN | apply below_drew1) | exact HB.out)) hb); clear HO_7; clear HO_10; clear HO_11; clear HB; have HO_7 := n0_; have HO_10 := n1_; have HO_11 := n2_; have HO298 := n3_; have HB := n4_; clear n0_ n1_ n2_ n3_ n4_; (try clear hb); (try clear hb2); (try clear hk); (try clear hi); (try clear ho0); obtain ⟨Ao38, co38, eo38⟩ := Kd.R_slice HO298.out; subst eo38))
       go_ret
       exact ⟨by first | rfl | (simp [errW_none, errW_some] <;> rfl) | (simp [*, errW_none, errW_some] <;> rfl), by repeat (first | (with_reducible first | exact HB.out | apply below_alloc | apply pw_below_drewN | apply below_drew1) | exact HB.out)⟩
     ·rw [if_neg c21] at H
      have c21b0 : ((wrap64 ((t289.length : Int) + (t292.length : Int))) == (wrap64 ((t283.length : Int) + x12_1))) = false := beq_eq_false_iff_ne.mpr c21
      have c21b1 : ((wrap64 ((t289.length : Int) + (t292.length : Int))) != (wrap64 ((t283.length : Int) + x12_1))) = true := bne_iff_ne.mpr c21
      obtain rfl := Option.some.inj H
      obtain ⟨Ao39, co39, eo39⟩ := Kd.R_slice HO_10.out
      subst eo39
      obtain ⟨Ao40, co40, eo40⟩ := Kd.R_slice HO_11.out
      subst eo40
      go_wp2
      go_ret
      exact ⟨by first | rfl | (simp [errW_none, errW_some] <;> rfl) | (simp [*, errW_none, errW_some] <;> rfl), by repeat (first | (with_reducible first | exact HB.out | apply below_alloc | apply pw_below_drewN | apply below_drew1) | exact HB.out)⟩
 ·replace c5 := Bool.eq_false_iff.mpr c5
  subst c5
  have H1 : (some false) = some r := by rw [if_neg (show ¬ (false = true) by decide)] at H; exact H
  clear H
  have H := H1
  clear H1
  obtain rfl := Option.some.inj H
  go_enter Try.func10, Try.ntmps10
  go_wp2_with (first | ((with_reducible refine gate_callee (f := 12) rfl ?_); refine goesL_ (some 14) rfl rfl Try.func12 (by kernel_rfl) rfl #[] rfl (by (try simp only [List.map_toArray, List.map_cons, List.map_nil]); first | done | rfl | (simp only [List.length_drop, List.length_take]; rfl)) ?_; (with_reducible refine (rollbacknetlaw27_awake.calls k  false _ A4.out).mono ?_); rintro e w41 ⟨rfl, hb⟩; refine ⟨_, rfl, ?_⟩; have n0_ := Aside0.mk (below_step (by repeat (first | (with_reducible first | exact HB.out | apply below_alloc | apply pw_below_drewN | apply below_drew1) | exact HB.out)) hb); clear HB; have HB := n0_; clear n0_; (try clear hb); (try clear hb2); (try clear hk); (try clear hi)))
  go_ret
  exact ⟨by first | rfl | (simp [errW_none, errW_some] <;> rfl) | (simp [*, errW_none, errW_some] <;> rfl), by repeat (first | (with_reducible first | exact HB.out | apply below_alloc | apply pw_below_drewN | apply below_drew1) | exact HB.out)⟩

/-- THE ONE PURE STATEMENT of rollbacknetlaw27_DeterminantParts: yours. -/
def rollbacknetlaw27_DeterminantParts.Pure : Prop := ∀ (l0 : List Int) (a1 : Int) (a2 : Int), l0.length ≤ maxLen → l0.length * 1 ≤ 140737488351232 → (∀ x ∈ l0, (Lit.int .u8 x).wf = true) → (Lit.int .i64 a1).wf = true → (Lit.int .i64 a2).wf = true → ∃ k, rollbacknetlaw27_DeterminantParts.f k l0 a1 a2 = some true
theorem rollbacknetlaw27_DeterminantParts.walk (P : rollbacknetlaw27_DeterminantParts.Pure) (a0 : Option Addr) (len0 cap0 : Nat) (z0 : List Int) (a1 : Int) (a2 : Int) (w : World) (w0 : (a0 = none ∧ len0 = 0 ∧ cap0 = 0 ∧ z0 = []) ∨ ∃ x, a0 = some x ∧ len0 ≤ cap0 ∧ cap0 ≤ maxLen ∧ z0.length = cap0 ∧ (∀ i, i < z0.length → w.cell? (x.add i) = some (.int .u8 (z0.getD i 0))) ∧ ∀ n ∈ z0, (Lit.int .u8 n).wf = true) (y0 : len0 * 1 ≤ 140737488351232) (w1 : (Lit.int .i64 a1).wf = true) (w2 : (Lit.int .i64 a2).wf = true) :
  Calls Try.prog 10 #[.slice a0 len0 cap0, .int .i64 a1, .int .i64 a2] w fun e w' => e = .returned (.bool true) ∧ Below w.heap.size w w' := by
 obtain ⟨l0, rfl, hr0, hm0, hw0, hc0⟩ := ReadsInt.ofRowC w0
 obtain ⟨k, h⟩ := P l0 a1 a2 hm0 y0 hw0 w1 w2
 refine (rollbacknetlaw27_DeterminantParts.calls k _ _ l0 a1 a2 true w (Kd.C_of_reads (d := (0 : Int)) (h1 := fun _ => rfl) hr0) hc0 h).mono ?_
 rintro e w' ⟨rfl, hd⟩
 exact ⟨rfl, hd⟩

end Go.Proofs.Ytjlpggpkbcgekaa.PDeterminantParts
