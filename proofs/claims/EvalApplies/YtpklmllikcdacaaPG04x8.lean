-- Written by a program of this session (hprint.py) out of the translation and of hand-proved parts. Lean checks it.
import Derived.Test.YtpklmllikcdacaaPG04x0
import Derived.Test.YtpklmllikcdacaaPG04x4
import Derived.Test.YtpklmllikcdacaaPG04x5
import Derived.Test.YtpklmllikcdacaaPG04x6
import Derived.Test.YtpklmllikcdacaaPG04x7
namespace Go.Proofs.Ytpklmllikcdacaa.PG04
open Go.RowKit Go.Proofs.YtpklmllikcdacaaW.PrintWords Go.Proofs.YtpklmllikcdacaaW.PrintLast Go.Proofs.YtpklmllikcdacaaW.PrintMore
attribute [local go_sem] max2_int min2_int max_two min_two max_three min_three max_four min_four   -- for this text's walks alone
set_option linter.unusedVariables false
set_option linter.unusedSimpArgs false

/-! ### rollbacknetlaw04_EvalApplies: function 3 -/
def rollbacknetlaw04_EvalApplies.f (a0 : Int) (a1 : Int) (a2 : Int) : Option (Bool) := (rollbacknetlaw04_awake.f).bind fun t127 => (if t127 = true then ((rollbacknetmake_Mod.f a0 15).bind fun t128 => ((eval_Apply.f a0 a1 a2).bind fun t129 => ((rollbacknetref04_Apply.f a0 a1 a2).bind fun t130 => (if t129 = t130 then ((eval_Apply.f (wrap64 (8 + t128)) a1 a2).bind fun t131 => ((rollbacknetref04_Apply.f (wrap64 (8 + t128)) a1 a2).bind fun t132 => (some (t131 == t132)))) else (some false))))) else (some false))
set_option maxHeartbeats 8000000 in
set_option maxRecDepth 100000 in
theorem rollbacknetlaw04_EvalApplies.calls (a0 : Int) (a1 : Int) (a2 : Int) (r : Bool) (w : World) (h : rollbacknetlaw04_EvalApplies.f a0 a1 a2 = some r) :
  Calls Try.prog 3 #[.int .i64 a0, .int .i64 a1, .int .i64 a2] w fun e w' => e = .returned (.bool r) ∧ Below w.heap.size w w' := by
 have HB := Aside0.mk (Below.refl w.heap.size w)
 have H : ((rollbacknetlaw04_awake.f).bind fun t127 => (if t127 = true then ((rollbacknetmake_Mod.f a0 15).bind fun t128 => ((eval_Apply.f a0 a1 a2).bind fun t129 => ((rollbacknetref04_Apply.f a0 a1 a2).bind fun t130 => (if t129 = t130 then ((eval_Apply.f (wrap64 (8 + t128)) a1 a2).bind fun t131 => ((rollbacknetref04_Apply.f (wrap64 (8 + t128)) a1 a2).bind fun t132 => (some (t131 == t132)))) else (some false))))) else (some false))) = some r := h
 clear h
 replace H := Option.bind_eq_some_iff.mp H
 obtain ⟨t127, A40, H⟩ := H
 replace H : (if t127 = true then ((rollbacknetmake_Mod.f a0 15).bind fun t128 => ((eval_Apply.f a0 a1 a2).bind fun t129 => ((rollbacknetref04_Apply.f a0 a1 a2).bind fun t130 => (if t129 = t130 then ((eval_Apply.f (wrap64 (8 + t128)) a1 a2).bind fun t131 => ((rollbacknetref04_Apply.f (wrap64 (8 + t128)) a1 a2).bind fun t132 => (some (t131 == t132)))) else (some false))))) else (some false)) = some r := H
 have A4 := Aside0.mk A40
 clear A40
 by_cases c5 : t127 = true
 ·subst c5
  have H1 : ((rollbacknetmake_Mod.f a0 15).bind fun t128 => ((eval_Apply.f a0 a1 a2).bind fun t129 => ((rollbacknetref04_Apply.f a0 a1 a2).bind fun t130 => (if t129 = t130 then ((eval_Apply.f (wrap64 (8 + t128)) a1 a2).bind fun t131 => ((rollbacknetref04_Apply.f (wrap64 (8 + t128)) a1 a2).bind fun t132 => (some (t131 == t132)))) else (some false))))) = some r := by rw [if_pos rfl] at H; exact H
  clear H
  have H := H1
  clear H1
  replace H := Option.bind_eq_some_iff.mp H
  obtain ⟨t128, A60, H⟩ := H
  replace H : ((eval_Apply.f a0 a1 a2).bind fun t129 => ((rollbacknetref04_Apply.f a0 a1 a2).bind fun t130 => (if t129 = t130 then ((eval_Apply.f (wrap64 (8 + t128)) a1 a2).bind fun t131 => ((rollbacknetref04_Apply.f (wrap64 (8 + t128)) a1 a2).bind fun t132 => (some (t131 == t132)))) else (some false)))) = some r := H
  have A6 := Aside0.mk A60
  clear A60
  replace H := Option.bind_eq_some_iff.mp H
  obtain ⟨t129, A70, H⟩ := H
  replace H : ((rollbacknetref04_Apply.f a0 a1 a2).bind fun t130 => (if t129 = t130 then ((eval_Apply.f (wrap64 (8 + t128)) a1 a2).bind fun t131 => ((rollbacknetref04_Apply.f (wrap64 (8 + t128)) a1 a2).bind fun t132 => (some (t131 == t132)))) else (some false))) = some r := H
  have A7 := Aside0.mk A70
  clear A70
  replace H := Option.bind_eq_some_iff.mp H
  obtain ⟨t130, A80, H⟩ := H
  replace H : (if t129 = t130 then ((eval_Apply.f (wrap64 (8 + t128)) a1 a2).bind fun t131 => ((rollbacknetref04_Apply.f (wrap64 (8 + t128)) a1 a2).bind fun t132 => (some (t131 == t132)))) else (some false)) = some r := H
  have A8 := Aside0.mk A80
  clear A80
  by_cases c9 : t129 = t130
  ·rw [if_pos c9] at H
   have c9b0 : (t129 == t130) = true := beq_iff_eq.mpr c9
   have c9b1 : (t129 != t130) = false := bne_eq_false_iff_eq.mpr c9
   clear c9
   replace H := Option.bind_eq_some_iff.mp H
   obtain ⟨t131, A100, H⟩ := H
   replace H : ((rollbacknetref04_Apply.f (wrap64 (8 + t128)) a1 a2).bind fun t132 => (some (t131 == t132))) = some r := H
   have A10 := Aside0.mk A100
   clear A100
   replace H := Option.bind_eq_some_iff.mp H
   obtain ⟨t132, A110, H⟩ := H
   replace H : (some (t131 == t132)) = some r := H
   have A11 := Aside0.mk A110
   clear A110
   obtain rfl := Option.some.inj H
   go_enter Try.func3, Try.ntmps3
   go_wp2_with (first | ((with_reducible refine gate_callee (f := 6) rfl ?_); refine goesL_ (some 8) rfl rfl Try.func6 (by kernel_rfl) rfl #[] rfl (by (try simp only [List.map_toArray, List.map_cons, List.map_nil]); first | done | rfl | (simp only [List.length_drop, List.length_take]; rfl)) ?_; (with_reducible refine (rollbacknetlaw04_awake.calls  true _ A4.out).mono ?_); rintro e w12 ⟨rfl, hb⟩; refine ⟨_, rfl, ?_⟩; have n0_ := Aside0.mk (below_step (bq HB.out) hb); clear HB; have HB := n0_; clear n0_; (try clear hb); (try clear hb2); (try clear hk); (try clear hi)) | ((with_reducible refine gate_callee (f := 7) rfl ?_); refine goesL_ (some 11) rfl rfl Try.func7 (by kernel_rfl) rfl #[.int .i64 a0, .int .i64 15] rfl (by (try simp only [List.map_toArray, List.map_cons, List.map_nil]); first | done | rfl | (simp only [List.length_drop, List.length_take]; rfl)) ?_; (with_reducible refine (rollbacknetmake_Mod.calls a0 15 t128 _ A6.out).mono ?_); rintro e w' ⟨rfl, ⟨nd, rfl⟩⟩; refine ⟨_, rfl, ?_⟩) | ((with_reducible refine gate_callee (f := 8) rfl ?_); refine goesL_ (some 16) rfl rfl Try.func8 (by kernel_rfl) rfl #[.int .i64 a0, .int .i64 a1, .int .i64 a2] rfl (by (try simp only [List.map_toArray, List.map_cons, List.map_nil]); first | done | rfl | (simp only [List.length_drop, List.length_take]; rfl)) ?_; (with_reducible refine (eval_Apply.calls a0 a1 a2 t129 _ A7.out).mono ?_); rintro e w13 ⟨rfl, hb⟩; refine ⟨_, rfl, ?_⟩; have n0_ := Aside0.mk (below_step (bq HB.out) hb); clear HB; have HB := n0_; clear n0_; (try clear hb); (try clear hb2); (try clear hk); (try clear hi)) | ((with_reducible refine gate_callee (f := 9) rfl ?_); refine goesL_ (some 20) rfl rfl Try.func9 (by kernel_rfl) rfl #[.int .i64 a0, .int .i64 a1, .int .i64 a2] rfl (by (try simp only [List.map_toArray, List.map_cons, List.map_nil]); first | done | rfl | (simp only [List.length_drop, List.length_take]; rfl)) ?_; (with_reducible refine (rollbacknetref04_Apply.calls a0 a1 a2 t130 _ A8.out).mono ?_); rintro e w' ⟨rfl, ⟨nd, rfl⟩⟩; refine ⟨_, rfl, ?_⟩) | (go_at_call 8; (with_reducible refine (eval_Apply.calls (wrap64 (8 + t128)) a1 a2 t131 _ A10.out).mono ?_); rintro e w14 ⟨rfl, hb⟩; have n0_ := Aside0.mk (below_step (bq HB.out) hb); clear HB; have HB := n0_; clear n0_; (try clear hb); (try clear hb2); (try clear hk); (try clear hi)) | (go_at_call 9; (with_reducible refine (rollbacknetref04_Apply.calls (wrap64 (8 + t128)) a1 a2 t132 _ A11.out).mono ?_); rintro e w' ⟨rfl, ⟨nd, rfl⟩⟩))
   go_ret
   exact ⟨by first | rfl | (simp [errW_none, errW_some] <;> rfl) | (simp [*, errW_none, errW_some] <;> rfl), bq HB.out⟩
  ·rw [if_neg c9] at H
   have c9b0 : (t129 == t130) = false := beq_eq_false_iff_ne.mpr c9
   have c9b1 : (t129 != t130) = true := bne_iff_ne.mpr c9
   obtain rfl := Option.some.inj H
   go_enter Try.func3, Try.ntmps3
   go_wp2_with (first | ((with_reducible refine gate_callee (f := 6) rfl ?_); refine goesL_ (some 8) rfl rfl Try.func6 (by kernel_rfl) rfl #[] rfl (by (try simp only [List.map_toArray, List.map_cons, List.map_nil]); first | done | rfl | (simp only [List.length_drop, List.length_take]; rfl)) ?_; (with_reducible refine (rollbacknetlaw04_awake.calls  true _ A4.out).mono ?_); rintro e w15 ⟨rfl, hb⟩; refine ⟨_, rfl, ?_⟩; have n0_ := Aside0.mk (below_step (bq HB.out) hb); clear HB; have HB := n0_; clear n0_; (try clear hb); (try clear hb2); (try clear hk); (try clear hi)) | ((with_reducible refine gate_callee (f := 7) rfl ?_); refine goesL_ (some 11) rfl rfl Try.func7 (by kernel_rfl) rfl #[.int .i64 a0, .int .i64 15] rfl (by (try simp only [List.map_toArray, List.map_cons, List.map_nil]); first | done | rfl | (simp only [List.length_drop, List.length_take]; rfl)) ?_; (with_reducible refine (rollbacknetmake_Mod.calls a0 15 t128 _ A6.out).mono ?_); rintro e w' ⟨rfl, ⟨nd, rfl⟩⟩; refine ⟨_, rfl, ?_⟩) | ((with_reducible refine gate_callee (f := 8) rfl ?_); refine goesL_ (some 16) rfl rfl Try.func8 (by kernel_rfl) rfl #[.int .i64 a0, .int .i64 a1, .int .i64 a2] rfl (by (try simp only [List.map_toArray, List.map_cons, List.map_nil]); first | done | rfl | (simp only [List.length_drop, List.length_take]; rfl)) ?_; (with_reducible refine (eval_Apply.calls a0 a1 a2 t129 _ A7.out).mono ?_); rintro e w16 ⟨rfl, hb⟩; refine ⟨_, rfl, ?_⟩; have n0_ := Aside0.mk (below_step (bq HB.out) hb); clear HB; have HB := n0_; clear n0_; (try clear hb); (try clear hb2); (try clear hk); (try clear hi)) | ((with_reducible refine gate_callee (f := 9) rfl ?_); refine goesL_ (some 20) rfl rfl Try.func9 (by kernel_rfl) rfl #[.int .i64 a0, .int .i64 a1, .int .i64 a2] rfl (by (try simp only [List.map_toArray, List.map_cons, List.map_nil]); first | done | rfl | (simp only [List.length_drop, List.length_take]; rfl)) ?_; (with_reducible refine (rollbacknetref04_Apply.calls a0 a1 a2 t130 _ A8.out).mono ?_); rintro e w' ⟨rfl, ⟨nd, rfl⟩⟩; refine ⟨_, rfl, ?_⟩))
   go_ret
   exact ⟨by first | rfl | (simp [errW_none, errW_some] <;> rfl) | (simp [*, errW_none, errW_some] <;> rfl), bq HB.out⟩
 ·replace c5 := Bool.eq_false_iff.mpr c5
  subst c5
  have H1 : (some false) = some r := by rw [if_neg (show ¬ (false = true) by decide)] at H; exact H
  clear H
  have H := H1
  clear H1
  obtain rfl := Option.some.inj H
  go_enter Try.func3, Try.ntmps3
  go_wp2_with (first | ((with_reducible refine gate_callee (f := 6) rfl ?_); refine goesL_ (some 8) rfl rfl Try.func6 (by kernel_rfl) rfl #[] rfl (by (try simp only [List.map_toArray, List.map_cons, List.map_nil]); first | done | rfl | (simp only [List.length_drop, List.length_take]; rfl)) ?_; (with_reducible refine (rollbacknetlaw04_awake.calls  false _ A4.out).mono ?_); rintro e w17 ⟨rfl, hb⟩; refine ⟨_, rfl, ?_⟩; have n0_ := Aside0.mk (below_step (bq HB.out) hb); clear HB; have HB := n0_; clear n0_; (try clear hb); (try clear hb2); (try clear hk); (try clear hi)))
  go_ret
  exact ⟨by first | rfl | (simp [errW_none, errW_some] <;> rfl) | (simp [*, errW_none, errW_some] <;> rfl), bq HB.out⟩

/-- THE ONE PURE STATEMENT of rollbacknetlaw04_EvalApplies. -/
def rollbacknetlaw04_EvalApplies.Pure : Prop := ∀ (p0 : Int) (p1 : Int) (p2 : Int), (okInt .i64) p0 → (okInt .i64) p1 → (okInt .i64) p2 → rollbacknetlaw04_EvalApplies.f p0 p1 p2 = some true

-- NOT PRINTED: function 4 (rollbacknetlaw04_EvalLaws)

end Go.Proofs.Ytpklmllikcdacaa.PG04
