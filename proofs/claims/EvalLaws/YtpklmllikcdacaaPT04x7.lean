-- Written by a program of this session (hprint.py) out of the translation and of hand-proved parts. Lean checks it.
import Derived.Test.YtpklmllikcdacaaPT04x0
import Derived.Test.YtpklmllikcdacaaPT04x4
import Derived.Test.YtpklmllikcdacaaPT04x6
namespace Go.Proofs.Ytpklmllikcdacaa.PT04
open Go.RowKit Go.Proofs.YtpklmllikcdacaaW.PrintWords Go.Proofs.YtpklmllikcdacaaW.PrintLast Go.Proofs.YtpklmllikcdacaaW.PrintMore
attribute [local go_sem] max2_int min2_int max_two min_two max_three min_three max_four min_four   -- for this text's walks alone
set_option linter.unusedVariables false
set_option linter.unusedSimpArgs false

/-! ### rollbacknetlaw04_awake: function 6 -/
def rollbacknetlaw04_awake.f (k : Nat)  : Option (Bool) := (eval_Apply.f 13 (-7) 2).bind fun t114 => (if t114 = (-3) then ((eval_Apply.f 14 (-7) 2).bind fun t115 => (if t115 = (-1) then ((eval_Value.f k 1 5 (⟨#[]⟩ : ByteArray) 0 0 ([] : List (S33)) ([] : List Int) 0 0 0 0).bind fun t116 => (some (t116 == 5))) else (some false))) else (some false))
theorem rollbacknetlaw04_awake.mono : ∀ k, LeO (rollbacknetlaw04_awake.f k ) (rollbacknetlaw04_awake.f (k + 1) ) := by
 intro  k
 unfold rollbacknetlaw04_awake.f
 repeat' first
   | (with_reducible exact eval_Value.mono _ _ _ _ _ _ _ _ _ _ _ _)
   | (with_reducible exact LeO.refl _)
   | (with_reducible exact LeO.none _)
   | (with_reducible refine LeO.ite ?_ ?_)
   | (with_reducible refine LeO.bind ?_ (fun _ => ?_))
   | exact eval_Value.mono _ _ _ _ _ _ _ _ _ _ _ _
   | exact LeO.none _
   | refine LeO.ite ?_ ?_
   | refine LeO.bind ?_ (fun _ => ?_)
set_option maxHeartbeats 8000000 in
set_option maxRecDepth 100000 in
theorem rollbacknetlaw04_awake.calls (k : Nat)  (r : Bool) (w : World) (h : rollbacknetlaw04_awake.f k  = some r) :
  Calls Try.prog 6 #[] w fun e w' => e = .returned (.bool r) ∧ Below w.heap.size w w' := by
 have hu33 := Try.underlying33
 have hu36 := Try.underlying36
 have HB := Aside0.mk (Below.refl w.heap.size w)
 have H : ((eval_Apply.f 13 (-7) 2).bind fun t114 => (if t114 = (-3) then ((eval_Apply.f 14 (-7) 2).bind fun t115 => (if t115 = (-1) then ((eval_Value.f k 1 5 (⟨#[]⟩ : ByteArray) 0 0 ([] : List (S33)) ([] : List Int) 0 0 0 0).bind fun t116 => (some (t116 == 5))) else (some false))) else (some false))) = some r := h
 clear h
 replace H := Option.bind_eq_some_iff.mp H
 obtain ⟨t114, A10, H⟩ := H
 replace H : (if t114 = (-3) then ((eval_Apply.f 14 (-7) 2).bind fun t115 => (if t115 = (-1) then ((eval_Value.f k 1 5 (⟨#[]⟩ : ByteArray) 0 0 ([] : List (S33)) ([] : List Int) 0 0 0 0).bind fun t116 => (some (t116 == 5))) else (some false))) else (some false)) = some r := H
 have A1 := Aside0.mk A10
 clear A10
 by_cases c2 : t114 = (-3)
 ·rw [if_pos c2] at H
  have c2b0 : (t114 == (-3)) = true := beq_iff_eq.mpr c2
  have c2b1 : (t114 != (-3)) = false := bne_eq_false_iff_eq.mpr c2
  clear c2
  replace H := Option.bind_eq_some_iff.mp H
  obtain ⟨t115, A30, H⟩ := H
  replace H : (if t115 = (-1) then ((eval_Value.f k 1 5 (⟨#[]⟩ : ByteArray) 0 0 ([] : List (S33)) ([] : List Int) 0 0 0 0).bind fun t116 => (some (t116 == 5))) else (some false)) = some r := H
  have A3 := Aside0.mk A30
  clear A30
  by_cases c4 : t115 = (-1)
  ·rw [if_pos c4] at H
   have c4b0 : (t115 == (-1)) = true := beq_iff_eq.mpr c4
   have c4b1 : (t115 != (-1)) = false := bne_eq_false_iff_eq.mpr c4
   clear c4
   replace H := Option.bind_eq_some_iff.mp H
   obtain ⟨t116, A50, H⟩ := H
   replace H : (some (t116 == 5)) = some r := H
   have A5 := Aside0.mk A50
   clear A50
   obtain rfl := Option.some.inj H
   go_enter Try.func6, Try.ntmps6
   go_wp2_with (first | ((with_reducible refine gate_callee (f := 8) rfl ?_); refine goesL_ (some 1) rfl rfl Try.func8 (by kernel_rfl) rfl #[.int .i64 13, .int .i64 (-7), .int .i64 2] rfl (by (try simp only [List.map_toArray, List.map_cons, List.map_nil]); first | done | rfl | (simp only [List.length_drop, List.length_take]; rfl)) ?_; (with_reducible refine (eval_Apply.calls 13 (-7) 2 t114 _ A1.out).mono ?_); rintro e w6 ⟨rfl, hb⟩; refine ⟨_, rfl, ?_⟩; have n0_ := Aside0.mk (below_step (bq HB.out) hb); clear HB; have HB := n0_; clear n0_; (try clear hb); (try clear hb2); (try clear hk); (try clear hi)) | (go_at_call 8; (with_reducible refine (eval_Apply.calls 14 (-7) 2 t115 _ A3.out).mono ?_); rintro e w7 ⟨rfl, hb⟩; have n0_ := Aside0.mk (below_step (bq HB.out) hb); clear HB; have HB := n0_; clear n0_; (try clear hb); (try clear hb2); (try clear hk); (try clear hi)) | (go_at_call 11; (refine (eval_Value.calls k 1 5 (⟨#[]⟩ : ByteArray) 0 0 _ _ ([] : List (S33)) _ _ ([] : List Int) 0 0 0 0 t116 _ ?side1 ?side2 ?side3 ?side4 A5.out).mono ?_); (case side1 => exact Kd.C_nil _ _); (case side2 => exact Nat.le_refl _); (case side3 => exact Kd.C_nil _ _); (case side4 => exact Nat.le_refl _); rintro e w8 ⟨rfl, hb⟩; have n0_ := Aside0.mk (below_step (bq HB.out) hb); clear HB; have HB := n0_; clear n0_; (try clear hb); (try clear hb2); (try clear hk); (try clear hi)))
   go_ret
   exact ⟨by first | rfl | (simp [errW_none, errW_some] <;> rfl) | (simp [*, errW_none, errW_some] <;> rfl), bq HB.out⟩
  ·rw [if_neg c4] at H
   have c4b0 : (t115 == (-1)) = false := beq_eq_false_iff_ne.mpr c4
   have c4b1 : (t115 != (-1)) = true := bne_iff_ne.mpr c4
   obtain rfl := Option.some.inj H
   go_enter Try.func6, Try.ntmps6
   go_wp2_with (first | ((with_reducible refine gate_callee (f := 8) rfl ?_); refine goesL_ (some 1) rfl rfl Try.func8 (by kernel_rfl) rfl #[.int .i64 13, .int .i64 (-7), .int .i64 2] rfl (by (try simp only [List.map_toArray, List.map_cons, List.map_nil]); first | done | rfl | (simp only [List.length_drop, List.length_take]; rfl)) ?_; (with_reducible refine (eval_Apply.calls 13 (-7) 2 t114 _ A1.out).mono ?_); rintro e w9 ⟨rfl, hb⟩; refine ⟨_, rfl, ?_⟩; have n0_ := Aside0.mk (below_step (bq HB.out) hb); clear HB; have HB := n0_; clear n0_; (try clear hb); (try clear hb2); (try clear hk); (try clear hi)) | (go_at_call 8; (with_reducible refine (eval_Apply.calls 14 (-7) 2 t115 _ A3.out).mono ?_); rintro e w10 ⟨rfl, hb⟩; have n0_ := Aside0.mk (below_step (bq HB.out) hb); clear HB; have HB := n0_; clear n0_; (try clear hb); (try clear hb2); (try clear hk); (try clear hi)))
   go_ret
   exact ⟨by first | rfl | (simp [errW_none, errW_some] <;> rfl) | (simp [*, errW_none, errW_some] <;> rfl), bq HB.out⟩
 ·rw [if_neg c2] at H
  have c2b0 : (t114 == (-3)) = false := beq_eq_false_iff_ne.mpr c2
  have c2b1 : (t114 != (-3)) = true := bne_iff_ne.mpr c2
  obtain rfl := Option.some.inj H
  go_enter Try.func6, Try.ntmps6
  go_wp2_with (first | ((with_reducible refine gate_callee (f := 8) rfl ?_); refine goesL_ (some 1) rfl rfl Try.func8 (by kernel_rfl) rfl #[.int .i64 13, .int .i64 (-7), .int .i64 2] rfl (by (try simp only [List.map_toArray, List.map_cons, List.map_nil]); first | done | rfl | (simp only [List.length_drop, List.length_take]; rfl)) ?_; (with_reducible refine (eval_Apply.calls 13 (-7) 2 t114 _ A1.out).mono ?_); rintro e w11 ⟨rfl, hb⟩; refine ⟨_, rfl, ?_⟩; have n0_ := Aside0.mk (below_step (bq HB.out) hb); clear HB; have HB := n0_; clear n0_; (try clear hb); (try clear hb2); (try clear hk); (try clear hi)))
  go_ret
  exact ⟨by first | rfl | (simp [errW_none, errW_some] <;> rfl) | (simp [*, errW_none, errW_some] <;> rfl), bq HB.out⟩

end Go.Proofs.Ytpklmllikcdacaa.PT04
