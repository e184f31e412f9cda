-- Written by a program of this session (hprint.py) out of the translation and of hand-proved parts. Lean checks it.
import Derived.Test.YtpklmllikcdacaaPG04x0
import Derived.Test.YtpklmllikcdacaaPG04x6
namespace Go.Proofs.Ytpklmllikcdacaa.PG04
open Go.RowKit Go.Proofs.YtpklmllikcdacaaW.PrintWords Go.Proofs.YtpklmllikcdacaaW.PrintLast Go.Proofs.YtpklmllikcdacaaW.PrintMore
attribute [local go_sem] max2_int min2_int max_two min_two max_three min_three max_four min_four   -- for this text's walks alone
set_option linter.unusedVariables false
set_option linter.unusedSimpArgs false

/-! ### rollbacknetref04_Apply: function 9 -/
def rollbacknetref04_Apply.f (a0 : Int) (a1 : Int) (a2 : Int) : Option (Int) := if a0 = 8 then (some (wrap64 (-a1))) else (if a0 = 9 then ((rollbacknetref04_truth.f (a1 == 0)).bind fun t116 => (some t116)) else (if a0 = 10 then (some (wrap64 (a1 + a2))) else (if a0 = 11 then (some (wrap64 (a1 - a2))) else (if a0 = 12 then (some (wrap64 (a1 * a2))) else (if a0 = 13 then (if a2 = 0 then (some 0) else (if a2 = (-1) then (some (wrap64 (-a1))) else (some (wrap64 (Int.tdiv a1 a2))))) else (if a0 = 14 then (if a2 = 0 then (some 0) else (if a2 = (-1) then (some 0) else (some (Int.tmod a1 a2)))) else (if a0 = 15 then ((rollbacknetref04_truth.f (decide (a1 < a2))).bind fun t117 => (some t117)) else (if a0 = 16 then ((rollbacknetref04_truth.f (decide (a1 ≤ a2))).bind fun t118 => (some t118)) else (if a0 = 17 then ((rollbacknetref04_truth.f (decide (a1 > a2))).bind fun t119 => (some t119)) else (if a0 = 18 then ((rollbacknetref04_truth.f (decide (a1 ≥ a2))).bind fun t120 => (some t120)) else (if a0 = 19 then ((rollbacknetref04_truth.f (a1 == a2)).bind fun t121 => (some t121)) else (if a0 = 20 then ((rollbacknetref04_truth.f (a1 != a2)).bind fun t122 => (some t122)) else (if a0 = 21 then (if a1 = 0 then ((rollbacknetref04_truth.f false).bind fun t123 => (some t123)) else ((rollbacknetref04_truth.f (a2 != 0)).bind fun t124 => (some t124))) else (if a0 = 22 then (if a1 = 0 then ((rollbacknetref04_truth.f (a2 != 0)).bind fun t125 => (some t125)) else ((rollbacknetref04_truth.f true).bind fun t126 => (some t126))) else (some 0)))))))))))))))
set_option maxHeartbeats 8000000 in
set_option maxRecDepth 100000 in
theorem rollbacknetref04_Apply.calls (a0 : Int) (a1 : Int) (a2 : Int) (r : Int) (w : World) (h : rollbacknetref04_Apply.f a0 a1 a2 = some r) :
  Calls Try.prog 9 #[.int .i64 a0, .int .i64 a1, .int .i64 a2] w fun e w' => e = .returned (.int .i64 r) ∧ Drawn0 w w' := by
 have H : (if a0 = 8 then (some (wrap64 (-a1))) else (if a0 = 9 then ((rollbacknetref04_truth.f (a1 == 0)).bind fun t116 => (some t116)) else (if a0 = 10 then (some (wrap64 (a1 + a2))) else (if a0 = 11 then (some (wrap64 (a1 - a2))) else (if a0 = 12 then (some (wrap64 (a1 * a2))) else (if a0 = 13 then (if a2 = 0 then (some 0) else (if a2 = (-1) then (some (wrap64 (-a1))) else (some (wrap64 (Int.tdiv a1 a2))))) else (if a0 = 14 then (if a2 = 0 then (some 0) else (if a2 = (-1) then (some 0) else (some (Int.tmod a1 a2)))) else (if a0 = 15 then ((rollbacknetref04_truth.f (decide (a1 < a2))).bind fun t117 => (some t117)) else (if a0 = 16 then ((rollbacknetref04_truth.f (decide (a1 ≤ a2))).bind fun t118 => (some t118)) else (if a0 = 17 then ((rollbacknetref04_truth.f (decide (a1 > a2))).bind fun t119 => (some t119)) else (if a0 = 18 then ((rollbacknetref04_truth.f (decide (a1 ≥ a2))).bind fun t120 => (some t120)) else (if a0 = 19 then ((rollbacknetref04_truth.f (a1 == a2)).bind fun t121 => (some t121)) else (if a0 = 20 then ((rollbacknetref04_truth.f (a1 != a2)).bind fun t122 => (some t122)) else (if a0 = 21 then (if a1 = 0 then ((rollbacknetref04_truth.f false).bind fun t123 => (some t123)) else ((rollbacknetref04_truth.f (a2 != 0)).bind fun t124 => (some t124))) else (if a0 = 22 then (if a1 = 0 then ((rollbacknetref04_truth.f (a2 != 0)).bind fun t125 => (some t125)) else ((rollbacknetref04_truth.f true).bind fun t126 => (some t126))) else (some 0)))))))))))))))) = some r := h
 clear h
 by_cases c4 : a0 = 8
 ·rw [if_pos c4] at H
  have c4b0 : (a0 == 8) = true := beq_iff_eq.mpr c4
  have c4b1 : (a0 != 8) = false := bne_eq_false_iff_eq.mpr c4
  clear c4
  obtain rfl := Option.some.inj H
  go_enter Try.func9, Try.ntmps9
  go_wp2
  go_ret
  exact ⟨by first | rfl | (simp; done) | (simp [*]; done), by repeat (first | exact Drawn0.refl _ | apply Drawn0.step)⟩
 ·rw [if_neg c4] at H
  have c4b0 : (a0 == 8) = false := beq_eq_false_iff_ne.mpr c4
  have c4b1 : (a0 != 8) = true := bne_iff_ne.mpr c4
  by_cases c5 : a0 = 9
  ·rw [if_pos c5] at H
   have c5b0 : (a0 == 9) = true := beq_iff_eq.mpr c5
   have c5b1 : (a0 != 9) = false := bne_eq_false_iff_eq.mpr c5
   clear c5
   replace H := Option.bind_eq_some_iff.mp H
   obtain ⟨t116, A60, H⟩ := H
   replace H : (some t116) = some r := H
   have A6 := Aside0.mk A60
   clear A60
   obtain rfl := Option.some.inj H
   go_enter Try.func9, Try.ntmps9
   go_wp2_with (first | ((with_reducible refine gate_callee (f := 13) rfl ?_); refine goesL_ (some 16) rfl rfl Try.func13 (by kernel_rfl) rfl #[.bool (a1 == 0)] rfl (by (try simp only [List.map_toArray, List.map_cons, List.map_nil]); first | done | rfl | (simp only [List.length_drop, List.length_take]; rfl)) ?_; (with_reducible refine (rollbacknetref04_truth.calls (a1 == 0) t116 _ A6.out).mono ?_); rintro e w' ⟨rfl, ⟨nd, rfl⟩⟩; refine ⟨_, rfl, ?_⟩))
   go_ret
   exact ⟨by first | rfl | (simp; done) | (simp [*]; done), by repeat (first | exact Drawn0.refl _ | apply Drawn0.step)⟩
  ·rw [if_neg c5] at H
   have c5b0 : (a0 == 9) = false := beq_eq_false_iff_ne.mpr c5
   have c5b1 : (a0 != 9) = true := bne_iff_ne.mpr c5
   by_cases c7 : a0 = 10
   ·rw [if_pos c7] at H
    have c7b0 : (a0 == 10) = true := beq_iff_eq.mpr c7
    have c7b1 : (a0 != 10) = false := bne_eq_false_iff_eq.mpr c7
    clear c7
    obtain rfl := Option.some.inj H
    go_enter Try.func9, Try.ntmps9
    go_wp2
    go_ret
    exact ⟨by first | rfl | (simp; done) | (simp [*]; done), by repeat (first | exact Drawn0.refl _ | apply Drawn0.step)⟩
   ·rw [if_neg c7] at H
    have c7b0 : (a0 == 10) = false := beq_eq_false_iff_ne.mpr c7
    have c7b1 : (a0 != 10) = true := bne_iff_ne.mpr c7
    by_cases c8 : a0 = 11
    ·rw [if_pos c8] at H
     have c8b0 : (a0 == 11) = true := beq_iff_eq.mpr c8
     have c8b1 : (a0 != 11) = false := bne_eq_false_iff_eq.mpr c8
     clear c8
     obtain rfl := Option.some.inj H
     go_enter Try.func9, Try.ntmps9
     go_wp2
     go_ret
     exact ⟨by first | rfl | (simp; done) | (simp [*]; done), by repeat (first | exact Drawn0.refl _ | apply Drawn0.step)⟩
    ·rw [if_neg c8] at H
     have c8b0 : (a0 == 11) = false := beq_eq_false_iff_ne.mpr c8
     have c8b1 : (a0 != 11) = true := bne_iff_ne.mpr c8
     by_cases c9 : a0 = 12
     ·rw [if_pos c9] at H
      have c9b0 : (a0 == 12) = true := beq_iff_eq.mpr c9
      have c9b1 : (a0 != 12) = false := bne_eq_false_iff_eq.mpr c9
      clear c9
      obtain rfl := Option.some.inj H
      go_enter Try.func9, Try.ntmps9
      go_wp2
      go_ret
      exact ⟨by first | rfl | (simp; done) | (simp [*]; done), by repeat (first | exact Drawn0.refl _ | apply Drawn0.step)⟩
     ·rw [if_neg c9] at H
      have c9b0 : (a0 == 12) = false := beq_eq_false_iff_ne.mpr c9
      have c9b1 : (a0 != 12) = true := bne_iff_ne.mpr c9
      by_cases c10 : a0 = 13
      ·rw [if_pos c10] at H
       have c10b0 : (a0 == 13) = true := beq_iff_eq.mpr c10
       have c10b1 : (a0 != 13) = false := bne_eq_false_iff_eq.mpr c10
       clear c10
       by_cases c11 : a2 = 0
       ·rw [if_pos c11] at H
        have c11b0 : (a2 == 0) = true := beq_iff_eq.mpr c11
        have c11b1 : (a2 != 0) = false := bne_eq_false_iff_eq.mpr c11
        clear c11
        obtain rfl := Option.some.inj H
        go_enter Try.func9, Try.ntmps9
        go_wp2
        go_ret
        exact ⟨by first | rfl | (simp; done) | (simp [*]; done), by repeat (first | exact Drawn0.refl _ | apply Drawn0.step)⟩
       ·rw [if_neg c11] at H
        have c11b0 : (a2 == 0) = false := beq_eq_false_iff_ne.mpr c11
        have c11b1 : (a2 != 0) = true := bne_iff_ne.mpr c11
        by_cases c12 : a2 = (-1)
        ·rw [if_pos c12] at H
         have c12b0 : (a2 == (-1)) = true := beq_iff_eq.mpr c12
         have c12b1 : (a2 != (-1)) = false := bne_eq_false_iff_eq.mpr c12
         clear c12
         obtain rfl := Option.some.inj H
         go_enter Try.func9, Try.ntmps9
         go_wp2
         go_ret
         exact ⟨by first | rfl | (simp; done) | (simp [*]; done), by repeat (first | exact Drawn0.refl _ | apply Drawn0.step)⟩
        ·rw [if_neg c12] at H
         have c12b0 : (a2 == (-1)) = false := beq_eq_false_iff_ne.mpr c12
         have c12b1 : (a2 != (-1)) = true := bne_iff_ne.mpr c12
         obtain rfl := Option.some.inj H
         go_enter Try.func9, Try.ntmps9
         go_wp2
         go_ret
         exact ⟨by first | rfl | (simp; done) | (simp [*]; done), by repeat (first | exact Drawn0.refl _ | apply Drawn0.step)⟩
      ·rw [if_neg c10] at H
       have c10b0 : (a0 == 13) = false := beq_eq_false_iff_ne.mpr c10
       have c10b1 : (a0 != 13) = true := bne_iff_ne.mpr c10
       by_cases c13 : a0 = 14
       ·rw [if_pos c13] at H
        have c13b0 : (a0 == 14) = true := beq_iff_eq.mpr c13
        have c13b1 : (a0 != 14) = false := bne_eq_false_iff_eq.mpr c13
        clear c13
        by_cases c14 : a2 = 0
        ·rw [if_pos c14] at H
         have c14b0 : (a2 == 0) = true := beq_iff_eq.mpr c14
         have c14b1 : (a2 != 0) = false := bne_eq_false_iff_eq.mpr c14
         clear c14
         obtain rfl := Option.some.inj H
         go_enter Try.func9, Try.ntmps9
         go_wp2
         go_ret
         exact ⟨by first | rfl | (simp; done) | (simp [*]; done), by repeat (first | exact Drawn0.refl _ | apply Drawn0.step)⟩
        ·rw [if_neg c14] at H
         have c14b0 : (a2 == 0) = false := beq_eq_false_iff_ne.mpr c14
         have c14b1 : (a2 != 0) = true := bne_iff_ne.mpr c14
         by_cases c15 : a2 = (-1)
         ·rw [if_pos c15] at H
          have c15b0 : (a2 == (-1)) = true := beq_iff_eq.mpr c15
          have c15b1 : (a2 != (-1)) = false := bne_eq_false_iff_eq.mpr c15
          clear c15
          obtain rfl := Option.some.inj H
          go_enter Try.func9, Try.ntmps9
          go_wp2
          go_ret
          exact ⟨by first | rfl | (simp; done) | (simp [*]; done), by repeat (first | exact Drawn0.refl _ | apply Drawn0.step)⟩
         ·rw [if_neg c15] at H
          have c15b0 : (a2 == (-1)) = false := beq_eq_false_iff_ne.mpr c15
          have c15b1 : (a2 != (-1)) = true := bne_iff_ne.mpr c15
          obtain rfl := Option.some.inj H
          go_enter Try.func9, Try.ntmps9
          go_wp2
          go_ret
          exact ⟨by first | rfl | (simp; done) | (simp [*]; done), by repeat (first | exact Drawn0.refl _ | apply Drawn0.step)⟩
       ·rw [if_neg c13] at H
        have c13b0 : (a0 == 14) = false := beq_eq_false_iff_ne.mpr c13
        have c13b1 : (a0 != 14) = true := bne_iff_ne.mpr c13
        by_cases c16 : a0 = 15
        ·rw [if_pos c16] at H
         have c16b0 : (a0 == 15) = true := beq_iff_eq.mpr c16
         have c16b1 : (a0 != 15) = false := bne_eq_false_iff_eq.mpr c16
         clear c16
         replace H := Option.bind_eq_some_iff.mp H
         obtain ⟨t117, A170, H⟩ := H
         replace H : (some t117) = some r := H
         have A17 := Aside0.mk A170
         clear A170
         obtain rfl := Option.some.inj H
         go_enter Try.func9, Try.ntmps9
         go_wp2_with (first | ((with_reducible refine gate_callee (f := 13) rfl ?_); refine goesL_ (some 59) rfl rfl Try.func13 (by kernel_rfl) rfl #[.bool (decide (a1 < a2))] rfl (by (try simp only [List.map_toArray, List.map_cons, List.map_nil]); first | done | rfl | (simp only [List.length_drop, List.length_take]; rfl)) ?_; (with_reducible refine (rollbacknetref04_truth.calls (decide (a1 < a2)) t117 _ A17.out).mono ?_); rintro e w' ⟨rfl, ⟨nd, rfl⟩⟩; refine ⟨_, rfl, ?_⟩))
         go_ret
         exact ⟨by first | rfl | (simp; done) | (simp [*]; done), by repeat (first | exact Drawn0.refl _ | apply Drawn0.step)⟩
        ·rw [if_neg c16] at H
         have c16b0 : (a0 == 15) = false := beq_eq_false_iff_ne.mpr c16
         have c16b1 : (a0 != 15) = true := bne_iff_ne.mpr c16
         by_cases c18 : a0 = 16
         ·rw [if_pos c18] at H
          have c18b0 : (a0 == 16) = true := beq_iff_eq.mpr c18
          have c18b1 : (a0 != 16) = false := bne_eq_false_iff_eq.mpr c18
          clear c18
          replace H := Option.bind_eq_some_iff.mp H
          obtain ⟨t118, A190, H⟩ := H
          replace H : (some t118) = some r := H
          have A19 := Aside0.mk A190
          clear A190
          obtain rfl := Option.some.inj H
          go_enter Try.func9, Try.ntmps9
          go_wp2_with (first | ((with_reducible refine gate_callee (f := 13) rfl ?_); refine goesL_ (some 65) rfl rfl Try.func13 (by kernel_rfl) rfl #[.bool (decide (a1 ≤ a2))] rfl (by (try simp only [List.map_toArray, List.map_cons, List.map_nil]); first | done | rfl | (simp only [List.length_drop, List.length_take]; rfl)) ?_; (with_reducible refine (rollbacknetref04_truth.calls (decide (a1 ≤ a2)) t118 _ A19.out).mono ?_); rintro e w' ⟨rfl, ⟨nd, rfl⟩⟩; refine ⟨_, rfl, ?_⟩))
          go_ret
          exact ⟨by first | rfl | (simp; done) | (simp [*]; done), by repeat (first | exact Drawn0.refl _ | apply Drawn0.step)⟩
         ·rw [if_neg c18] at H
          have c18b0 : (a0 == 16) = false := beq_eq_false_iff_ne.mpr c18
          have c18b1 : (a0 != 16) = true := bne_iff_ne.mpr c18
          by_cases c20 : a0 = 17
          ·rw [if_pos c20] at H
           have c20b0 : (a0 == 17) = true := beq_iff_eq.mpr c20
           have c20b1 : (a0 != 17) = false := bne_eq_false_iff_eq.mpr c20
           clear c20
           replace H := Option.bind_eq_some_iff.mp H
           obtain ⟨t119, A210, H⟩ := H
           replace H : (some t119) = some r := H
           have A21 := Aside0.mk A210
           clear A210
           obtain rfl := Option.some.inj H
           go_enter Try.func9, Try.ntmps9
           go_wp2_with (first | ((with_reducible refine gate_callee (f := 13) rfl ?_); refine goesL_ (some 71) rfl rfl Try.func13 (by kernel_rfl) rfl #[.bool (decide (a1 > a2))] rfl (by (try simp only [List.map_toArray, List.map_cons, List.map_nil]); first | done | rfl | (simp only [List.length_drop, List.length_take]; rfl)) ?_; (with_reducible refine (rollbacknetref04_truth.calls (decide (a1 > a2)) t119 _ A21.out).mono ?_); rintro e w' ⟨rfl, ⟨nd, rfl⟩⟩; refine ⟨_, rfl, ?_⟩))
           go_ret
           exact ⟨by first | rfl | (simp; done) | (simp [*]; done), by repeat (first | exact Drawn0.refl _ | apply Drawn0.step)⟩
          ·rw [if_neg c20] at H
           have c20b0 : (a0 == 17) = false := beq_eq_false_iff_ne.mpr c20
           have c20b1 : (a0 != 17) = true := bne_iff_ne.mpr c20
           by_cases c22 : a0 = 18
           ·rw [if_pos c22] at H
            have c22b0 : (a0 == 18) = true := beq_iff_eq.mpr c22
            have c22b1 : (a0 != 18) = false := bne_eq_false_iff_eq.mpr c22
            clear c22
            replace H := Option.bind_eq_some_iff.mp H
            obtain ⟨t120, A230, H⟩ := H
            replace H : (some t120) = some r := H
            have A23 := Aside0.mk A230
            clear A230
            obtain rfl := Option.some.inj H
            go_enter Try.func9, Try.ntmps9
            go_wp2_with (first | ((with_reducible refine gate_callee (f := 13) rfl ?_); refine goesL_ (some 77) rfl rfl Try.func13 (by kernel_rfl) rfl #[.bool (decide (a1 ≥ a2))] rfl (by (try simp only [List.map_toArray, List.map_cons, List.map_nil]); first | done | rfl | (simp only [List.length_drop, List.length_take]; rfl)) ?_; (with_reducible refine (rollbacknetref04_truth.calls (decide (a1 ≥ a2)) t120 _ A23.out).mono ?_); rintro e w' ⟨rfl, ⟨nd, rfl⟩⟩; refine ⟨_, rfl, ?_⟩))
            go_ret
            exact ⟨by first | rfl | (simp; done) | (simp [*]; done), by repeat (first | exact Drawn0.refl _ | apply Drawn0.step)⟩
           ·rw [if_neg c22] at H
            have c22b0 : (a0 == 18) = false := beq_eq_false_iff_ne.mpr c22
            have c22b1 : (a0 != 18) = true := bne_iff_ne.mpr c22
            by_cases c24 : a0 = 19
            ·rw [if_pos c24] at H
             have c24b0 : (a0 == 19) = true := beq_iff_eq.mpr c24
             have c24b1 : (a0 != 19) = false := bne_eq_false_iff_eq.mpr c24
             clear c24
             replace H := Option.bind_eq_some_iff.mp H
             obtain ⟨t121, A250, H⟩ := H
             replace H : (some t121) = some r := H
             have A25 := Aside0.mk A250
             clear A250
             obtain rfl := Option.some.inj H
             go_enter Try.func9, Try.ntmps9
             go_wp2_with (first | ((with_reducible refine gate_callee (f := 13) rfl ?_); refine goesL_ (some 83) rfl rfl Try.func13 (by kernel_rfl) rfl #[.bool (a1 == a2)] rfl (by (try simp only [List.map_toArray, List.map_cons, List.map_nil]); first | done | rfl | (simp only [List.length_drop, List.length_take]; rfl)) ?_; (with_reducible refine (rollbacknetref04_truth.calls (a1 == a2) t121 _ A25.out).mono ?_); rintro e w' ⟨rfl, ⟨nd, rfl⟩⟩; refine ⟨_, rfl, ?_⟩))
             go_ret
             exact ⟨by first | rfl | (simp; done) | (simp [*]; done), by repeat (first | exact Drawn0.refl _ | apply Drawn0.step)⟩
            ·rw [if_neg c24] at H
             have c24b0 : (a0 == 19) = false := beq_eq_false_iff_ne.mpr c24
             have c24b1 : (a0 != 19) = true := bne_iff_ne.mpr c24
             by_cases c26 : a0 = 20
             ·rw [if_pos c26] at H
              have c26b0 : (a0 == 20) = true := beq_iff_eq.mpr c26
              have c26b1 : (a0 != 20) = false := bne_eq_false_iff_eq.mpr c26
              clear c26
              replace H := Option.bind_eq_some_iff.mp H
              obtain ⟨t122, A270, H⟩ := H
              replace H : (some t122) = some r := H
              have A27 := Aside0.mk A270
              clear A270
              obtain rfl := Option.some.inj H
              go_enter Try.func9, Try.ntmps9
              go_wp2_with (first | ((with_reducible refine gate_callee (f := 13) rfl ?_); refine goesL_ (some 89) rfl rfl Try.func13 (by kernel_rfl) rfl #[.bool (a1 != a2)] rfl (by (try simp only [List.map_toArray, List.map_cons, List.map_nil]); first | done | rfl | (simp only [List.length_drop, List.length_take]; rfl)) ?_; (with_reducible refine (rollbacknetref04_truth.calls (a1 != a2) t122 _ A27.out).mono ?_); rintro e w' ⟨rfl, ⟨nd, rfl⟩⟩; refine ⟨_, rfl, ?_⟩))
              go_ret
              exact ⟨by first | rfl | (simp; done) | (simp [*]; done), by repeat (first | exact Drawn0.refl _ | apply Drawn0.step)⟩
             ·rw [if_neg c26] at H
              have c26b0 : (a0 == 20) = false := beq_eq_false_iff_ne.mpr c26
              have c26b1 : (a0 != 20) = true := bne_iff_ne.mpr c26
              by_cases c28 : a0 = 21
              ·rw [if_pos c28] at H
               have c28b0 : (a0 == 21) = true := beq_iff_eq.mpr c28
               have c28b1 : (a0 != 21) = false := bne_eq_false_iff_eq.mpr c28
               clear c28
               by_cases c29 : a1 = 0
               ·rw [if_pos c29] at H
                have c29b0 : (a1 == 0) = true := beq_iff_eq.mpr c29
                have c29b1 : (a1 != 0) = false := bne_eq_false_iff_eq.mpr c29
                clear c29
                replace H := Option.bind_eq_some_iff.mp H
                obtain ⟨t123, A300, H⟩ := H
                replace H : (some t123) = some r := H
                have A30 := Aside0.mk A300
                clear A300
                obtain rfl := Option.some.inj H
                go_enter Try.func9, Try.ntmps9
                go_wp2_with (first | ((with_reducible refine gate_callee (f := 13) rfl ?_); refine goesL_ (some 98) rfl rfl Try.func13 (by kernel_rfl) rfl #[.bool false] rfl (by (try simp only [List.map_toArray, List.map_cons, List.map_nil]); first | done | rfl | (simp only [List.length_drop, List.length_take]; rfl)) ?_; (with_reducible refine (rollbacknetref04_truth.calls false t123 _ A30.out).mono ?_); rintro e w' ⟨rfl, ⟨nd, rfl⟩⟩; refine ⟨_, rfl, ?_⟩))
                go_ret
                exact ⟨by first | rfl | (simp; done) | (simp [*]; done), by repeat (first | exact Drawn0.refl _ | apply Drawn0.step)⟩
               ·rw [if_neg c29] at H
                have c29b0 : (a1 == 0) = false := beq_eq_false_iff_ne.mpr c29
                have c29b1 : (a1 != 0) = true := bne_iff_ne.mpr c29
                replace H := Option.bind_eq_some_iff.mp H
                obtain ⟨t124, A310, H⟩ := H
                replace H : (some t124) = some r := H
                have A31 := Aside0.mk A310
                clear A310
                obtain rfl := Option.some.inj H
                go_enter Try.func9, Try.ntmps9
                go_wp2_with (first | ((with_reducible refine gate_callee (f := 13) rfl ?_); refine goesL_ (some 98) rfl rfl Try.func13 (by kernel_rfl) rfl #[.bool (a2 != 0)] rfl (by (try simp only [List.map_toArray, List.map_cons, List.map_nil]); first | done | rfl | (simp only [List.length_drop, List.length_take]; rfl)) ?_; (with_reducible refine (rollbacknetref04_truth.calls (a2 != 0) t124 _ A31.out).mono ?_); rintro e w' ⟨rfl, ⟨nd, rfl⟩⟩; refine ⟨_, rfl, ?_⟩))
                go_ret
                exact ⟨by first | rfl | (simp; done) | (simp [*]; done), by repeat (first | exact Drawn0.refl _ | apply Drawn0.step)⟩
              ·rw [if_neg c28] at H
               have c28b0 : (a0 == 21) = false := beq_eq_false_iff_ne.mpr c28
               have c28b1 : (a0 != 21) = true := bne_iff_ne.mpr c28
               by_cases c32 : a0 = 22
               ·rw [if_pos c32] at H
                have c32b0 : (a0 == 22) = true := beq_iff_eq.mpr c32
                have c32b1 : (a0 != 22) = false := bne_eq_false_iff_eq.mpr c32
                clear c32
                by_cases c33 : a1 = 0
                ·rw [if_pos c33] at H
                 have c33b0 : (a1 == 0) = true := beq_iff_eq.mpr c33
                 have c33b1 : (a1 != 0) = false := bne_eq_false_iff_eq.mpr c33
                 clear c33
                 replace H := Option.bind_eq_some_iff.mp H
                 obtain ⟨t125, A340, H⟩ := H
                 replace H : (some t125) = some r := H
                 have A34 := Aside0.mk A340
                 clear A340
                 obtain rfl := Option.some.inj H
                 go_enter Try.func9, Try.ntmps9
                 go_wp2_with (first | ((with_reducible refine gate_callee (f := 13) rfl ?_); refine goesL_ (some 107) rfl rfl Try.func13 (by kernel_rfl) rfl #[.bool (a2 != 0)] rfl (by (try simp only [List.map_toArray, List.map_cons, List.map_nil]); first | done | rfl | (simp only [List.length_drop, List.length_take]; rfl)) ?_; (with_reducible refine (rollbacknetref04_truth.calls (a2 != 0) t125 _ A34.out).mono ?_); rintro e w' ⟨rfl, ⟨nd, rfl⟩⟩; refine ⟨_, rfl, ?_⟩))
                 go_ret
                 exact ⟨by first | rfl | (simp; done) | (simp [*]; done), by repeat (first | exact Drawn0.refl _ | apply Drawn0.step)⟩
                ·rw [if_neg c33] at H
                 have c33b0 : (a1 == 0) = false := beq_eq_false_iff_ne.mpr c33
                 have c33b1 : (a1 != 0) = true := bne_iff_ne.mpr c33
                 replace H := Option.bind_eq_some_iff.mp H
                 obtain ⟨t126, A350, H⟩ := H
                 replace H : (some t126) = some r := H
                 have A35 := Aside0.mk A350
                 clear A350
                 obtain rfl := Option.some.inj H
                 go_enter Try.func9, Try.ntmps9
                 go_wp2_with (first | ((with_reducible refine gate_callee (f := 13) rfl ?_); refine goesL_ (some 107) rfl rfl Try.func13 (by kernel_rfl) rfl #[.bool true] rfl (by (try simp only [List.map_toArray, List.map_cons, List.map_nil]); first | done | rfl | (simp only [List.length_drop, List.length_take]; rfl)) ?_; (with_reducible refine (rollbacknetref04_truth.calls true t126 _ A35.out).mono ?_); rintro e w' ⟨rfl, ⟨nd, rfl⟩⟩; refine ⟨_, rfl, ?_⟩))
                 go_ret
                 exact ⟨by first | rfl | (simp; done) | (simp [*]; done), by repeat (first | exact Drawn0.refl _ | apply Drawn0.step)⟩
               ·rw [if_neg c32] at H
                have c32b0 : (a0 == 22) = false := beq_eq_false_iff_ne.mpr c32
                have c32b1 : (a0 != 22) = true := bne_iff_ne.mpr c32
                obtain rfl := Option.some.inj H
                go_enter Try.func9, Try.ntmps9
                go_wp2
                go_ret
                exact ⟨by first | rfl | (simp; done) | (simp [*]; done), by repeat (first | exact Drawn0.refl _ | apply Drawn0.step)⟩

end Go.Proofs.Ytpklmllikcdacaa.PG04
