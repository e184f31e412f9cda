-- Written by a program of this session (hprint.py) out of the translation and of hand-proved parts. Lean checks it.
import Derived.Test.YtpklmllikcdacaaPT04x0
import Derived.Test.YtpklmllikcdacaaPT04x1
import Derived.Test.YtpklmllikcdacaaPT04x2
import Derived.Test.YtpklmllikcdacaaPT04x3
namespace Go.Proofs.Ytpklmllikcdacaa.PT04
open Go.RowKit Go.Proofs.YtpklmllikcdacaaW.PrintWords Go.Proofs.YtpklmllikcdacaaW.PrintLast Go.Proofs.YtpklmllikcdacaaW.PrintMore
attribute [local go_sem] max2_int min2_int max_two min_two max_three min_three max_four min_four   -- for this text's walks alone
set_option linter.unusedVariables false
set_option linter.unusedSimpArgs false

/-! ### eval_Apply: function 8 (proved by hand) -/
def eval_Apply.fns : Array Value := #[.func (.func 16) #[] #[], .func (.func 17) #[] #[], .func (.func 19) #[] #[], .func (.func 20) #[] #[], .func (.func 21) #[] #[], .func (.func 22) #[] #[], .func (.func 23) #[] #[], .func (.func 24) #[] #[], .func (.func 25) #[] #[], .func (.func 26) #[] #[], .func (.func 27) #[] #[], .func (.func 28) #[] #[], .func (.func 29) #[] #[], .func (.func 30) #[] #[], .func (.func 31) #[] #[]]
set_option maxHeartbeats 8000000 in
set_option maxRecDepth 100000 in
theorem eval_Apply.ops (w : World) : Calls Try.prog 12 #[] w fun e w' => e = .returned (.agg eval_Apply.fns) ∧ Below w.heap.size w w' := by
 have hu38 := Try.underlying38
 go_enter Try.func12, Try.ntmps12
 go_wp2
 refine bodyPost_ret (results_cell_row rfl _ _ w.heap.size 38 eval_Apply.fns (0, 0) _ rfl (heap_alloc_last w _) Try.underlying38 rfl (by kernel_rfl)) rfl ?_
 exact ⟨rfl, (Below.refl w.heap.size w).alloc (Nat.le_refl _) _⟩
set_option maxHeartbeats 8000000 in
set_option maxRecDepth 100000 in
theorem eval_Apply.at8 (a1 a2 r : Int) (w : World) (h : eval_operators_1.f a1 a2 = some r) : Calls Try.prog 8 #[.int .i64 8, .int .i64 a1, .int .i64 a2] w fun e w' => e = .returned (.int .i64 r) ∧ Below w.heap.size w w' := by
 have hix : ∀ W, (Instr.index 38 (.agg eval_Apply.fns) (.int .i64 0)).run Try.prog W = .ok (.func (.func 16) #[] #[]) W := fun W => by kernel_rfl
 have H := Aside0.mk h
 clear h
 go_enter Try.func8, Try.ntmps8
 go_wp2_with (first | (go_at_call 12; refine (eval_Apply.ops _).mono ?_; rintro e w1 ⟨rfl, hb⟩; have HB := Aside0.mk hb; clear hb) | (go_at_call 16; refine (eval_operators_1.calls a1 a2 r _ H.out).mono ?_; rintro e w2 ⟨rfl, ⟨nd, rfl⟩⟩))
 go_ret
 exact ⟨rfl, bq HB.out⟩
set_option maxHeartbeats 8000000 in
set_option maxRecDepth 100000 in
theorem eval_Apply.at9 (a1 a2 r : Int) (w : World) (h : eval_operators_2.f a1 a2 = some r) : Calls Try.prog 8 #[.int .i64 9, .int .i64 a1, .int .i64 a2] w fun e w' => e = .returned (.int .i64 r) ∧ Below w.heap.size w w' := by
 have hix : ∀ W, (Instr.index 38 (.agg eval_Apply.fns) (.int .i64 1)).run Try.prog W = .ok (.func (.func 17) #[] #[]) W := fun W => by kernel_rfl
 have H := Aside0.mk h
 clear h
 go_enter Try.func8, Try.ntmps8
 go_wp2_with (first | (go_at_call 12; refine (eval_Apply.ops _).mono ?_; rintro e w1 ⟨rfl, hb⟩; have HB := Aside0.mk hb; clear hb) | (go_at_call 17; refine (eval_operators_2.calls a1 a2 r _ H.out).mono ?_; rintro e w2 ⟨rfl, ⟨nd, rfl⟩⟩))
 go_ret
 exact ⟨rfl, bq HB.out⟩
set_option maxHeartbeats 8000000 in
set_option maxRecDepth 100000 in
theorem eval_Apply.at10 (a1 a2 r : Int) (w : World) (h : eval_operators_3.f a1 a2 = some r) : Calls Try.prog 8 #[.int .i64 10, .int .i64 a1, .int .i64 a2] w fun e w' => e = .returned (.int .i64 r) ∧ Below w.heap.size w w' := by
 have hix : ∀ W, (Instr.index 38 (.agg eval_Apply.fns) (.int .i64 2)).run Try.prog W = .ok (.func (.func 19) #[] #[]) W := fun W => by kernel_rfl
 have H := Aside0.mk h
 clear h
 go_enter Try.func8, Try.ntmps8
 go_wp2_with (first | (go_at_call 12; refine (eval_Apply.ops _).mono ?_; rintro e w1 ⟨rfl, hb⟩; have HB := Aside0.mk hb; clear hb) | (go_at_call 19; refine (eval_operators_3.calls a1 a2 r _ H.out).mono ?_; rintro e w2 ⟨rfl, ⟨nd, rfl⟩⟩))
 go_ret
 exact ⟨rfl, bq HB.out⟩
set_option maxHeartbeats 8000000 in
set_option maxRecDepth 100000 in
theorem eval_Apply.at11 (a1 a2 r : Int) (w : World) (h : eval_operators_4.f a1 a2 = some r) : Calls Try.prog 8 #[.int .i64 11, .int .i64 a1, .int .i64 a2] w fun e w' => e = .returned (.int .i64 r) ∧ Below w.heap.size w w' := by
 have hix : ∀ W, (Instr.index 38 (.agg eval_Apply.fns) (.int .i64 3)).run Try.prog W = .ok (.func (.func 20) #[] #[]) W := fun W => by kernel_rfl
 have H := Aside0.mk h
 clear h
 go_enter Try.func8, Try.ntmps8
 go_wp2_with (first | (go_at_call 12; refine (eval_Apply.ops _).mono ?_; rintro e w1 ⟨rfl, hb⟩; have HB := Aside0.mk hb; clear hb) | (go_at_call 20; refine (eval_operators_4.calls a1 a2 r _ H.out).mono ?_; rintro e w2 ⟨rfl, ⟨nd, rfl⟩⟩))
 go_ret
 exact ⟨rfl, bq HB.out⟩
set_option maxHeartbeats 8000000 in
set_option maxRecDepth 100000 in
theorem eval_Apply.at12 (a1 a2 r : Int) (w : World) (h : eval_operators_5.f a1 a2 = some r) : Calls Try.prog 8 #[.int .i64 12, .int .i64 a1, .int .i64 a2] w fun e w' => e = .returned (.int .i64 r) ∧ Below w.heap.size w w' := by
 have hix : ∀ W, (Instr.index 38 (.agg eval_Apply.fns) (.int .i64 4)).run Try.prog W = .ok (.func (.func 21) #[] #[]) W := fun W => by kernel_rfl
 have H := Aside0.mk h
 clear h
 go_enter Try.func8, Try.ntmps8
 go_wp2_with (first | (go_at_call 12; refine (eval_Apply.ops _).mono ?_; rintro e w1 ⟨rfl, hb⟩; have HB := Aside0.mk hb; clear hb) | (go_at_call 21; refine (eval_operators_5.calls a1 a2 r _ H.out).mono ?_; rintro e w2 ⟨rfl, ⟨nd, rfl⟩⟩))
 go_ret
 exact ⟨rfl, bq HB.out⟩
set_option maxHeartbeats 8000000 in
set_option maxRecDepth 100000 in
theorem eval_Apply.at13 (a1 a2 r : Int) (w : World) (h : eval_operators_6.f a1 a2 = some r) : Calls Try.prog 8 #[.int .i64 13, .int .i64 a1, .int .i64 a2] w fun e w' => e = .returned (.int .i64 r) ∧ Below w.heap.size w w' := by
 have hix : ∀ W, (Instr.index 38 (.agg eval_Apply.fns) (.int .i64 5)).run Try.prog W = .ok (.func (.func 22) #[] #[]) W := fun W => by kernel_rfl
 have H := Aside0.mk h
 clear h
 go_enter Try.func8, Try.ntmps8
 go_wp2_with (first | (go_at_call 12; refine (eval_Apply.ops _).mono ?_; rintro e w1 ⟨rfl, hb⟩; have HB := Aside0.mk hb; clear hb) | (go_at_call 22; refine (eval_operators_6.calls a1 a2 r _ H.out).mono ?_; rintro e w2 ⟨rfl, ⟨nd, rfl⟩⟩))
 go_ret
 exact ⟨rfl, bq HB.out⟩
set_option maxHeartbeats 8000000 in
set_option maxRecDepth 100000 in
theorem eval_Apply.at14 (a1 a2 r : Int) (w : World) (h : eval_operators_7.f a1 a2 = some r) : Calls Try.prog 8 #[.int .i64 14, .int .i64 a1, .int .i64 a2] w fun e w' => e = .returned (.int .i64 r) ∧ Below w.heap.size w w' := by
 have hix : ∀ W, (Instr.index 38 (.agg eval_Apply.fns) (.int .i64 6)).run Try.prog W = .ok (.func (.func 23) #[] #[]) W := fun W => by kernel_rfl
 have H := Aside0.mk h
 clear h
 go_enter Try.func8, Try.ntmps8
 go_wp2_with (first | (go_at_call 12; refine (eval_Apply.ops _).mono ?_; rintro e w1 ⟨rfl, hb⟩; have HB := Aside0.mk hb; clear hb) | (go_at_call 23; refine (eval_operators_7.calls a1 a2 r _ H.out).mono ?_; rintro e w2 ⟨rfl, ⟨nd, rfl⟩⟩))
 go_ret
 exact ⟨rfl, bq HB.out⟩
set_option maxHeartbeats 8000000 in
set_option maxRecDepth 100000 in
theorem eval_Apply.at15 (a1 a2 r : Int) (w : World) (h : eval_operators_8.f a1 a2 = some r) : Calls Try.prog 8 #[.int .i64 15, .int .i64 a1, .int .i64 a2] w fun e w' => e = .returned (.int .i64 r) ∧ Below w.heap.size w w' := by
 have hix : ∀ W, (Instr.index 38 (.agg eval_Apply.fns) (.int .i64 7)).run Try.prog W = .ok (.func (.func 24) #[] #[]) W := fun W => by kernel_rfl
 have H := Aside0.mk h
 clear h
 go_enter Try.func8, Try.ntmps8
 go_wp2_with (first | (go_at_call 12; refine (eval_Apply.ops _).mono ?_; rintro e w1 ⟨rfl, hb⟩; have HB := Aside0.mk hb; clear hb) | (go_at_call 24; refine (eval_operators_8.calls a1 a2 r _ H.out).mono ?_; rintro e w2 ⟨rfl, ⟨nd, rfl⟩⟩))
 go_ret
 exact ⟨rfl, bq HB.out⟩
set_option maxHeartbeats 8000000 in
set_option maxRecDepth 100000 in
theorem eval_Apply.at16 (a1 a2 r : Int) (w : World) (h : eval_operators_9.f a1 a2 = some r) : Calls Try.prog 8 #[.int .i64 16, .int .i64 a1, .int .i64 a2] w fun e w' => e = .returned (.int .i64 r) ∧ Below w.heap.size w w' := by
 have hix : ∀ W, (Instr.index 38 (.agg eval_Apply.fns) (.int .i64 8)).run Try.prog W = .ok (.func (.func 25) #[] #[]) W := fun W => by kernel_rfl
 have H := Aside0.mk h
 clear h
 go_enter Try.func8, Try.ntmps8
 go_wp2_with (first | (go_at_call 12; refine (eval_Apply.ops _).mono ?_; rintro e w1 ⟨rfl, hb⟩; have HB := Aside0.mk hb; clear hb) | (go_at_call 25; refine (eval_operators_9.calls a1 a2 r _ H.out).mono ?_; rintro e w2 ⟨rfl, ⟨nd, rfl⟩⟩))
 go_ret
 exact ⟨rfl, bq HB.out⟩
set_option maxHeartbeats 8000000 in
set_option maxRecDepth 100000 in
theorem eval_Apply.at17 (a1 a2 r : Int) (w : World) (h : eval_operators_10.f a1 a2 = some r) : Calls Try.prog 8 #[.int .i64 17, .int .i64 a1, .int .i64 a2] w fun e w' => e = .returned (.int .i64 r) ∧ Below w.heap.size w w' := by
 have hix : ∀ W, (Instr.index 38 (.agg eval_Apply.fns) (.int .i64 9)).run Try.prog W = .ok (.func (.func 26) #[] #[]) W := fun W => by kernel_rfl
 have H := Aside0.mk h
 clear h
 go_enter Try.func8, Try.ntmps8
 go_wp2_with (first | (go_at_call 12; refine (eval_Apply.ops _).mono ?_; rintro e w1 ⟨rfl, hb⟩; have HB := Aside0.mk hb; clear hb) | (go_at_call 26; refine (eval_operators_10.calls a1 a2 r _ H.out).mono ?_; rintro e w2 ⟨rfl, ⟨nd, rfl⟩⟩))
 go_ret
 exact ⟨rfl, bq HB.out⟩
set_option maxHeartbeats 8000000 in
set_option maxRecDepth 100000 in
theorem eval_Apply.at18 (a1 a2 r : Int) (w : World) (h : eval_operators_11.f a1 a2 = some r) : Calls Try.prog 8 #[.int .i64 18, .int .i64 a1, .int .i64 a2] w fun e w' => e = .returned (.int .i64 r) ∧ Below w.heap.size w w' := by
 have hix : ∀ W, (Instr.index 38 (.agg eval_Apply.fns) (.int .i64 10)).run Try.prog W = .ok (.func (.func 27) #[] #[]) W := fun W => by kernel_rfl
 have H := Aside0.mk h
 clear h
 go_enter Try.func8, Try.ntmps8
 go_wp2_with (first | (go_at_call 12; refine (eval_Apply.ops _).mono ?_; rintro e w1 ⟨rfl, hb⟩; have HB := Aside0.mk hb; clear hb) | (go_at_call 27; refine (eval_operators_11.calls a1 a2 r _ H.out).mono ?_; rintro e w2 ⟨rfl, ⟨nd, rfl⟩⟩))
 go_ret
 exact ⟨rfl, bq HB.out⟩
set_option maxHeartbeats 8000000 in
set_option maxRecDepth 100000 in
theorem eval_Apply.at19 (a1 a2 r : Int) (w : World) (h : eval_operators_12.f a1 a2 = some r) : Calls Try.prog 8 #[.int .i64 19, .int .i64 a1, .int .i64 a2] w fun e w' => e = .returned (.int .i64 r) ∧ Below w.heap.size w w' := by
 have hix : ∀ W, (Instr.index 38 (.agg eval_Apply.fns) (.int .i64 11)).run Try.prog W = .ok (.func (.func 28) #[] #[]) W := fun W => by kernel_rfl
 have H := Aside0.mk h
 clear h
 go_enter Try.func8, Try.ntmps8
 go_wp2_with (first | (go_at_call 12; refine (eval_Apply.ops _).mono ?_; rintro e w1 ⟨rfl, hb⟩; have HB := Aside0.mk hb; clear hb) | (go_at_call 28; refine (eval_operators_12.calls a1 a2 r _ H.out).mono ?_; rintro e w2 ⟨rfl, ⟨nd, rfl⟩⟩))
 go_ret
 exact ⟨rfl, bq HB.out⟩
set_option maxHeartbeats 8000000 in
set_option maxRecDepth 100000 in
theorem eval_Apply.at20 (a1 a2 r : Int) (w : World) (h : eval_operators_13.f a1 a2 = some r) : Calls Try.prog 8 #[.int .i64 20, .int .i64 a1, .int .i64 a2] w fun e w' => e = .returned (.int .i64 r) ∧ Below w.heap.size w w' := by
 have hix : ∀ W, (Instr.index 38 (.agg eval_Apply.fns) (.int .i64 12)).run Try.prog W = .ok (.func (.func 29) #[] #[]) W := fun W => by kernel_rfl
 have H := Aside0.mk h
 clear h
 go_enter Try.func8, Try.ntmps8
 go_wp2_with (first | (go_at_call 12; refine (eval_Apply.ops _).mono ?_; rintro e w1 ⟨rfl, hb⟩; have HB := Aside0.mk hb; clear hb) | (go_at_call 29; refine (eval_operators_13.calls a1 a2 r _ H.out).mono ?_; rintro e w2 ⟨rfl, ⟨nd, rfl⟩⟩))
 go_ret
 exact ⟨rfl, bq HB.out⟩
set_option maxHeartbeats 8000000 in
set_option maxRecDepth 100000 in
theorem eval_Apply.at21 (a1 a2 r : Int) (w : World) (h : eval_operators_14.f a1 a2 = some r) : Calls Try.prog 8 #[.int .i64 21, .int .i64 a1, .int .i64 a2] w fun e w' => e = .returned (.int .i64 r) ∧ Below w.heap.size w w' := by
 have hix : ∀ W, (Instr.index 38 (.agg eval_Apply.fns) (.int .i64 13)).run Try.prog W = .ok (.func (.func 30) #[] #[]) W := fun W => by kernel_rfl
 have H := Aside0.mk h
 clear h
 go_enter Try.func8, Try.ntmps8
 go_wp2_with (first | (go_at_call 12; refine (eval_Apply.ops _).mono ?_; rintro e w1 ⟨rfl, hb⟩; have HB := Aside0.mk hb; clear hb) | (go_at_call 30; refine (eval_operators_14.calls a1 a2 r _ H.out).mono ?_; rintro e w2 ⟨rfl, ⟨nd, rfl⟩⟩))
 go_ret
 exact ⟨rfl, bq HB.out⟩
set_option maxHeartbeats 8000000 in
set_option maxRecDepth 100000 in
theorem eval_Apply.at22 (a1 a2 r : Int) (w : World) (h : eval_operators_15.f a1 a2 = some r) : Calls Try.prog 8 #[.int .i64 22, .int .i64 a1, .int .i64 a2] w fun e w' => e = .returned (.int .i64 r) ∧ Below w.heap.size w w' := by
 have hix : ∀ W, (Instr.index 38 (.agg eval_Apply.fns) (.int .i64 14)).run Try.prog W = .ok (.func (.func 31) #[] #[]) W := fun W => by kernel_rfl
 have H := Aside0.mk h
 clear h
 go_enter Try.func8, Try.ntmps8
 go_wp2_with (first | (go_at_call 12; refine (eval_Apply.ops _).mono ?_; rintro e w1 ⟨rfl, hb⟩; have HB := Aside0.mk hb; clear hb) | (go_at_call 31; refine (eval_operators_15.calls a1 a2 r _ H.out).mono ?_; rintro e w2 ⟨rfl, ⟨nd, rfl⟩⟩))
 go_ret
 exact ⟨rfl, bq HB.out⟩
def eval_Apply.f (a0 : Int) (a1 : Int) (a2 : Int) : Option Int := if a0 < 8 then some 0 else if a0 > 22 then some 0 else if a0 = 8 then eval_operators_1.f a1 a2 else if a0 = 9 then eval_operators_2.f a1 a2 else if a0 = 10 then eval_operators_3.f a1 a2 else if a0 = 11 then eval_operators_4.f a1 a2 else if a0 = 12 then eval_operators_5.f a1 a2 else if a0 = 13 then eval_operators_6.f a1 a2 else if a0 = 14 then eval_operators_7.f a1 a2 else if a0 = 15 then eval_operators_8.f a1 a2 else if a0 = 16 then eval_operators_9.f a1 a2 else if a0 = 17 then eval_operators_10.f a1 a2 else if a0 = 18 then eval_operators_11.f a1 a2 else if a0 = 19 then eval_operators_12.f a1 a2 else if a0 = 20 then eval_operators_13.f a1 a2 else if a0 = 21 then eval_operators_14.f a1 a2 else eval_operators_15.f a1 a2
set_option maxHeartbeats 8000000 in
set_option maxRecDepth 100000 in
theorem eval_Apply.calls (a0 : Int) (a1 : Int) (a2 : Int) (r : Int) (w : World) (h : eval_Apply.f a0 a1 a2 = some r) : Calls Try.prog 8 #[.int .i64 a0, .int .i64 a1, .int .i64 a2] w fun e w' => e = .returned (.int .i64 r) ∧ Below w.heap.size w w' := by
 by_cases c1 : a0 < 8
 ·have H : r = 0 := by simpa [eval_Apply.f, c1] using h.symm
  subst H
  have c1b : decide (a0 < 8) = true := decide_eq_true c1
  clear h c1
  go_enter Try.func8, Try.ntmps8
  go_wp2
  go_ret
  exact ⟨rfl, Below.refl _ _⟩
 ·by_cases c2 : a0 > 22
  ·have H : r = 0 := by simpa [eval_Apply.f, c1, c2] using h.symm
   subst H
   have c1b : decide (a0 < 8) = false := decide_eq_false c1
   have c2b : decide (22 < a0) = true := decide_eq_true c2
   clear h c1 c2
   go_enter Try.func8, Try.ntmps8
   go_wp2
   go_ret
   exact ⟨rfl, Below.refl _ _⟩
  ·have hc : a0 = 8 ∨ a0 = 9 ∨ a0 = 10 ∨ a0 = 11 ∨ a0 = 12 ∨ a0 = 13 ∨ a0 = 14 ∨ a0 = 15 ∨ a0 = 16 ∨ a0 = 17 ∨ a0 = 18 ∨ a0 = 19 ∨ a0 = 20 ∨ a0 = 21 ∨ a0 = 22 := by omega
   rcases hc with rfl | rfl | rfl | rfl | rfl | rfl | rfl | rfl | rfl | rfl | rfl | rfl | rfl | rfl | rfl
   ·exact eval_Apply.at8 a1 a2 r w (by simpa [eval_Apply.f] using h)
   ·exact eval_Apply.at9 a1 a2 r w (by simpa [eval_Apply.f] using h)
   ·exact eval_Apply.at10 a1 a2 r w (by simpa [eval_Apply.f] using h)
   ·exact eval_Apply.at11 a1 a2 r w (by simpa [eval_Apply.f] using h)
   ·exact eval_Apply.at12 a1 a2 r w (by simpa [eval_Apply.f] using h)
   ·exact eval_Apply.at13 a1 a2 r w (by simpa [eval_Apply.f] using h)
   ·exact eval_Apply.at14 a1 a2 r w (by simpa [eval_Apply.f] using h)
   ·exact eval_Apply.at15 a1 a2 r w (by simpa [eval_Apply.f] using h)
   ·exact eval_Apply.at16 a1 a2 r w (by simpa [eval_Apply.f] using h)
   ·exact eval_Apply.at17 a1 a2 r w (by simpa [eval_Apply.f] using h)
   ·exact eval_Apply.at18 a1 a2 r w (by simpa [eval_Apply.f] using h)
   ·exact eval_Apply.at19 a1 a2 r w (by simpa [eval_Apply.f] using h)
   ·exact eval_Apply.at20 a1 a2 r w (by simpa [eval_Apply.f] using h)
   ·exact eval_Apply.at21 a1 a2 r w (by simpa [eval_Apply.f] using h)
   ·exact eval_Apply.at22 a1 a2 r w (by simpa [eval_Apply.f] using h)

end Go.Proofs.Ytpklmllikcdacaa.PT04
