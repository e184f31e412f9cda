-- Written by a program of this session (hprint.py) out of the translation and of hand-proved parts. Lean checks it.
import Derived.Test.YtdobkcphmpbhlaaPGLx0
namespace Go.Proofs.Ytdobkcphmpbhlaa.PGL
open Go.RowKit Go.Proofs.YtdobkcphmpbhlaaW.PrintWords Go.Proofs.YtdobkcphmpbhlaaW.PrintLast Go.Proofs.YtdobkcphmpbhlaaW.PrintMore
attribute [local go_sem] max2_int min2_int max_two min_two max_three min_three max_four min_four   -- for this text's walks alone
set_option linter.unusedVariables false
set_option linter.unusedSimpArgs false

def ok24 (x : S24) : Prop := (okInt .i64) x.f0 ∧ (okInt .i64) x.f1
theorem opens24 : Opens Try.prog 24 k24 ok24 := by
 have h := opens_struct (f := fun x : S24 => (x.f0, x.f1)) (fun a => (⟨a.1, a.2⟩ : S24)) (fun _ => rfl) Try.underlying24 (by kernel_rfl) (opens_more rfl (by kernel_rfl) rfl (opens_int Try.underlying3) (opens_last rfl (by kernel_rfl) (opens_int Try.underlying3)))
 exact h
def ok26 (x : S26) : Prop := (okInt .i64) x.f0 ∧ (okInt .i64) x.f1 ∧ (okInt .i64) x.f2 ∧ ok24 x.f3 ∧ (okInt .i64) x.f4 ∧ (okInt .i64) x.f5
theorem opens26 : Opens Try.prog 26 k26 ok26 := by
 have h := opens_struct (f := fun x : S26 => (x.f0, x.f1, x.f2, x.f3, x.f4, x.f5)) (fun a => (⟨a.1, a.2.1, a.2.2.1, a.2.2.2.1, a.2.2.2.2.1, a.2.2.2.2.2⟩ : S26)) (fun _ => rfl) Try.underlying26 (by kernel_rfl) (opens_more rfl (by kernel_rfl) rfl (opens_int Try.underlying3) (opens_more rfl (by kernel_rfl) rfl (opens_int Try.underlying3) (opens_more rfl (by kernel_rfl) rfl (opens_int Try.underlying3) (opens_more rfl (by kernel_rfl) rfl opens24 (opens_more rfl (by kernel_rfl) rfl (opens_int Try.underlying3) (opens_last rfl (by kernel_rfl) (opens_int Try.underlying3)))))))
 exact h
def ok28 (x : S28) : Prop := (okInt .i64) x.f0 ∧ (okInt .i64) x.f1 ∧ ok26 x.f2
theorem opens28 : Opens Try.prog 28 k28 ok28 := by
 have h := opens_struct (f := fun x : S28 => (x.f0, x.f1, x.f2)) (fun a => (⟨a.1, a.2.1, a.2.2⟩ : S28)) (fun _ => rfl) Try.underlying28 (by kernel_rfl) (opens_more rfl (by kernel_rfl) rfl (opens_int Try.underlying3) (opens_more rfl (by kernel_rfl) rfl (opens_int Try.underlying3) (opens_last rfl (by kernel_rfl) opens26)))
 exact h
end Go.Proofs.Ytdobkcphmpbhlaa.PGL
