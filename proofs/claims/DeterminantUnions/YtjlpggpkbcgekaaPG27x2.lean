-- Written by a program of this session (hprint.py) out of the translation and of hand-proved parts. Lean checks it.
import Derived.Test.YtjlpggpkbcgekaaPG27x0
namespace Go.Proofs.Ytjlpggpkbcgekaa.PG27
open Go.RowKit Go.Proofs.YtjlpggpkbcgekaaW.PrintWords Go.Proofs.YtjlpggpkbcgekaaW.PrintLast Go.Proofs.YtjlpggpkbcgekaaW.PrintMore
attribute [local go_sem] max2_int min2_int max_two min_two max_three min_three max_four min_four   -- for this text's walks alone
set_option linter.unusedVariables false
set_option linter.unusedSimpArgs false

def ok35 (x : S35) : Prop := (okInt .i64) x.f0 ∧ (okInt .i64) x.f1
theorem opens35 : Opens Try.prog 35 k35 ok35 := by
 have h := opens_struct (f := fun x : S35 => (x.f0, x.f1)) (fun a => (⟨a.1, a.2⟩ : S35)) (fun _ => rfl) Try.underlying35 (by kernel_rfl) (opens_more rfl (by kernel_rfl) rfl (opens_int Try.underlying3) (opens_last rfl (by kernel_rfl) (opens_int Try.underlying3)))
 exact h
def ok37 (x : S37) : Prop := (okInt .i64) x.f0 ∧ (okInt .i64) x.f1 ∧ (okInt .i64) x.f2 ∧ ok35 x.f3 ∧ (okInt .i64) x.f4 ∧ (okInt .i64) x.f5
theorem opens37 : Opens Try.prog 37 k37 ok37 := by
 have h := opens_struct (f := fun x : S37 => (x.f0, x.f1, x.f2, x.f3, x.f4, x.f5)) (fun a => (⟨a.1, a.2.1, a.2.2.1, a.2.2.2.1, a.2.2.2.2.1, a.2.2.2.2.2⟩ : S37)) (fun _ => rfl) Try.underlying37 (by kernel_rfl) (opens_more rfl (by kernel_rfl) rfl (opens_int Try.underlying3) (opens_more rfl (by kernel_rfl) rfl (opens_int Try.underlying3) (opens_more rfl (by kernel_rfl) rfl (opens_int Try.underlying3) (opens_more rfl (by kernel_rfl) rfl opens35 (opens_more rfl (by kernel_rfl) rfl (opens_int Try.underlying3) (opens_last rfl (by kernel_rfl) (opens_int Try.underlying3)))))))
 exact h
def ok39 (x : S39) : Prop := (okInt .i64) x.f0 ∧ (okInt .i64) x.f1 ∧ ok37 x.f2
theorem opens39 : Opens Try.prog 39 k39 ok39 := by
 have h := opens_struct (f := fun x : S39 => (x.f0, x.f1, x.f2)) (fun a => (⟨a.1, a.2.1, a.2.2⟩ : S39)) (fun _ => rfl) Try.underlying39 (by kernel_rfl) (opens_more rfl (by kernel_rfl) rfl (opens_int Try.underlying3) (opens_more rfl (by kernel_rfl) rfl (opens_int Try.underlying3) (opens_last rfl (by kernel_rfl) opens37)))
 exact h
end Go.Proofs.Ytjlpggpkbcgekaa.PG27
