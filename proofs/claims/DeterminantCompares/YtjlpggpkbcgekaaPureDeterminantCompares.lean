/- DeterminantCompares (P27.1): for every two determinants, field and number the law of the order answers true; no condition. -/
import Derived.Test.YtjlpggpkbcgekaaPG27x0
import Derived.Test.YtjlpggpkbcgekaaPG27x10
import Derived.Test.YtjlpggpkbcgekaaPG27x11
import Derived.Test.YtjlpggpkbcgekaaPG27x12
import Derived.Test.YtjlpggpkbcgekaaPG27x6
import Derived.Test.YtjlpggpkbcgekaaPG27x7
import Derived.Test.YtjlpggpkbcgekaaPG27x8
import Derived.Test.YtjlpggpkbcgekaaPG27x9
namespace Go.Proofs.Ytjlpggpkbcgekaa.Pure
open Go.RowKit Go.Proofs.Ytjlpggpkbcgekaa.PG27 Go.Proofs.YtjlpggpkbcgekaaW.PrintWords Go.Proofs.YtjlpggpkbcgekaaW.PrintLast
set_option linter.unusedVariables false
set_option linter.unusedSimpArgs false
theorem awake_ev : Ev rollbacknetlaw27_awake.f true := Ev.of (rollbacknetlaw27_awake.mono) (k := 12) (by kernel_rfl)
/-! the order of determinants -/
instance : DecidableEq S35 := fun a b => by
  rcases a with ⟨a0, a1⟩; rcases b with ⟨b0, b1⟩; simp only [S35.mk.injEq]; infer_instance
instance : DecidableEq S37 := fun a b => by
  rcases a with ⟨a0, a1, a2, a3, a4, a5⟩; rcases b with ⟨b0, b1, b2, b3, b4, b5⟩; simp only [S37.mk.injEq]; infer_instance
instance : DecidableEq S39 := fun a b => by
  rcases a with ⟨a0, a1, a2⟩; rcases b with ⟨b0, b1, b2⟩; simp only [S39.mk.injEq]; infer_instance
def keys (d : S39) : List Int := [d.f0, d.f1, d.f2.f1, d.f2.f0, d.f2.f2, d.f2.f3.f0, d.f2.f3.f1, d.f2.f4, d.f2.f5]
def lexc : List Int → List Int → Int
  | a :: l, b :: m => if a < b then -1 else if a > b then 1 else lexc l m
  | _, _ => 0
def cmp (a b : S39) : Int := lexc (keys a) (keys b)
theorem keys_inj {a b : S39} (h : keys a = keys b) : a = b := by
  rcases a with ⟨a0, a1, a2, a3, a4, ⟨a5, a6⟩, a7, a8⟩
  rcases b with ⟨b0, b1, b2, b3, b4, ⟨b5, b6⟩, b7, b8⟩
  simp [keys] at h
  obtain ⟨rfl, rfl, rfl, rfl, rfl, rfl, rfl, rfl, rfl⟩ := h
  rfl
theorem lexc_vals (l m : List Int) : lexc l m = -1 ∨ lexc l m = 0 ∨ lexc l m = 1 := by
  induction l generalizing m with
  | nil => exact .inr (.inl rfl)
  | cons a l ih =>
    cases m with
    | nil => exact .inr (.inl rfl)
    | cons b m =>
      unfold lexc
      split
      · exact .inl rfl
      · split
        · exact .inr (.inr rfl)
        · exact ih m
theorem lexc_refl (l : List Int) : lexc l l = 0 := by
  induction l with
  | nil => rfl
  | cons a l ih => simp [lexc, ih]
theorem lexc_zero : ∀ (l m : List Int), l.length = m.length → lexc l m = 0 → l = m
  | [], [], _, _ => rfl
  | a :: l, b :: m, hl, h => by
    unfold lexc at h
    split at h
    · simp at h
    · split at h
      · simp at h
      · have : a = b := by omega
        subst this
        rw [lexc_zero l m (by simpa using hl) h]
theorem lexc_neg : ∀ (l m : List Int), lexc m l = - lexc l m
  | [], [] => rfl
  | [], _ :: _ => rfl
  | _ :: _, [] => rfl
  | a :: l, b :: m => by
    unfold lexc
    by_cases h1 : a < b
    · rw [if_pos h1, if_neg (by omega), if_pos h1]; rfl
    · by_cases h2 : b < a
      · rw [if_pos h2, if_neg h1, if_pos h2]
      · rw [if_neg h2, if_neg h1, if_neg h1, if_neg h2, lexc_neg l m]
theorem lexc_trans : ∀ (l m n : List Int), l.length = m.length → m.length = n.length → lexc l m < 0 → lexc m n < 0 → lexc l n < 0
  | [], _, _, _, _, h, _ => by simp [lexc] at h
  | a :: l, [], _, hl, _, _, _ => by simp at hl
  | a :: l, b :: m, [], _, hm, _, _ => by simp at hm
  | a :: l, b :: m, c :: n, hl, hm, h1, h2 => by
    unfold lexc at h1 h2 ⊢
    by_cases e1 : a < b
    · by_cases e2 : b < c
      · rw [if_pos (by omega)]; decide
      · rw [if_neg e2] at h2
        by_cases e3 : b > c
        · rw [if_pos e3] at h2; simp at h2
        · rw [if_pos (by omega)]; decide
    · rw [if_neg e1] at h1
      by_cases e3 : a > b
      · rw [if_pos e3] at h1; simp at h1
      · rw [if_neg e3] at h1
        by_cases e2 : b < c
        · rw [if_pos (by omega)]; decide
        · rw [if_neg e2] at h2
          by_cases e4 : b > c
          · rw [if_pos e4] at h2; simp at h2
          · rw [if_neg e4] at h2
            rw [if_neg (by omega), if_neg (by omega)]
            exact lexc_trans l m n (by simpa using hl) (by simpa using hm) h1 h2
theorem cmp_refl (a : S39) : cmp a a = 0 := lexc_refl _
theorem cmp_zero {a b : S39} (h : cmp a b = 0) : a = b := keys_inj (lexc_zero _ _ rfl h)
theorem cmp_neg (a b : S39) : cmp b a = - cmp a b := lexc_neg _ _
theorem cmp_trans {a b c : S39} (h1 : cmp a b < 0) (h2 : cmp b c < 0) : cmp a c < 0 := lexc_trans (keys a) (keys b) (keys c) rfl rfl h1 h2
theorem compare_at (k : Nat) (a b : S39) : determinant_Compare.f (k + 10) a.f0 a.f1 a.f2.f0 a.f2.f1 a.f2.f2 a.f2.f3.f0 a.f2.f3.f1 a.f2.f4 a.f2.f5 b.f0 b.f1 b.f2.f0 b.f2.f1 b.f2.f2 b.f2.f3.f0 b.f2.f3.f1 b.f2.f4 b.f2.f5 = some (cmp a b) := by
  rcases a with ⟨a0, a1, a2, a3, a4, ⟨a5, a6⟩, a7, a8⟩
  rcases b with ⟨b0, b1, b2, b3, b4, ⟨b5, b6⟩, b7, b8⟩
  have hs : ∀ (p : Prop) [Decidable p] (x y : Int), (if p then some x else some y) = some (if p then x else y) := fun p _ x y => by split <;> rfl
  simp only [determinant_Compare.f, determinant_fields.f, Option.bind_some]
  simp only [determinant_Compare.l0_rd]
  simp [rd, cmp, keys, lexc, hs]
theorem refcompare_at (k : Nat) (a b : S39) : rollbacknetref27_Compare.f (k + 10) a.f0 a.f1 a.f2.f0 a.f2.f1 a.f2.f2 a.f2.f3.f0 a.f2.f3.f1 a.f2.f4 a.f2.f5 b.f0 b.f1 b.f2.f0 b.f2.f1 b.f2.f2 b.f2.f3.f0 b.f2.f3.f1 b.f2.f4 b.f2.f5 = some (cmp a b) := by
  rcases a with ⟨a0, a1, a2, a3, a4, ⟨a5, a6⟩, a7, a8⟩
  rcases b with ⟨b0, b1, b2, b3, b4, ⟨b5, b6⟩, b7, b8⟩
  have step : ∀ (x y : Int) (r : Option Int) (z : Int), r = some z → ((rollbacknetref27_less.f x y).bind fun c => if c = 0 then r else some c) = some (if x < y then -1 else if x > y then 1 else z) := by
    intro x y r z hr
    unfold rollbacknetref27_less.f
    by_cases h1 : x < y
    · rw [if_pos h1, if_pos h1]; rfl
    · rw [if_neg h1, if_neg h1]
      by_cases h2 : x > y
      · rw [if_pos h2, if_pos h2]; rfl
      · rw [if_neg h2, if_neg h2]; simpa using hr
  unfold rollbacknetref27_Compare.f cmp keys lexc
  rw [rollbacknetref27_Compare.l0_rd, if_pos (by omega), if_pos (by omega)]; refine step _ _ _ _ ?_
  unfold lexc
  rw [rollbacknetref27_Compare.l0_rd, if_pos (by omega), if_pos (by omega)]; refine step _ _ _ _ ?_
  unfold lexc
  rw [rollbacknetref27_Compare.l0_rd, if_pos (by omega), if_pos (by omega)]; refine step _ _ _ _ ?_
  unfold lexc
  rw [rollbacknetref27_Compare.l0_rd, if_pos (by omega), if_pos (by omega)]; refine step _ _ _ _ ?_
  unfold lexc
  rw [rollbacknetref27_Compare.l0_rd, if_pos (by omega), if_pos (by omega)]; refine step _ _ _ _ ?_
  unfold lexc
  rw [rollbacknetref27_Compare.l0_rd, if_pos (by omega), if_pos (by omega)]; refine step _ _ _ _ ?_
  unfold lexc
  rw [rollbacknetref27_Compare.l0_rd, if_pos (by omega), if_pos (by omega)]; refine step _ _ _ _ ?_
  unfold lexc
  rw [rollbacknetref27_Compare.l0_rd, if_pos (by omega), if_pos (by omega)]; refine step _ _ _ _ ?_
  unfold lexc
  rw [rollbacknetref27_Compare.l0_rd, if_pos (by omega), if_pos (by omega)]; refine step _ _ _ _ ?_
  unfold lexc
  rw [rollbacknetref27_Compare.l0_rd, if_neg (by omega)]
theorem mod_some (a m : Int) (hm : m ≠ 0) : ∃ v, rollbacknetmake_Mod.f a m = some v := by
  unfold rollbacknetmake_Mod.f
  rw [if_neg hm]
  split <;> exact ⟨_, rfl⟩
theorem near_some (a : S39) (field by_ : Int) : ∃ c : S39, rollbacknetlaw27_near.f a.f0 a.f1 a.f2.f0 a.f2.f1 a.f2.f2 a.f2.f3.f0 a.f2.f3.f1 a.f2.f4 a.f2.f5 field by_ = some (c.f0, c.f1, c.f2.f0, c.f2.f1, c.f2.f2, c.f2.f3.f0, c.f2.f3.f1, c.f2.f4, c.f2.f5) := by
  obtain ⟨v, hv⟩ := mod_some field 10 (by omega)
  have mk : ∀ x0 x1 x2 x3 x4 x5 x6 x7 x8 : Int, ∃ c : S39, some (x0, x1, x2, x3, x4, x5, x6, x7, x8) = some (c.f0, c.f1, c.f2.f0, c.f2.f1, c.f2.f2, c.f2.f3.f0, c.f2.f3.f1, c.f2.f4, c.f2.f5) := fun x0 x1 x2 x3 x4 x5 x6 x7 x8 => ⟨⟨x0, x1, ⟨x2, x3, x4, ⟨x5, x6⟩, x7, x8⟩⟩, rfl⟩
  unfold rollbacknetlaw27_near.f
  rw [hv, Option.bind_some]
  repeat' split
  all_goals exact mk _ _ _ _ _ _ _ _ _
/-! DeterminantCompares -/
theorem DeterminantCompares : rollbacknetlaw27_DeterminantCompares.Pure := by
  intro a b field by_ _ _ _ _
  obtain ⟨K, hK⟩ := awake_ev
  obtain ⟨c, hc⟩ := near_some a field by_
  refine ⟨K + 10, ?_⟩
  have h0 := hK (K + 10) (by omega)
  have hn := cmp_neg a c
  have hv := lexc_vals (keys a) (keys c)
  have hw : wrap64 (- cmp a c) = cmp c a := by
    rw [hn]
    unfold wrap64
    show _ = - cmp a c
    have hv' : cmp a c = -1 ∨ cmp a c = 0 ∨ cmp a c = 1 := hv
    omega
  unfold rollbacknetlaw27_DeterminantCompares.f
  rw [h0, Option.bind_some, if_pos rfl, hc, Option.bind_some]
  dsimp only
  rw [compare_at, Option.bind_some, refcompare_at, Option.bind_some, if_pos rfl, compare_at, Option.bind_some, refcompare_at, Option.bind_some, if_pos rfl, compare_at, Option.bind_some, Option.bind_some, hw, if_pos rfl, Option.bind_some]
  congr 1
  have key : ∀ {p q : Bool}, (p = true ↔ q = true) → (p == q) = true := by intro p q h; cases p <;> cases q <;> simp_all
  refine key ?_
  constructor
  · intro h
    have := cmp_zero (by simpa using h : cmp a b = 0)
    subst this
    simp
  · intro h
    have : a = b := by
      rcases a with ⟨a0, a1, a2, a3, a4, ⟨a5, a6⟩, a7, a8⟩
      rcases b with ⟨b0, b1, b2, b3, b4, ⟨b5, b6⟩, b7, b8⟩
      simp [and_assoc] at h
      obtain ⟨rfl, rfl, rfl, rfl, rfl, rfl, rfl, rfl, rfl⟩ := h
      rfl
    subst this
    simp [cmp_refl]
end Go.Proofs.Ytjlpggpkbcgekaa.Pure
