/- DeterminantChains (P27.1): the order of determinants is transitive, for every three determinants, field and number; no condition. -/
import Derived.Test.YtjlpggpkbcgekaaPG27x0
import Derived.Test.YtjlpggpkbcgekaaPG27x10
import Derived.Test.YtjlpggpkbcgekaaPG27x41
import Derived.Test.YtjlpggpkbcgekaaPG27x6
import Derived.Test.YtjlpggpkbcgekaaPG27x7
import Derived.Test.YtjlpggpkbcgekaaPG27x8
import Derived.Test.YtjlpggpkbcgekaaPG27x9
namespace Go.Proofs.Ytjlpggpkbcgekaa.Pure
open Go.RowKit Go.Proofs.Ytjlpggpkbcgekaa.PG27 Go.Proofs.YtjlpggpkbcgekaaW.PrintWords Go.Proofs.YtjlpggpkbcgekaaW.PrintLast
set_option linter.unusedVariables false
set_option linter.unusedSimpArgs false
theorem awake_ev : Ev rollbacknetlaw27_awake.f true := Ev.of (rollbacknetlaw27_awake.mono) (k := 12) (by kernel_rfl)
/-! the order of determinants -/
instance : DecidableEq S35 := fun a b => by
  rcases a with ⟨a0, a1⟩; rcases b with ⟨b0, b1⟩; simp only [S35.mk.injEq]; infer_instance
instance : DecidableEq S37 := fun a b => by
  rcases a with ⟨a0, a1, a2, a3, a4, a5⟩; rcases b with ⟨b0, b1, b2, b3, b4, b5⟩; simp only [S37.mk.injEq]; infer_instance
instance : DecidableEq S39 := fun a b => by
  rcases a with ⟨a0, a1, a2⟩; rcases b with ⟨b0, b1, b2⟩; simp only [S39.mk.injEq]; infer_instance
def keys (d : S39) : List Int := [d.f0, d.f1, d.f2.f1, d.f2.f0, d.f2.f2, d.f2.f3.f0, d.f2.f3.f1, d.f2.f4, d.f2.f5]
def lexc : List Int → List Int → Int
  | a :: l, b :: m => if a < b then -1 else if a > b then 1 else lexc l m
  | _, _ => 0
def cmp (a b : S39) : Int := lexc (keys a) (keys b)
theorem keys_inj {a b : S39} (h : keys a = keys b) : a = b := by
  rcases a with ⟨a0, a1, a2, a3, a4, ⟨a5, a6⟩, a7, a8⟩
  rcases b with ⟨b0, b1, b2, b3, b4, ⟨b5, b6⟩, b7, b8⟩
  simp [keys] at h
  obtain ⟨rfl, rfl, rfl, rfl, rfl, rfl, rfl, rfl, rfl⟩ := h
  rfl
theorem lexc_vals (l m : List Int) : lexc l m = -1 ∨ lexc l m = 0 ∨ lexc l m = 1 := by
  induction l generalizing m with
  | nil => exact .inr (.inl rfl)
  | cons a l ih =>
    cases m with
    | nil => exact .inr (.inl rfl)
    | cons b m =>
      unfold lexc
      split
      · exact .inl rfl
      · split
        · exact .inr (.inr rfl)
        · exact ih m
theorem lexc_refl (l : List Int) : lexc l l = 0 := by
  induction l with
  | nil => rfl
  | cons a l ih => simp [lexc, ih]
theorem lexc_zero : ∀ (l m : List Int), l.length = m.length → lexc l m = 0 → l = m
  | [], [], _, _ => rfl
  | a :: l, b :: m, hl, h => by
    unfold lexc at h
    split at h
    · simp at h
    · split at h
      · simp at h
      · have : a = b := by omega
        subst this
        rw [lexc_zero l m (by simpa using hl) h]
theorem lexc_neg : ∀ (l m : List Int), lexc m l = - lexc l m
  | [], [] => rfl
  | [], _ :: _ => rfl
  | _ :: _, [] => rfl
  | a :: l, b :: m => by
    unfold lexc
    by_cases h1 : a < b
    · rw [if_pos h1, if_neg (by omega), if_pos h1]; rfl
    · by_cases h2 : b < a
      · rw [if_pos h2, if_neg h1, if_pos h2]
      · rw [if_neg h2, if_neg h1, if_neg h1, if_neg h2, lexc_neg l m]
theorem lexc_trans : ∀ (l m n : List Int), l.length = m.length → m.length = n.length → lexc l m < 0 → lexc m n < 0 → lexc l n < 0
  | [], _, _, _, _, h, _ => by simp [lexc] at h
  | a :: l, [], _, hl, _, _, _ => by simp at hl
  | a :: l, b :: m, [], _, hm, _, _ => by simp at hm
  | a :: l, b :: m, c :: n, hl, hm, h1, h2 => by
    unfold lexc at h1 h2 ⊢
    by_cases e1 : a < b
    · by_cases e2 : b < c
      · rw [if_pos (by omega)]; decide
      · rw [if_neg e2] at h2
        by_cases e3 : b > c
        · rw [if_pos e3] at h2; simp at h2
        · rw [if_pos (by omega)]; decide
    · rw [if_neg e1] at h1
      by_cases e3 : a > b
      · rw [if_pos e3] at h1; simp at h1
      · rw [if_neg e3] at h1
        by_cases e2 : b < c
        · rw [if_pos (by omega)]; decide
        · rw [if_neg e2] at h2
          by_cases e4 : b > c
          · rw [if_pos e4] at h2; simp at h2
          · rw [if_neg e4] at h2
            rw [if_neg (by omega), if_neg (by omega)]
            exact lexc_trans l m n (by simpa using hl) (by simpa using hm) h1 h2
theorem cmp_refl (a : S39) : cmp a a = 0 := lexc_refl _
theorem cmp_zero {a b : S39} (h : cmp a b = 0) : a = b := keys_inj (lexc_zero _ _ rfl h)
theorem cmp_neg (a b : S39) : cmp b a = - cmp a b := lexc_neg _ _
theorem cmp_trans {a b c : S39} (h1 : cmp a b < 0) (h2 : cmp b c < 0) : cmp a c < 0 := lexc_trans (keys a) (keys b) (keys c) rfl rfl h1 h2
theorem compare_at (k : Nat) (a b : S39) : determinant_Compare.f (k + 10) a.f0 a.f1 a.f2.f0 a.f2.f1 a.f2.f2 a.f2.f3.f0 a.f2.f3.f1 a.f2.f4 a.f2.f5 b.f0 b.f1 b.f2.f0 b.f2.f1 b.f2.f2 b.f2.f3.f0 b.f2.f3.f1 b.f2.f4 b.f2.f5 = some (cmp a b) := by
  rcases a with ⟨a0, a1, a2, a3, a4, ⟨a5, a6⟩, a7, a8⟩
  rcases b with ⟨b0, b1, b2, b3, b4, ⟨b5, b6⟩, b7, b8⟩
  have hs : ∀ (p : Prop) [Decidable p] (x y : Int), (if p then some x else some y) = some (if p then x else y) := fun p _ x y => by split <;> rfl
  simp only [determinant_Compare.f, determinant_fields.f, Option.bind_some]
  simp only [determinant_Compare.l0_rd]
  simp [rd, cmp, keys, lexc, hs]
theorem mod_some (a m : Int) (hm : m ≠ 0) : ∃ v, rollbacknetmake_Mod.f a m = some v := by
  unfold rollbacknetmake_Mod.f
  rw [if_neg hm]
  split <;> exact ⟨_, rfl⟩
theorem near_some (a : S39) (field by_ : Int) : ∃ c : S39, rollbacknetlaw27_near.f a.f0 a.f1 a.f2.f0 a.f2.f1 a.f2.f2 a.f2.f3.f0 a.f2.f3.f1 a.f2.f4 a.f2.f5 field by_ = some (c.f0, c.f1, c.f2.f0, c.f2.f1, c.f2.f2, c.f2.f3.f0, c.f2.f3.f1, c.f2.f4, c.f2.f5) := by
  obtain ⟨v, hv⟩ := mod_some field 10 (by omega)
  have mk : ∀ x0 x1 x2 x3 x4 x5 x6 x7 x8 : Int, ∃ c : S39, some (x0, x1, x2, x3, x4, x5, x6, x7, x8) = some (c.f0, c.f1, c.f2.f0, c.f2.f1, c.f2.f2, c.f2.f3.f0, c.f2.f3.f1, c.f2.f4, c.f2.f5) := fun x0 x1 x2 x3 x4 x5 x6 x7 x8 => ⟨⟨x0, x1, ⟨x2, x3, x4, ⟨x5, x6⟩, x7, x8⟩⟩, rfl⟩
  unfold rollbacknetlaw27_near.f
  rw [hv, Option.bind_some]
  repeat' split
  all_goals exact mk _ _ _ _ _ _ _ _ _
/-! DeterminantChains -/
theorem cmp_le_trans {a b c : S39} (h1 : cmp a b ≤ 0) (h2 : cmp b c ≤ 0) : ¬ cmp a c > 0 := by
  by_cases e1 : cmp a b = 0
  · rw [cmp_zero e1]; omega
  · by_cases e2 : cmp b c = 0
    · rw [← cmp_zero e2]; omega
    · have := cmp_trans (show cmp a b < 0 by omega) (show cmp b c < 0 by omega)
      omega
theorem rd_at' {xs : List S39} {i : Nat} (h : i < xs.length) : rd_T39 xs (i : Int) = xs[i] := by simp [rd_T39, List.getD_eq_getElem?_getD, h]
theorem w64' {x : Int} (h : -9223372036854775808 ≤ x ∧ x ≤ 9223372036854775807) : wrap64 x = x := by unfold wrap64; omega
theorem chains_l2 {l : List S39} (hl : l.length < 1000) {i j : Nat} (hi : i < l.length) (hj : j < l.length) (hr : Ev (fun k => rollbacknetlaw27_DeterminantChains.l1 k l (i : Int) ((j + 1 : Nat) : Int)) true) : ∀ (n t : Nat), l.length - t < n → t ≤ l.length →
    Ev (fun k => rollbacknetlaw27_DeterminantChains.l2 k l (i : Int) (j : Int) (t : Int)) true
  | 0, _, h, _ => by omega
  | n + 1, t, hn, ht => by
    by_cases c : t < l.length
    · obtain ⟨K, hK⟩ := chains_l2 hl hi hj hr n (t + 1) (by omega) (by omega)
      refine ⟨K + 11, fun k hk => ?_⟩
      obtain ⟨m, rfl⟩ : ∃ m, k = m + 10 + 1 := ⟨k - 11, by omega⟩
      have g := hK (m + 10) (by omega)
      dsimp only at g ⊢
      have ew : wrap64 ((t : Int) + 1) = ((t + 1 : Nat) : Int) := by rw [w64' (by omega)]; omega
      rw [rollbacknetlaw27_DeterminantChains.l2, if_pos (by omega), if_pos (by omega), if_pos (by omega), if_pos (by omega), if_pos (by omega), rd_at' hi, rd_at' hj, rd_at' c, compare_at, Option.bind_some, ew]
      by_cases c1 : cmp l[i] l[j] ≤ 0
      · rw [if_pos c1, if_pos (by omega), compare_at, Option.bind_some]
        by_cases c2 : cmp l[j] l[t] ≤ 0
        · rw [if_pos c2, compare_at, Option.bind_some, if_neg (cmp_le_trans c1 c2)]
          exact g
        · rw [if_neg c2]
          exact g
      · rw [if_neg c1]
        exact g
    · obtain ⟨K, hK⟩ := hr
      refine ⟨K + 1, fun k hk => ?_⟩
      obtain ⟨m, rfl⟩ : ∃ m, k = m + 1 := ⟨k - 1, by omega⟩
      have g := hK m (by omega)
      dsimp only at g ⊢
      have ew : wrap64 ((j : Int) + 1) = ((j + 1 : Nat) : Int) := by rw [w64' (by omega)]; omega
      rw [rollbacknetlaw27_DeterminantChains.l2, if_neg (by omega), ew]
      exact g
theorem chains_l1 {l : List S39} (hl : l.length < 1000) {i : Nat} (hi : i < l.length) (hr : Ev (fun k => rollbacknetlaw27_DeterminantChains.l0 k l ((i + 1 : Nat) : Int)) true) : ∀ (n j : Nat), l.length - j < n → j ≤ l.length →
    Ev (fun k => rollbacknetlaw27_DeterminantChains.l1 k l (i : Int) (j : Int)) true
  | 0, _, h, _ => by omega
  | n + 1, j, hn, hj => by
    by_cases c : j < l.length
    · obtain ⟨K, hK⟩ := chains_l2 hl hi c (chains_l1 hl hi hr n (j + 1) (by omega) (by omega)) (l.length + 1) 0 (by omega) (by omega)
      refine ⟨K + 1, fun k hk => ?_⟩
      obtain ⟨m, rfl⟩ : ∃ m, k = m + 1 := ⟨k - 1, by omega⟩
      have g := hK m (by omega)
      dsimp only at g ⊢
      rw [rollbacknetlaw27_DeterminantChains.l1, if_pos (by omega)]
      exact g
    · obtain ⟨K, hK⟩ := hr
      refine ⟨K + 1, fun k hk => ?_⟩
      obtain ⟨m, rfl⟩ : ∃ m, k = m + 1 := ⟨k - 1, by omega⟩
      have g := hK m (by omega)
      dsimp only at g ⊢
      have ew : wrap64 ((i : Int) + 1) = ((i + 1 : Nat) : Int) := by rw [w64' (by omega)]; omega
      rw [rollbacknetlaw27_DeterminantChains.l1, if_neg (by omega), ew]
      exact g
theorem chains_l0 {l : List S39} (hl : l.length < 1000) : ∀ (n i : Nat), l.length - i < n → i ≤ l.length → Ev (fun k => rollbacknetlaw27_DeterminantChains.l0 k l (i : Int)) true
  | 0, _, h, _ => by omega
  | n + 1, i, hn, hi => by
    by_cases c : i < l.length
    · obtain ⟨K, hK⟩ := chains_l1 hl c (chains_l0 hl n (i + 1) (by omega) (by omega)) (l.length + 1) 0 (by omega) (by omega)
      refine ⟨K + 1, fun k hk => ?_⟩
      obtain ⟨m, rfl⟩ : ∃ m, k = m + 1 := ⟨k - 1, by omega⟩
      have g := hK m (by omega)
      dsimp only at g ⊢
      rw [rollbacknetlaw27_DeterminantChains.l0, if_pos (by omega)]
      exact g
    · refine ⟨1, fun k hk => ?_⟩
      obtain ⟨m, rfl⟩ : ∃ m, k = m + 1 := ⟨k - 1, by omega⟩
      dsimp only
      rw [rollbacknetlaw27_DeterminantChains.l0, if_neg (by omega)]
theorem DeterminantChains : rollbacknetlaw27_DeterminantChains.Pure := by
  intro a b c field by_ _ _ _ _ _
  obtain ⟨K0, h0⟩ := awake_ev
  obtain ⟨d, hd⟩ := near_some a field by_
  obtain ⟨e, he⟩ := near_some b (wrap64 (field + 1)) by_
  obtain ⟨K1, h1⟩ := chains_l0 (l := [a, b, c, d, e]) (by simp) 6 0 (by simp) (by simp)
  refine ⟨K0 + K1, ?_⟩
  have g1 := h1 (K0 + K1) (by omega)
  dsimp only at g1
  unfold rollbacknetlaw27_DeterminantChains.f
  rw [h0 (K0 + K1) (by omega), Option.bind_some, if_pos rfl, hd, Option.bind_some, he, Option.bind_some]
  exact g1
end Go.Proofs.Ytjlpggpkbcgekaa.Pure
