/- DeterminantGrows (P27.5): more checkpoints and more determinants take no restorable index away, for every choices, determinants and checkpoint; no condition. -/
import Derived.Test.YtjlpggpkbcgekaaPG27x0
import Derived.Test.YtjlpggpkbcgekaaPG27x10
import Derived.Test.YtjlpggpkbcgekaaPG27x13
import Derived.Test.YtjlpggpkbcgekaaPG27x14
import Derived.Test.YtjlpggpkbcgekaaPG27x15
import Derived.Test.YtjlpggpkbcgekaaPG27x16
import Derived.Test.YtjlpggpkbcgekaaPG27x17
import Derived.Test.YtjlpggpkbcgekaaPG27x18
import Derived.Test.YtjlpggpkbcgekaaPG27x19
import Derived.Test.YtjlpggpkbcgekaaPG27x2
import Derived.Test.YtjlpggpkbcgekaaPG27x20
import Derived.Test.YtjlpggpkbcgekaaPG27x21
import Derived.Test.YtjlpggpkbcgekaaPG27x22
import Derived.Test.YtjlpggpkbcgekaaPG27x23
import Derived.Test.YtjlpggpkbcgekaaPG27x3
import Derived.Test.YtjlpggpkbcgekaaPG27x32
import Derived.Test.YtjlpggpkbcgekaaPG27x38
import Derived.Test.YtjlpggpkbcgekaaPG27x4
import Derived.Test.YtjlpggpkbcgekaaPG27x5
import Derived.Test.YtjlpggpkbcgekaaPG27x6
import Derived.Test.YtjlpggpkbcgekaaPG27x7
import Derived.Test.YtjlpggpkbcgekaaPG27x8
import Derived.Test.YtjlpggpkbcgekaaPG27x9
namespace Go.Proofs.Ytjlpggpkbcgekaa.Pure
open Go.RowKit Go.Proofs.Ytjlpggpkbcgekaa.PG27 Go.Proofs.YtjlpggpkbcgekaaW.PrintWords Go.Proofs.YtjlpggpkbcgekaaW.PrintLast
set_option linter.unusedVariables false
set_option linter.unusedSimpArgs false
theorem awake_ev : Ev rollbacknetlaw27_awake.f true := Ev.of (rollbacknetlaw27_awake.mono) (k := 12) (by kernel_rfl)
/-! the order of determinants -/
instance : DecidableEq S35 := fun a b => by
  rcases a with ⟨a0, a1⟩; rcases b with ⟨b0, b1⟩; simp only [S35.mk.injEq]; infer_instance
instance : DecidableEq S37 := fun a b => by
  rcases a with ⟨a0, a1, a2, a3, a4, a5⟩; rcases b with ⟨b0, b1, b2, b3, b4, b5⟩; simp only [S37.mk.injEq]; infer_instance
instance : DecidableEq S39 := fun a b => by
  rcases a with ⟨a0, a1, a2⟩; rcases b with ⟨b0, b1, b2⟩; simp only [S39.mk.injEq]; infer_instance
def keys (d : S39) : List Int := [d.f0, d.f1, d.f2.f1, d.f2.f0, d.f2.f2, d.f2.f3.f0, d.f2.f3.f1, d.f2.f4, d.f2.f5]
def lexc : List Int → List Int → Int
  | a :: l, b :: m => if a < b then -1 else if a > b then 1 else lexc l m
  | _, _ => 0
def cmp (a b : S39) : Int := lexc (keys a) (keys b)
theorem keys_inj {a b : S39} (h : keys a = keys b) : a = b := by
  rcases a with ⟨a0, a1, a2, a3, a4, ⟨a5, a6⟩, a7, a8⟩
  rcases b with ⟨b0, b1, b2, b3, b4, ⟨b5, b6⟩, b7, b8⟩
  simp [keys] at h
  obtain ⟨rfl, rfl, rfl, rfl, rfl, rfl, rfl, rfl, rfl⟩ := h
  rfl
theorem lexc_vals (l m : List Int) : lexc l m = -1 ∨ lexc l m = 0 ∨ lexc l m = 1 := by
  induction l generalizing m with
  | nil => exact .inr (.inl rfl)
  | cons a l ih =>
    cases m with
    | nil => exact .inr (.inl rfl)
    | cons b m =>
      unfold lexc
      split
      · exact .inl rfl
      · split
        · exact .inr (.inr rfl)
        · exact ih m
theorem lexc_refl (l : List Int) : lexc l l = 0 := by
  induction l with
  | nil => rfl
  | cons a l ih => simp [lexc, ih]
theorem lexc_zero : ∀ (l m : List Int), l.length = m.length → lexc l m = 0 → l = m
  | [], [], _, _ => rfl
  | a :: l, b :: m, hl, h => by
    unfold lexc at h
    split at h
    · simp at h
    · split at h
      · simp at h
      · have : a = b := by omega
        subst this
        rw [lexc_zero l m (by simpa using hl) h]
theorem lexc_neg : ∀ (l m : List Int), lexc m l = - lexc l m
  | [], [] => rfl
  | [], _ :: _ => rfl
  | _ :: _, [] => rfl
  | a :: l, b :: m => by
    unfold lexc
    by_cases h1 : a < b
    · rw [if_pos h1, if_neg (by omega), if_pos h1]; rfl
    · by_cases h2 : b < a
      · rw [if_pos h2, if_neg h1, if_pos h2]
      · rw [if_neg h2, if_neg h1, if_neg h1, if_neg h2, lexc_neg l m]
theorem lexc_trans : ∀ (l m n : List Int), l.length = m.length → m.length = n.length → lexc l m < 0 → lexc m n < 0 → lexc l n < 0
  | [], _, _, _, _, h, _ => by simp [lexc] at h
  | a :: l, [], _, hl, _, _, _ => by simp at hl
  | a :: l, b :: m, [], _, hm, _, _ => by simp at hm
  | a :: l, b :: m, c :: n, hl, hm, h1, h2 => by
    unfold lexc at h1 h2 ⊢
    by_cases e1 : a < b
    · by_cases e2 : b < c
      · rw [if_pos (by omega)]; decide
      · rw [if_neg e2] at h2
        by_cases e3 : b > c
        · rw [if_pos e3] at h2; simp at h2
        · rw [if_pos (by omega)]; decide
    · rw [if_neg e1] at h1
      by_cases e3 : a > b
      · rw [if_pos e3] at h1; simp at h1
      · rw [if_neg e3] at h1
        by_cases e2 : b < c
        · rw [if_pos (by omega)]; decide
        · rw [if_neg e2] at h2
          by_cases e4 : b > c
          · rw [if_pos e4] at h2; simp at h2
          · rw [if_neg e4] at h2
            rw [if_neg (by omega), if_neg (by omega)]
            exact lexc_trans l m n (by simpa using hl) (by simpa using hm) h1 h2
theorem cmp_refl (a : S39) : cmp a a = 0 := lexc_refl _
theorem cmp_zero {a b : S39} (h : cmp a b = 0) : a = b := keys_inj (lexc_zero _ _ rfl h)
theorem cmp_neg (a b : S39) : cmp b a = - cmp a b := lexc_neg _ _
theorem cmp_trans {a b c : S39} (h1 : cmp a b < 0) (h2 : cmp b c < 0) : cmp a c < 0 := lexc_trans (keys a) (keys b) (keys c) rfl rfl h1 h2
theorem compare_at (k : Nat) (a b : S39) : determinant_Compare.f (k + 10) a.f0 a.f1 a.f2.f0 a.f2.f1 a.f2.f2 a.f2.f3.f0 a.f2.f3.f1 a.f2.f4 a.f2.f5 b.f0 b.f1 b.f2.f0 b.f2.f1 b.f2.f2 b.f2.f3.f0 b.f2.f3.f1 b.f2.f4 b.f2.f5 = some (cmp a b) := by
  rcases a with ⟨a0, a1, a2, a3, a4, ⟨a5, a6⟩, a7, a8⟩
  rcases b with ⟨b0, b1, b2, b3, b4, ⟨b5, b6⟩, b7, b8⟩
  have hs : ∀ (p : Prop) [Decidable p] (x y : Int), (if p then some x else some y) = some (if p then x else y) := fun p _ x y => by split <;> rfl
  simp only [determinant_Compare.f, determinant_fields.f, Option.bind_some]
  simp only [determinant_Compare.l0_rd]
  simp [rd, cmp, keys, lexc, hs]
/-! small words -/
theorem w64 {x : Int} (h : -9223372036854775808 ≤ x ∧ x ≤ 9223372036854775807) : wrap64 x = x := by unfold wrap64; omega
theorem rd_at {xs : List S39} {i : Nat} (h : i < xs.length) : rd_T39 xs (i : Int) = xs[i] := by simp [rd_T39, List.getD_eq_getElem?_getD, h]
theorem eq9 (a d : S39) : ((a.f0 == d.f0) && ((a.f1 == d.f1) && ((a.f2.f0 == d.f2.f0) && ((a.f2.f1 == d.f2.f1) && ((a.f2.f2 == d.f2.f2) && (((a.f2.f3.f0 == d.f2.f3.f0) && (a.f2.f3.f1 == d.f2.f3.f1)) && ((a.f2.f4 == d.f2.f4) && (a.f2.f5 == d.f2.f5)))))))) = true ↔ a = d := by
  rcases a with ⟨a0, a1, a2, a3, a4, ⟨a5, a6⟩, a7, a8⟩
  rcases d with ⟨b0, b1, b2, b3, b4, ⟨b5, b6⟩, b7, b8⟩
  simp [and_assoc]
/-! insertion into a sorted stock -/
theorem shift_cat (A B : List S39) (z d : S39) : (shiftAt (A ++ B ++ [z]) A.length).set A.length d = A ++ d :: B := by
  unfold shiftAt
  have e1 : (A ++ B ++ [z]).drop A.length = B ++ [z] := by rw [List.append_assoc, List.drop_left]
  have e2 : (A ++ B ++ [z]).length - (A.length + 1) = B.length := by simp; omega
  have e3 : (B ++ [z]).take B.length = B := List.take_left
  rw [e1, e2, e3]
  obtain ⟨c, C, hC⟩ : ∃ c C, B ++ [z] = c :: C := by
    cases B with
    | nil => exact ⟨z, [], rfl⟩
    | cons b B => exact ⟨b, B ++ [z], rfl⟩
  have e4 : (A ++ B ++ [z]).take (A.length + 1) = A ++ [c] := by
    rw [List.append_assoc, hC, List.take_append]
    simp [List.take_of_length_le (show A.length ≤ A.length + 1 by omega)]
  rw [e4, List.append_assoc]
  simp [List.set_append]
theorem shift_put (xs : List S39) (z d : S39) (p : Nat) (hp : p ≤ xs.length) : (shiftAt (xs ++ [z]) p).set p d = xs.take p ++ d :: xs.drop p := by
  have h := shift_cat (xs.take p) (xs.drop p) z d
  rwa [List.take_append_drop, List.length_take, Nat.min_eq_left hp] at h
def Sorted (xs : List S39) : Prop := xs.Pairwise (fun a b => cmp a b < 0)
def ins (xs : List S39) (d : S39) : List S39 := if d ∈ xs then xs else xs.filter (fun e => decide (cmp e d < 0)) ++ d :: xs.filter (fun e => decide (¬ cmp e d < 0))
theorem ins_mem (xs : List S39) (d e : S39) : e ∈ ins xs d ↔ e = d ∨ e ∈ xs := by
  unfold ins
  split
  · exact ⟨.inr, fun h => h.elim (fun h => h ▸ ‹_›) id⟩
  · simp only [List.mem_append, List.mem_cons, List.mem_filter, decide_eq_true_eq]
    by_cases h : cmp e d < 0
    · simp [h, or_comm]
    · simp [h]
theorem cmp_gt {a b : S39} (h : ¬ cmp a b < 0) (hne : a ≠ b) : cmp b a < 0 := by
  have h0 : cmp a b ≠ 0 := fun h => hne (cmp_zero h)
  have := cmp_neg a b
  omega
theorem ins_sorted {xs : List S39} (h : Sorted xs) (d : S39) : Sorted (ins xs d) := by
  unfold ins
  split
  · exact h
  · rename_i hd
    unfold Sorted at h ⊢
    rw [List.pairwise_append]
    refine ⟨h.filter _, ?_, ?_⟩
    · rw [List.pairwise_cons]
      refine ⟨fun b hb => ?_, h.filter _⟩
      rw [List.mem_filter] at hb
      exact cmp_gt (by simpa using hb.2) (fun e => hd (e ▸ hb.1))
    · intro a ha b hb
      rw [List.mem_filter] at ha
      have h1 : cmp a d < 0 := by simpa using ha.2
      rcases List.mem_cons.1 hb with rfl | hb
      · exact h1
      · rw [List.mem_filter] at hb
        exact cmp_trans h1 (cmp_gt (by simpa using hb.2) (fun e => hd (e ▸ hb.1)))
theorem sorted_ext : ∀ {xs ys : List S39}, Sorted xs → Sorted ys → (∀ e, e ∈ xs ↔ e ∈ ys) → xs = ys
  | [], [], _, _, _ => rfl
  | [], y :: ys, _, _, h => by have := (h y).2 (List.mem_cons_self); simp at this
  | x :: xs, [], _, _, h => by have := (h x).1 (List.mem_cons_self); simp at this
  | x :: xs, y :: ys, hx, hy, h => by
    unfold Sorted at hx hy
    rw [List.pairwise_cons] at hx hy
    have hxy : x = y := by
      rcases List.mem_cons.1 ((h x).1 List.mem_cons_self) with e | e
      · exact e
      · rcases List.mem_cons.1 ((h y).2 List.mem_cons_self) with e' | e'
        · exact e'.symm
        · have h1 := hx.1 y e'
          have h2 := hy.1 x e
          have := cmp_neg x y
          omega
    subst hxy
    have hn : ∀ {zs : List S39}, (∀ a ∈ zs, cmp x a < 0) → x ∉ zs := fun hz hm => by
      have := hz x hm
      rw [cmp_refl] at this
      omega
    congr 1
    refine sorted_ext hx.2 hy.2 (fun e => ⟨fun he => ?_, fun he => ?_⟩)
    · rcases List.mem_cons.1 ((h e).1 (List.mem_cons_of_mem _ he)) with e' | e'
      · exact absurd (e' ▸ he) (hn hx.1)
      · exact e'
    · rcases List.mem_cons.1 ((h e).2 (List.mem_cons_of_mem _ he)) with e' | e'
      · exact absurd (e' ▸ he) (hn hy.1)
      · exact e'
theorem mid_eq {lo hi : Nat} (h : lo + hi < 10000000) : wrap64 (Int.tdiv (wrap64 ((lo : Int) + hi)) 2) = (((lo + hi) / 2 : Nat) : Int) := by
  rw [w64 (x := (lo : Int) + hi) (by omega)]
  have : Int.tdiv ((lo : Int) + hi) 2 = (((lo + hi) / 2 : Nat) : Int) := by
    rw [Int.tdiv_eq_ediv_of_nonneg (by omega)]
    omega
  rw [this, w64 (by omega)]
theorem split_at {xs : List S39} {d : S39} {p : Nat} (h1 : ∀ i (h : i < xs.length), i < p → cmp xs[i] d < 0) (h2 : ∀ i (h : i < xs.length), p ≤ i → ¬ cmp xs[i] d < 0) :
    xs.filter (fun e => decide (cmp e d < 0)) = xs.take p ∧ xs.filter (fun e => decide (¬ cmp e d < 0)) = xs.drop p := by
  have g1 : ∀ e ∈ xs.take p, cmp e d < 0 := fun e he => by
    obtain ⟨i, hi, rfl⟩ := List.getElem_of_mem he
    rw [List.getElem_take]
    rw [List.length_take] at hi
    exact h1 i (by omega) (by omega)
  have g2 : ∀ e ∈ xs.drop p, ¬ cmp e d < 0 := fun e he => by
    obtain ⟨i, hi, rfl⟩ := List.getElem_of_mem he
    rw [List.getElem_drop]
    rw [List.length_drop] at hi
    exact h2 (p + i) (by omega) (by omega)
  constructor
  · conv => lhs; rw [← List.take_append_drop p xs]
    rw [List.filter_append, List.filter_eq_self.2 (fun e he => by simpa using g1 e he), List.filter_eq_nil_iff.2 (fun e he => by simpa using g2 e he), List.append_nil]
  · conv => lhs; rw [← List.take_append_drop p xs]
    rw [List.filter_append, List.filter_eq_nil_iff.2 (fun e he => by simpa using g1 e he), List.filter_eq_self.2 (fun e he => by simpa using g2 e he), List.nil_append]
theorem insert_loop {xs : List S39} {d : S39} (hs : Sorted xs) (hlen : xs.length < 1000000) : ∀ (n lo hi : Nat), hi - lo < n → lo ≤ hi → hi ≤ xs.length →
    (∀ i (h : i < xs.length), i < lo → cmp xs[i] d < 0) → (∀ i (h : i < xs.length), hi ≤ i → ¬ cmp xs[i] d < 0) → Ev (fun k => determinant_insert.l0 k xs lo hi d.f0 d.f1 d.f2.f0 d.f2.f1 d.f2.f2 d.f2.f3.f0 d.f2.f3.f1 d.f2.f4 d.f2.f5) (ins xs d)
  | 0, lo, hi, h, _, _, _, _ => by omega
  | n + 1, lo, hi, hn, hle, hhi, h1, h2 => by
    by_cases c : lo < hi
    · have hm : (lo + hi) / 2 < xs.length := by omega
      have hlt : ((((lo + hi) / 2 : Nat) : Int)) < (xs.length : Int) := by omega
      by_cases cc : cmp xs[(lo + hi) / 2] d < 0
      · obtain ⟨K, hK⟩ := insert_loop hs hlen n ((lo + hi) / 2 + 1) hi (by omega) (by omega) hhi (fun i h hi' => by
          by_cases e : i = (lo + hi) / 2
          · subst e; exact cc
          · have hp := (List.pairwise_iff_getElem.1 hs) i ((lo + hi) / 2) h hm (by omega)
            exact cmp_trans hp cc) h2
        refine ⟨K + 11, fun k hk => ?_⟩
        obtain ⟨m, rfl⟩ : ∃ m, k = m + 10 + 1 := ⟨k - 11, by omega⟩
        dsimp only
        rw [determinant_insert.l0, if_pos (by omega), mid_eq (by omega), if_pos (by omega), if_pos hlt, rd_at hm, compare_at, Option.bind_some, if_pos cc, w64 (by omega)]
        exact hK (m + 10) (by omega)
      · obtain ⟨K, hK⟩ := insert_loop hs hlen n lo ((lo + hi) / 2) (by omega) (by omega) (by omega) h1 (fun i h hi' => by
          by_cases e : i = (lo + hi) / 2
          · subst e; exact cc
          · have hp := (List.pairwise_iff_getElem.1 hs) ((lo + hi) / 2) i hm h (by omega)
            exact fun hlt' => cc (cmp_trans hp hlt'))
        refine ⟨K + 11, fun k hk => ?_⟩
        obtain ⟨m, rfl⟩ : ∃ m, k = m + 10 + 1 := ⟨k - 11, by omega⟩
        dsimp only
        rw [determinant_insert.l0, if_pos (by omega), mid_eq (by omega), if_pos (by omega), if_pos hlt, rd_at hm, compare_at, Option.bind_some, if_neg cc]
        exact hK (m + 10) (by omega)
    · obtain rfl : lo = hi := by omega
      obtain ⟨f1, f2⟩ := split_at h1 h2
      refine ⟨1, fun k hk => ?_⟩
      obtain ⟨m, rfl⟩ : ∃ m, k = m + 1 := ⟨k - 1, by omega⟩
      have put : (shiftAt (xs ++ [(⟨0, 0, (⟨0, 0, 0, (⟨0, 0⟩ : S35), 0, 0⟩ : S37)⟩ : S39)]) lo).set lo (⟨d.f0, d.f1, (⟨d.f2.f0, d.f2.f1, d.f2.f2, (⟨d.f2.f3.f0, d.f2.f3.f1⟩ : S35), d.f2.f4, d.f2.f5⟩ : S37)⟩ : S39) = xs.take lo ++ d :: xs.drop lo := shift_put xs _ d lo hhi
      have hl1 : (xs ++ [(⟨0, 0, (⟨0, 0, 0, (⟨0, 0⟩ : S35), 0, 0⟩ : S37)⟩ : S39)]).length = xs.length + 1 := by simp
      dsimp only
      rw [determinant_insert.l0, if_neg (by omega)]
      by_cases e : lo < xs.length
      · rw [if_pos (by omega), if_pos (by omega), rd_at e]
        by_cases he : xs[lo] = d
        · rw [if_pos ((eq9 _ _).2 he)]
          unfold ins
          rw [if_pos (he ▸ List.getElem_mem e)]
        · have hnd : d ∉ xs := fun hd => by
            obtain ⟨j, hj, hjd⟩ := List.getElem_of_mem hd
            by_cases jl : j < lo
            · have := h1 j hj jl
              rw [hjd, cmp_refl] at this
              omega
            · by_cases je : j = lo
              · subst je; exact he hjd
              · have := (List.pairwise_iff_getElem.1 hs) lo j e hj (by omega)
                rw [hjd] at this
                exact h2 lo e (Nat.le_refl _) this
          rw [if_neg (fun hh => he ((eq9 _ _).1 hh)), if_pos (by omega), Option.bind_some, w64 (by omega), hl1, if_pos (by omega), if_pos (by omega), if_pos (by omega), if_pos (by omega), Int.toNat_natCast, put]
          unfold ins
          rw [if_neg hnd, f1, f2]
      · have hnd : d ∉ xs := fun hd => by
          obtain ⟨j, hj, hjd⟩ := List.getElem_of_mem hd
          have := h1 j hj (by omega)
          rw [hjd, cmp_refl] at this
          omega
        rw [if_neg (by omega), if_pos (by omega), Option.bind_some, w64 (by omega), hl1, if_pos (by omega), if_pos (by omega), if_pos (by omega), if_pos (by omega), if_pos (by omega), Int.toNat_natCast, put]
        unfold ins
        rw [if_neg hnd, f1, f2]
theorem insert_ev {xs : List S39} (d : S39) (hs : Sorted xs) (hlen : xs.length < 1000000) : Ev (fun k => determinant_insert.f k xs d.f0 d.f1 d.f2.f0 d.f2.f1 d.f2.f2 d.f2.f3.f0 d.f2.f3.f1 d.f2.f4 d.f2.f5) (ins xs d) :=
  insert_loop hs hlen (xs.length + 1) 0 xs.length (by omega) (by omega) (Nat.le_refl _) (fun i h hi => by omega) (fun i h hi => by omega)
theorem ins_len (xs : List S39) (d : S39) : (ins xs d).length ≤ xs.length + 1 := by
  unfold ins
  split
  · omega
  · have : (xs.filter (fun e => decide (cmp e d < 0))).length + (xs.filter (fun e => decide (¬ cmp e d < 0))).length = xs.length := by
      induction xs with
      | nil => rfl
      | cons a xs ih =>
        have ih := ih (fun h => by rename_i hd; exact hd (List.mem_cons_of_mem _ h))
        by_cases h : cmp a d < 0
        · simp only [List.filter_cons, h, decide_true, not_true, decide_false, List.length_cons, if_true, Bool.false_eq_true, if_false]; omega
        · simp only [List.filter_cons, h, decide_false, not_false_eq_true, decide_true, List.length_cons, if_true, Bool.false_eq_true, if_false]; omega
    simp only [List.length_append, List.length_cons]
    omega
theorem fold_sorted : ∀ (l acc : List S39), Sorted acc → Sorted (l.foldl ins acc)
  | [], _, h => h
  | d :: l, acc, h => fold_sorted l _ (ins_sorted h d)
theorem fold_mem : ∀ (l acc : List S39) (e : S39), e ∈ l.foldl ins acc ↔ e ∈ acc ∨ e ∈ l
  | [], acc, e => by simp
  | d :: l, acc, e => by
    rw [List.foldl_cons, fold_mem l, ins_mem, List.mem_cons]
    constructor
    · rintro ((h | h) | h) <;> simp [h]
    · rintro (h | h | h) <;> simp [h]
theorem fold_len : ∀ (l acc : List S39), (l.foldl ins acc).length ≤ acc.length + l.length
  | [], acc => by simp
  | d :: l, acc => by
    have h1 := fold_len l (ins acc d)
    have h2 := ins_len acc d
    simp only [List.foldl_cons, List.length_cons]
    omega
theorem merge1_loop {l : List S39} : ∀ (n i : Nat) (acc : List S39), l.length - i < n → i ≤ l.length → Sorted acc → acc.length + (l.length - i) < 1000000 → l.length < 1000000 →
    Ev (fun k => determinant_Merge.l1 k acc l (l.length : Int) (i : Int)) ((l.drop i).foldl ins acc)
  | 0, _, _, h, _, _, _, _ => by omega
  | n + 1, i, acc, hn, hi, hs, hl, hl2 => by
    by_cases c : i < l.length
    · have hil := ins_len acc l[i]
      obtain ⟨K, hK⟩ := merge1_loop n (i + 1) (ins acc l[i]) (by omega) (by omega) (ins_sorted hs _) (by omega) hl2
      obtain ⟨K', hK'⟩ := insert_ev l[i] hs (by omega)
      refine ⟨K + K' + 1, fun k hk => ?_⟩
      obtain ⟨m, rfl⟩ : ∃ m, k = m + 1 := ⟨k - 1, by omega⟩
      have e1 := hK' m (by omega)
      have e2 := hK m (by omega)
      dsimp only at e1 e2 ⊢
      rw [determinant_Merge.l1, if_pos (by omega), if_pos (by omega), if_pos (by omega), rd_at c, e1, Option.bind_some, w64 (by omega)]
      rw [List.drop_eq_getElem_cons c, List.foldl_cons]
      exact e2
    · refine ⟨1, fun k hk => ?_⟩
      obtain ⟨m, rfl⟩ : ∃ m, k = m + 1 := ⟨k - 1, by omega⟩
      dsimp only
      rw [determinant_Merge.l1, if_neg (by omega), List.drop_eq_nil_of_le (by omega)]
      rfl
theorem merge0_loop {l b : List S39} (hb : b.length < 400000) : ∀ (n i : Nat) (acc : List S39), l.length - i < n → i ≤ l.length → Sorted acc → acc.length + (l.length - i) < 400000 → l.length < 400000 →
    Ev (fun k => determinant_Merge.l0 k b acc l (l.length : Int) (i : Int)) (b.foldl ins ((l.drop i).foldl ins acc))
  | 0, _, _, h, _, _, _, _ => by omega
  | n + 1, i, acc, hn, hi, hs, hl, hl2 => by
    by_cases c : i < l.length
    · have hil := ins_len acc l[i]
      obtain ⟨K, hK⟩ := merge0_loop hb n (i + 1) (ins acc l[i]) (by omega) (by omega) (ins_sorted hs _) (by omega) hl2
      obtain ⟨K', hK'⟩ := insert_ev l[i] hs (by omega)
      refine ⟨K + K' + 1, fun k hk => ?_⟩
      obtain ⟨m, rfl⟩ : ∃ m, k = m + 1 := ⟨k - 1, by omega⟩
      have e1 := hK' m (by omega)
      have e2 := hK m (by omega)
      dsimp only at e1 e2 ⊢
      rw [determinant_Merge.l0, if_pos (by omega), if_pos (by omega), if_pos (by omega), rd_at c, e1, Option.bind_some, w64 (by omega)]
      rw [List.drop_eq_getElem_cons c, List.foldl_cons]
      exact e2
    · obtain ⟨K, hK⟩ := merge1_loop (l := b) (b.length + 1) 0 acc (by omega) (by omega) hs (by omega) (by omega)
      refine ⟨K + 1, fun k hk => ?_⟩
      obtain ⟨m, rfl⟩ : ∃ m, k = m + 1 := ⟨k - 1, by omega⟩
      have e2 := hK m (by omega)
      dsimp only at e2 ⊢
      rw [determinant_Merge.l0, if_neg (by omega), List.drop_eq_nil_of_le (show l.length ≤ i by omega)]
      exact e2
def union (a b : List S39) : List S39 := b.foldl ins (a.foldl ins [])
theorem merge_ev {a b : List S39} (ha : a.length < 400000) (hb : b.length < 400000) : Ev (fun k => determinant_Merge.f k a b) (union a b) := by
  obtain ⟨K, hK⟩ := merge0_loop (l := a) hb (a.length + 1) 0 [] (by omega) (by omega) List.Pairwise.nil (by simp; omega) ha
  refine ⟨K, fun k hk => ?_⟩
  dsimp only
  have hw : wrap64 ((a.length : Int) + (b.length : Int)) = (a.length : Int) + b.length := w64 (by omega)
  rw [determinant_Merge.f, hw, if_pos (by omega), if_pos (by omega)]
  exact hK k hk
theorem union_sorted (a b : List S39) : Sorted (union a b) := fold_sorted _ _ (fold_sorted _ _ List.Pairwise.nil)
theorem union_mem (a b : List S39) (e : S39) : e ∈ union a b ↔ e ∈ a ∨ e ∈ b := by simp [union, fold_mem]
theorem union_len (a b : List S39) : (union a b).length ≤ a.length + b.length := by
  have h1 := fold_len b (a.foldl ins [])
  have h2 := fold_len a []
  simp at h2
  unfold union
  omega
/-! the draws from the codes -/
def Bytes (s : List Int) : Prop := s.length < 1000000 ∧ ∀ x ∈ s, 0 ≤ x ∧ x ≤ 255
def I64 (x : Int) : Prop := -9223372036854775808 ≤ x ∧ x ≤ 9223372036854775807
def In (s : List Int) (p : Int) : Prop := 0 ≤ p ∧ p ≤ s.length
theorem rd_mem {s : List Int} {p : Int} (h0 : 0 ≤ p) (h1 : p < s.length) : rd s p ∈ s := by
  have h : p.toNat < s.length := by omega
  simp [rd, List.getD_eq_getElem?_getD, h]
theorem next_ok {s : List Int} {p a : Int} (hs : Bytes s) (hp : In s p) (ha : 0 < a) : ∃ v q, rollbacknetmake_Codes_Next.f s p a = some (v, q) ∧ 0 ≤ v ∧ v < a ∧ In s q := by
  obtain ⟨hl, hb⟩ := hs
  obtain ⟨p0, p1⟩ := hp
  unfold rollbacknetmake_Codes_Next.f rollbacknetmake_Codes_Left.f
  rw [Option.bind_some]
  dsimp only
  have e1 : wrap64 (p + 1) = p + 1 := w64 (by omega)
  have e2 : wrap64 (p + 1 - 1) = p := by rw [w64 (by omega)]; omega
  rw [e1, e2]
  by_cases c : p < s.length
  · have hm := hb _ (rd_mem p0 c)
    rw [if_pos (decide_eq_true c), if_pos p0, if_pos c, if_neg (by omega), w64 (by omega), Int.tmod_eq_emod_of_nonneg hm.1]
    exact ⟨_, _, rfl, Int.emod_nonneg _ (by omega), Int.emod_lt_of_pos _ ha, by constructor <;> omega⟩
  · rw [if_neg (by simpa using c)]
    exact ⟨0, p, rfl, by omega, ha, p0, p1⟩
theorem int_ok {s : List Int} {p : Int} (hs : Bytes s) (hp : In s p) : ∃ v q, rollbacknetmake_Codes_Int.f s p = some (v, q) ∧ I64 v ∧ In s q := by
  unfold rollbacknetmake_Codes_Int.f
  rw [Option.bind_some]
  obtain ⟨v, q, e, h1, h2, hq⟩ := next_ok (a := 6) hs hp (by omega)
  rw [e, Option.bind_some]
  dsimp only
  by_cases c : v = 5
  · rw [if_pos c]
    obtain ⟨v', q', e', h1', h2', hq'⟩ := next_ok (a := 10) hs hq (by omega)
    have e'' : rollbacknetmake_Codes_Next.f s q (([9223372036854775807, (-9223372036854775808), 2147483648, (-1), 63, 64, (-65), 127, 128, 1099511627776] : List Int).length : Int) = some (v', q') := e'
    rw [e'', Option.bind_some]
    dsimp only
    have h3 : v' < (([9223372036854775807, (-9223372036854775808), 2147483648, (-1), 63, 64, (-65), 127, 128, 1099511627776] : List Int).length : Int) := h2'
    rw [if_pos h1', if_pos h3]
    refine ⟨_, _, rfl, ?_, hq'⟩
    have : v' = 0 ∨ v' = 1 ∨ v' = 2 ∨ v' = 3 ∨ v' = 4 ∨ v' = 5 ∨ v' = 6 ∨ v' = 7 ∨ v' = 8 ∨ v' = 9 := by omega
    rcases this with rfl | rfl | rfl | rfl | rfl | rfl | rfl | rfl | rfl | rfl <;> simp [I64, rd]
  · rw [if_neg c]
    obtain ⟨v', q', e', h1', h2', hq'⟩ := next_ok (a := 12) hs hq (by omega)
    rw [e', Option.bind_some]
    refine ⟨_, _, rfl, ?_, hq'⟩
    dsimp only
    rw [w64 (by omega)]
    constructor <;> omega
theorem event_ok {s : List Int} {p : Int} (hs : Bytes s) (hp : In s p) : ∃ a b c d e f g q, rollbacknetmake_Codes_Event.f s p = some (a, b, c, d, e, f, g, q) ∧ I64 a ∧ I64 b ∧ I64 c ∧ I64 d ∧ I64 e ∧ I64 f ∧ I64 g ∧ In s q := by
  unfold rollbacknetmake_Codes_Event.f
  obtain ⟨v1, q1, e1, a1, b1, i1⟩ := next_ok (a := 3) hs hp (by omega)
  rw [e1, Option.bind_some]
  obtain ⟨v2, q2, e2, a2, b2, i2⟩ := next_ok (a := 3) hs i1 (by omega)
  dsimp only
  rw [e2, Option.bind_some]
  obtain ⟨v3, q3, e3, a3, i3⟩ := int_ok hs i2
  dsimp only
  rw [e3, Option.bind_some, w64 (by omega)]
  dsimp only
  have j1 : I64 (1 + v1) := by constructor <;> omega
  have j2 : I64 v2 := by constructor <;> omega
  have j0 : I64 0 := by constructor <;> omega
  by_cases c : 1 + v1 = 1
  · rw [if_pos c]
    obtain ⟨v4, q4, e4, a4, b4, i4⟩ := next_ok (a := 3) hs i3 (by omega)
    rw [e4, Option.bind_some]
    obtain ⟨v5, q5, e5, a5, b5, i5⟩ := next_ok (a := 2) hs i4 (by omega)
    dsimp only
    rw [e5, Option.bind_some]
    obtain ⟨v6, q6, e6, a6, b6, i6⟩ := next_ok (a := 5) hs i5 (by omega)
    dsimp only
    rw [e6, Option.bind_some]
    obtain ⟨v7, q7, e7, a7, b7, i7⟩ := next_ok (a := 3) hs i6 (by omega)
    dsimp only
    rw [e7, Option.bind_some]
    exact ⟨_, _, _, _, _, _, _, _, rfl, j1, j2, by constructor <;> omega, by constructor <;> omega, by constructor <;> omega, by constructor <;> omega, a3, i7⟩
  · rw [if_neg c]
    exact ⟨_, _, _, _, _, _, _, _, rfl, j1, j2, j0, j0, j0, j0, a3, i3⟩
def DetI (d : S39) : Prop := I64 d.f0 ∧ I64 d.f1 ∧ I64 d.f2.f0 ∧ I64 d.f2.f1 ∧ I64 d.f2.f2 ∧ I64 d.f2.f3.f0 ∧ I64 d.f2.f3.f1 ∧ I64 d.f2.f4 ∧ I64 d.f2.f5
theorem dets_loop {s : List Int} (hs : Bytes s) : ∀ (n : Nat) (xs : List S39) (p : Int), In s p → n + xs.length < 1000000 → (∀ d ∈ xs, DetI d) →
    ∃ ys q, Ev (fun k => rollbacknetmake_Codes_Dets.l0 k xs (n : Int) s p) (ys, q) ∧ ys.length = n + xs.length ∧ (∀ d ∈ ys, DetI d) ∧ In s q
  | 0, xs, p, hp, hn, hx => by
    refine ⟨xs, p, ⟨1, fun k hk => ?_⟩, by omega, hx, hp⟩
    obtain ⟨m, rfl⟩ : ∃ m, k = m + 1 := ⟨k - 1, by omega⟩
    dsimp only
    rw [rollbacknetmake_Codes_Dets.l0, if_neg (by omega)]
  | n + 1, xs, p, hp, hn, hx => by
    obtain ⟨v1, q1, e1, a1, b1, i1⟩ := next_ok (a := 3) hs hp (by omega)
    obtain ⟨v2, q2, e2, a2, b2, i2⟩ := next_ok (a := 6) hs i1 (by omega)
    obtain ⟨a, b, c, d, e, f, g, q, e3, ja, jb, jc, jd, je, jf, jg, i3⟩ := event_ok hs i2
    have hd : DetI (⟨v1, wrap64 (1 + v2), (⟨a, b, c, (⟨d, e⟩ : S35), f, g⟩ : S37)⟩ : S39) := ⟨show I64 v1 by constructor <;> omega, show I64 (wrap64 (1 + v2)) by rw [w64 (by omega)]; constructor <;> omega, ja, jb, jc, jd, je, jf, jg⟩
    obtain ⟨ys, q', ⟨K, hK⟩, hl, hy, hq'⟩ := dets_loop hs n (xs ++ [(⟨v1, wrap64 (1 + v2), (⟨a, b, c, (⟨d, e⟩ : S35), f, g⟩ : S37)⟩ : S39)]) q i3 (by simp; omega) (fun z hz => by
      rcases List.mem_append.1 hz with h | h
      · exact hx z h
      · rw [List.mem_singleton.1 h]; exact hd)
    refine ⟨ys, q', ⟨K + 1, fun k hk => ?_⟩, by simp at hl; omega, hy, hq'⟩
    obtain ⟨m, rfl⟩ : ∃ m, k = m + 1 := ⟨k - 1, by omega⟩
    have e4 := hK m (by omega)
    dsimp only at e4 ⊢
    rw [rollbacknetmake_Codes_Dets.l0, if_pos (by omega), e1, Option.bind_some]
    dsimp only
    rw [e2, Option.bind_some]
    dsimp only
    rw [e3, Option.bind_some]
    dsimp only
    rw [if_pos (by omega), show wrap64 (((n + 1 : Nat) : Int) - 1) = (n : Int) by rw [w64 (by omega)]; omega]
    exact e4
theorem dets_ev {s : List Int} {p a : Int} (hs : Bytes s) (hp : In s p) (ha : 0 ≤ a) (ha2 : a < 1000) : ∃ ys q, Ev (fun k => rollbacknetmake_Codes_Dets.f k s p a) (ys, q) ∧ (ys.length : Int) ≤ a ∧ (∀ d ∈ ys, DetI d) ∧ In s q := by
  obtain ⟨v1, q1, e1, a1, b1, i1⟩ := next_ok (a := wrap64 (a + 1)) hs hp (by rw [w64 (by omega)]; omega)
  rw [w64 (by omega)] at b1
  obtain ⟨n, rfl⟩ := Int.eq_ofNat_of_zero_le a1
  obtain ⟨ys, q', ⟨K, hK⟩, hl, hy, hq'⟩ := dets_loop hs n [] q1 i1 (by simp; omega) (fun d hd => by simp at hd)
  refine ⟨ys, q', ⟨K, fun k hk => ?_⟩, by simp at hl; omega, hy, hq'⟩
  have e4 := hK k hk
  dsimp only at e4 ⊢
  rw [rollbacknetmake_Codes_Dets.f, e1, Option.bind_some]
  exact e4
theorem new_ok {s : List Int} {a : Int} (hb : ∀ x ∈ s, (Lit.int .u8 x).wf = true) (ha : 0 ≤ a) (ha2 : a < 1000) : ∃ t, rollbacknetmake_New.f s a = some (t, 0) ∧ Bytes t ∧ In t 0 := by
  have hb' : ∀ x ∈ s, 0 ≤ x ∧ x ≤ 255 := fun x hx => by
    have := hb x hx
    simpa [Lit.wf, IntKind.min, IntKind.max, IntKind.signed, IntKind.bits] using this
  unfold rollbacknetmake_New.f
  by_cases c : (s.length : Int) > a
  · rw [if_pos c, if_pos ha, if_pos (by omega)]
    exact ⟨_, rfl, ⟨by rw [List.length_take]; omega, fun x hx => hb' x (List.mem_of_mem_take hx)⟩, by constructor <;> omega⟩
  · rw [if_neg c]
    exact ⟨_, rfl, ⟨by omega, hb'⟩, by constructor <;> omega⟩
theorem mod_some (a m : Int) (hm : m ≠ 0) : ∃ v, rollbacknetmake_Mod.f a m = some v := by
  unfold rollbacknetmake_Mod.f
  rw [if_neg hm]
  split <;> exact ⟨_, rfl⟩
theorem near_some (a : S39) (field by_ : Int) : ∃ c : S39, rollbacknetlaw27_near.f a.f0 a.f1 a.f2.f0 a.f2.f1 a.f2.f2 a.f2.f3.f0 a.f2.f3.f1 a.f2.f4 a.f2.f5 field by_ = some (c.f0, c.f1, c.f2.f0, c.f2.f1, c.f2.f2, c.f2.f3.f0, c.f2.f3.f1, c.f2.f4, c.f2.f5) := by
  obtain ⟨v, hv⟩ := mod_some field 10 (by omega)
  have mk : ∀ x0 x1 x2 x3 x4 x5 x6 x7 x8 : Int, ∃ c : S39, some (x0, x1, x2, x3, x4, x5, x6, x7, x8) = some (c.f0, c.f1, c.f2.f0, c.f2.f1, c.f2.f2, c.f2.f3.f0, c.f2.f3.f1, c.f2.f4, c.f2.f5) := fun x0 x1 x2 x3 x4 x5 x6 x7 x8 => ⟨⟨x0, x1, ⟨x2, x3, x4, ⟨x5, x6⟩, x7, x8⟩⟩, rfl⟩
  unfold rollbacknetlaw27_near.f
  rw [hv, Option.bind_some]
  repeat' split
  all_goals exact mk _ _ _ _ _ _ _ _ _
/-! Mod -/
theorem mod_ok {a m : Int} (ha : I64 a) (hm : 0 < m) (hm2 : m < 1000000) : ∃ v, rollbacknetmake_Mod.f a m = some v ∧ 0 ≤ v ∧ v < m := by
  unfold rollbacknetmake_Mod.f
  rw [if_neg (by omega)]
  have h1 : Int.tmod a m < m := Int.tmod_lt_of_pos _ hm
  have h2 : -m < Int.tmod a m := by
    have := Int.tmod_lt_of_pos (-a) hm
    rw [Int.neg_tmod] at this
    omega
  by_cases c : Int.tmod a m < 0
  · rw [if_pos c, w64 (by omega)]
    exact ⟨_, rfl, by omega, by omega⟩
  · rw [if_neg c]
    exact ⟨_, rfl, by omega, h1⟩
/-! lineages -/
def lin (p : Int) (l : List S37) : List S39 := (List.range l.length).map (fun (i : Nat) => (⟨p, (i : Int) + 1, rd_T37 l (i : Int)⟩ : S39))
theorem lin_len (p : Int) (l : List S37) : (lin p l).length = l.length := by simp [lin]
theorem lin_succ (p : Int) (l : List S37) {i : Nat} (h : i < l.length) : (lin p l).take (i + 1) = (lin p l).take i ++ [(⟨p, (i : Int) + 1, rd_T37 l (i : Int)⟩ : S39)] := by
  have hi : i < (lin p l).length := by rw [lin_len]; exact h
  rw [← List.take_append_getElem hi]
  congr 2
  simp [lin]
theorem reflin_loop {p : Int} {l : List S37} (hl : l.length < 1000000) : ∀ (n i : Nat), l.length - i < n → i ≤ l.length → Ev (fun k => rollbacknetref27_Lineage.l0 k p l ((lin p l).take i) (i : Int)) (lin p l)
  | 0, _, h, _ => by omega
  | n + 1, i, hn, hi => by
    by_cases c : i < l.length
    · obtain ⟨K, hK⟩ := reflin_loop hl n (i + 1) (by omega) (by omega)
      refine ⟨K + 1, fun k hk => ?_⟩
      obtain ⟨m, rfl⟩ : ∃ m, k = m + 1 := ⟨k - 1, by omega⟩
      have g := hK m (by omega)
      dsimp only at g ⊢
      rw [lin_succ p l c] at g
      rw [rollbacknetref27_Lineage.l0, if_pos (by omega), if_pos (by omega), if_pos (by rw [List.length_take]; omega), w64 (by omega)]
      exact g
    · refine ⟨1, fun k hk => ?_⟩
      obtain ⟨m, rfl⟩ : ∃ m, k = m + 1 := ⟨k - 1, by omega⟩
      dsimp only
      rw [rollbacknetref27_Lineage.l0, if_neg (by omega), List.take_of_length_le (by rw [lin_len]; omega)]
theorem reflin_ev {p : Int} {l : List S37} (hl : l.length < 1000000) : Ev (fun k => rollbacknetref27_Lineage.f k p l) (lin p l) := reflin_loop hl (l.length + 1) 0 (by omega) (by omega)
/-! the scene -/
def EvI (e : S37) : Prop := I64 e.f0 ∧ I64 e.f1 ∧ I64 e.f2 ∧ I64 e.f3.f0 ∧ I64 e.f3.f1 ∧ I64 e.f4 ∧ I64 e.f5
theorem events_loop {s : List Int} (hs : Bytes s) : ∀ (n : Nat) (xs : List S37) (p : Int), In s p → n + xs.length < 1000000 → (∀ d ∈ xs, EvI d) →
    ∃ ys q, Ev (fun k => rollbacknetmake_Codes_Events.l0 k xs (n : Int) s p) (ys, q) ∧ ys.length = n + xs.length ∧ (∀ d ∈ ys, EvI d) ∧ In s q
  | 0, xs, p, hp, hn, hx => by
    refine ⟨xs, p, ⟨1, fun k hk => ?_⟩, by omega, hx, hp⟩
    obtain ⟨m, rfl⟩ : ∃ m, k = m + 1 := ⟨k - 1, by omega⟩
    dsimp only
    rw [rollbacknetmake_Codes_Events.l0, if_neg (by omega)]
  | n + 1, xs, p, hp, hn, hx => by
    obtain ⟨a, b, c, d, e, f, g, q, e3, ja, jb, jc, jd, je, jf, jg, i3⟩ := event_ok hs hp
    have hd : EvI (⟨a, b, c, (⟨d, e⟩ : S35), f, g⟩ : S37) := ⟨ja, jb, jc, jd, je, jf, jg⟩
    obtain ⟨ys, q', ⟨K, hK⟩, hl, hy, hq'⟩ := events_loop hs n (xs ++ [(⟨a, b, c, (⟨d, e⟩ : S35), f, g⟩ : S37)]) q i3 (by simp; omega) (fun z hz => by
      rcases List.mem_append.1 hz with h | h
      · exact hx z h
      · rw [List.mem_singleton.1 h]; exact hd)
    refine ⟨ys, q', ⟨K + 1, fun k hk => ?_⟩, by simp at hl; omega, hy, hq'⟩
    obtain ⟨m, rfl⟩ : ∃ m, k = m + 1 := ⟨k - 1, by omega⟩
    have e4 := hK m (by omega)
    dsimp only at e4 ⊢
    rw [rollbacknetmake_Codes_Events.l0, if_pos (by omega), e3, Option.bind_some]
    dsimp only
    rw [if_pos (by omega), show wrap64 (((n + 1 : Nat) : Int) - 1) = (n : Int) by rw [w64 (by omega)]; omega]
    exact e4
theorem events_ev {s : List Int} {p a : Int} (hs : Bytes s) (hp : In s p) (ha : 0 ≤ a) (ha2 : a < 1000) : ∃ ys q, Ev (fun k => rollbacknetmake_Codes_Events.f k s p a) (ys, q) ∧ (ys.length : Int) ≤ a ∧ (∀ d ∈ ys, EvI d) ∧ In s q := by
  obtain ⟨v1, q1, e1, a1, b1, i1⟩ := next_ok (a := wrap64 (a + 1)) hs hp (by rw [w64 (by omega)]; omega)
  rw [w64 (by omega)] at b1
  obtain ⟨n, rfl⟩ := Int.eq_ofNat_of_zero_le a1
  obtain ⟨ys, q', ⟨K, hK⟩, hl, hy, hq'⟩ := events_loop hs n [] q1 i1 (by simp; omega) (fun d hd => by simp at hd)
  refine ⟨ys, q', ⟨K, fun k hk => ?_⟩, by simp at hl; omega, hy, hq'⟩
  have e4 := hK k hk
  dsimp only at e4 ⊢
  rw [rollbacknetmake_Codes_Events.f, e1, Option.bind_some]
  exact e4
theorem near_ok {a : S39} {field by_ : Int} (ha : DetI a) (hb : I64 by_) : ∃ c : S39, rollbacknetlaw27_near.f a.f0 a.f1 a.f2.f0 a.f2.f1 a.f2.f2 a.f2.f3.f0 a.f2.f3.f1 a.f2.f4 a.f2.f5 field by_ = some (c.f0, c.f1, c.f2.f0, c.f2.f1, c.f2.f2, c.f2.f3.f0, c.f2.f3.f1, c.f2.f4, c.f2.f5) ∧ DetI c := by
  obtain ⟨v, hv⟩ := mod_some field 10 (by omega)
  have mk : ∀ x0 x1 x2 x3 x4 x5 x6 x7 x8 : Int, I64 x0 → I64 x1 → I64 x2 → I64 x3 → I64 x4 → I64 x5 → I64 x6 → I64 x7 → I64 x8 → ∃ c : S39, some (x0, x1, x2, x3, x4, x5, x6, x7, x8) = some (c.f0, c.f1, c.f2.f0, c.f2.f1, c.f2.f2, c.f2.f3.f0, c.f2.f3.f1, c.f2.f4, c.f2.f5) ∧ DetI c :=
    fun x0 x1 x2 x3 x4 x5 x6 x7 x8 h0 h1 h2 h3 h4 h5 h6 h7 h8 => ⟨⟨x0, x1, ⟨x2, x3, x4, ⟨x5, x6⟩, x7, x8⟩⟩, rfl, ⟨h0, h1, h2, h3, h4, h5, h6, h7, h8⟩⟩
  obtain ⟨h0, h1, h2, h3, h4, h5, h6, h7, h8⟩ := ha
  unfold rollbacknetlaw27_near.f
  rw [hv, Option.bind_some]
  repeat' split
  all_goals exact mk _ _ _ _ _ _ _ _ _ (by assumption) (by assumption) (by assumption) (by assumption) (by assumption) (by assumption) (by assumption) (by assumption) (by assumption)
theorem rd_at37 {xs : List S37} {i : Nat} (h : i < xs.length) : rd_T37 xs (i : Int) = xs[i] := by simp [rd_T37, List.getD_eq_getElem?_getD, h]
theorem lin_ok {p : Int} {l : List S37} (hp : I64 p) (hl : l.length < 1000000) (he : ∀ e ∈ l, EvI e) : ∀ d ∈ lin p l, DetI d := by
  intro d hd
  simp only [lin, List.mem_map, List.mem_range] at hd
  obtain ⟨i, hi, rfl⟩ := hd
  rw [rd_at37 hi]
  obtain ⟨a, b, c, d, e, f, g⟩ := he _ (List.getElem_mem hi)
  exact ⟨hp, show I64 ((i : Int) + 1) by constructor <;> omega, a, b, c, d, e, f, g⟩
theorem scene_l1 {s : List Int} (hs : Bytes s) {p : Int} {l : List S37} {ck : List Int} {all : List S39} (ha : all.length < 1000) (hall : ∀ d ∈ all, DetI d) : ∀ (n i : Nat) (acc : List S39) (q : Int), all.length - i < n → i ≤ all.length → acc.length = i → (∀ d ∈ acc, DetI d) → In s q →
    ∃ st, Ev (fun k => rollbacknetlaw27_scene.l1 k p l ck acc all (i : Int) s q) (p, l, ck, st) ∧ st.length ≤ all.length + 3 ∧ ∀ d ∈ st, DetI d
  | 0, _, _, _, h, _, _, _, _ => by omega
  | n + 1, i, acc, q, hn, hi, hc, hacc, hq => by
    by_cases c : i < all.length
    · obtain ⟨v, q1, e1, v0, v1, i1⟩ := next_ok (a := 4) hs hq (by omega)
      have hmem : ∀ d : S39, DetI d → ∀ z ∈ acc ++ [d], DetI z := fun d hd z hz => by
        rcases List.mem_append.1 hz with h | h
        · exact hacc z h
        · rw [List.mem_singleton.1 h]; exact hd
      by_cases cv : v > 0
      · obtain ⟨st, ⟨K, hK⟩, h1, h2⟩ := scene_l1 hs (p := p) (l := l) (ck := ck) ha hall n (i + 1) (acc ++ [all[i]]) q1 (by omega) (by omega) (by simp; omega) (hmem _ (hall _ (List.getElem_mem c))) i1
        refine ⟨st, ⟨K + 1, fun k hk => ?_⟩, h1, h2⟩
        obtain ⟨m, rfl⟩ : ∃ m, k = m + 1 := ⟨k - 1, by omega⟩
        have g := hK m (by omega)
        dsimp only at g ⊢
        rw [rollbacknetlaw27_scene.l1, if_pos (by omega), e1, Option.bind_some]
        dsimp only
        rw [if_pos cv, if_pos (by omega), if_pos (by omega), rd_at c, w64 (by omega)]
        exact g
      · obtain ⟨f, q2, e2, f0, f1, i2⟩ := next_ok (a := 10) hs i1 (by omega)
        obtain ⟨b, q3, e3, b0, b1, i3⟩ := next_ok (a := 3) hs i2 (by omega)
        obtain ⟨d, e4, hd⟩ := near_ok (field := f) (by_ := b) (hall _ (List.getElem_mem c)) (by constructor <;> omega)
        obtain ⟨st, ⟨K, hK⟩, h1, h2⟩ := scene_l1 hs (p := p) (l := l) (ck := ck) ha hall n (i + 1) (acc ++ [d]) q3 (by omega) (by omega) (by simp; omega) (hmem _ hd) i3
        refine ⟨st, ⟨K + 1, fun k hk => ?_⟩, h1, h2⟩
        obtain ⟨m, rfl⟩ : ∃ m, k = m + 1 := ⟨k - 1, by omega⟩
        have g := hK m (by omega)
        dsimp only at g ⊢
        rw [rollbacknetlaw27_scene.l1, if_pos (by omega), e1, Option.bind_some]
        dsimp only
        rw [if_neg cv, if_pos (by omega), e2, Option.bind_some]
        dsimp only
        rw [e3, Option.bind_some]
        dsimp only
        rw [rd_at c, e4, Option.bind_some]
        dsimp only
        rw [if_pos (by omega), w64 (by omega)]
        exact g
    · obtain ⟨ys, q', ⟨K, hK⟩, hl, hy, hq'⟩ := dets_ev (a := 3) hs hq (by omega) (by omega)
      refine ⟨acc ++ ys, ⟨K + 1, fun k hk => ?_⟩, by simp; omega, fun z hz => ?_⟩
      · obtain ⟨m, rfl⟩ : ∃ m, k = m + 1 := ⟨k - 1, by omega⟩
        have g := hK m (by omega)
        dsimp only at g ⊢
        rw [rollbacknetlaw27_scene.l1, if_neg (by omega), g, Option.bind_some]
        dsimp only
        rw [if_pos (by omega)]
      · rcases List.mem_append.1 hz with h | h
        · exact hacc z h
        · exact hy z h
theorem scene_j1 {s : List Int} (hs : Bytes s) {p q : Int} {l : List S37} {ck : List Int} (hp : I64 p) (hl : l.length < 900) (he : ∀ e ∈ l, EvI e) (hq : In s q) :
    ∃ st, Ev (fun k => rollbacknetlaw27_scene.j1 k p l ck s q) (p, l, ck, st) ∧ st.length ≤ l.length + 3 ∧ ∀ d ∈ st, DetI d := by
  obtain ⟨st, ⟨K, hK⟩, h1, h2⟩ := scene_l1 hs (p := p) (l := l) (ck := ck) (all := lin p l) (by rw [lin_len]; omega) (lin_ok hp (by omega) he) ((lin p l).length + 1) 0 [] q (by omega) (by omega) rfl (fun d hd => by simp at hd) hq
  rw [lin_len] at h1
  obtain ⟨K', hK'⟩ := reflin_ev (p := p) (l := l) (by omega)
  refine ⟨st, ⟨K + K' + 1, fun k hk => ?_⟩, h1, h2⟩
  obtain ⟨m, rfl⟩ : ∃ m, k = m + 1 := ⟨k - 1, by omega⟩
  have g := hK m (by omega)
  have g' := hK' m (by omega)
  dsimp only at g g' ⊢
  rw [rollbacknetlaw27_scene.j1, g', Option.bind_some]
  exact g
theorem scene_l0 {s : List Int} (hs : Bytes s) {p : Int} {l : List S37} (hp : I64 p) (hl : l.length < 900) (he : ∀ e ∈ l, EvI e) : ∀ (n i : Nat) (ck : List Int) (q : Int), l.length + 1 - i < n → i ≤ l.length + 1 → ck.length ≤ i → In s q →
    ∃ ck' st, Ev (fun k => rollbacknetlaw27_scene.l0 k p l ck (i : Int) s q) (p, l, ck', st) ∧ ck'.length ≤ l.length + 2 ∧ st.length ≤ l.length + 3 ∧ ∀ d ∈ st, DetI d
  | 0, _, _, _, h, _, _, _ => by omega
  | n + 1, i, ck, q, hn, hi, hc, hq => by
    by_cases c : i ≤ l.length
    · obtain ⟨v, q1, e1, v0, v1, i1⟩ := next_ok (a := 4) hs hq (by omega)
      by_cases cv : v = 1
      · obtain ⟨ck', st, ⟨K, hK⟩, h1, h2, h3⟩ := scene_l0 hs hp hl he n (i + 1) (ck ++ [(i : Int)]) q1 (by omega) (by omega) (by simp; omega) i1
        refine ⟨ck', st, ⟨K + 1, fun k hk => ?_⟩, h1, h2, h3⟩
        obtain ⟨m, rfl⟩ : ∃ m, k = m + 1 := ⟨k - 1, by omega⟩
        have g := hK m (by omega)
        dsimp only at g ⊢
        rw [rollbacknetlaw27_scene.l0, if_pos (by omega), e1, Option.bind_some]
        dsimp only
        rw [if_pos cv, if_pos (by omega), w64 (by omega)]
        exact g
      · obtain ⟨ck', st, ⟨K, hK⟩, h1, h2, h3⟩ := scene_l0 hs hp hl he n (i + 1) ck q1 (by omega) (by omega) (by omega) i1
        refine ⟨ck', st, ⟨K + 1, fun k hk => ?_⟩, h1, h2, h3⟩
        obtain ⟨m, rfl⟩ : ∃ m, k = m + 1 := ⟨k - 1, by omega⟩
        have g := hK m (by omega)
        dsimp only at g ⊢
        rw [rollbacknetlaw27_scene.l0, if_pos (by omega), e1, Option.bind_some]
        dsimp only
        rw [if_neg cv, w64 (by omega)]
        exact g
    · obtain ⟨v, q1, e1, v0, v1, i1⟩ := next_ok (a := 6) hs hq (by omega)
      by_cases cv : v = 5
      · obtain ⟨x, q2, e2, hx, i2⟩ := int_ok hs i1
        obtain ⟨st, ⟨K, hK⟩, h1, h2⟩ := scene_j1 hs (ck := ck ++ [x]) hp hl he i2
        refine ⟨ck ++ [x], st, ⟨K + 1, fun k hk => ?_⟩, by simp; omega, h1, h2⟩
        obtain ⟨m, rfl⟩ : ∃ m, k = m + 1 := ⟨k - 1, by omega⟩
        have g := hK m (by omega)
        dsimp only at g ⊢
        rw [rollbacknetlaw27_scene.l0, if_neg (by omega), e1, Option.bind_some]
        dsimp only
        rw [if_pos cv, e2, Option.bind_some]
        dsimp only
        rw [if_pos (by omega)]
        exact g
      · obtain ⟨st, ⟨K, hK⟩, h1, h2⟩ := scene_j1 hs (ck := ck) hp hl he i1
        refine ⟨ck, st, ⟨K + 1, fun k hk => ?_⟩, by omega, h1, h2⟩
        obtain ⟨m, rfl⟩ : ∃ m, k = m + 1 := ⟨k - 1, by omega⟩
        have g := hK m (by omega)
        dsimp only at g ⊢
        rw [rollbacknetlaw27_scene.l0, if_neg (by omega), e1, Option.bind_some]
        dsimp only
        rw [if_neg cv]
        exact g
theorem scene_ev {codes : List Int} (hb : ∀ x ∈ codes, (Lit.int .u8 x).wf = true) : ∃ p l ck st, Ev (fun k => rollbacknetlaw27_scene.f k codes) (p, l, ck, st) ∧ I64 p ∧ l.length ≤ 12 ∧ (∀ e ∈ l, EvI e) ∧ ck.length ≤ 14 ∧ st.length ≤ 15 ∧ ∀ d ∈ st, DetI d := by
  obtain ⟨t, e1, ht, hp⟩ := new_ok (s := codes) (a := 250) hb (by omega) (by omega)
  obtain ⟨p, q1, e2, p0, p1, i1⟩ := next_ok (a := 3) ht hp (by omega)
  obtain ⟨l, q2, ⟨K, hK⟩, hl, he, i2⟩ := events_ev (a := 12) ht i1 (by omega) (by omega)
  have hpI : I64 p := by constructor <;> omega
  obtain ⟨ck, st, ⟨K', hK'⟩, h1, h2, h3⟩ := scene_l0 ht hpI (by omega) he (l.length + 2) 0 [] q2 (by omega) (by omega) (by simp) i2
  refine ⟨p, l, ck, st, ⟨K + K', fun k hk => ?_⟩, hpI, by omega, he, by omega, by omega, h3⟩
  have g := hK k (by omega)
  have g' := hK' k (by omega)
  dsimp only at g g' ⊢
  rw [rollbacknetlaw27_scene.f, e1, Option.bind_some]
  dsimp only
  rw [e2, Option.bind_some]
  dsimp only
  rw [g, Option.bind_some]
  exact g'
/-! Lineage, Has, Restorable -/
theorem lin_loop {p : Int} {l : List S37} (hl : l.length < 1000000) : ∀ (n i : Nat), l.length - i < n → i ≤ l.length → Ev (fun k => determinant_Lineage.l0 k p ((lin p l).take i) l (l.length : Int) (i : Int)) (lin p l)
  | 0, _, h, _ => by omega
  | n + 1, i, hn, hi => by
    by_cases c : i < l.length
    · obtain ⟨K, hK⟩ := lin_loop hl n (i + 1) (by omega) (by omega)
      refine ⟨K + 1, fun k hk => ?_⟩
      obtain ⟨m, rfl⟩ : ∃ m, k = m + 1 := ⟨k - 1, by omega⟩
      have g := hK m (by omega)
      dsimp only at g ⊢
      rw [lin_succ p l c] at g
      rw [determinant_Lineage.l0, if_pos (by omega), if_pos (by omega), if_pos (by omega), if_pos (by rw [List.length_take]; omega), w64 (by omega)]
      exact g
    · refine ⟨1, fun k hk => ?_⟩
      obtain ⟨m, rfl⟩ : ∃ m, k = m + 1 := ⟨k - 1, by omega⟩
      dsimp only
      rw [determinant_Lineage.l0, if_neg (by omega), List.take_of_length_le (by rw [lin_len]; omega)]
theorem lin_ev {p : Int} {l : List S37} (hl : l.length < 1000000) : Ev (fun k => determinant_Lineage.f k p l) (lin p l) := lin_loop hl (l.length + 1) 0 (by omega) (by omega)
theorem refhas_loop {l : List S39} {d : S39} (hl : l.length < 1000000) : ∀ (n i : Nat), l.length - i < n → i ≤ l.length → Ev (fun k => rollbacknetref27_Has.l0 k l (i : Int) d.f0 d.f1 d.f2.f0 d.f2.f1 d.f2.f2 d.f2.f3.f0 d.f2.f3.f1 d.f2.f4 d.f2.f5) (decide (d ∈ l.drop i))
  | 0, _, h, _ => by omega
  | n + 1, i, hn, hi => by
    by_cases c : i < l.length
    · obtain ⟨K, hK⟩ := refhas_loop (d := d) hl n (i + 1) (by omega) (by omega)
      refine ⟨K + 1, fun k hk => ?_⟩
      obtain ⟨m, rfl⟩ : ∃ m, k = m + 1 := ⟨k - 1, by omega⟩
      have g := hK m (by omega)
      dsimp only at g ⊢
      rw [rollbacknetref27_Has.l0, if_pos (by omega), if_pos (by omega), rd_at c, List.drop_eq_getElem_cons c]
      by_cases e : l[i] = d
      · rw [if_pos ((eq9 _ _).2 e), decide_eq_true (by rw [e]; exact List.mem_cons_self)]
      · rw [if_neg (fun hh => e ((eq9 _ _).1 hh)), w64 (by omega)]
        rw [show decide (d ∈ l[i] :: l.drop (i + 1)) = decide (d ∈ l.drop (i + 1)) by
          congr 1
          rw [List.mem_cons, eq_iff_iff]
          exact ⟨fun h => h.elim (fun h => absurd h.symm e) id, .inr⟩]
        exact g
    · refine ⟨1, fun k hk => ?_⟩
      obtain ⟨m, rfl⟩ : ∃ m, k = m + 1 := ⟨k - 1, by omega⟩
      dsimp only
      rw [rollbacknetref27_Has.l0, if_neg (by omega), List.drop_eq_nil_of_le (by omega)]
      simp
theorem refhas_ev {l : List S39} (d : S39) (hl : l.length < 1000000) : Ev (fun k => rollbacknetref27_Has.f k l d.f0 d.f1 d.f2.f0 d.f2.f1 d.f2.f2 d.f2.f3.f0 d.f2.f3.f1 d.f2.f4 d.f2.f5) (decide (d ∈ l)) := refhas_loop hl (l.length + 1) 0 (by omega) (by omega)
theorem has_mem (l : List S39) (d : S39) : determinant_Restorable.has l d = decide (d ∈ l) := by
  rw [Bool.eq_iff_iff, decide_eq_true_iff]
  simp only [determinant_Restorable.has, List.any_eq_true, determinant_Restorable.eqD_iff]
  exact ⟨fun ⟨x, h, e⟩ => e ▸ h, fun h => ⟨d, h, rfl⟩⟩
theorem mark_fold (n : Nat) : ∀ (l : List Int) (s : List Bool), s.length = n + 1 → ∀ j : Nat, j ≤ n → (l.foldl (determinant_Restorable.mark n) s).getD j false = (s.getD j false || decide ((j : Int) ∈ l))
  | [], s, _, j, _ => by simp
  | c :: l, s, hs, j, hj => by
    have hm : (determinant_Restorable.mark n s c).length = n + 1 := by
      unfold determinant_Restorable.mark
      split
      · split
        · rw [List.length_set]; exact hs
        · exact hs
      · exact hs
    rw [List.foldl_cons, mark_fold n l _ hm j hj]
    have : (determinant_Restorable.mark n s c).getD j false = (s.getD j false || decide ((j : Int) = c)) := by
      unfold determinant_Restorable.mark
      by_cases h0 : 0 ≤ c
      · rw [if_pos h0]
        by_cases h1 : c ≤ n
        · rw [if_pos h1]
          by_cases e : (j : Int) = c
          · have : c.toNat = j := by omega
            rw [this, decide_eq_true e, Bool.or_true, List.getD_eq_getElem?_getD, List.getElem?_set_self (by omega)]
            rfl
          · rw [decide_eq_false e, Bool.or_false, List.getD_eq_getElem?_getD, List.getElem?_set_ne (by omega), ← List.getD_eq_getElem?_getD]
        · rw [if_neg h1, decide_eq_false (by omega), Bool.or_false]
      · rw [if_neg h0, decide_eq_false (by omega), Bool.or_false]
    rw [this, Bool.or_assoc]
    congr 1
    rw [Bool.eq_iff_iff]
    simp
theorem marks_at (n : Nat) (l : List Int) {j : Nat} (hj : j ≤ n) : rdOf false (determinant_Restorable.marks n l) (j : Int) = decide ((j : Int) ∈ l) := by
  have h := mark_fold n l (List.replicate (n + 1) false) (by simp) j hj
  have h0 : (List.replicate (n + 1) false).getD j false = false := by rw [List.getD_eq_getElem?_getD, List.getElem?_replicate]; split <;> rfl
  rw [h0, Bool.false_or] at h
  exact h
/-- The restorable indexes, and whether the last one asked is one. -/
def rst (p : Int) (l : List S37) (ck : List Int) (s : List S39) (i : Nat) : List Int × Bool := determinant_Restorable.outs p l s (determinant_Restorable.marks l.length ck) i
def good (p : Int) (l : List S37) (ck : List Int) (s : List S39) (j : Nat) (ok : Bool) : Bool := decide ((j : Int) ∈ ck) || determinant_Restorable.ask p l s j ok
theorem rst_succ (p : Int) (l : List S37) (ck : List Int) (s : List S39) {i : Nat} (hi : i ≤ l.length) : rst p l ck s (i + 1) = if good p l ck s i (rst p l ck s i).2 = true then ((rst p l ck s i).1 ++ [(i : Int)], true) else ((rst p l ck s i).1, false) := by
  unfold rst
  rw [determinant_Restorable.outs_succ]
  unfold determinant_Restorable.step good
  rw [marks_at _ _ hi]
theorem rst_len (p : Int) (l : List S37) (ck : List Int) (s : List S39) (i : Nat) : (rst p l ck s i).1.length ≤ i := determinant_Restorable.outs_len p l s _ i
theorem restorable_at {p : Int} {l : List S37} {ck : List Int} {s : List S39} (hp : I64 p) (hl : l.length < 1000000) (hck : ck.length < 1000000) (hs : s.length < 1000000) (he : ∀ e ∈ l, EvI e) (hd : ∀ d ∈ s, DetI d) :
    determinant_Restorable.f p l ck s = some (rst p l ck s (l.length + 1)).1 := by
  unfold determinant_Restorable.f
  have i64 : ∀ {x : Int}, I64 x → determinant_Restorable.okI x = true := fun h => decide_eq_true h
  have z : determinant_Restorable.okI 0 = true := by decide
  rw [if_pos]
  · rfl
  · unfold determinant_Restorable.fit
    simp only [Bool.and_eq_true, decide_eq_true_eq, List.all_eq_true]
    refine ⟨⟨⟨⟨⟨hl, hck⟩, hs⟩, fun d h => ?_⟩, i64 hp⟩, fun e h => ?_⟩
    · obtain ⟨a, b, c, d, e, f, g, h, i⟩ := hd d h
      simp only [determinant_Restorable.okD, Bool.and_eq_true]
      exact ⟨⟨⟨⟨⟨⟨⟨⟨i64 a, i64 b⟩, i64 c⟩, i64 d⟩, i64 e⟩, i64 f⟩, i64 g⟩, i64 h⟩, i64 i⟩
    · obtain ⟨c, d, e, f, g, h, i⟩ := he e h
      simp only [determinant_Restorable.okD, Bool.and_eq_true]
      exact ⟨⟨⟨⟨⟨⟨⟨⟨z, z⟩, i64 c⟩, i64 d⟩, i64 e⟩, i64 f⟩, i64 g⟩, i64 h⟩, i64 i⟩
theorem refrest_l1 {p : Int} {l : List S37} {ck : List Int} {s : List S39} (hck : ck.length < 1000000) {acc : List Int} {kk : Int} {r : List Int} (hacc : acc.length < 1000000) (hw : wrap64 (kk + 1) = kk + 1) : ∀ (n i : Nat) (g : Bool), ck.length - i < n → i ≤ ck.length →
    Ev (fun k => rollbacknetref27_Restorable.l0 k p l ck s (if (g || decide (kk ∈ ck.drop i)) = true then acc ++ [kk] else acc) (g || decide (kk ∈ ck.drop i)) (kk + 1)) r → Ev (fun k => rollbacknetref27_Restorable.l1 k p l ck s acc g kk (i : Int)) r
  | 0, _, _, h, _, _ => by omega
  | n + 1, i, g, hn, hi, hr => by
    by_cases c : i < ck.length
    · have hm : decide (kk ∈ ck.drop i) = (decide (ck[i] = kk) || decide (kk ∈ ck.drop (i + 1))) := by
        rw [List.drop_eq_getElem_cons c, Bool.eq_iff_iff]
        simp only [List.mem_cons, Bool.or_eq_true, decide_eq_true_eq]
        exact ⟨fun h => h.imp_left Eq.symm, fun h => h.imp_left Eq.symm⟩
      have hrd : rd ck (i : Int) = ck[i] := by simp [rd, List.getD_eq_getElem?_getD, c]
      cases g with
      | true =>
        obtain ⟨K, hK⟩ := refrest_l1 hck hacc hw n (i + 1) true (by omega) (by omega) (by simpa using hr)
        refine ⟨K + 1, fun k hk => ?_⟩
        obtain ⟨m, rfl⟩ : ∃ m, k = m + 1 := ⟨k - 1, by omega⟩
        have g := hK m (by omega)
        dsimp only at g ⊢
        rw [rollbacknetref27_Restorable.l1, if_pos (by omega), if_pos rfl, w64 (by omega)]
        exact g
      | false =>
        rw [hm, Bool.false_or] at hr
        obtain ⟨K, hK⟩ := refrest_l1 hck hacc hw n (i + 1) (decide (ck[i] = kk)) (by omega) (by omega) hr
        refine ⟨K + 1, fun k hk => ?_⟩
        obtain ⟨m, rfl⟩ : ∃ m, k = m + 1 := ⟨k - 1, by omega⟩
        have g := hK m (by omega)
        dsimp only at g ⊢
        rw [rollbacknetref27_Restorable.l1, if_pos (by omega), if_neg (by decide), if_pos (by omega), w64 (x := (i : Int) + 1) (by omega), hrd]
        exact g
    · have hz : decide (kk ∈ ck.drop i) = false := by rw [List.drop_eq_nil_of_le (by omega)]; simp
      rw [hz, Bool.or_false] at hr
      obtain ⟨K, hK⟩ := hr
      refine ⟨K + 1, fun k hk => ?_⟩
      obtain ⟨m, rfl⟩ : ∃ m, k = m + 1 := ⟨k - 1, by omega⟩
      have e := hK m (by omega)
      dsimp only at e ⊢
      rw [rollbacknetref27_Restorable.l1, if_neg (by omega), hw]
      cases g with
      | true => rw [if_pos rfl, if_pos (by omega)]; exact e
      | false => rw [if_neg (by decide)]; exact e
theorem refrest_loop {p : Int} {l : List S37} {ck : List Int} {s : List S39} (hl : l.length < 900000) (hck : ck.length < 1000000) (hs : s.length < 1000000) : ∀ (n i : Nat), l.length + 1 - i < n → i ≤ l.length + 1 →
    Ev (fun k => rollbacknetref27_Restorable.l0 k p l ck s (rst p l ck s i).1 (rst p l ck s i).2 (i : Int)) (rst p l ck s (l.length + 1)).1
  | 0, _, h, _ => by omega
  | n + 1, i, hn, hi => by
    by_cases c : i ≤ l.length
    · have ih := refrest_loop (p := p) hl hck hs n (i + 1) (by omega) (by omega)
      have hsucc := rst_succ p l ck s c
      have hlen := rst_len p l ck s i
      have core : ∀ g : Bool, determinant_Restorable.ask p l s i (rst p l ck s i).2 = g → Ev (fun k => rollbacknetref27_Restorable.j1 k p l ck s (rst p l ck s i).1 g (i : Int)) (rst p l ck s (l.length + 1)).1 := by
        intro g hg
        have e : good p l ck s i (rst p l ck s i).2 = (g || decide ((i : Int) ∈ ck.drop 0)) := by
          unfold good
          rw [hg, Bool.or_comm, List.drop_zero]
        have st : Ev (fun k => rollbacknetref27_Restorable.l1 k p l ck s (rst p l ck s i).1 g (i : Int) ((0 : Nat) : Int)) (rst p l ck s (l.length + 1)).1 := by
          refine refrest_l1 hck (by omega) (w64 (by omega)) (ck.length + 1) 0 g (by omega) (by omega) ?_
          rw [← e]
          rw [hsucc] at ih
          by_cases hg2 : good p l ck s i (rst p l ck s i).2 = true
          · rw [if_pos hg2] at ih ⊢
            rw [hg2]
            exact ih
          · rw [if_neg hg2] at ih ⊢
            rw [Bool.eq_false_iff.2 hg2]
            exact ih
        obtain ⟨K, hK⟩ := st
        refine ⟨K + 1, fun k hk => ?_⟩
        obtain ⟨m, rfl⟩ : ∃ m, k = m + 1 := ⟨k - 1, by omega⟩
        have e := hK m (by omega)
        dsimp only at e ⊢
        rw [rollbacknetref27_Restorable.j1]
        exact e
      cases hb : (rst p l ck s i).2 with
      | false =>
        obtain ⟨K, hK⟩ := core false (by rw [hb]; unfold determinant_Restorable.ask; split <;> simp)
        refine ⟨K + 1, fun k hk => ?_⟩
        obtain ⟨m, rfl⟩ : ∃ m, k = m + 1 := ⟨k - 1, by omega⟩
        have e := hK m (by omega)
        dsimp only at e ⊢
        rw [rollbacknetref27_Restorable.l0, if_pos (by omega), if_neg (by decide)]
        exact e
      | true =>
        have hpos : 0 < i := by
          rcases Nat.eq_zero_or_pos i with h | h
          · subst h
            simp [rst, determinant_Restorable.outs] at hb
          · exact h
        obtain ⟨q, rfl⟩ : ∃ q, i = q + 1 := ⟨i - 1, by omega⟩
        have ew : wrap64 (((q + 1 : Nat) : Int) - 1) = (q : Int) := by rw [w64 (by omega)]; omega
        have hask : determinant_Restorable.ask p l s (q + 1) true = decide ((⟨p, ((q + 1 : Nat) : Int), rd_T37 l (q : Int)⟩ : S39) ∈ s) := by
          unfold determinant_Restorable.ask
          rw [if_pos (by omega), if_pos rfl, ew, has_mem]
        obtain ⟨K, hK⟩ := core (decide ((⟨p, ((q + 1 : Nat) : Int), rd_T37 l (q : Int)⟩ : S39) ∈ s)) (by rw [hb]; exact hask)
        obtain ⟨K', hK'⟩ := refhas_ev (l := s) (⟨p, ((q + 1 : Nat) : Int), rd_T37 l (q : Int)⟩ : S39) hs
        refine ⟨K + K' + 1, fun k hk => ?_⟩
        obtain ⟨m, rfl⟩ : ∃ m, k = m + 1 := ⟨k - 1, by omega⟩
        have e := hK m (by omega)
        have e' := hK' m (by omega)
        dsimp only at e e' ⊢
        rw [rollbacknetref27_Restorable.l0, if_pos (by omega), if_pos rfl, ew, if_pos (by omega), if_pos (by omega), e', Option.bind_some]
        exact e
    · have hi' : i = l.length + 1 := by omega
      subst hi'
      refine ⟨1, fun k hk => ?_⟩
      obtain ⟨m, rfl⟩ : ∃ m, k = m + 1 := ⟨k - 1, by omega⟩
      dsimp only
      rw [rollbacknetref27_Restorable.l0, if_neg (by omega)]
theorem refrest_ev {p : Int} {l : List S37} {ck : List Int} {s : List S39} (hl : l.length < 900000) (hck : ck.length < 1000000) (hs : s.length < 1000000) : Ev (fun k => rollbacknetref27_Restorable.f k p l ck s) (rst p l ck s (l.length + 1)).1 :=
  refrest_loop hl hck hs (l.length + 2) 0 (by omega) (by omega)
theorem sameints_loop {l : List Int} (hl : l.length < 1000000) : ∀ (n i : Nat), l.length - i < n → i ≤ l.length → Ev (fun k => rollbacknetref23_SameInts.l0 k l l (i : Int)) true
  | 0, _, h, _ => by omega
  | n + 1, i, hn, hi => by
    by_cases c : i < l.length
    · obtain ⟨K, hK⟩ := sameints_loop hl n (i + 1) (by omega) (by omega)
      refine ⟨K + 1, fun k hk => ?_⟩
      obtain ⟨m, rfl⟩ : ∃ m, k = m + 1 := ⟨k - 1, by omega⟩
      have g := hK m (by omega)
      dsimp only at g ⊢
      rw [rollbacknetref23_SameInts.l0, if_pos (by omega), if_pos (by omega), if_pos (by omega), if_pos rfl, w64 (by omega)]
      exact g
    · refine ⟨1, fun k hk => ?_⟩
      obtain ⟨m, rfl⟩ : ∃ m, k = m + 1 := ⟨k - 1, by omega⟩
      dsimp only
      rw [rollbacknetref23_SameInts.l0, if_neg (by omega)]
theorem sameints_ev {l : List Int} (hl : l.length < 1000000) : Ev (fun k => rollbacknetref23_SameInts.f k l l) true := by
  obtain ⟨K, hK⟩ := sameints_loop hl (l.length + 1) 0 (by omega) (by omega)
  refine ⟨K, fun k hk => ?_⟩
  have g := hK k hk
  dsimp only at g ⊢
  rw [rollbacknetref23_SameInts.f, if_pos rfl]
  exact g
/-! what came in is well -/
theorem int_of {x : Int} (h : okInt .i64 x) : I64 x := by simpa [okInt, Lit.wf, IntKind.min, IntKind.max, IntKind.signed, IntKind.bits, I64] using h
theorem ev_of {e : S37} (h : ok37 e) : EvI e := by
  obtain ⟨a, b, c, ⟨d, e⟩, f, g⟩ := h
  exact ⟨int_of a, int_of b, int_of c, int_of d, int_of e, int_of f, int_of g⟩
theorem det_of {d : S39} (h : ok39 d) : DetI d := by
  obtain ⟨a, b, c⟩ := h
  obtain ⟨c0, c1, c2, c3, c4, c5, c6⟩ := ev_of c
  exact ⟨int_of a, int_of b, c0, c1, c2, c3, c4, c5, c6⟩
/-! what the restorable indexes are -/
theorem ask_true (p : Int) (l : List S37) (s : List S39) (j : Nat) (ok : Bool) : determinant_Restorable.ask p l s j ok = true ↔ ok = true ∧ (0 < j → (⟨p, (j : Int), rd_T37 l (wrap64 ((j : Int) - 1))⟩ : S39) ∈ s) := by
  unfold determinant_Restorable.ask
  by_cases h : 0 < j
  · rw [if_pos (by omega)]
    cases ok with
    | true => rw [if_pos rfl, has_mem, decide_eq_true_iff]; exact ⟨fun h' => ⟨rfl, fun _ => h'⟩, fun h' => h'.2 h⟩
    | false => rw [if_neg (by decide)]; exact ⟨fun h' => by simp at h', fun h' => by simp at h'⟩
  · rw [if_neg (by omega)]
    exact ⟨fun h' => ⟨h', fun hh => absurd hh h⟩, fun h' => h'.1⟩
theorem good_true (p : Int) (l : List S37) (ck : List Int) (s : List S39) (j : Nat) (ok : Bool) : good p l ck s j ok = true ↔ (j : Int) ∈ ck ∨ (ok = true ∧ (0 < j → (⟨p, (j : Int), rd_T37 l (wrap64 ((j : Int) - 1))⟩ : S39) ∈ s)) := by
  unfold good
  rw [Bool.or_eq_true, decide_eq_true_iff, ask_true]
theorem rst_grow (p : Int) (l : List S37) (ck : List Int) (s : List S39) {i : Nat} : ∀ (n : Nat), i + n ≤ l.length + 1 → ∀ x ∈ (rst p l ck s i).1, x ∈ (rst p l ck s (i + n)).1
  | 0, _, x, hx => hx
  | n + 1, h, x, hx => by
    have ih := rst_grow p l ck s n (by omega) x hx
    show x ∈ (rst p l ck s (i + n + 1)).1
    rw [rst_succ p l ck s (by omega)]
    split
    · exact List.mem_append_left _ ih
    · exact ih
/-! DeterminantGrows -/
theorem rst_mono {p : Int} {l : List S37} {ck ck' : List Int} {s s' : List S39} (hc : ∀ x ∈ ck, x ∈ ck') (hs : ∀ d ∈ s, d ∈ s') : ∀ i, i ≤ l.length + 1 → ((rst p l ck s i).2 = true → (rst p l ck' s' i).2 = true) ∧ ∀ x ∈ (rst p l ck s i).1, x ∈ (rst p l ck' s' i).1
  | 0, _ => ⟨fun h => by simp [rst, determinant_Restorable.outs] at h, fun x h => by simp [rst, determinant_Restorable.outs] at h⟩
  | i + 1, hi => by
    obtain ⟨h1, h2⟩ := rst_mono (p := p) (l := l) hc hs i (by omega)
    have hg : good p l ck s i (rst p l ck s i).2 = true → good p l ck' s' i (rst p l ck' s' i).2 = true := fun h => by
      rw [good_true] at h ⊢
      rcases h with h | ⟨h, h'⟩
      · exact .inl (hc _ h)
      · exact .inr ⟨h1 h, fun hp => hs _ (h' hp)⟩
    rw [rst_succ p l ck s (by omega), rst_succ p l ck' s' (by omega)]
    by_cases g : good p l ck s i (rst p l ck s i).2 = true
    · rw [if_pos g, if_pos (hg g)]
      refine ⟨fun _ => rfl, fun x hx => ?_⟩
      rcases List.mem_append.1 hx with h | h
      · exact List.mem_append_left _ (h2 x h)
      · exact List.mem_append_right _ h
    · rw [if_neg g]
      refine ⟨fun h => by simp at h, fun x hx => ?_⟩
      split
      · exact List.mem_append_left _ (h2 x hx)
      · exact h2 x hx
theorem part_l1 {a b : List Int} (hb : b.length < 1000000) {i : Nat} (hi : i < a.length) {r : Bool} : ∀ (n j : Nat) (g : Bool), b.length - j < n → j ≤ b.length → (g = true ∨ a[i] ∈ b.drop j) →
    Ev (fun k => rollbacknetlaw27_part.l0 k a b (wrap64 ((i : Int) + 1))) r → Ev (fun k => rollbacknetlaw27_part.l1 k a b (i : Int) g (j : Int)) r
  | 0, _, _, h, _, _, _ => by omega
  | n + 1, j, g, hn, hj, hg, hr => by
    by_cases c : j < b.length
    · have hrd : rd b (j : Int) = b[j] := by simp [rd, List.getD_eq_getElem?_getD, c]
      have hra : rd a (i : Int) = a[i] := by simp [rd, List.getD_eq_getElem?_getD, hi]
      cases g with
      | true =>
        obtain ⟨K, hK⟩ := part_l1 hb hi n (j + 1) true (by omega) (by omega) (.inl rfl) hr
        refine ⟨K + 1, fun k hk => ?_⟩
        obtain ⟨m, rfl⟩ : ∃ m, k = m + 1 := ⟨k - 1, by omega⟩
        have e := hK m (by omega)
        dsimp only at e ⊢
        rw [rollbacknetlaw27_part.l1, if_pos (by omega), if_pos rfl, w64 (x := (j : Int) + 1) (by omega)]
        exact e
      | false =>
        have hm : a[i] ∈ b.drop j := hg.elim (fun h => by simp at h) id
        obtain ⟨K, hK⟩ := part_l1 hb hi n (j + 1) (a[i] == b[j]) (by omega) (by omega) (by
          rw [List.drop_eq_getElem_cons c] at hm
          rcases List.mem_cons.1 hm with h | h
          · exact .inl (by simp [h])
          · exact .inr h) hr
        refine ⟨K + 1, fun k hk => ?_⟩
        obtain ⟨m, rfl⟩ : ∃ m, k = m + 1 := ⟨k - 1, by omega⟩
        have e := hK m (by omega)
        dsimp only at e ⊢
        rw [rollbacknetlaw27_part.l1, if_pos (by omega), if_neg (by decide), if_pos (by omega), if_pos (by omega), if_pos (by omega), w64 (x := (j : Int) + 1) (by omega), hrd, hra]
        exact e
    · have hgt : g = true := hg.elim id (fun h => by rw [List.drop_eq_nil_of_le (by omega)] at h; simp at h)
      subst hgt
      obtain ⟨K, hK⟩ := hr
      refine ⟨K + 1, fun k hk => ?_⟩
      obtain ⟨m, rfl⟩ : ∃ m, k = m + 1 := ⟨k - 1, by omega⟩
      have e := hK m (by omega)
      dsimp only at e ⊢
      rw [rollbacknetlaw27_part.l1, if_neg (by omega), if_pos rfl]
      exact e
theorem part_loop {a b : List Int} (ha : a.length < 1000000) (hb : b.length < 1000000) (h : ∀ x ∈ a, x ∈ b) : ∀ (n i : Nat), a.length - i < n → i ≤ a.length → Ev (fun k => rollbacknetlaw27_part.l0 k a b (i : Int)) true
  | 0, _, h, _ => by omega
  | n + 1, i, hn, hi => by
    by_cases c : i < a.length
    · have ih := part_loop ha hb h n (i + 1) (by omega) (by omega)
      have e1 : wrap64 ((i : Int) + 1) = ((i + 1 : Nat) : Int) := by rw [w64 (by omega)]; omega
      obtain ⟨K, hK⟩ := part_l1 (r := true) hb c (b.length + 1) 0 false (by omega) (by omega) (.inr (by rw [List.drop_zero]; exact h _ (List.getElem_mem c))) (by rw [e1]; exact ih)
      refine ⟨K + 1, fun k hk => ?_⟩
      obtain ⟨m, rfl⟩ : ∃ m, k = m + 1 := ⟨k - 1, by omega⟩
      have e := hK m (by omega)
      dsimp only at e ⊢
      rw [rollbacknetlaw27_part.l0, if_pos (by omega)]
      exact e
    · refine ⟨1, fun k hk => ?_⟩
      obtain ⟨m, rfl⟩ : ∃ m, k = m + 1 := ⟨k - 1, by omega⟩
      dsimp only
      rw [rollbacknetlaw27_part.l0, if_neg (by omega)]
theorem part_ev {a b : List Int} (ha : a.length < 1000000) (hb : b.length < 1000000) (h : ∀ x ∈ a, x ∈ b) : Ev (fun k => rollbacknetlaw27_part.f k a b) true := part_loop ha hb h (a.length + 1) 0 (by omega) (by omega)
theorem DeterminantGrows : rollbacknetlaw27_DeterminantGrows.Pure := by
  intro codes more cp hc hm hcp
  obtain ⟨K0, h0⟩ := awake_ev
  by_cases c0 : (more.length : Int) > 60
  · refine ⟨K0 + 1, ?_⟩
    rw [rollbacknetlaw27_DeterminantGrows.f, h0 (K0 + 1) (by omega), Option.bind_some, if_pos rfl, decide_eq_true c0, rollbacknetlaw27_DeterminantGrows.j0, if_pos rfl, decide_eq_true c0]
  obtain ⟨p, l, ck, s, ⟨K1, h1⟩, hp, hl, he, hck, hs, hd⟩ := scene_ev hc.2.2
  obtain ⟨c, e2, c1, c2⟩ := mod_ok (a := cp) (m := (l.length : Int) + 1) (int_of hcp) (by omega) (by omega)
  have hw : wrap64 ((l.length : Int) + 1) = (l.length : Int) + 1 := w64 (by omega)
  have hul := union_len s more
  have hdu : ∀ d ∈ union s more, DetI d := fun d h => by
    rcases (union_mem s more d).1 h with h | h
    · exact hd d h
    · exact det_of (hm.2.2 d h)
  obtain ⟨K2, h2⟩ := merge_ev (a := s) (b := more) (by omega) (by omega)
  have r1 := restorable_at (p := p) (l := l) (ck := ck) (s := s) hp (by omega) (by omega) (by omega) he hd
  have r2 := restorable_at (p := p) (l := l) (ck := ck ++ [c]) (s := union s more) hp (by omega) (by simp; omega) (by omega) he hdu
  have l1 := rst_len p l ck s (l.length + 1)
  have l2 := rst_len p l (ck ++ [c]) (union s more) (l.length + 1)
  have sub := (rst_mono (p := p) (l := l) (ck := ck) (ck' := ck ++ [c]) (s := s) (s' := union s more) (fun x h => List.mem_append_left _ h) (fun d h => (union_mem s more d).2 (.inl h)) (l.length + 1) (Nat.le_refl _)).2
  obtain ⟨K3, h3⟩ := part_ev (a := (rst p l ck s (l.length + 1)).1) (b := (rst p l (ck ++ [c]) (union s more) (l.length + 1)).1) (by omega) (by omega) sub
  obtain ⟨q, rfl⟩ := Int.eq_ofNat_of_zero_le c1
  have hq : q ≤ l.length := by omega
  have hin : (q : Int) ∈ (rst p l (ck ++ [(q : Int)]) (union s more) (l.length + 1)).1 := by
    have h := rst_grow p l (ck ++ [(q : Int)]) (union s more) (i := q + 1) (l.length - q) (by omega) (q : Int) (by
      rw [rst_succ _ _ _ _ hq, if_pos ((good_true _ _ _ _ _ _).2 (.inl (List.mem_append_right _ (List.mem_singleton.2 rfl))))]
      exact List.mem_append_right _ (List.mem_singleton.2 rfl))
    rwa [show q + 1 + (l.length - q) = l.length + 1 by omega] at h
  obtain ⟨K4, h4⟩ := part_ev (a := [(q : Int)]) (b := (rst p l (ck ++ [(q : Int)]) (union s more) (l.length + 1)).1) (by simp) (by omega) (fun x hx => by rw [List.mem_singleton.1 hx]; exact hin)
  obtain ⟨M, hM⟩ : ∃ M, M = K0 + K1 + K2 + K3 + K4 := ⟨_, rfl⟩
  refine ⟨M + 1, ?_⟩
  have g1 := h1 M (by omega)
  have g2 := h2 M (by omega)
  have g3 := h3 M (by omega)
  have g4 := h4 M (by omega)
  dsimp only at g1 g2 g3 g4
  rw [rollbacknetlaw27_DeterminantGrows.f, h0 (M + 1) (by omega), Option.bind_some, if_pos rfl, decide_eq_false c0, rollbacknetlaw27_DeterminantGrows.j0, if_neg (by decide), g1, Option.bind_some]
  dsimp only
  rw [r1, Option.bind_some, hw, e2, Option.bind_some, if_pos (by simp; omega), Option.bind_some, List.nil_append, if_pos (by omega), g2, Option.bind_some, r2, Option.bind_some, g3, Option.bind_some, if_pos rfl, g4, Option.bind_some]
end Go.Proofs.Ytjlpggpkbcgekaa.Pure
