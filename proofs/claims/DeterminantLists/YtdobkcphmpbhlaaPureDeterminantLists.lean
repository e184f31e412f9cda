/- DeterminantLists (P27.2): for every list of determinants, determinant, choices, process and index the stock with a further determinant, whether one is there, and what Cut and Discard leave are the reference's; no condition. -/
import Derived.Test.YtdobkcphmpbhlaaPGLx0
import Derived.Test.YtdobkcphmpbhlaaPGLx10
import Derived.Test.YtdobkcphmpbhlaaPGLx11
import Derived.Test.YtdobkcphmpbhlaaPGLx12
import Derived.Test.YtdobkcphmpbhlaaPGLx13
import Derived.Test.YtdobkcphmpbhlaaPGLx14
import Derived.Test.YtdobkcphmpbhlaaPGLx15
import Derived.Test.YtdobkcphmpbhlaaPGLx5
import Derived.Test.YtdobkcphmpbhlaaPGLx6
import Derived.Test.YtdobkcphmpbhlaaPGLx7
import Derived.Test.YtdobkcphmpbhlaaPGLx8
import Derived.Test.YtdobkcphmpbhlaaPGLx9
namespace Go.Proofs.Ytdobkcphmpbhlaa.Pure
open Go.RowKit Go.Proofs.Ytdobkcphmpbhlaa.PGL Go.Proofs.YtdobkcphmpbhlaaW.PrintWords Go.Proofs.YtdobkcphmpbhlaaW.PrintLast
set_option linter.unusedVariables false
set_option linter.unusedSimpArgs false
theorem awake_ev : Ev rollbacknetlaw27_awake.f true := Ev.of (rollbacknetlaw27_awake.mono) (k := 12) (by kernel_rfl)
/-! the order of determinants -/
instance : DecidableEq S24 := fun a b => by
  rcases a with ⟨a0, a1⟩; rcases b with ⟨b0, b1⟩; simp only [S24.mk.injEq]; infer_instance
instance : DecidableEq S26 := fun a b => by
  rcases a with ⟨a0, a1, a2, a3, a4, a5⟩; rcases b with ⟨b0, b1, b2, b3, b4, b5⟩; simp only [S26.mk.injEq]; infer_instance
instance : DecidableEq S28 := fun a b => by
  rcases a with ⟨a0, a1, a2⟩; rcases b with ⟨b0, b1, b2⟩; simp only [S28.mk.injEq]; infer_instance
def keys (d : S28) : List Int := [d.f0, d.f1, d.f2.f1, d.f2.f0, d.f2.f2, d.f2.f3.f0, d.f2.f3.f1, d.f2.f4, d.f2.f5]
def lexc : List Int → List Int → Int
  | a :: l, b :: m => if a < b then -1 else if a > b then 1 else lexc l m
  | _, _ => 0
def cmp (a b : S28) : Int := lexc (keys a) (keys b)
theorem keys_inj {a b : S28} (h : keys a = keys b) : a = b := by
  rcases a with ⟨a0, a1, a2, a3, a4, ⟨a5, a6⟩, a7, a8⟩
  rcases b with ⟨b0, b1, b2, b3, b4, ⟨b5, b6⟩, b7, b8⟩
  simp [keys] at h
  obtain ⟨rfl, rfl, rfl, rfl, rfl, rfl, rfl, rfl, rfl⟩ := h
  rfl
theorem lexc_vals (l m : List Int) : lexc l m = -1 ∨ lexc l m = 0 ∨ lexc l m = 1 := by
  induction l generalizing m with
  | nil => exact .inr (.inl rfl)
  | cons a l ih =>
    cases m with
    | nil => exact .inr (.inl rfl)
    | cons b m =>
      unfold lexc
      split
      · exact .inl rfl
      · split
        · exact .inr (.inr rfl)
        · exact ih m
theorem lexc_refl (l : List Int) : lexc l l = 0 := by
  induction l with
  | nil => rfl
  | cons a l ih => simp [lexc, ih]
theorem lexc_zero : ∀ (l m : List Int), l.length = m.length → lexc l m = 0 → l = m
  | [], [], _, _ => rfl
  | a :: l, b :: m, hl, h => by
    unfold lexc at h
    split at h
    · simp at h
    · split at h
      · simp at h
      · have : a = b := by omega
        subst this
        rw [lexc_zero l m (by simpa using hl) h]
theorem lexc_neg : ∀ (l m : List Int), lexc m l = - lexc l m
  | [], [] => rfl
  | [], _ :: _ => rfl
  | _ :: _, [] => rfl
  | a :: l, b :: m => by
    unfold lexc
    by_cases h1 : a < b
    · rw [if_pos h1, if_neg (by omega), if_pos h1]; rfl
    · by_cases h2 : b < a
      · rw [if_pos h2, if_neg h1, if_pos h2]
      · rw [if_neg h2, if_neg h1, if_neg h1, if_neg h2, lexc_neg l m]
theorem lexc_trans : ∀ (l m n : List Int), l.length = m.length → m.length = n.length → lexc l m < 0 → lexc m n < 0 → lexc l n < 0
  | [], _, _, _, _, h, _ => by simp [lexc] at h
  | a :: l, [], _, hl, _, _, _ => by simp at hl
  | a :: l, b :: m, [], _, hm, _, _ => by simp at hm
  | a :: l, b :: m, c :: n, hl, hm, h1, h2 => by
    unfold lexc at h1 h2 ⊢
    by_cases e1 : a < b
    · by_cases e2 : b < c
      · rw [if_pos (by omega)]; decide
      · rw [if_neg e2] at h2
        by_cases e3 : b > c
        · rw [if_pos e3] at h2; simp at h2
        · rw [if_pos (by omega)]; decide
    · rw [if_neg e1] at h1
      by_cases e3 : a > b
      · rw [if_pos e3] at h1; simp at h1
      · rw [if_neg e3] at h1
        by_cases e2 : b < c
        · rw [if_pos (by omega)]; decide
        · rw [if_neg e2] at h2
          by_cases e4 : b > c
          · rw [if_pos e4] at h2; simp at h2
          · rw [if_neg e4] at h2
            rw [if_neg (by omega), if_neg (by omega)]
            exact lexc_trans l m n (by simpa using hl) (by simpa using hm) h1 h2
theorem cmp_refl (a : S28) : cmp a a = 0 := lexc_refl _
theorem cmp_zero {a b : S28} (h : cmp a b = 0) : a = b := keys_inj (lexc_zero _ _ rfl h)
theorem cmp_neg (a b : S28) : cmp b a = - cmp a b := lexc_neg _ _
theorem cmp_trans {a b c : S28} (h1 : cmp a b < 0) (h2 : cmp b c < 0) : cmp a c < 0 := lexc_trans (keys a) (keys b) (keys c) rfl rfl h1 h2
theorem compare_at (k : Nat) (a b : S28) : determinant_Compare.f (k + 10) a.f0 a.f1 a.f2.f0 a.f2.f1 a.f2.f2 a.f2.f3.f0 a.f2.f3.f1 a.f2.f4 a.f2.f5 b.f0 b.f1 b.f2.f0 b.f2.f1 b.f2.f2 b.f2.f3.f0 b.f2.f3.f1 b.f2.f4 b.f2.f5 = some (cmp a b) := by
  rcases a with ⟨a0, a1, a2, a3, a4, ⟨a5, a6⟩, a7, a8⟩
  rcases b with ⟨b0, b1, b2, b3, b4, ⟨b5, b6⟩, b7, b8⟩
  have hs : ∀ (p : Prop) [Decidable p] (x y : Int), (if p then some x else some y) = some (if p then x else y) := fun p _ x y => by split <;> rfl
  simp only [determinant_Compare.f, determinant_fields.f, Option.bind_some]
  simp only [determinant_Compare.l0_rd]
  simp [rd, cmp, keys, lexc, hs]
/-! small words -/
theorem w64 {x : Int} (h : -9223372036854775808 ≤ x ∧ x ≤ 9223372036854775807) : wrap64 x = x := by unfold wrap64; omega
theorem rd_at {xs : List S28} {i : Nat} (h : i < xs.length) : rd_T28 xs (i : Int) = xs[i] := by simp [rd_T28, List.getD_eq_getElem?_getD, h]
theorem eq9 (a d : S28) : ((a.f0 == d.f0) && ((a.f1 == d.f1) && ((a.f2.f0 == d.f2.f0) && ((a.f2.f1 == d.f2.f1) && ((a.f2.f2 == d.f2.f2) && (((a.f2.f3.f0 == d.f2.f3.f0) && (a.f2.f3.f1 == d.f2.f3.f1)) && ((a.f2.f4 == d.f2.f4) && (a.f2.f5 == d.f2.f5)))))))) = true ↔ a = d := by
  rcases a with ⟨a0, a1, a2, a3, a4, ⟨a5, a6⟩, a7, a8⟩
  rcases d with ⟨b0, b1, b2, b3, b4, ⟨b5, b6⟩, b7, b8⟩
  simp [and_assoc]
/-! insertion into a sorted stock -/
theorem shift_cat (A B : List S28) (z d : S28) : (shiftAt (A ++ B ++ [z]) A.length).set A.length d = A ++ d :: B := by
  unfold shiftAt
  have e1 : (A ++ B ++ [z]).drop A.length = B ++ [z] := by rw [List.append_assoc, List.drop_left]
  have e2 : (A ++ B ++ [z]).length - (A.length + 1) = B.length := by simp; omega
  have e3 : (B ++ [z]).take B.length = B := List.take_left
  rw [e1, e2, e3]
  obtain ⟨c, C, hC⟩ : ∃ c C, B ++ [z] = c :: C := by
    cases B with
    | nil => exact ⟨z, [], rfl⟩
    | cons b B => exact ⟨b, B ++ [z], rfl⟩
  have e4 : (A ++ B ++ [z]).take (A.length + 1) = A ++ [c] := by
    rw [List.append_assoc, hC, List.take_append]
    simp [List.take_of_length_le (show A.length ≤ A.length + 1 by omega)]
  rw [e4, List.append_assoc]
  simp [List.set_append]
theorem shift_put (xs : List S28) (z d : S28) (p : Nat) (hp : p ≤ xs.length) : (shiftAt (xs ++ [z]) p).set p d = xs.take p ++ d :: xs.drop p := by
  have h := shift_cat (xs.take p) (xs.drop p) z d
  rwa [List.take_append_drop, List.length_take, Nat.min_eq_left hp] at h
def Sorted (xs : List S28) : Prop := xs.Pairwise (fun a b => cmp a b < 0)
def ins (xs : List S28) (d : S28) : List S28 := if d ∈ xs then xs else xs.filter (fun e => decide (cmp e d < 0)) ++ d :: xs.filter (fun e => decide (¬ cmp e d < 0))
theorem ins_mem (xs : List S28) (d e : S28) : e ∈ ins xs d ↔ e = d ∨ e ∈ xs := by
  unfold ins
  split
  · exact ⟨.inr, fun h => h.elim (fun h => h ▸ ‹_›) id⟩
  · simp only [List.mem_append, List.mem_cons, List.mem_filter, decide_eq_true_eq]
    by_cases h : cmp e d < 0
    · simp [h, or_comm]
    · simp [h]
theorem cmp_gt {a b : S28} (h : ¬ cmp a b < 0) (hne : a ≠ b) : cmp b a < 0 := by
  have h0 : cmp a b ≠ 0 := fun h => hne (cmp_zero h)
  have := cmp_neg a b
  omega
theorem ins_sorted {xs : List S28} (h : Sorted xs) (d : S28) : Sorted (ins xs d) := by
  unfold ins
  split
  · exact h
  · rename_i hd
    unfold Sorted at h ⊢
    rw [List.pairwise_append]
    refine ⟨h.filter _, ?_, ?_⟩
    · rw [List.pairwise_cons]
      refine ⟨fun b hb => ?_, h.filter _⟩
      rw [List.mem_filter] at hb
      exact cmp_gt (by simpa using hb.2) (fun e => hd (e ▸ hb.1))
    · intro a ha b hb
      rw [List.mem_filter] at ha
      have h1 : cmp a d < 0 := by simpa using ha.2
      rcases List.mem_cons.1 hb with rfl | hb
      · exact h1
      · rw [List.mem_filter] at hb
        exact cmp_trans h1 (cmp_gt (by simpa using hb.2) (fun e => hd (e ▸ hb.1)))
theorem sorted_ext : ∀ {xs ys : List S28}, Sorted xs → Sorted ys → (∀ e, e ∈ xs ↔ e ∈ ys) → xs = ys
  | [], [], _, _, _ => rfl
  | [], y :: ys, _, _, h => by have := (h y).2 (List.mem_cons_self); simp at this
  | x :: xs, [], _, _, h => by have := (h x).1 (List.mem_cons_self); simp at this
  | x :: xs, y :: ys, hx, hy, h => by
    unfold Sorted at hx hy
    rw [List.pairwise_cons] at hx hy
    have hxy : x = y := by
      rcases List.mem_cons.1 ((h x).1 List.mem_cons_self) with e | e
      · exact e
      · rcases List.mem_cons.1 ((h y).2 List.mem_cons_self) with e' | e'
        · exact e'.symm
        · have h1 := hx.1 y e'
          have h2 := hy.1 x e
          have := cmp_neg x y
          omega
    subst hxy
    have hn : ∀ {zs : List S28}, (∀ a ∈ zs, cmp x a < 0) → x ∉ zs := fun hz hm => by
      have := hz x hm
      rw [cmp_refl] at this
      omega
    congr 1
    refine sorted_ext hx.2 hy.2 (fun e => ⟨fun he => ?_, fun he => ?_⟩)
    · rcases List.mem_cons.1 ((h e).1 (List.mem_cons_of_mem _ he)) with e' | e'
      · exact absurd (e' ▸ he) (hn hx.1)
      · exact e'
    · rcases List.mem_cons.1 ((h e).2 (List.mem_cons_of_mem _ he)) with e' | e'
      · exact absurd (e' ▸ he) (hn hy.1)
      · exact e'
theorem mid_eq {lo hi : Nat} (h : lo + hi < 10000000) : wrap64 (Int.tdiv (wrap64 ((lo : Int) + hi)) 2) = (((lo + hi) / 2 : Nat) : Int) := by
  rw [w64 (x := (lo : Int) + hi) (by omega)]
  have : Int.tdiv ((lo : Int) + hi) 2 = (((lo + hi) / 2 : Nat) : Int) := by
    rw [Int.tdiv_eq_ediv_of_nonneg (by omega)]
    omega
  rw [this, w64 (by omega)]
theorem split_at {xs : List S28} {d : S28} {p : Nat} (h1 : ∀ i (h : i < xs.length), i < p → cmp xs[i] d < 0) (h2 : ∀ i (h : i < xs.length), p ≤ i → ¬ cmp xs[i] d < 0) :
    xs.filter (fun e => decide (cmp e d < 0)) = xs.take p ∧ xs.filter (fun e => decide (¬ cmp e d < 0)) = xs.drop p := by
  have g1 : ∀ e ∈ xs.take p, cmp e d < 0 := fun e he => by
    obtain ⟨i, hi, rfl⟩ := List.getElem_of_mem he
    rw [List.getElem_take]
    rw [List.length_take] at hi
    exact h1 i (by omega) (by omega)
  have g2 : ∀ e ∈ xs.drop p, ¬ cmp e d < 0 := fun e he => by
    obtain ⟨i, hi, rfl⟩ := List.getElem_of_mem he
    rw [List.getElem_drop]
    rw [List.length_drop] at hi
    exact h2 (p + i) (by omega) (by omega)
  constructor
  · conv => lhs; rw [← List.take_append_drop p xs]
    rw [List.filter_append, List.filter_eq_self.2 (fun e he => by simpa using g1 e he), List.filter_eq_nil_iff.2 (fun e he => by simpa using g2 e he), List.append_nil]
  · conv => lhs; rw [← List.take_append_drop p xs]
    rw [List.filter_append, List.filter_eq_nil_iff.2 (fun e he => by simpa using g1 e he), List.filter_eq_self.2 (fun e he => by simpa using g2 e he), List.nil_append]
theorem insert_loop {xs : List S28} {d : S28} (hs : Sorted xs) (hlen : xs.length < 1000000) : ∀ (n lo hi : Nat), hi - lo < n → lo ≤ hi → hi ≤ xs.length →
    (∀ i (h : i < xs.length), i < lo → cmp xs[i] d < 0) → (∀ i (h : i < xs.length), hi ≤ i → ¬ cmp xs[i] d < 0) → Ev (fun k => determinant_insert.l0 k xs lo hi d.f0 d.f1 d.f2.f0 d.f2.f1 d.f2.f2 d.f2.f3.f0 d.f2.f3.f1 d.f2.f4 d.f2.f5) (ins xs d)
  | 0, lo, hi, h, _, _, _, _ => by omega
  | n + 1, lo, hi, hn, hle, hhi, h1, h2 => by
    by_cases c : lo < hi
    · have hm : (lo + hi) / 2 < xs.length := by omega
      have hlt : ((((lo + hi) / 2 : Nat) : Int)) < (xs.length : Int) := by omega
      by_cases cc : cmp xs[(lo + hi) / 2] d < 0
      · obtain ⟨K, hK⟩ := insert_loop hs hlen n ((lo + hi) / 2 + 1) hi (by omega) (by omega) hhi (fun i h hi' => by
          by_cases e : i = (lo + hi) / 2
          · subst e; exact cc
          · have hp := (List.pairwise_iff_getElem.1 hs) i ((lo + hi) / 2) h hm (by omega)
            exact cmp_trans hp cc) h2
        refine ⟨K + 11, fun k hk => ?_⟩
        obtain ⟨m, rfl⟩ : ∃ m, k = m + 10 + 1 := ⟨k - 11, by omega⟩
        dsimp only
        rw [determinant_insert.l0, if_pos (by omega), mid_eq (by omega), if_pos (by omega), if_pos hlt, rd_at hm, compare_at, Option.bind_some, if_pos cc, w64 (by omega)]
        exact hK (m + 10) (by omega)
      · obtain ⟨K, hK⟩ := insert_loop hs hlen n lo ((lo + hi) / 2) (by omega) (by omega) (by omega) h1 (fun i h hi' => by
          by_cases e : i = (lo + hi) / 2
          · subst e; exact cc
          · have hp := (List.pairwise_iff_getElem.1 hs) ((lo + hi) / 2) i hm h (by omega)
            exact fun hlt' => cc (cmp_trans hp hlt'))
        refine ⟨K + 11, fun k hk => ?_⟩
        obtain ⟨m, rfl⟩ : ∃ m, k = m + 10 + 1 := ⟨k - 11, by omega⟩
        dsimp only
        rw [determinant_insert.l0, if_pos (by omega), mid_eq (by omega), if_pos (by omega), if_pos hlt, rd_at hm, compare_at, Option.bind_some, if_neg cc]
        exact hK (m + 10) (by omega)
    · obtain rfl : lo = hi := by omega
      obtain ⟨f1, f2⟩ := split_at h1 h2
      refine ⟨1, fun k hk => ?_⟩
      obtain ⟨m, rfl⟩ : ∃ m, k = m + 1 := ⟨k - 1, by omega⟩
      have put : (shiftAt (xs ++ [(⟨0, 0, (⟨0, 0, 0, (⟨0, 0⟩ : S24), 0, 0⟩ : S26)⟩ : S28)]) lo).set lo (⟨d.f0, d.f1, (⟨d.f2.f0, d.f2.f1, d.f2.f2, (⟨d.f2.f3.f0, d.f2.f3.f1⟩ : S24), d.f2.f4, d.f2.f5⟩ : S26)⟩ : S28) = xs.take lo ++ d :: xs.drop lo := shift_put xs _ d lo hhi
      have hl1 : (xs ++ [(⟨0, 0, (⟨0, 0, 0, (⟨0, 0⟩ : S24), 0, 0⟩ : S26)⟩ : S28)]).length = xs.length + 1 := by simp
      dsimp only
      rw [determinant_insert.l0, if_neg (by omega)]
      by_cases e : lo < xs.length
      · rw [if_pos (by omega), if_pos (by omega), rd_at e]
        by_cases he : xs[lo] = d
        · rw [if_pos ((eq9 _ _).2 he)]
          unfold ins
          rw [if_pos (he ▸ List.getElem_mem e)]
        · have hnd : d ∉ xs := fun hd => by
            obtain ⟨j, hj, hjd⟩ := List.getElem_of_mem hd
            by_cases jl : j < lo
            · have := h1 j hj jl
              rw [hjd, cmp_refl] at this
              omega
            · by_cases je : j = lo
              · subst je; exact he hjd
              · have := (List.pairwise_iff_getElem.1 hs) lo j e hj (by omega)
                rw [hjd] at this
                exact h2 lo e (Nat.le_refl _) this
          rw [if_neg (fun hh => he ((eq9 _ _).1 hh)), if_pos (by omega), Option.bind_some, w64 (by omega), hl1, if_pos (by omega), if_pos (by omega), if_pos (by omega), if_pos (by omega), Int.toNat_natCast, put]
          unfold ins
          rw [if_neg hnd, f1, f2]
      · have hnd : d ∉ xs := fun hd => by
          obtain ⟨j, hj, hjd⟩ := List.getElem_of_mem hd
          have := h1 j hj (by omega)
          rw [hjd, cmp_refl] at this
          omega
        rw [if_neg (by omega), if_pos (by omega), Option.bind_some, w64 (by omega), hl1, if_pos (by omega), if_pos (by omega), if_pos (by omega), if_pos (by omega), if_pos (by omega), Int.toNat_natCast, put]
        unfold ins
        rw [if_neg hnd, f1, f2]
theorem insert_ev {xs : List S28} (d : S28) (hs : Sorted xs) (hlen : xs.length < 1000000) : Ev (fun k => determinant_insert.f k xs d.f0 d.f1 d.f2.f0 d.f2.f1 d.f2.f2 d.f2.f3.f0 d.f2.f3.f1 d.f2.f4 d.f2.f5) (ins xs d) :=
  insert_loop hs hlen (xs.length + 1) 0 xs.length (by omega) (by omega) (Nat.le_refl _) (fun i h hi => by omega) (fun i h hi => by omega)
theorem ins_len (xs : List S28) (d : S28) : (ins xs d).length ≤ xs.length + 1 := by
  unfold ins
  split
  · omega
  · have : (xs.filter (fun e => decide (cmp e d < 0))).length + (xs.filter (fun e => decide (¬ cmp e d < 0))).length = xs.length := by
      induction xs with
      | nil => rfl
      | cons a xs ih =>
        have ih := ih (fun h => by rename_i hd; exact hd (List.mem_cons_of_mem _ h))
        by_cases h : cmp a d < 0
        · simp only [List.filter_cons, h, decide_true, not_true, decide_false, List.length_cons, if_true, Bool.false_eq_true, if_false]; omega
        · simp only [List.filter_cons, h, decide_false, not_false_eq_true, decide_true, List.length_cons, if_true, Bool.false_eq_true, if_false]; omega
    simp only [List.length_append, List.length_cons]
    omega
theorem fold_sorted : ∀ (l acc : List S28), Sorted acc → Sorted (l.foldl ins acc)
  | [], _, h => h
  | d :: l, acc, h => fold_sorted l _ (ins_sorted h d)
theorem fold_mem : ∀ (l acc : List S28) (e : S28), e ∈ l.foldl ins acc ↔ e ∈ acc ∨ e ∈ l
  | [], acc, e => by simp
  | d :: l, acc, e => by
    rw [List.foldl_cons, fold_mem l, ins_mem, List.mem_cons]
    constructor
    · rintro ((h | h) | h) <;> simp [h]
    · rintro (h | h | h) <;> simp [h]
theorem fold_len : ∀ (l acc : List S28), (l.foldl ins acc).length ≤ acc.length + l.length
  | [], acc => by simp
  | d :: l, acc => by
    have h1 := fold_len l (ins acc d)
    have h2 := ins_len acc d
    simp only [List.foldl_cons, List.length_cons]
    omega
theorem merge1_loop {l : List S28} : ∀ (n i : Nat) (acc : List S28), l.length - i < n → i ≤ l.length → Sorted acc → acc.length + (l.length - i) < 1000000 → l.length < 1000000 →
    Ev (fun k => determinant_Merge.l1 k acc l (l.length : Int) (i : Int)) ((l.drop i).foldl ins acc)
  | 0, _, _, h, _, _, _, _ => by omega
  | n + 1, i, acc, hn, hi, hs, hl, hl2 => by
    by_cases c : i < l.length
    · have hil := ins_len acc l[i]
      obtain ⟨K, hK⟩ := merge1_loop n (i + 1) (ins acc l[i]) (by omega) (by omega) (ins_sorted hs _) (by omega) hl2
      obtain ⟨K', hK'⟩ := insert_ev l[i] hs (by omega)
      refine ⟨K + K' + 1, fun k hk => ?_⟩
      obtain ⟨m, rfl⟩ : ∃ m, k = m + 1 := ⟨k - 1, by omega⟩
      have e1 := hK' m (by omega)
      have e2 := hK m (by omega)
      dsimp only at e1 e2 ⊢
      rw [determinant_Merge.l1, if_pos (by omega), if_pos (by omega), if_pos (by omega), rd_at c, e1, Option.bind_some, w64 (by omega)]
      rw [List.drop_eq_getElem_cons c, List.foldl_cons]
      exact e2
    · refine ⟨1, fun k hk => ?_⟩
      obtain ⟨m, rfl⟩ : ∃ m, k = m + 1 := ⟨k - 1, by omega⟩
      dsimp only
      rw [determinant_Merge.l1, if_neg (by omega), List.drop_eq_nil_of_le (by omega)]
      rfl
theorem merge0_loop {l b : List S28} (hb : b.length < 400000) : ∀ (n i : Nat) (acc : List S28), l.length - i < n → i ≤ l.length → Sorted acc → acc.length + (l.length - i) < 400000 → l.length < 400000 →
    Ev (fun k => determinant_Merge.l0 k b acc l (l.length : Int) (i : Int)) (b.foldl ins ((l.drop i).foldl ins acc))
  | 0, _, _, h, _, _, _, _ => by omega
  | n + 1, i, acc, hn, hi, hs, hl, hl2 => by
    by_cases c : i < l.length
    · have hil := ins_len acc l[i]
      obtain ⟨K, hK⟩ := merge0_loop hb n (i + 1) (ins acc l[i]) (by omega) (by omega) (ins_sorted hs _) (by omega) hl2
      obtain ⟨K', hK'⟩ := insert_ev l[i] hs (by omega)
      refine ⟨K + K' + 1, fun k hk => ?_⟩
      obtain ⟨m, rfl⟩ : ∃ m, k = m + 1 := ⟨k - 1, by omega⟩
      have e1 := hK' m (by omega)
      have e2 := hK m (by omega)
      dsimp only at e1 e2 ⊢
      rw [determinant_Merge.l0, if_pos (by omega), if_pos (by omega), if_pos (by omega), rd_at c, e1, Option.bind_some, w64 (by omega)]
      rw [List.drop_eq_getElem_cons c, List.foldl_cons]
      exact e2
    · obtain ⟨K, hK⟩ := merge1_loop (l := b) (b.length + 1) 0 acc (by omega) (by omega) hs (by omega) (by omega)
      refine ⟨K + 1, fun k hk => ?_⟩
      obtain ⟨m, rfl⟩ : ∃ m, k = m + 1 := ⟨k - 1, by omega⟩
      have e2 := hK m (by omega)
      dsimp only at e2 ⊢
      rw [determinant_Merge.l0, if_neg (by omega), List.drop_eq_nil_of_le (show l.length ≤ i by omega)]
      exact e2
def union (a b : List S28) : List S28 := b.foldl ins (a.foldl ins [])
theorem merge_ev {a b : List S28} (ha : a.length < 400000) (hb : b.length < 400000) : Ev (fun k => determinant_Merge.f k a b) (union a b) := by
  obtain ⟨K, hK⟩ := merge0_loop (l := a) hb (a.length + 1) 0 [] (by omega) (by omega) List.Pairwise.nil (by simp; omega) ha
  refine ⟨K, fun k hk => ?_⟩
  dsimp only
  have hw : wrap64 ((a.length : Int) + (b.length : Int)) = (a.length : Int) + b.length := w64 (by omega)
  rw [determinant_Merge.f, hw, if_pos (by omega), if_pos (by omega)]
  exact hK k hk
theorem union_sorted (a b : List S28) : Sorted (union a b) := fold_sorted _ _ (fold_sorted _ _ List.Pairwise.nil)
theorem union_mem (a b : List S28) (e : S28) : e ∈ union a b ↔ e ∈ a ∨ e ∈ b := by simp [union, fold_mem]
theorem union_len (a b : List S28) : (union a b).length ≤ a.length + b.length := by
  have h1 := fold_len b (a.foldl ins [])
  have h2 := fold_len a []
  simp at h2
  unfold union
  omega
/-! the draws from the codes -/
def Bytes (s : List Int) : Prop := s.length < 1000000 ∧ ∀ x ∈ s, 0 ≤ x ∧ x ≤ 255
def I64 (x : Int) : Prop := -9223372036854775808 ≤ x ∧ x ≤ 9223372036854775807
def In (s : List Int) (p : Int) : Prop := 0 ≤ p ∧ p ≤ s.length
theorem rd_mem {s : List Int} {p : Int} (h0 : 0 ≤ p) (h1 : p < s.length) : rd s p ∈ s := by
  have h : p.toNat < s.length := by omega
  simp [rd, List.getD_eq_getElem?_getD, h]
theorem next_ok {s : List Int} {p a : Int} (hs : Bytes s) (hp : In s p) (ha : 0 < a) : ∃ v q, rollbacknetmake_Codes_Next.f s p a = some (v, q) ∧ 0 ≤ v ∧ v < a ∧ In s q := by
  obtain ⟨hl, hb⟩ := hs
  obtain ⟨p0, p1⟩ := hp
  unfold rollbacknetmake_Codes_Next.f rollbacknetmake_Codes_Left.f
  rw [Option.bind_some]
  dsimp only
  have e1 : wrap64 (p + 1) = p + 1 := w64 (by omega)
  have e2 : wrap64 (p + 1 - 1) = p := by rw [w64 (by omega)]; omega
  rw [e1, e2]
  by_cases c : p < s.length
  · have hm := hb _ (rd_mem p0 c)
    rw [if_pos (decide_eq_true c), if_pos p0, if_pos c, if_neg (by omega), w64 (by omega), Int.tmod_eq_emod_of_nonneg hm.1]
    exact ⟨_, _, rfl, Int.emod_nonneg _ (by omega), Int.emod_lt_of_pos _ ha, by constructor <;> omega⟩
  · rw [if_neg (by simpa using c)]
    exact ⟨0, p, rfl, by omega, ha, p0, p1⟩
theorem int_ok {s : List Int} {p : Int} (hs : Bytes s) (hp : In s p) : ∃ v q, rollbacknetmake_Codes_Int.f s p = some (v, q) ∧ I64 v ∧ In s q := by
  unfold rollbacknetmake_Codes_Int.f
  rw [Option.bind_some]
  obtain ⟨v, q, e, h1, h2, hq⟩ := next_ok (a := 6) hs hp (by omega)
  rw [e, Option.bind_some]
  dsimp only
  by_cases c : v = 5
  · rw [if_pos c]
    obtain ⟨v', q', e', h1', h2', hq'⟩ := next_ok (a := 10) hs hq (by omega)
    have e'' : rollbacknetmake_Codes_Next.f s q (([9223372036854775807, (-9223372036854775808), 2147483648, (-1), 63, 64, (-65), 127, 128, 1099511627776] : List Int).length : Int) = some (v', q') := e'
    rw [e'', Option.bind_some]
    dsimp only
    have h3 : v' < (([9223372036854775807, (-9223372036854775808), 2147483648, (-1), 63, 64, (-65), 127, 128, 1099511627776] : List Int).length : Int) := h2'
    rw [if_pos h1', if_pos h3]
    refine ⟨_, _, rfl, ?_, hq'⟩
    have : v' = 0 ∨ v' = 1 ∨ v' = 2 ∨ v' = 3 ∨ v' = 4 ∨ v' = 5 ∨ v' = 6 ∨ v' = 7 ∨ v' = 8 ∨ v' = 9 := by omega
    rcases this with rfl | rfl | rfl | rfl | rfl | rfl | rfl | rfl | rfl | rfl <;> simp [I64, rd]
  · rw [if_neg c]
    obtain ⟨v', q', e', h1', h2', hq'⟩ := next_ok (a := 12) hs hq (by omega)
    rw [e', Option.bind_some]
    refine ⟨_, _, rfl, ?_, hq'⟩
    dsimp only
    rw [w64 (by omega)]
    constructor <;> omega
theorem event_ok {s : List Int} {p : Int} (hs : Bytes s) (hp : In s p) : ∃ a b c d e f g q, rollbacknetmake_Codes_Event.f s p = some (a, b, c, d, e, f, g, q) ∧ I64 a ∧ I64 b ∧ I64 c ∧ I64 d ∧ I64 e ∧ I64 f ∧ I64 g ∧ In s q := by
  unfold rollbacknetmake_Codes_Event.f
  obtain ⟨v1, q1, e1, a1, b1, i1⟩ := next_ok (a := 3) hs hp (by omega)
  rw [e1, Option.bind_some]
  obtain ⟨v2, q2, e2, a2, b2, i2⟩ := next_ok (a := 3) hs i1 (by omega)
  dsimp only
  rw [e2, Option.bind_some]
  obtain ⟨v3, q3, e3, a3, i3⟩ := int_ok hs i2
  dsimp only
  rw [e3, Option.bind_some, w64 (by omega)]
  dsimp only
  have j1 : I64 (1 + v1) := by constructor <;> omega
  have j2 : I64 v2 := by constructor <;> omega
  have j0 : I64 0 := by constructor <;> omega
  by_cases c : 1 + v1 = 1
  · rw [if_pos c]
    obtain ⟨v4, q4, e4, a4, b4, i4⟩ := next_ok (a := 3) hs i3 (by omega)
    rw [e4, Option.bind_some]
    obtain ⟨v5, q5, e5, a5, b5, i5⟩ := next_ok (a := 2) hs i4 (by omega)
    dsimp only
    rw [e5, Option.bind_some]
    obtain ⟨v6, q6, e6, a6, b6, i6⟩ := next_ok (a := 5) hs i5 (by omega)
    dsimp only
    rw [e6, Option.bind_some]
    obtain ⟨v7, q7, e7, a7, b7, i7⟩ := next_ok (a := 3) hs i6 (by omega)
    dsimp only
    rw [e7, Option.bind_some]
    exact ⟨_, _, _, _, _, _, _, _, rfl, j1, j2, by constructor <;> omega, by constructor <;> omega, by constructor <;> omega, by constructor <;> omega, a3, i7⟩
  · rw [if_neg c]
    exact ⟨_, _, _, _, _, _, _, _, rfl, j1, j2, j0, j0, j0, j0, a3, i3⟩
def DetI (d : S28) : Prop := I64 d.f0 ∧ I64 d.f1 ∧ I64 d.f2.f0 ∧ I64 d.f2.f1 ∧ I64 d.f2.f2 ∧ I64 d.f2.f3.f0 ∧ I64 d.f2.f3.f1 ∧ I64 d.f2.f4 ∧ I64 d.f2.f5
theorem dets_loop {s : List Int} (hs : Bytes s) : ∀ (n : Nat) (xs : List S28) (p : Int), In s p → n + xs.length < 1000000 → (∀ d ∈ xs, DetI d) →
    ∃ ys q, Ev (fun k => rollbacknetmake_Codes_Dets.l0 k xs (n : Int) s p) (ys, q) ∧ ys.length = n + xs.length ∧ (∀ d ∈ ys, DetI d) ∧ In s q
  | 0, xs, p, hp, hn, hx => by
    refine ⟨xs, p, ⟨1, fun k hk => ?_⟩, by omega, hx, hp⟩
    obtain ⟨m, rfl⟩ : ∃ m, k = m + 1 := ⟨k - 1, by omega⟩
    dsimp only
    rw [rollbacknetmake_Codes_Dets.l0, if_neg (by omega)]
  | n + 1, xs, p, hp, hn, hx => by
    obtain ⟨v1, q1, e1, a1, b1, i1⟩ := next_ok (a := 3) hs hp (by omega)
    obtain ⟨v2, q2, e2, a2, b2, i2⟩ := next_ok (a := 6) hs i1 (by omega)
    obtain ⟨a, b, c, d, e, f, g, q, e3, ja, jb, jc, jd, je, jf, jg, i3⟩ := event_ok hs i2
    have hd : DetI (⟨v1, wrap64 (1 + v2), (⟨a, b, c, (⟨d, e⟩ : S24), f, g⟩ : S26)⟩ : S28) := ⟨show I64 v1 by constructor <;> omega, show I64 (wrap64 (1 + v2)) by rw [w64 (by omega)]; constructor <;> omega, ja, jb, jc, jd, je, jf, jg⟩
    obtain ⟨ys, q', ⟨K, hK⟩, hl, hy, hq'⟩ := dets_loop hs n (xs ++ [(⟨v1, wrap64 (1 + v2), (⟨a, b, c, (⟨d, e⟩ : S24), f, g⟩ : S26)⟩ : S28)]) q i3 (by simp; omega) (fun z hz => by
      rcases List.mem_append.1 hz with h | h
      · exact hx z h
      · rw [List.mem_singleton.1 h]; exact hd)
    refine ⟨ys, q', ⟨K + 1, fun k hk => ?_⟩, by simp at hl; omega, hy, hq'⟩
    obtain ⟨m, rfl⟩ : ∃ m, k = m + 1 := ⟨k - 1, by omega⟩
    have e4 := hK m (by omega)
    dsimp only at e4 ⊢
    rw [rollbacknetmake_Codes_Dets.l0, if_pos (by omega), e1, Option.bind_some]
    dsimp only
    rw [e2, Option.bind_some]
    dsimp only
    rw [e3, Option.bind_some]
    dsimp only
    rw [if_pos (by omega), show wrap64 (((n + 1 : Nat) : Int) - 1) = (n : Int) by rw [w64 (by omega)]; omega]
    exact e4
theorem dets_ev {s : List Int} {p a : Int} (hs : Bytes s) (hp : In s p) (ha : 0 ≤ a) (ha2 : a < 1000) : ∃ ys q, Ev (fun k => rollbacknetmake_Codes_Dets.f k s p a) (ys, q) ∧ (ys.length : Int) ≤ a ∧ (∀ d ∈ ys, DetI d) ∧ In s q := by
  obtain ⟨v1, q1, e1, a1, b1, i1⟩ := next_ok (a := wrap64 (a + 1)) hs hp (by rw [w64 (by omega)]; omega)
  rw [w64 (by omega)] at b1
  obtain ⟨n, rfl⟩ := Int.eq_ofNat_of_zero_le a1
  obtain ⟨ys, q', ⟨K, hK⟩, hl, hy, hq'⟩ := dets_loop hs n [] q1 i1 (by simp; omega) (fun d hd => by simp at hd)
  refine ⟨ys, q', ⟨K, fun k hk => ?_⟩, by simp at hl; omega, hy, hq'⟩
  have e4 := hK k hk
  dsimp only at e4 ⊢
  rw [rollbacknetmake_Codes_Dets.f, e1, Option.bind_some]
  exact e4
theorem new_ok {s : List Int} {a : Int} (hb : ∀ x ∈ s, (Lit.int .u8 x).wf = true) (ha : 0 ≤ a) (ha2 : a < 1000) : ∃ t, rollbacknetmake_New.f s a = some (t, 0) ∧ Bytes t ∧ In t 0 := by
  have hb' : ∀ x ∈ s, 0 ≤ x ∧ x ≤ 255 := fun x hx => by
    have := hb x hx
    simpa [Lit.wf, IntKind.min, IntKind.max, IntKind.signed, IntKind.bits] using this
  unfold rollbacknetmake_New.f
  by_cases c : (s.length : Int) > a
  · rw [if_pos c, if_pos ha, if_pos (by omega)]
    exact ⟨_, rfl, ⟨by rw [List.length_take]; omega, fun x hx => hb' x (List.mem_of_mem_take hx)⟩, by constructor <;> omega⟩
  · rw [if_neg c]
    exact ⟨_, rfl, ⟨by omega, hb'⟩, by constructor <;> omega⟩
theorem mod_some (a m : Int) (hm : m ≠ 0) : ∃ v, rollbacknetmake_Mod.f a m = some v := by
  unfold rollbacknetmake_Mod.f
  rw [if_neg hm]
  split <;> exact ⟨_, rfl⟩
theorem near_some (a : S28) (field by_ : Int) : ∃ c : S28, rollbacknetlaw27_near.f a.f0 a.f1 a.f2.f0 a.f2.f1 a.f2.f2 a.f2.f3.f0 a.f2.f3.f1 a.f2.f4 a.f2.f5 field by_ = some (c.f0, c.f1, c.f2.f0, c.f2.f1, c.f2.f2, c.f2.f3.f0, c.f2.f3.f1, c.f2.f4, c.f2.f5) := by
  obtain ⟨v, hv⟩ := mod_some field 10 (by omega)
  have mk : ∀ x0 x1 x2 x3 x4 x5 x6 x7 x8 : Int, ∃ c : S28, some (x0, x1, x2, x3, x4, x5, x6, x7, x8) = some (c.f0, c.f1, c.f2.f0, c.f2.f1, c.f2.f2, c.f2.f3.f0, c.f2.f3.f1, c.f2.f4, c.f2.f5) := fun x0 x1 x2 x3 x4 x5 x6 x7 x8 => ⟨⟨x0, x1, ⟨x2, x3, x4, ⟨x5, x6⟩, x7, x8⟩⟩, rfl⟩
  unfold rollbacknetlaw27_near.f
  rw [hv, Option.bind_some]
  repeat' split
  all_goals exact mk _ _ _ _ _ _ _ _ _
/-! Mod -/
theorem mod_ok {a m : Int} (ha : I64 a) (hm : 0 < m) (hm2 : m < 1000000) : ∃ v, rollbacknetmake_Mod.f a m = some v ∧ 0 ≤ v ∧ v < m := by
  unfold rollbacknetmake_Mod.f
  rw [if_neg (by omega)]
  have h1 : Int.tmod a m < m := Int.tmod_lt_of_pos _ hm
  have h2 : -m < Int.tmod a m := by
    have := Int.tmod_lt_of_pos (-a) hm
    rw [Int.neg_tmod] at this
    omega
  by_cases c : Int.tmod a m < 0
  · rw [if_pos c, w64 (by omega)]
    exact ⟨_, rfl, by omega, by omega⟩
  · rw [if_neg c]
    exact ⟨_, rfl, by omega, h1⟩
theorem refcompare_at (k : Nat) (a b : S28) : rollbacknetref27_Compare.f (k + 10) a.f0 a.f1 a.f2.f0 a.f2.f1 a.f2.f2 a.f2.f3.f0 a.f2.f3.f1 a.f2.f4 a.f2.f5 b.f0 b.f1 b.f2.f0 b.f2.f1 b.f2.f2 b.f2.f3.f0 b.f2.f3.f1 b.f2.f4 b.f2.f5 = some (cmp a b) := by
  rcases a with ⟨a0, a1, a2, a3, a4, ⟨a5, a6⟩, a7, a8⟩
  rcases b with ⟨b0, b1, b2, b3, b4, ⟨b5, b6⟩, b7, b8⟩
  have step : ∀ (x y : Int) (r : Option Int) (z : Int), r = some z → ((rollbacknetref27_less.f x y).bind fun c => if c = 0 then r else some c) = some (if x < y then -1 else if x > y then 1 else z) := by
    intro x y r z hr
    unfold rollbacknetref27_less.f
    by_cases h1 : x < y
    · rw [if_pos h1, if_pos h1]; rfl
    · rw [if_neg h1, if_neg h1]
      by_cases h2 : x > y
      · rw [if_pos h2, if_pos h2]; rfl
      · rw [if_neg h2, if_neg h2]; simpa using hr
  unfold rollbacknetref27_Compare.f cmp keys lexc
  rw [rollbacknetref27_Compare.l0_rd, if_pos (by omega), if_pos (by omega)]; refine step _ _ _ _ ?_
  unfold lexc
  rw [rollbacknetref27_Compare.l0_rd, if_pos (by omega), if_pos (by omega)]; refine step _ _ _ _ ?_
  unfold lexc
  rw [rollbacknetref27_Compare.l0_rd, if_pos (by omega), if_pos (by omega)]; refine step _ _ _ _ ?_
  unfold lexc
  rw [rollbacknetref27_Compare.l0_rd, if_pos (by omega), if_pos (by omega)]; refine step _ _ _ _ ?_
  unfold lexc
  rw [rollbacknetref27_Compare.l0_rd, if_pos (by omega), if_pos (by omega)]; refine step _ _ _ _ ?_
  unfold lexc
  rw [rollbacknetref27_Compare.l0_rd, if_pos (by omega), if_pos (by omega)]; refine step _ _ _ _ ?_
  unfold lexc
  rw [rollbacknetref27_Compare.l0_rd, if_pos (by omega), if_pos (by omega)]; refine step _ _ _ _ ?_
  unfold lexc
  rw [rollbacknetref27_Compare.l0_rd, if_pos (by omega), if_pos (by omega)]; refine step _ _ _ _ ?_
  unfold lexc
  rw [rollbacknetref27_Compare.l0_rd, if_pos (by omega), if_pos (by omega)]; refine step _ _ _ _ ?_
  unfold lexc
  rw [rollbacknetref27_Compare.l0_rd, if_neg (by omega)]
/-! the reference's Merge is the same union -/
theorem ref_put (x0 x1 : List S28) {acc : List S28} {d : S28} {i : Int} {p : Nat} (hl : acc.length < 1000000) (hi : wrap64 (i + 1) = i + 1) (hp : p ≤ acc.length)
    (h1 : ∀ j (h : j < acc.length), j < p → cmp acc[j] d < 0) (h2 : ∀ j (h : j < acc.length), p ≤ j → 0 < cmp acc[j] d) (k : Nat) :
    (if acc.length < 1954687338268 then ((some (acc ++ [(⟨0, 0, (⟨0, 0, 0, (⟨0, 0⟩ : S24), 0, 0⟩ : S26)⟩ : S28)] : List (S28))).bind fun y => (if 0 ≤ (wrap64 ((p : Int) + 1)) then (if (wrap64 ((p : Int) + 1)) ≤ (y.length : Int) then (if 0 ≤ (p : Int) then (if (p : Int) ≤ (y.length : Int) then (if (p : Int) < (y.length : Int) then (rollbacknetref27_Merge.l0 k x0 x1 ((shiftAt y ((p : Int) : Int).toNat).set ((p : Int) : Int).toNat (⟨d.f0, d.f1, (⟨d.f2.f0, d.f2.f1, d.f2.f2, (⟨d.f2.f3.f0, d.f2.f3.f1⟩ : S24), d.f2.f4, d.f2.f5⟩ : S26)⟩ : S28)) (wrap64 (i + 1))) else (none)) else (none)) else (none)) else (none)) else (none))) else (none))
      = rollbacknetref27_Merge.l0 k x0 x1 (ins acc d) (i + 1) := by
  have hnd : d ∉ acc := fun hd => by
    obtain ⟨j, hj, hjd⟩ := List.getElem_of_mem hd
    by_cases jl : j < p
    · have := h1 j hj jl
      rw [hjd, cmp_refl] at this
      omega
    · have := h2 j hj (by omega)
      rw [hjd, cmp_refl] at this
      omega
  obtain ⟨f1, f2⟩ := split_at (d := d) (p := p) h1 (fun j h hj => by have := h2 j h hj; omega)
  have hput : (shiftAt (acc ++ [(⟨0, 0, (⟨0, 0, 0, (⟨0, 0⟩ : S24), 0, 0⟩ : S26)⟩ : S28)]) p).set p (⟨d.f0, d.f1, (⟨d.f2.f0, d.f2.f1, d.f2.f2, (⟨d.f2.f3.f0, d.f2.f3.f1⟩ : S24), d.f2.f4, d.f2.f5⟩ : S26)⟩ : S28) = ins acc d := by
    have e := shift_put acc (⟨0, 0, (⟨0, 0, 0, (⟨0, 0⟩ : S24), 0, 0⟩ : S26)⟩ : S28) d p hp
    unfold ins
    rw [if_neg hnd, f1, f2]
    exact e
  have hl1 : (acc ++ [(⟨0, 0, (⟨0, 0, 0, (⟨0, 0⟩ : S24), 0, 0⟩ : S26)⟩ : S28)]).length = acc.length + 1 := by simp
  rw [if_pos (by omega), Option.bind_some, w64 (x := (p : Int) + 1) (by omega), hl1, if_pos (by omega), if_pos (by omega), if_pos (by omega), if_pos (by omega), if_pos (by omega), Int.toNat_natCast, hput, hi]
theorem ref_ins {x0 x1 acc : List S28} {d : S28} {i : Int} {r : List S28} (hs : Sorted acc) (hl : acc.length < 1000000) (hi : wrap64 (i + 1) = i + 1) (hr : Ev (fun k => rollbacknetref27_Merge.l0 k x0 x1 (ins acc d) (i + 1)) r) :
    ∀ (p : Nat), p ≤ acc.length → (∀ j (h : j < acc.length), p ≤ j → 0 < cmp acc[j] d) → Ev (fun k => rollbacknetref27_Merge.l1 k x0 x1 acc i p d.f0 d.f1 d.f2.f0 d.f2.f1 d.f2.f2 d.f2.f3.f0 d.f2.f3.f1 d.f2.f4 d.f2.f5) r
  | 0, hp, h2 => by
    obtain ⟨K, hK⟩ := hr
    refine ⟨K + 1, fun k hk => ?_⟩
    obtain ⟨m, rfl⟩ : ∃ m, k = m + 1 := ⟨k - 1, by omega⟩
    dsimp only
    rw [rollbacknetref27_Merge.l1, if_neg (by omega), ref_put x0 x1 hl hi hp (fun j h hj => by omega) h2]
    exact hK m (by omega)
  | q + 1, hp, h2 => by
    have hq : q < acc.length := by omega
    have e1 : wrap64 (((q + 1 : Nat) : Int) - 1) = (q : Int) := by rw [w64 (by omega)]; omega
    by_cases c : 0 < cmp acc[q] d
    · obtain ⟨K, hK⟩ := ref_ins hs hl hi hr q (by omega) (fun j h hj => by
        by_cases e : j = q
        · subst e; exact c
        · exact h2 j h (by omega))
      refine ⟨K + 11, fun k hk => ?_⟩
      obtain ⟨m, rfl⟩ : ∃ m, k = m + 10 + 1 := ⟨k - 11, by omega⟩
      dsimp only
      rw [rollbacknetref27_Merge.l1, if_pos (by omega), e1, if_pos (by omega), if_pos (by omega), rd_at hq, refcompare_at, Option.bind_some, if_pos c]
      exact hK (m + 10) (by omega)
    · obtain ⟨K, hK⟩ := hr
      refine ⟨K + 11, fun k hk => ?_⟩
      obtain ⟨m, rfl⟩ : ∃ m, k = m + 10 + 1 := ⟨k - 11, by omega⟩
      dsimp only
      rw [rollbacknetref27_Merge.l1, if_pos (by omega), e1, if_pos (by omega), if_pos (by omega), rd_at hq, refcompare_at, Option.bind_some, if_neg (by omega)]
      by_cases e : acc[q] = d
      · have he : ins acc d = acc := by
          unfold ins
          rw [if_pos (e ▸ List.getElem_mem hq)]
        rw [if_pos ((eq9 _ _).2 e), hi]
        have := hK (m + 10) (by omega)
        dsimp only at this
        rwa [he] at this
      · have hlt : cmp acc[q] d < 0 := by
          have : cmp acc[q] d ≠ 0 := fun h => e (cmp_zero h)
          omega
        rw [if_neg (fun hh => e ((eq9 _ _).1 hh)), ref_put x0 x1 hl hi hp (fun j h hj => by
          by_cases ej : j = q
          · subst ej; exact hlt
          · exact cmp_trans ((List.pairwise_iff_getElem.1 hs) j q h hq (by omega)) hlt) h2]
        exact hK (m + 10) (by omega)
theorem ref_loop {x0 x1 : List S28} (h0 : x0.length < 400000) (h1 : x1.length < 400000) : ∀ (n i : Nat) (acc : List S28), x0.length + x1.length - i < n → i ≤ x0.length + x1.length → Sorted acc → acc.length + (x0.length + x1.length - i) < 1000000 →
    Ev (fun k => rollbacknetref27_Merge.l0 k x0 x1 acc (i : Int)) (((x0 ++ x1).drop i).foldl ins acc)
  | 0, _, _, h, _, _, _ => by omega
  | n + 1, i, acc, hn, hi, hs, hl => by
    have hw : wrap64 ((x0.length : Int) + (x1.length : Int)) = (x0.length : Int) + x1.length := w64 (by omega)
    by_cases c : i < x0.length + x1.length
    · have hlt : i < (x0 ++ x1).length := by simp; omega
      have step : Ev (fun k => rollbacknetref27_Merge.l1 k x0 x1 acc i (acc.length : Int) ((x0 ++ x1)[i]).f0 ((x0 ++ x1)[i]).f1 ((x0 ++ x1)[i]).f2.f0 ((x0 ++ x1)[i]).f2.f1 ((x0 ++ x1)[i]).f2.f2 ((x0 ++ x1)[i]).f2.f3.f0 ((x0 ++ x1)[i]).f2.f3.f1 ((x0 ++ x1)[i]).f2.f4 ((x0 ++ x1)[i]).f2.f5) (((x0 ++ x1).drop i).foldl ins acc) := by
        have hil := ins_len acc (x0 ++ x1)[i]
        refine ref_ins hs (by omega) (w64 (by omega)) ?_ acc.length (Nat.le_refl _) (fun j h hj => by omega)
        rw [List.drop_eq_getElem_cons hlt, List.foldl_cons]
        exact ref_loop h0 h1 n (i + 1) (ins acc (x0 ++ x1)[i]) (by omega) (by omega) (ins_sorted hs _) (by omega)
      obtain ⟨K, hK⟩ := step
      refine ⟨K + 2, fun k hk => ?_⟩
      obtain ⟨m, rfl⟩ : ∃ m, k = m + 1 + 1 := ⟨k - 2, by omega⟩
      have g := hK m (by omega)
      dsimp only at g ⊢
      rw [rollbacknetref27_Merge.l0, hw, if_pos (by omega)]
      by_cases c0 : i < x0.length
      · rw [if_pos (by omega), if_pos (by omega), rd_at c0, rollbacknetref27_Merge.j1]
        rw [List.getElem_append_left c0] at g
        exact g
      · have e : wrap64 ((i : Int) - (x0.length : Int)) = ((i - x0.length : Nat) : Int) := by rw [w64 (by omega)]; omega
        have c1 : i - x0.length < x1.length := by omega
        rw [if_neg (by omega), e, if_pos (by omega), if_pos (by omega), rd_at c1, rollbacknetref27_Merge.j1]
        rw [List.getElem_append_right (by omega)] at g
        exact g
    · refine ⟨1, fun k hk => ?_⟩
      obtain ⟨m, rfl⟩ : ∃ m, k = m + 1 := ⟨k - 1, by omega⟩
      dsimp only
      rw [rollbacknetref27_Merge.l0, hw, if_neg (by omega), List.drop_eq_nil_of_le (by simp; omega)]
      rfl
theorem refmerge_ev {a b : List S28} (ha : a.length < 400000) (hb : b.length < 400000) : Ev (fun k => rollbacknetref27_Merge.f k a b) (union a b) := by
  have h := ref_loop ha hb (a.length + b.length + 1) 0 [] (by omega) (by omega) List.Pairwise.nil (by simp; omega)
  obtain ⟨K, hK⟩ := h
  refine ⟨K, fun k hk => ?_⟩
  have g := hK k hk
  dsimp only at g ⊢
  rw [List.drop_zero, List.foldl_append] at g
  exact g
/-! Same -/
theorem same_loop {l : List S28} (hl2 : l.length < 1000000) : ∀ (n i : Nat), l.length - i < n → i ≤ l.length → Ev (fun k => rollbacknetref27_Same.l0 k l l (i : Int)) true
  | 0, _, h, _ => by omega
  | n + 1, i, hn, hi => by
    by_cases c : i < l.length
    · obtain ⟨K, hK⟩ := same_loop hl2 n (i + 1) (by omega) (by omega)
      refine ⟨K + 1, fun k hk => ?_⟩
      obtain ⟨m, rfl⟩ : ∃ m, k = m + 1 := ⟨k - 1, by omega⟩
      have e2 := hK m (by omega)
      dsimp only at e2 ⊢
      rw [rollbacknetref27_Same.l0, if_pos (by omega), if_pos (by omega), if_pos (by omega), if_neg (by simp), w64 (by omega)]
      exact e2
    · refine ⟨1, fun k hk => ?_⟩
      obtain ⟨m, rfl⟩ : ∃ m, k = m + 1 := ⟨k - 1, by omega⟩
      dsimp only
      rw [rollbacknetref27_Same.l0, if_neg (by omega)]
theorem same_ev {l : List S28} (hl : l.length < 1000000) : Ev (fun k => rollbacknetref27_Same.f k l l) true := by
  obtain ⟨K, hK⟩ := same_loop hl (l.length + 1) 0 (by omega) (by omega)
  refine ⟨K, fun k hk => ?_⟩
  dsimp only
  rw [rollbacknetref27_Same.f, if_pos rfl]
  exact hK k hk
/-! Cut, Discard -/
def cutP (p j : Int) (d : S28) : Bool := if d.f0 = p then decide (d.f1 ≤ j) else true
def disP (p j : Int) (d : S28) : Bool := if d.f0 = p then decide (d.f1 > j) else true
theorem cut_loop {l : List S28} {p j : Int} (hl2 : l.length < 1000000) : ∀ (n i : Nat) (acc : List S28), l.length - i < n → i ≤ l.length → acc.length + (l.length - i) < 1000000 →
    Ev (fun k => determinant_Cut.l0 k p j acc l (l.length : Int) (i : Int)) (acc ++ (l.drop i).filter (cutP p j))
  | 0, _, _, h, _, _ => by omega
  | n + 1, i, acc, hn, hi, hl => by
    by_cases c : i < l.length
    · by_cases hc : cutP p j l[i] = true
      · obtain ⟨K, hK⟩ := cut_loop hl2 n (i + 1) (acc ++ [l[i]]) (by omega) (by omega) (by simp; omega)
        refine ⟨K + 1, fun k hk => ?_⟩
        obtain ⟨m, rfl⟩ : ∃ m, k = m + 1 := ⟨k - 1, by omega⟩
        have e2 := hK m (by omega)
        dsimp only at e2 ⊢
        rw [determinant_Cut.l0, if_pos (by omega), if_pos (by omega), if_pos (by omega), rd_at c, w64 (by omega), List.drop_eq_getElem_cons c, List.filter_cons, if_pos hc]
        rw [List.append_assoc] at e2
        unfold cutP at hc
        by_cases h0 : l[i].f0 = p
        · rw [if_pos h0] at hc
          rw [if_pos h0, if_pos (of_decide_eq_true hc), if_pos (by omega)]
          exact e2
        · rw [if_neg h0, if_pos (by omega)]
          exact e2
      · obtain ⟨K, hK⟩ := cut_loop hl2 n (i + 1) acc (by omega) (by omega) (by omega)
        refine ⟨K + 1, fun k hk => ?_⟩
        obtain ⟨m, rfl⟩ : ∃ m, k = m + 1 := ⟨k - 1, by omega⟩
        have e2 := hK m (by omega)
        dsimp only at e2 ⊢
        rw [determinant_Cut.l0, if_pos (by omega), if_pos (by omega), if_pos (by omega), rd_at c, w64 (by omega), List.drop_eq_getElem_cons c, List.filter_cons, if_neg hc]
        unfold cutP at hc
        by_cases h0 : l[i].f0 = p
        · rw [if_pos h0] at hc
          rw [if_pos h0, if_neg (fun h => hc (decide_eq_true h))]
          exact e2
        · rw [if_neg h0] at hc
          exact absurd rfl hc
    · refine ⟨1, fun k hk => ?_⟩
      obtain ⟨m, rfl⟩ : ∃ m, k = m + 1 := ⟨k - 1, by omega⟩
      dsimp only
      rw [determinant_Cut.l0, if_neg (by omega), List.drop_eq_nil_of_le (by omega)]
      simp
theorem cut_ev {l : List S28} (p j : Int) (hl : l.length < 1000000) : Ev (fun k => determinant_Cut.f k l p j) (l.filter (cutP p j)) :=
  cut_loop hl (l.length + 1) 0 [] (by omega) (by omega) (by simp; omega)
theorem discard_loop {l : List S28} {p j : Int} (hl2 : l.length < 1000000) : ∀ (n i : Nat) (acc : List S28), l.length - i < n → i ≤ l.length → acc.length + (l.length - i) < 1000000 →
    Ev (fun k => determinant_Discard.l0 k p j acc l (l.length : Int) (i : Int)) (acc ++ (l.drop i).filter (disP p j))
  | 0, _, _, h, _, _ => by omega
  | n + 1, i, acc, hn, hi, hl => by
    by_cases c : i < l.length
    · by_cases hc : disP p j l[i] = true
      · obtain ⟨K, hK⟩ := discard_loop hl2 n (i + 1) (acc ++ [l[i]]) (by omega) (by omega) (by simp; omega)
        refine ⟨K + 1, fun k hk => ?_⟩
        obtain ⟨m, rfl⟩ : ∃ m, k = m + 1 := ⟨k - 1, by omega⟩
        have e2 := hK m (by omega)
        dsimp only at e2 ⊢
        rw [determinant_Discard.l0, if_pos (by omega), if_pos (by omega), if_pos (by omega), rd_at c, w64 (by omega), List.drop_eq_getElem_cons c, List.filter_cons, if_pos hc]
        rw [List.append_assoc] at e2
        unfold disP at hc
        by_cases h0 : l[i].f0 = p
        · rw [if_pos h0] at hc
          rw [if_pos h0, if_pos (of_decide_eq_true hc), if_pos (by omega)]
          exact e2
        · rw [if_neg h0, if_pos (by omega)]
          exact e2
      · obtain ⟨K, hK⟩ := discard_loop hl2 n (i + 1) acc (by omega) (by omega) (by omega)
        refine ⟨K + 1, fun k hk => ?_⟩
        obtain ⟨m, rfl⟩ : ∃ m, k = m + 1 := ⟨k - 1, by omega⟩
        have e2 := hK m (by omega)
        dsimp only at e2 ⊢
        rw [determinant_Discard.l0, if_pos (by omega), if_pos (by omega), if_pos (by omega), rd_at c, w64 (by omega), List.drop_eq_getElem_cons c, List.filter_cons, if_neg hc]
        unfold disP at hc
        by_cases h0 : l[i].f0 = p
        · rw [if_pos h0] at hc
          rw [if_pos h0, if_neg (fun h => hc (decide_eq_true h))]
          exact e2
        · rw [if_neg h0] at hc
          exact absurd rfl hc
    · refine ⟨1, fun k hk => ?_⟩
      obtain ⟨m, rfl⟩ : ∃ m, k = m + 1 := ⟨k - 1, by omega⟩
      dsimp only
      rw [determinant_Discard.l0, if_neg (by omega), List.drop_eq_nil_of_le (by omega)]
      simp
theorem discard_ev {l : List S28} (p j : Int) (hl : l.length < 1000000) : Ev (fun k => determinant_Discard.f k l p j) (l.filter (disP p j)) :=
  discard_loop hl (l.length + 1) 0 [] (by omega) (by omega) (by simp; omega)
/-! Has, Add -/
theorem has_loop {l : List S28} {d : S28} (hl : l.length < 1000000) : ∀ (n i : Nat), l.length - i < n → i ≤ l.length → Ev (fun k => determinant_Has.l0 k l (l.length : Int) (i : Int) d.f0 d.f1 d.f2.f0 d.f2.f1 d.f2.f2 d.f2.f3.f0 d.f2.f3.f1 d.f2.f4 d.f2.f5) (decide (d ∈ l.drop i))
  | 0, _, h, _ => by omega
  | n + 1, i, hn, hi => by
    by_cases c : i < l.length
    · obtain ⟨K, hK⟩ := has_loop (d := d) hl n (i + 1) (by omega) (by omega)
      refine ⟨K + 1, fun k hk => ?_⟩
      obtain ⟨m, rfl⟩ : ∃ m, k = m + 1 := ⟨k - 1, by omega⟩
      have g := hK m (by omega)
      dsimp only at g ⊢
      rw [determinant_Has.l0, if_pos (by omega), if_pos (by omega), if_pos (by omega), rd_at c, List.drop_eq_getElem_cons c]
      by_cases e : l[i] = d
      · rw [if_pos ((eq9 _ _).2 e), decide_eq_true (by rw [e]; exact List.mem_cons_self)]
      · rw [if_neg (fun hh => e ((eq9 _ _).1 hh)), w64 (by omega)]
        rw [show decide (d ∈ l[i] :: l.drop (i + 1)) = decide (d ∈ l.drop (i + 1)) by
          congr 1
          rw [List.mem_cons, eq_iff_iff]
          exact ⟨fun h => h.elim (fun h => absurd h.symm e) id, .inr⟩]
        exact g
    · refine ⟨1, fun k hk => ?_⟩
      obtain ⟨m, rfl⟩ : ∃ m, k = m + 1 := ⟨k - 1, by omega⟩
      dsimp only
      rw [determinant_Has.l0, if_neg (by omega), List.drop_eq_nil_of_le (by omega)]
      simp
theorem has_ev {l : List S28} (d : S28) (hl : l.length < 1000000) : Ev (fun k => determinant_Has.f k l d.f0 d.f1 d.f2.f0 d.f2.f1 d.f2.f2 d.f2.f3.f0 d.f2.f3.f1 d.f2.f4 d.f2.f5) (decide (d ∈ l)) := has_loop hl (l.length + 1) 0 (by omega) (by omega)
theorem add_ev {l : List S28} (d : S28) (hl : l.length < 300000) : Ev (fun k => determinant_Add.f k l d.f0 d.f1 d.f2.f0 d.f2.f1 d.f2.f2 d.f2.f3.f0 d.f2.f3.f1 d.f2.f4 d.f2.f5) (union l [d]) := by
  obtain ⟨K, hK⟩ := merge_ev (a := l) (b := [d]) (by omega) (by simp)
  refine ⟨K, fun k hk => ?_⟩
  have g := hK k hk
  dsimp only at g ⊢
  unfold determinant_Add.f
  have e : determinant_Merge.f k l [(⟨d.f0, d.f1, (⟨d.f2.f0, d.f2.f1, d.f2.f2, (⟨d.f2.f3.f0, d.f2.f3.f1⟩ : S24), d.f2.f4, d.f2.f5⟩ : S26)⟩ : S28)] = some (union l [d]) := g
  rw [e, Option.bind_some]
/-! the reference's Has, Add, Cut, Discard -/
theorem refhas_loop {l : List S28} {d : S28} (hl : l.length < 1000000) : ∀ (n i : Nat), l.length - i < n → i ≤ l.length → Ev (fun k => rollbacknetref27_Has.l0 k l (i : Int) d.f0 d.f1 d.f2.f0 d.f2.f1 d.f2.f2 d.f2.f3.f0 d.f2.f3.f1 d.f2.f4 d.f2.f5) (decide (d ∈ l.drop i))
  | 0, _, h, _ => by omega
  | n + 1, i, hn, hi => by
    by_cases c : i < l.length
    · obtain ⟨K, hK⟩ := refhas_loop (d := d) hl n (i + 1) (by omega) (by omega)
      refine ⟨K + 1, fun k hk => ?_⟩
      obtain ⟨m, rfl⟩ : ∃ m, k = m + 1 := ⟨k - 1, by omega⟩
      have g := hK m (by omega)
      dsimp only at g ⊢
      rw [rollbacknetref27_Has.l0, if_pos (by omega), if_pos (by omega), rd_at c, List.drop_eq_getElem_cons c]
      by_cases e : l[i] = d
      · rw [if_pos ((eq9 _ _).2 e), decide_eq_true (by rw [e]; exact List.mem_cons_self)]
      · rw [if_neg (fun hh => e ((eq9 _ _).1 hh)), w64 (by omega)]
        rw [show decide (d ∈ l[i] :: l.drop (i + 1)) = decide (d ∈ l.drop (i + 1)) by
          congr 1
          rw [List.mem_cons, eq_iff_iff]
          exact ⟨fun h => h.elim (fun h => absurd h.symm e) id, .inr⟩]
        exact g
    · refine ⟨1, fun k hk => ?_⟩
      obtain ⟨m, rfl⟩ : ∃ m, k = m + 1 := ⟨k - 1, by omega⟩
      dsimp only
      rw [rollbacknetref27_Has.l0, if_neg (by omega), List.drop_eq_nil_of_le (by omega)]
      simp
theorem refhas_ev {l : List S28} (d : S28) (hl : l.length < 1000000) : Ev (fun k => rollbacknetref27_Has.f k l d.f0 d.f1 d.f2.f0 d.f2.f1 d.f2.f2 d.f2.f3.f0 d.f2.f3.f1 d.f2.f4 d.f2.f5) (decide (d ∈ l)) := refhas_loop hl (l.length + 1) 0 (by omega) (by omega)
theorem refadd_ev {l : List S28} (d : S28) (hl : l.length < 300000) : Ev (fun k => rollbacknetref27_Add.f k l d.f0 d.f1 d.f2.f0 d.f2.f1 d.f2.f2 d.f2.f3.f0 d.f2.f3.f1 d.f2.f4 d.f2.f5) (union l [d]) := by
  obtain ⟨K, hK⟩ := refmerge_ev (a := l) (b := [d]) (by omega) (by simp)
  refine ⟨K, fun k hk => ?_⟩
  have g := hK k hk
  dsimp only at g ⊢
  unfold rollbacknetref27_Add.f
  have e : rollbacknetref27_Merge.f k l [(⟨d.f0, d.f1, (⟨d.f2.f0, d.f2.f1, d.f2.f2, (⟨d.f2.f3.f0, d.f2.f3.f1⟩ : S24), d.f2.f4, d.f2.f5⟩ : S26)⟩ : S28)] = some (union l [d]) := g
  rw [e, Option.bind_some]
theorem refcut_loop {l : List S28} {p j : Int} (hl2 : l.length < 1000000) : ∀ (n i : Nat) (acc : List S28), l.length - i < n → i ≤ l.length → acc.length + (l.length - i) < 1000000 →
    Ev (fun k => rollbacknetref27_Cut.l0 k l p j acc (i : Int)) (acc ++ (l.drop i).filter (cutP p j))
  | 0, _, _, h, _, _ => by omega
  | n + 1, i, acc, hn, hi, hl => by
    by_cases c : i < l.length
    · by_cases hc : cutP p j l[i] = true
      · obtain ⟨K, hK⟩ := refcut_loop hl2 n (i + 1) (acc ++ [l[i]]) (by omega) (by omega) (by simp; omega)
        refine ⟨K + 1, fun k hk => ?_⟩
        obtain ⟨m, rfl⟩ : ∃ m, k = m + 1 := ⟨k - 1, by omega⟩
        have e2 := hK m (by omega)
        dsimp only at e2 ⊢
        rw [rollbacknetref27_Cut.l0, if_pos (by omega), if_pos (by omega), rd_at c, w64 (by omega), List.drop_eq_getElem_cons c, List.filter_cons, if_pos hc]
        rw [List.append_assoc] at e2
        unfold cutP at hc
        by_cases h0 : l[i].f0 = p
        · rw [if_pos h0] at hc
          rw [if_pos h0, if_pos (of_decide_eq_true hc), if_pos (by omega)]
          exact e2
        · rw [if_neg h0, if_pos (by omega)]
          exact e2
      · obtain ⟨K, hK⟩ := refcut_loop hl2 n (i + 1) acc (by omega) (by omega) (by omega)
        refine ⟨K + 1, fun k hk => ?_⟩
        obtain ⟨m, rfl⟩ : ∃ m, k = m + 1 := ⟨k - 1, by omega⟩
        have e2 := hK m (by omega)
        dsimp only at e2 ⊢
        rw [rollbacknetref27_Cut.l0, if_pos (by omega), if_pos (by omega), rd_at c, w64 (by omega), List.drop_eq_getElem_cons c, List.filter_cons, if_neg hc]
        unfold cutP at hc
        by_cases h0 : l[i].f0 = p
        · rw [if_pos h0] at hc
          rw [if_pos h0, if_neg (fun h => hc (decide_eq_true h))]
          exact e2
        · rw [if_neg h0] at hc
          exact absurd rfl hc
    · refine ⟨1, fun k hk => ?_⟩
      obtain ⟨m, rfl⟩ : ∃ m, k = m + 1 := ⟨k - 1, by omega⟩
      dsimp only
      rw [rollbacknetref27_Cut.l0, if_neg (by omega), List.drop_eq_nil_of_le (by omega)]
      simp
theorem refcut_ev {l : List S28} (p j : Int) (hl : l.length < 1000000) : Ev (fun k => rollbacknetref27_Cut.f k l p j) (l.filter (cutP p j)) :=
  refcut_loop hl (l.length + 1) 0 [] (by omega) (by omega) (by simp; omega)
theorem refdiscard_loop {l : List S28} {p j : Int} (hl2 : l.length < 1000000) : ∀ (n i : Nat) (acc : List S28), l.length - i < n → i ≤ l.length → acc.length + (l.length - i) < 1000000 →
    Ev (fun k => rollbacknetref27_Discard.l0 k l p j acc (i : Int)) (acc ++ (l.drop i).filter (disP p j))
  | 0, _, _, h, _, _ => by omega
  | n + 1, i, acc, hn, hi, hl => by
    by_cases c : i < l.length
    · by_cases hc : disP p j l[i] = true
      · obtain ⟨K, hK⟩ := refdiscard_loop hl2 n (i + 1) (acc ++ [l[i]]) (by omega) (by omega) (by simp; omega)
        refine ⟨K + 1, fun k hk => ?_⟩
        obtain ⟨m, rfl⟩ : ∃ m, k = m + 1 := ⟨k - 1, by omega⟩
        have e2 := hK m (by omega)
        dsimp only at e2 ⊢
        rw [rollbacknetref27_Discard.l0, if_pos (by omega), if_pos (by omega), rd_at c, w64 (by omega), List.drop_eq_getElem_cons c, List.filter_cons, if_pos hc]
        rw [List.append_assoc] at e2
        unfold disP at hc
        by_cases h0 : l[i].f0 = p
        · rw [if_pos h0] at hc
          rw [if_pos h0, if_pos (of_decide_eq_true hc), if_pos (by omega)]
          exact e2
        · rw [if_neg h0, if_pos (by omega)]
          exact e2
      · obtain ⟨K, hK⟩ := refdiscard_loop hl2 n (i + 1) acc (by omega) (by omega) (by omega)
        refine ⟨K + 1, fun k hk => ?_⟩
        obtain ⟨m, rfl⟩ : ∃ m, k = m + 1 := ⟨k - 1, by omega⟩
        have e2 := hK m (by omega)
        dsimp only at e2 ⊢
        rw [rollbacknetref27_Discard.l0, if_pos (by omega), if_pos (by omega), rd_at c, w64 (by omega), List.drop_eq_getElem_cons c, List.filter_cons, if_neg hc]
        unfold disP at hc
        by_cases h0 : l[i].f0 = p
        · rw [if_pos h0] at hc
          rw [if_pos h0, if_neg (fun h => hc (decide_eq_true h))]
          exact e2
        · rw [if_neg h0] at hc
          exact absurd rfl hc
    · refine ⟨1, fun k hk => ?_⟩
      obtain ⟨m, rfl⟩ : ∃ m, k = m + 1 := ⟨k - 1, by omega⟩
      dsimp only
      rw [rollbacknetref27_Discard.l0, if_neg (by omega), List.drop_eq_nil_of_le (by omega)]
      simp
theorem refdiscard_ev {l : List S28} (p j : Int) (hl : l.length < 1000000) : Ev (fun k => rollbacknetref27_Discard.f k l p j) (l.filter (disP p j)) :=
  refdiscard_loop hl (l.length + 1) 0 [] (by omega) (by omega) (by simp; omega)
/-! DeterminantLists -/
theorem beq_decide {p q : Prop} [Decidable p] [Decidable q] (h : p ↔ q) : ((decide p == decide q) = true) = True := by
  rw [show decide p = decide q from decide_eq_decide.2 h]; simp
theorem lists_j2 {l m : List S28} (d x : S28) {p j : Int} (hp : I64 p) (hj : I64 j) (hl : l.length < 1000) (hm : m.length < 1000) :
    Ev (fun k => rollbacknetlaw27_DeterminantLists.j2 k l p j m d.f0 d.f1 d.f2.f0 d.f2.f1 d.f2.f2 d.f2.f3.f0 d.f2.f3.f1 d.f2.f4 d.f2.f5 x.f0 x.f1 x.f2.f0 x.f2.f1 x.f2.f2 x.f2.f3.f0 x.f2.f3.f1 x.f2.f4 x.f2.f5) true := by
  obtain ⟨v1, e1, _, _⟩ := mod_ok (m := 3) hp (by omega) (by omega)
  obtain ⟨v2, e2, _, _⟩ := mod_ok (m := 8) hj (by omega) (by omega)
  obtain ⟨K1, h1⟩ := add_ev (l := l) d (by omega)
  obtain ⟨K2, h2⟩ := refadd_ev (l := l) d (by omega)
  obtain ⟨K3, h3⟩ := same_ev (l := union l [d]) (by have := union_len l [d]; simp at this; omega)
  obtain ⟨K4, h4⟩ := add_ev (l := m) x (by omega)
  obtain ⟨K5, h5⟩ := refadd_ev (l := m) x (by omega)
  obtain ⟨K6, h6⟩ := same_ev (l := union m [x]) (by have := union_len m [x]; simp at this; omega)
  obtain ⟨K7, h7⟩ := has_ev (l := l) d (by omega)
  obtain ⟨K8, h8⟩ := refhas_ev (l := l) d (by omega)
  obtain ⟨K9, h9⟩ := has_ev (l := m) x (by omega)
  obtain ⟨K10, h10⟩ := refhas_ev (l := m) x (by omega)
  obtain ⟨K11, h11⟩ := cut_ev (l := l) p j (by omega)
  obtain ⟨K12, h12⟩ := refcut_ev (l := l) p j (by omega)
  obtain ⟨K13, h13⟩ := same_ev (l := l.filter (cutP p j)) (by have := List.length_filter_le (cutP p j) l; omega)
  obtain ⟨K14, h14⟩ := cut_ev (l := m) v1 v2 (by omega)
  obtain ⟨K15, h15⟩ := refcut_ev (l := m) v1 v2 (by omega)
  obtain ⟨K16, h16⟩ := same_ev (l := m.filter (cutP v1 v2)) (by have := List.length_filter_le (cutP v1 v2) m; omega)
  obtain ⟨K17, h17⟩ := discard_ev (l := l) p j (by omega)
  obtain ⟨K18, h18⟩ := refdiscard_ev (l := l) p j (by omega)
  obtain ⟨K19, h19⟩ := same_ev (l := l.filter (disP p j)) (by have := List.length_filter_le (disP p j) l; omega)
  obtain ⟨K20, h20⟩ := discard_ev (l := m) v1 v2 (by omega)
  obtain ⟨K21, h21⟩ := refdiscard_ev (l := m) v1 v2 (by omega)
  obtain ⟨K22, h22⟩ := same_ev (l := m.filter (disP v1 v2)) (by have := List.length_filter_le (disP v1 v2) m; omega)
  refine ⟨K1 + K2 + K3 + K4 + K5 + K6 + K7 + K8 + K9 + K10 + K11 + K12 + K13 + K14 + K15 + K16 + K17 + K18 + K19 + K20 + K21 + K22 + 1, fun k hk => ?_⟩
  obtain ⟨M, rfl⟩ : ∃ M, k = M + 1 := ⟨k - 1, by omega⟩
  have g1 := h1 M (by omega)
  have g2 := h2 M (by omega)
  have g3 := h3 M (by omega)
  have g4 := h4 M (by omega)
  have g5 := h5 M (by omega)
  have g6 := h6 M (by omega)
  have g7 := h7 M (by omega)
  have g8 := h8 M (by omega)
  have g9 := h9 M (by omega)
  have g10 := h10 M (by omega)
  have g11 := h11 M (by omega)
  have g12 := h12 M (by omega)
  have g13 := h13 M (by omega)
  have g14 := h14 M (by omega)
  have g15 := h15 M (by omega)
  have g16 := h16 M (by omega)
  have g17 := h17 M (by omega)
  have g18 := h18 M (by omega)
  have g19 := h19 M (by omega)
  have g20 := h20 M (by omega)
  have g21 := h21 M (by omega)
  have g22 := h22 M (by omega)
  clear h1 h2 h3 h4 h5 h6 h7 h8 h9 h10 h11 h12 h13 h14 h15 h16 h17 h18 h19 h20 h21 h22
  dsimp only at g1 g2 g3 g4 g5 g6 g7 g8 g9 g10 g11 g12 g13 g14 g15 g16 g17 g18 g19 g20 g21 g22 ⊢
  rw [rollbacknetlaw27_DeterminantLists.j2, e1, Option.bind_some, e2, Option.bind_some, g1, Option.bind_some, g2, Option.bind_some, g3, Option.bind_some, if_pos rfl, g4, Option.bind_some, g5, Option.bind_some, g6, Option.bind_some, if_pos rfl,
    g7, Option.bind_some, g8, Option.bind_some, if_pos (beq_self_eq_true _), g9, Option.bind_some, g10, Option.bind_some, if_pos (beq_self_eq_true _), g11, Option.bind_some, g12, Option.bind_some, g13, Option.bind_some, if_pos rfl,
    g14, Option.bind_some, g15, Option.bind_some, g16, Option.bind_some, if_pos rfl, g17, Option.bind_some, g18, Option.bind_some, g19, Option.bind_some, if_pos rfl, g20, Option.bind_some, g21, Option.bind_some, g22, Option.bind_some]
theorem lists_j1 {l m : List S28} (d : S28) {p j : Int} {t : List Int} {q : Int} (ht : Bytes t) (hq : In t q) (hp : I64 p) (hj : I64 j) (hl : l.length < 1000) (hm : m.length < 1000) :
    Ev (fun k => rollbacknetlaw27_DeterminantLists.j1 k l p j m d.f0 d.f1 d.f2.f0 d.f2.f1 d.f2.f2 d.f2.f3.f0 d.f2.f3.f1 d.f2.f4 d.f2.f5 t q) true := by
  by_cases c : (m.length : Int) > 0
  · obtain ⟨v, q1, e1, a1, b1, i1⟩ := next_ok (a := (m.length : Int)) ht hq c
    obtain ⟨v2, q2, e2, a2, b2, i2⟩ := next_ok (a := 12) ht i1 (by omega)
    obtain ⟨v3, q3, e3, a3, b3, i3⟩ := next_ok (a := 3) ht i2 (by omega)
    obtain ⟨x, ex⟩ := near_some (rd_T28 m v) v2 v3
    obtain ⟨K, hK⟩ := lists_j2 (l := l) (m := m) d x hp hj hl hm
    refine ⟨K + 1, fun k hk => ?_⟩
    obtain ⟨M, rfl⟩ : ∃ M, k = M + 1 := ⟨k - 1, by omega⟩
    have g := hK M (by omega)
    dsimp only at g ⊢
    rw [rollbacknetlaw27_DeterminantLists.j1, if_pos c, e1, Option.bind_some]
    dsimp only
    rw [if_pos a1, if_pos b1, e2, Option.bind_some]
    dsimp only
    rw [e3, Option.bind_some]
    dsimp only
    rw [ex, Option.bind_some]
    exact g
  · obtain ⟨K, hK⟩ := lists_j2 (l := l) (m := m) d d hp hj hl hm
    refine ⟨K + 1, fun k hk => ?_⟩
    obtain ⟨M, rfl⟩ : ∃ M, k = M + 1 := ⟨k - 1, by omega⟩
    have g := hK M (by omega)
    dsimp only at g ⊢
    rw [rollbacknetlaw27_DeterminantLists.j1, if_neg c]
    exact g
theorem DeterminantLists : rollbacknetlaw27_DeterminantLists.Pure := by
  intro l d s p j hl _ hs w1 w2
  have i1 : I64 p := by simpa [okInt, Lit.wf, IntKind.min, IntKind.max, IntKind.signed, IntKind.bits, I64] using w1
  have i2 : I64 j := by simpa [okInt, Lit.wf, IntKind.min, IntKind.max, IntKind.signed, IntKind.bits, I64] using w2
  obtain ⟨t, e1, ht, hp⟩ := new_ok (s := s) (a := 200) hs.2.2 (by omega) (by omega)
  obtain ⟨xs, q, ⟨K1, h1⟩, hl1, _, hq⟩ := dets_ev (a := 12) ht hp (by omega) (by omega)
  obtain ⟨ys, q2, ⟨K2, h2⟩, hl2, _, hq2⟩ := dets_ev (a := 6) ht hq (by omega) (by omega)
  obtain ⟨K0, h0⟩ := awake_ev
  by_cases c0 : (l.length : Int) > 60
  · refine ⟨K0 + 1, ?_⟩
    rw [rollbacknetlaw27_DeterminantLists.f, h0 (K0 + 1) (by omega), Option.bind_some, if_pos rfl, decide_eq_true c0, rollbacknetlaw27_DeterminantLists.j0, if_pos rfl, decide_eq_true c0]
  have hz : (xs ++ ys).length = xs.length + ys.length := List.length_append
  by_cases c1 : ((xs ++ ys).length : Int) > 0
  · obtain ⟨v, q3, e3, a3, b3, i3⟩ := next_ok (a := ((xs ++ ys).length : Int)) ht hq2 c1
    obtain ⟨K3, h3⟩ := lists_j1 (l := l) (m := (xs ++ ys) ++ [rd_T28 (xs ++ ys) v]) d ht i3 i1 i2 (by omega) (by rw [List.length_append, hz]; simp; omega)
    obtain ⟨M, hM⟩ : ∃ M, M = K0 + K1 + K2 + K3 := ⟨_, rfl⟩
    refine ⟨M + 1, ?_⟩
    have g1 := h1 M (by omega)
    have g2 := h2 M (by omega)
    have g3 := h3 M (by omega)
    dsimp only at g1 g2 g3
    rw [rollbacknetlaw27_DeterminantLists.f, h0 (M + 1) (by omega), Option.bind_some, if_pos rfl, decide_eq_false c0, rollbacknetlaw27_DeterminantLists.j0, if_neg (by decide), e1, Option.bind_some]
    dsimp only
    rw [g1, Option.bind_some]
    dsimp only
    rw [g2, Option.bind_some]
    dsimp only
    rw [if_pos (by omega), Option.bind_some, if_pos c1, e3, Option.bind_some]
    dsimp only
    rw [if_pos a3, if_pos b3, if_pos (by omega)]
    exact g3
  · obtain ⟨K3, h3⟩ := lists_j1 (l := l) (m := xs ++ ys) d ht hq2 i1 i2 (by omega) (by omega)
    obtain ⟨M, hM⟩ : ∃ M, M = K0 + K1 + K2 + K3 := ⟨_, rfl⟩
    refine ⟨M + 1, ?_⟩
    have g1 := h1 M (by omega)
    have g2 := h2 M (by omega)
    have g3 := h3 M (by omega)
    dsimp only at g1 g2 g3
    rw [rollbacknetlaw27_DeterminantLists.f, h0 (M + 1) (by omega), Option.bind_some, if_pos rfl, decide_eq_false c0, rollbacknetlaw27_DeterminantLists.j0, if_neg (by decide), e1, Option.bind_some]
    dsimp only
    rw [g1, Option.bind_some]
    dsimp only
    rw [g2, Option.bind_some]
    dsimp only
    rw [if_pos (by omega), Option.bind_some, if_neg c1]
    exact g3
end Go.Proofs.Ytdobkcphmpbhlaa.Pure
