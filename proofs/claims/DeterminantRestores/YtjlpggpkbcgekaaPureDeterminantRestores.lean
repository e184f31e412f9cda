/- DeterminantRestores (P27.3, P27.4): for every process, events, checkpoints, stock and choices the restorable indexes are the reference's; no condition. -/
import Derived.Test.YtjlpggpkbcgekaaPG27x0
import Derived.Test.YtjlpggpkbcgekaaPG27x13
import Derived.Test.YtjlpggpkbcgekaaPG27x14
import Derived.Test.YtjlpggpkbcgekaaPG27x15
import Derived.Test.YtjlpggpkbcgekaaPG27x16
import Derived.Test.YtjlpggpkbcgekaaPG27x17
import Derived.Test.YtjlpggpkbcgekaaPG27x18
import Derived.Test.YtjlpggpkbcgekaaPG27x19
import Derived.Test.YtjlpggpkbcgekaaPG27x2
import Derived.Test.YtjlpggpkbcgekaaPG27x25
import Derived.Test.YtjlpggpkbcgekaaPG27x3
import Derived.Test.YtjlpggpkbcgekaaPG27x32
import Derived.Test.YtjlpggpkbcgekaaPG27x38
import Derived.Test.YtjlpggpkbcgekaaPG27x39
import Derived.Test.YtjlpggpkbcgekaaPG27x4
import Derived.Test.YtjlpggpkbcgekaaPG27x5
import Derived.Test.YtjlpggpkbcgekaaPG27x6
import Derived.Test.YtjlpggpkbcgekaaPG27x7
import Derived.Test.YtjlpggpkbcgekaaPG27x8
namespace Go.Proofs.Ytjlpggpkbcgekaa.Pure
open Go.RowKit Go.Proofs.Ytjlpggpkbcgekaa.PG27 Go.Proofs.YtjlpggpkbcgekaaW.PrintWords Go.Proofs.YtjlpggpkbcgekaaW.PrintLast
set_option linter.unusedVariables false
set_option linter.unusedSimpArgs false
theorem awake_ev : Ev rollbacknetlaw27_awake.f true := Ev.of (rollbacknetlaw27_awake.mono) (k := 12) (by kernel_rfl)
/-! the order of determinants -/
instance : DecidableEq S35 := fun a b => by
  rcases a with ⟨a0, a1⟩; rcases b with ⟨b0, b1⟩; simp only [S35.mk.injEq]; infer_instance
instance : DecidableEq S37 := fun a b => by
  rcases a with ⟨a0, a1, a2, a3, a4, a5⟩; rcases b with ⟨b0, b1, b2, b3, b4, b5⟩; simp only [S37.mk.injEq]; infer_instance
instance : DecidableEq S39 := fun a b => by
  rcases a with ⟨a0, a1, a2⟩; rcases b with ⟨b0, b1, b2⟩; simp only [S39.mk.injEq]; infer_instance
/-! small words -/
theorem w64 {x : Int} (h : -9223372036854775808 ≤ x ∧ x ≤ 9223372036854775807) : wrap64 x = x := by unfold wrap64; omega
theorem rd_at {xs : List S39} {i : Nat} (h : i < xs.length) : rd_T39 xs (i : Int) = xs[i] := by simp [rd_T39, List.getD_eq_getElem?_getD, h]
theorem eq9 (a d : S39) : ((a.f0 == d.f0) && ((a.f1 == d.f1) && ((a.f2.f0 == d.f2.f0) && ((a.f2.f1 == d.f2.f1) && ((a.f2.f2 == d.f2.f2) && (((a.f2.f3.f0 == d.f2.f3.f0) && (a.f2.f3.f1 == d.f2.f3.f1)) && ((a.f2.f4 == d.f2.f4) && (a.f2.f5 == d.f2.f5)))))))) = true ↔ a = d := by
  rcases a with ⟨a0, a1, a2, a3, a4, ⟨a5, a6⟩, a7, a8⟩
  rcases d with ⟨b0, b1, b2, b3, b4, ⟨b5, b6⟩, b7, b8⟩
  simp [and_assoc]
/-! the draws from the codes -/
def Bytes (s : List Int) : Prop := s.length < 1000000 ∧ ∀ x ∈ s, 0 ≤ x ∧ x ≤ 255
def I64 (x : Int) : Prop := -9223372036854775808 ≤ x ∧ x ≤ 9223372036854775807
def In (s : List Int) (p : Int) : Prop := 0 ≤ p ∧ p ≤ s.length
theorem rd_mem {s : List Int} {p : Int} (h0 : 0 ≤ p) (h1 : p < s.length) : rd s p ∈ s := by
  have h : p.toNat < s.length := by omega
  simp [rd, List.getD_eq_getElem?_getD, h]
theorem next_ok {s : List Int} {p a : Int} (hs : Bytes s) (hp : In s p) (ha : 0 < a) : ∃ v q, rollbacknetmake_Codes_Next.f s p a = some (v, q) ∧ 0 ≤ v ∧ v < a ∧ In s q := by
  obtain ⟨hl, hb⟩ := hs
  obtain ⟨p0, p1⟩ := hp
  unfold rollbacknetmake_Codes_Next.f rollbacknetmake_Codes_Left.f
  rw [Option.bind_some]
  dsimp only
  have e1 : wrap64 (p + 1) = p + 1 := w64 (by omega)
  have e2 : wrap64 (p + 1 - 1) = p := by rw [w64 (by omega)]; omega
  rw [e1, e2]
  by_cases c : p < s.length
  · have hm := hb _ (rd_mem p0 c)
    rw [if_pos (decide_eq_true c), if_pos p0, if_pos c, if_neg (by omega), w64 (by omega), Int.tmod_eq_emod_of_nonneg hm.1]
    exact ⟨_, _, rfl, Int.emod_nonneg _ (by omega), Int.emod_lt_of_pos _ ha, by constructor <;> omega⟩
  · rw [if_neg (by simpa using c)]
    exact ⟨0, p, rfl, by omega, ha, p0, p1⟩
theorem int_ok {s : List Int} {p : Int} (hs : Bytes s) (hp : In s p) : ∃ v q, rollbacknetmake_Codes_Int.f s p = some (v, q) ∧ I64 v ∧ In s q := by
  unfold rollbacknetmake_Codes_Int.f
  rw [Option.bind_some]
  obtain ⟨v, q, e, h1, h2, hq⟩ := next_ok (a := 6) hs hp (by omega)
  rw [e, Option.bind_some]
  dsimp only
  by_cases c : v = 5
  · rw [if_pos c]
    obtain ⟨v', q', e', h1', h2', hq'⟩ := next_ok (a := 10) hs hq (by omega)
    have e'' : rollbacknetmake_Codes_Next.f s q (([9223372036854775807, (-9223372036854775808), 2147483648, (-1), 63, 64, (-65), 127, 128, 1099511627776] : List Int).length : Int) = some (v', q') := e'
    rw [e'', Option.bind_some]
    dsimp only
    have h3 : v' < (([9223372036854775807, (-9223372036854775808), 2147483648, (-1), 63, 64, (-65), 127, 128, 1099511627776] : List Int).length : Int) := h2'
    rw [if_pos h1', if_pos h3]
    refine ⟨_, _, rfl, ?_, hq'⟩
    have : v' = 0 ∨ v' = 1 ∨ v' = 2 ∨ v' = 3 ∨ v' = 4 ∨ v' = 5 ∨ v' = 6 ∨ v' = 7 ∨ v' = 8 ∨ v' = 9 := by omega
    rcases this with rfl | rfl | rfl | rfl | rfl | rfl | rfl | rfl | rfl | rfl <;> simp [I64, rd]
  · rw [if_neg c]
    obtain ⟨v', q', e', h1', h2', hq'⟩ := next_ok (a := 12) hs hq (by omega)
    rw [e', Option.bind_some]
    refine ⟨_, _, rfl, ?_, hq'⟩
    dsimp only
    rw [w64 (by omega)]
    constructor <;> omega
theorem event_ok {s : List Int} {p : Int} (hs : Bytes s) (hp : In s p) : ∃ a b c d e f g q, rollbacknetmake_Codes_Event.f s p = some (a, b, c, d, e, f, g, q) ∧ I64 a ∧ I64 b ∧ I64 c ∧ I64 d ∧ I64 e ∧ I64 f ∧ I64 g ∧ In s q := by
  unfold rollbacknetmake_Codes_Event.f
  obtain ⟨v1, q1, e1, a1, b1, i1⟩ := next_ok (a := 3) hs hp (by omega)
  rw [e1, Option.bind_some]
  obtain ⟨v2, q2, e2, a2, b2, i2⟩ := next_ok (a := 3) hs i1 (by omega)
  dsimp only
  rw [e2, Option.bind_some]
  obtain ⟨v3, q3, e3, a3, i3⟩ := int_ok hs i2
  dsimp only
  rw [e3, Option.bind_some, w64 (by omega)]
  dsimp only
  have j1 : I64 (1 + v1) := by constructor <;> omega
  have j2 : I64 v2 := by constructor <;> omega
  have j0 : I64 0 := by constructor <;> omega
  by_cases c : 1 + v1 = 1
  · rw [if_pos c]
    obtain ⟨v4, q4, e4, a4, b4, i4⟩ := next_ok (a := 3) hs i3 (by omega)
    rw [e4, Option.bind_some]
    obtain ⟨v5, q5, e5, a5, b5, i5⟩ := next_ok (a := 2) hs i4 (by omega)
    dsimp only
    rw [e5, Option.bind_some]
    obtain ⟨v6, q6, e6, a6, b6, i6⟩ := next_ok (a := 5) hs i5 (by omega)
    dsimp only
    rw [e6, Option.bind_some]
    obtain ⟨v7, q7, e7, a7, b7, i7⟩ := next_ok (a := 3) hs i6 (by omega)
    dsimp only
    rw [e7, Option.bind_some]
    exact ⟨_, _, _, _, _, _, _, _, rfl, j1, j2, by constructor <;> omega, by constructor <;> omega, by constructor <;> omega, by constructor <;> omega, a3, i7⟩
  · rw [if_neg c]
    exact ⟨_, _, _, _, _, _, _, _, rfl, j1, j2, j0, j0, j0, j0, a3, i3⟩
def DetI (d : S39) : Prop := I64 d.f0 ∧ I64 d.f1 ∧ I64 d.f2.f0 ∧ I64 d.f2.f1 ∧ I64 d.f2.f2 ∧ I64 d.f2.f3.f0 ∧ I64 d.f2.f3.f1 ∧ I64 d.f2.f4 ∧ I64 d.f2.f5
theorem dets_loop {s : List Int} (hs : Bytes s) : ∀ (n : Nat) (xs : List S39) (p : Int), In s p → n + xs.length < 1000000 → (∀ d ∈ xs, DetI d) →
    ∃ ys q, Ev (fun k => rollbacknetmake_Codes_Dets.l0 k xs (n : Int) s p) (ys, q) ∧ ys.length = n + xs.length ∧ (∀ d ∈ ys, DetI d) ∧ In s q
  | 0, xs, p, hp, hn, hx => by
    refine ⟨xs, p, ⟨1, fun k hk => ?_⟩, by omega, hx, hp⟩
    obtain ⟨m, rfl⟩ : ∃ m, k = m + 1 := ⟨k - 1, by omega⟩
    dsimp only
    rw [rollbacknetmake_Codes_Dets.l0, if_neg (by omega)]
  | n + 1, xs, p, hp, hn, hx => by
    obtain ⟨v1, q1, e1, a1, b1, i1⟩ := next_ok (a := 3) hs hp (by omega)
    obtain ⟨v2, q2, e2, a2, b2, i2⟩ := next_ok (a := 6) hs i1 (by omega)
    obtain ⟨a, b, c, d, e, f, g, q, e3, ja, jb, jc, jd, je, jf, jg, i3⟩ := event_ok hs i2
    have hd : DetI (⟨v1, wrap64 (1 + v2), (⟨a, b, c, (⟨d, e⟩ : S35), f, g⟩ : S37)⟩ : S39) := ⟨show I64 v1 by constructor <;> omega, show I64 (wrap64 (1 + v2)) by rw [w64 (by omega)]; constructor <;> omega, ja, jb, jc, jd, je, jf, jg⟩
    obtain ⟨ys, q', ⟨K, hK⟩, hl, hy, hq'⟩ := dets_loop hs n (xs ++ [(⟨v1, wrap64 (1 + v2), (⟨a, b, c, (⟨d, e⟩ : S35), f, g⟩ : S37)⟩ : S39)]) q i3 (by simp; omega) (fun z hz => by
      rcases List.mem_append.1 hz with h | h
      · exact hx z h
      · rw [List.mem_singleton.1 h]; exact hd)
    refine ⟨ys, q', ⟨K + 1, fun k hk => ?_⟩, by simp at hl; omega, hy, hq'⟩
    obtain ⟨m, rfl⟩ : ∃ m, k = m + 1 := ⟨k - 1, by omega⟩
    have e4 := hK m (by omega)
    dsimp only at e4 ⊢
    rw [rollbacknetmake_Codes_Dets.l0, if_pos (by omega), e1, Option.bind_some]
    dsimp only
    rw [e2, Option.bind_some]
    dsimp only
    rw [e3, Option.bind_some]
    dsimp only
    rw [if_pos (by omega), show wrap64 (((n + 1 : Nat) : Int) - 1) = (n : Int) by rw [w64 (by omega)]; omega]
    exact e4
theorem dets_ev {s : List Int} {p a : Int} (hs : Bytes s) (hp : In s p) (ha : 0 ≤ a) (ha2 : a < 1000) : ∃ ys q, Ev (fun k => rollbacknetmake_Codes_Dets.f k s p a) (ys, q) ∧ (ys.length : Int) ≤ a ∧ (∀ d ∈ ys, DetI d) ∧ In s q := by
  obtain ⟨v1, q1, e1, a1, b1, i1⟩ := next_ok (a := wrap64 (a + 1)) hs hp (by rw [w64 (by omega)]; omega)
  rw [w64 (by omega)] at b1
  obtain ⟨n, rfl⟩ := Int.eq_ofNat_of_zero_le a1
  obtain ⟨ys, q', ⟨K, hK⟩, hl, hy, hq'⟩ := dets_loop hs n [] q1 i1 (by simp; omega) (fun d hd => by simp at hd)
  refine ⟨ys, q', ⟨K, fun k hk => ?_⟩, by simp at hl; omega, hy, hq'⟩
  have e4 := hK k hk
  dsimp only at e4 ⊢
  rw [rollbacknetmake_Codes_Dets.f, e1, Option.bind_some]
  exact e4
theorem new_ok {s : List Int} {a : Int} (hb : ∀ x ∈ s, (Lit.int .u8 x).wf = true) (ha : 0 ≤ a) (ha2 : a < 1000) : ∃ t, rollbacknetmake_New.f s a = some (t, 0) ∧ Bytes t ∧ In t 0 := by
  have hb' : ∀ x ∈ s, 0 ≤ x ∧ x ≤ 255 := fun x hx => by
    have := hb x hx
    simpa [Lit.wf, IntKind.min, IntKind.max, IntKind.signed, IntKind.bits] using this
  unfold rollbacknetmake_New.f
  by_cases c : (s.length : Int) > a
  · rw [if_pos c, if_pos ha, if_pos (by omega)]
    exact ⟨_, rfl, ⟨by rw [List.length_take]; omega, fun x hx => hb' x (List.mem_of_mem_take hx)⟩, by constructor <;> omega⟩
  · rw [if_neg c]
    exact ⟨_, rfl, ⟨by omega, hb'⟩, by constructor <;> omega⟩
theorem mod_some (a m : Int) (hm : m ≠ 0) : ∃ v, rollbacknetmake_Mod.f a m = some v := by
  unfold rollbacknetmake_Mod.f
  rw [if_neg hm]
  split <;> exact ⟨_, rfl⟩
theorem near_some (a : S39) (field by_ : Int) : ∃ c : S39, rollbacknetlaw27_near.f a.f0 a.f1 a.f2.f0 a.f2.f1 a.f2.f2 a.f2.f3.f0 a.f2.f3.f1 a.f2.f4 a.f2.f5 field by_ = some (c.f0, c.f1, c.f2.f0, c.f2.f1, c.f2.f2, c.f2.f3.f0, c.f2.f3.f1, c.f2.f4, c.f2.f5) := by
  obtain ⟨v, hv⟩ := mod_some field 10 (by omega)
  have mk : ∀ x0 x1 x2 x3 x4 x5 x6 x7 x8 : Int, ∃ c : S39, some (x0, x1, x2, x3, x4, x5, x6, x7, x8) = some (c.f0, c.f1, c.f2.f0, c.f2.f1, c.f2.f2, c.f2.f3.f0, c.f2.f3.f1, c.f2.f4, c.f2.f5) := fun x0 x1 x2 x3 x4 x5 x6 x7 x8 => ⟨⟨x0, x1, ⟨x2, x3, x4, ⟨x5, x6⟩, x7, x8⟩⟩, rfl⟩
  unfold rollbacknetlaw27_near.f
  rw [hv, Option.bind_some]
  repeat' split
  all_goals exact mk _ _ _ _ _ _ _ _ _
/-! lineages -/
def lin (p : Int) (l : List S37) : List S39 := (List.range l.length).map (fun (i : Nat) => (⟨p, (i : Int) + 1, rd_T37 l (i : Int)⟩ : S39))
theorem lin_len (p : Int) (l : List S37) : (lin p l).length = l.length := by simp [lin]
theorem lin_succ (p : Int) (l : List S37) {i : Nat} (h : i < l.length) : (lin p l).take (i + 1) = (lin p l).take i ++ [(⟨p, (i : Int) + 1, rd_T37 l (i : Int)⟩ : S39)] := by
  have hi : i < (lin p l).length := by rw [lin_len]; exact h
  rw [← List.take_append_getElem hi]
  congr 2
  simp [lin]
theorem reflin_loop {p : Int} {l : List S37} (hl : l.length < 1000000) : ∀ (n i : Nat), l.length - i < n → i ≤ l.length → Ev (fun k => rollbacknetref27_Lineage.l0 k p l ((lin p l).take i) (i : Int)) (lin p l)
  | 0, _, h, _ => by omega
  | n + 1, i, hn, hi => by
    by_cases c : i < l.length
    · obtain ⟨K, hK⟩ := reflin_loop hl n (i + 1) (by omega) (by omega)
      refine ⟨K + 1, fun k hk => ?_⟩
      obtain ⟨m, rfl⟩ : ∃ m, k = m + 1 := ⟨k - 1, by omega⟩
      have g := hK m (by omega)
      dsimp only at g ⊢
      rw [lin_succ p l c] at g
      rw [rollbacknetref27_Lineage.l0, if_pos (by omega), if_pos (by omega), if_pos (by rw [List.length_take]; omega), w64 (by omega)]
      exact g
    · refine ⟨1, fun k hk => ?_⟩
      obtain ⟨m, rfl⟩ : ∃ m, k = m + 1 := ⟨k - 1, by omega⟩
      dsimp only
      rw [rollbacknetref27_Lineage.l0, if_neg (by omega), List.take_of_length_le (by rw [lin_len]; omega)]
theorem reflin_ev {p : Int} {l : List S37} (hl : l.length < 1000000) : Ev (fun k => rollbacknetref27_Lineage.f k p l) (lin p l) := reflin_loop hl (l.length + 1) 0 (by omega) (by omega)
/-! the scene -/
def EvI (e : S37) : Prop := I64 e.f0 ∧ I64 e.f1 ∧ I64 e.f2 ∧ I64 e.f3.f0 ∧ I64 e.f3.f1 ∧ I64 e.f4 ∧ I64 e.f5
theorem events_loop {s : List Int} (hs : Bytes s) : ∀ (n : Nat) (xs : List S37) (p : Int), In s p → n + xs.length < 1000000 → (∀ d ∈ xs, EvI d) →
    ∃ ys q, Ev (fun k => rollbacknetmake_Codes_Events.l0 k xs (n : Int) s p) (ys, q) ∧ ys.length = n + xs.length ∧ (∀ d ∈ ys, EvI d) ∧ In s q
  | 0, xs, p, hp, hn, hx => by
    refine ⟨xs, p, ⟨1, fun k hk => ?_⟩, by omega, hx, hp⟩
    obtain ⟨m, rfl⟩ : ∃ m, k = m + 1 := ⟨k - 1, by omega⟩
    dsimp only
    rw [rollbacknetmake_Codes_Events.l0, if_neg (by omega)]
  | n + 1, xs, p, hp, hn, hx => by
    obtain ⟨a, b, c, d, e, f, g, q, e3, ja, jb, jc, jd, je, jf, jg, i3⟩ := event_ok hs hp
    have hd : EvI (⟨a, b, c, (⟨d, e⟩ : S35), f, g⟩ : S37) := ⟨ja, jb, jc, jd, je, jf, jg⟩
    obtain ⟨ys, q', ⟨K, hK⟩, hl, hy, hq'⟩ := events_loop hs n (xs ++ [(⟨a, b, c, (⟨d, e⟩ : S35), f, g⟩ : S37)]) q i3 (by simp; omega) (fun z hz => by
      rcases List.mem_append.1 hz with h | h
      · exact hx z h
      · rw [List.mem_singleton.1 h]; exact hd)
    refine ⟨ys, q', ⟨K + 1, fun k hk => ?_⟩, by simp at hl; omega, hy, hq'⟩
    obtain ⟨m, rfl⟩ : ∃ m, k = m + 1 := ⟨k - 1, by omega⟩
    have e4 := hK m (by omega)
    dsimp only at e4 ⊢
    rw [rollbacknetmake_Codes_Events.l0, if_pos (by omega), e3, Option.bind_some]
    dsimp only
    rw [if_pos (by omega), show wrap64 (((n + 1 : Nat) : Int) - 1) = (n : Int) by rw [w64 (by omega)]; omega]
    exact e4
theorem events_ev {s : List Int} {p a : Int} (hs : Bytes s) (hp : In s p) (ha : 0 ≤ a) (ha2 : a < 1000) : ∃ ys q, Ev (fun k => rollbacknetmake_Codes_Events.f k s p a) (ys, q) ∧ (ys.length : Int) ≤ a ∧ (∀ d ∈ ys, EvI d) ∧ In s q := by
  obtain ⟨v1, q1, e1, a1, b1, i1⟩ := next_ok (a := wrap64 (a + 1)) hs hp (by rw [w64 (by omega)]; omega)
  rw [w64 (by omega)] at b1
  obtain ⟨n, rfl⟩ := Int.eq_ofNat_of_zero_le a1
  obtain ⟨ys, q', ⟨K, hK⟩, hl, hy, hq'⟩ := events_loop hs n [] q1 i1 (by simp; omega) (fun d hd => by simp at hd)
  refine ⟨ys, q', ⟨K, fun k hk => ?_⟩, by simp at hl; omega, hy, hq'⟩
  have e4 := hK k hk
  dsimp only at e4 ⊢
  rw [rollbacknetmake_Codes_Events.f, e1, Option.bind_some]
  exact e4
theorem near_ok {a : S39} {field by_ : Int} (ha : DetI a) (hb : I64 by_) : ∃ c : S39, rollbacknetlaw27_near.f a.f0 a.f1 a.f2.f0 a.f2.f1 a.f2.f2 a.f2.f3.f0 a.f2.f3.f1 a.f2.f4 a.f2.f5 field by_ = some (c.f0, c.f1, c.f2.f0, c.f2.f1, c.f2.f2, c.f2.f3.f0, c.f2.f3.f1, c.f2.f4, c.f2.f5) ∧ DetI c := by
  obtain ⟨v, hv⟩ := mod_some field 10 (by omega)
  have mk : ∀ x0 x1 x2 x3 x4 x5 x6 x7 x8 : Int, I64 x0 → I64 x1 → I64 x2 → I64 x3 → I64 x4 → I64 x5 → I64 x6 → I64 x7 → I64 x8 → ∃ c : S39, some (x0, x1, x2, x3, x4, x5, x6, x7, x8) = some (c.f0, c.f1, c.f2.f0, c.f2.f1, c.f2.f2, c.f2.f3.f0, c.f2.f3.f1, c.f2.f4, c.f2.f5) ∧ DetI c :=
    fun x0 x1 x2 x3 x4 x5 x6 x7 x8 h0 h1 h2 h3 h4 h5 h6 h7 h8 => ⟨⟨x0, x1, ⟨x2, x3, x4, ⟨x5, x6⟩, x7, x8⟩⟩, rfl, ⟨h0, h1, h2, h3, h4, h5, h6, h7, h8⟩⟩
  obtain ⟨h0, h1, h2, h3, h4, h5, h6, h7, h8⟩ := ha
  unfold rollbacknetlaw27_near.f
  rw [hv, Option.bind_some]
  repeat' split
  all_goals exact mk _ _ _ _ _ _ _ _ _ (by assumption) (by assumption) (by assumption) (by assumption) (by assumption) (by assumption) (by assumption) (by assumption) (by assumption)
theorem rd_at37 {xs : List S37} {i : Nat} (h : i < xs.length) : rd_T37 xs (i : Int) = xs[i] := by simp [rd_T37, List.getD_eq_getElem?_getD, h]
theorem lin_ok {p : Int} {l : List S37} (hp : I64 p) (hl : l.length < 1000000) (he : ∀ e ∈ l, EvI e) : ∀ d ∈ lin p l, DetI d := by
  intro d hd
  simp only [lin, List.mem_map, List.mem_range] at hd
  obtain ⟨i, hi, rfl⟩ := hd
  rw [rd_at37 hi]
  obtain ⟨a, b, c, d, e, f, g⟩ := he _ (List.getElem_mem hi)
  exact ⟨hp, show I64 ((i : Int) + 1) by constructor <;> omega, a, b, c, d, e, f, g⟩
theorem scene_l1 {s : List Int} (hs : Bytes s) {p : Int} {l : List S37} {ck : List Int} {all : List S39} (ha : all.length < 1000) (hall : ∀ d ∈ all, DetI d) : ∀ (n i : Nat) (acc : List S39) (q : Int), all.length - i < n → i ≤ all.length → acc.length = i → (∀ d ∈ acc, DetI d) → In s q →
    ∃ st, Ev (fun k => rollbacknetlaw27_scene.l1 k p l ck acc all (i : Int) s q) (p, l, ck, st) ∧ st.length ≤ all.length + 3 ∧ ∀ d ∈ st, DetI d
  | 0, _, _, _, h, _, _, _, _ => by omega
  | n + 1, i, acc, q, hn, hi, hc, hacc, hq => by
    by_cases c : i < all.length
    · obtain ⟨v, q1, e1, v0, v1, i1⟩ := next_ok (a := 4) hs hq (by omega)
      have hmem : ∀ d : S39, DetI d → ∀ z ∈ acc ++ [d], DetI z := fun d hd z hz => by
        rcases List.mem_append.1 hz with h | h
        · exact hacc z h
        · rw [List.mem_singleton.1 h]; exact hd
      by_cases cv : v > 0
      · obtain ⟨st, ⟨K, hK⟩, h1, h2⟩ := scene_l1 hs (p := p) (l := l) (ck := ck) ha hall n (i + 1) (acc ++ [all[i]]) q1 (by omega) (by omega) (by simp; omega) (hmem _ (hall _ (List.getElem_mem c))) i1
        refine ⟨st, ⟨K + 1, fun k hk => ?_⟩, h1, h2⟩
        obtain ⟨m, rfl⟩ : ∃ m, k = m + 1 := ⟨k - 1, by omega⟩
        have g := hK m (by omega)
        dsimp only at g ⊢
        rw [rollbacknetlaw27_scene.l1, if_pos (by omega), e1, Option.bind_some]
        dsimp only
        rw [if_pos cv, if_pos (by omega), if_pos (by omega), rd_at c, w64 (by omega)]
        exact g
      · obtain ⟨f, q2, e2, f0, f1, i2⟩ := next_ok (a := 10) hs i1 (by omega)
        obtain ⟨b, q3, e3, b0, b1, i3⟩ := next_ok (a := 3) hs i2 (by omega)
        obtain ⟨d, e4, hd⟩ := near_ok (field := f) (by_ := b) (hall _ (List.getElem_mem c)) (by constructor <;> omega)
        obtain ⟨st, ⟨K, hK⟩, h1, h2⟩ := scene_l1 hs (p := p) (l := l) (ck := ck) ha hall n (i + 1) (acc ++ [d]) q3 (by omega) (by omega) (by simp; omega) (hmem _ hd) i3
        refine ⟨st, ⟨K + 1, fun k hk => ?_⟩, h1, h2⟩
        obtain ⟨m, rfl⟩ : ∃ m, k = m + 1 := ⟨k - 1, by omega⟩
        have g := hK m (by omega)
        dsimp only at g ⊢
        rw [rollbacknetlaw27_scene.l1, if_pos (by omega), e1, Option.bind_some]
        dsimp only
        rw [if_neg cv, if_pos (by omega), e2, Option.bind_some]
        dsimp only
        rw [e3, Option.bind_some]
        dsimp only
        rw [rd_at c, e4, Option.bind_some]
        dsimp only
        rw [if_pos (by omega), w64 (by omega)]
        exact g
    · obtain ⟨ys, q', ⟨K, hK⟩, hl, hy, hq'⟩ := dets_ev (a := 3) hs hq (by omega) (by omega)
      refine ⟨acc ++ ys, ⟨K + 1, fun k hk => ?_⟩, by simp; omega, fun z hz => ?_⟩
      · obtain ⟨m, rfl⟩ : ∃ m, k = m + 1 := ⟨k - 1, by omega⟩
        have g := hK m (by omega)
        dsimp only at g ⊢
        rw [rollbacknetlaw27_scene.l1, if_neg (by omega), g, Option.bind_some]
        dsimp only
        rw [if_pos (by omega)]
      · rcases List.mem_append.1 hz with h | h
        · exact hacc z h
        · exact hy z h
theorem scene_j1 {s : List Int} (hs : Bytes s) {p q : Int} {l : List S37} {ck : List Int} (hp : I64 p) (hl : l.length < 900) (he : ∀ e ∈ l, EvI e) (hq : In s q) :
    ∃ st, Ev (fun k => rollbacknetlaw27_scene.j1 k p l ck s q) (p, l, ck, st) ∧ st.length ≤ l.length + 3 ∧ ∀ d ∈ st, DetI d := by
  obtain ⟨st, ⟨K, hK⟩, h1, h2⟩ := scene_l1 hs (p := p) (l := l) (ck := ck) (all := lin p l) (by rw [lin_len]; omega) (lin_ok hp (by omega) he) ((lin p l).length + 1) 0 [] q (by omega) (by omega) rfl (fun d hd => by simp at hd) hq
  rw [lin_len] at h1
  obtain ⟨K', hK'⟩ := reflin_ev (p := p) (l := l) (by omega)
  refine ⟨st, ⟨K + K' + 1, fun k hk => ?_⟩, h1, h2⟩
  obtain ⟨m, rfl⟩ : ∃ m, k = m + 1 := ⟨k - 1, by omega⟩
  have g := hK m (by omega)
  have g' := hK' m (by omega)
  dsimp only at g g' ⊢
  rw [rollbacknetlaw27_scene.j1, g', Option.bind_some]
  exact g
theorem scene_l0 {s : List Int} (hs : Bytes s) {p : Int} {l : List S37} (hp : I64 p) (hl : l.length < 900) (he : ∀ e ∈ l, EvI e) : ∀ (n i : Nat) (ck : List Int) (q : Int), l.length + 1 - i < n → i ≤ l.length + 1 → ck.length ≤ i → In s q →
    ∃ ck' st, Ev (fun k => rollbacknetlaw27_scene.l0 k p l ck (i : Int) s q) (p, l, ck', st) ∧ ck'.length ≤ l.length + 2 ∧ st.length ≤ l.length + 3 ∧ ∀ d ∈ st, DetI d
  | 0, _, _, _, h, _, _, _ => by omega
  | n + 1, i, ck, q, hn, hi, hc, hq => by
    by_cases c : i ≤ l.length
    · obtain ⟨v, q1, e1, v0, v1, i1⟩ := next_ok (a := 4) hs hq (by omega)
      by_cases cv : v = 1
      · obtain ⟨ck', st, ⟨K, hK⟩, h1, h2, h3⟩ := scene_l0 hs hp hl he n (i + 1) (ck ++ [(i : Int)]) q1 (by omega) (by omega) (by simp; omega) i1
        refine ⟨ck', st, ⟨K + 1, fun k hk => ?_⟩, h1, h2, h3⟩
        obtain ⟨m, rfl⟩ : ∃ m, k = m + 1 := ⟨k - 1, by omega⟩
        have g := hK m (by omega)
        dsimp only at g ⊢
        rw [rollbacknetlaw27_scene.l0, if_pos (by omega), e1, Option.bind_some]
        dsimp only
        rw [if_pos cv, if_pos (by omega), w64 (by omega)]
        exact g
      · obtain ⟨ck', st, ⟨K, hK⟩, h1, h2, h3⟩ := scene_l0 hs hp hl he n (i + 1) ck q1 (by omega) (by omega) (by omega) i1
        refine ⟨ck', st, ⟨K + 1, fun k hk => ?_⟩, h1, h2, h3⟩
        obtain ⟨m, rfl⟩ : ∃ m, k = m + 1 := ⟨k - 1, by omega⟩
        have g := hK m (by omega)
        dsimp only at g ⊢
        rw [rollbacknetlaw27_scene.l0, if_pos (by omega), e1, Option.bind_some]
        dsimp only
        rw [if_neg cv, w64 (by omega)]
        exact g
    · obtain ⟨v, q1, e1, v0, v1, i1⟩ := next_ok (a := 6) hs hq (by omega)
      by_cases cv : v = 5
      · obtain ⟨x, q2, e2, hx, i2⟩ := int_ok hs i1
        obtain ⟨st, ⟨K, hK⟩, h1, h2⟩ := scene_j1 hs (ck := ck ++ [x]) hp hl he i2
        refine ⟨ck ++ [x], st, ⟨K + 1, fun k hk => ?_⟩, by simp; omega, h1, h2⟩
        obtain ⟨m, rfl⟩ : ∃ m, k = m + 1 := ⟨k - 1, by omega⟩
        have g := hK m (by omega)
        dsimp only at g ⊢
        rw [rollbacknetlaw27_scene.l0, if_neg (by omega), e1, Option.bind_some]
        dsimp only
        rw [if_pos cv, e2, Option.bind_some]
        dsimp only
        rw [if_pos (by omega)]
        exact g
      · obtain ⟨st, ⟨K, hK⟩, h1, h2⟩ := scene_j1 hs (ck := ck) hp hl he i1
        refine ⟨ck, st, ⟨K + 1, fun k hk => ?_⟩, by omega, h1, h2⟩
        obtain ⟨m, rfl⟩ : ∃ m, k = m + 1 := ⟨k - 1, by omega⟩
        have g := hK m (by omega)
        dsimp only at g ⊢
        rw [rollbacknetlaw27_scene.l0, if_neg (by omega), e1, Option.bind_some]
        dsimp only
        rw [if_neg cv]
        exact g
theorem scene_ev {codes : List Int} (hb : ∀ x ∈ codes, (Lit.int .u8 x).wf = true) : ∃ p l ck st, Ev (fun k => rollbacknetlaw27_scene.f k codes) (p, l, ck, st) ∧ I64 p ∧ l.length ≤ 12 ∧ (∀ e ∈ l, EvI e) ∧ ck.length ≤ 14 ∧ st.length ≤ 15 ∧ ∀ d ∈ st, DetI d := by
  obtain ⟨t, e1, ht, hp⟩ := new_ok (s := codes) (a := 250) hb (by omega) (by omega)
  obtain ⟨p, q1, e2, p0, p1, i1⟩ := next_ok (a := 3) ht hp (by omega)
  obtain ⟨l, q2, ⟨K, hK⟩, hl, he, i2⟩ := events_ev (a := 12) ht i1 (by omega) (by omega)
  have hpI : I64 p := by constructor <;> omega
  obtain ⟨ck, st, ⟨K', hK'⟩, h1, h2, h3⟩ := scene_l0 ht hpI (by omega) he (l.length + 2) 0 [] q2 (by omega) (by omega) (by simp) i2
  refine ⟨p, l, ck, st, ⟨K + K', fun k hk => ?_⟩, hpI, by omega, he, by omega, by omega, h3⟩
  have g := hK k (by omega)
  have g' := hK' k (by omega)
  dsimp only at g g' ⊢
  rw [rollbacknetlaw27_scene.f, e1, Option.bind_some]
  dsimp only
  rw [e2, Option.bind_some]
  dsimp only
  rw [g, Option.bind_some]
  exact g'
/-! Same -/
theorem same_loop {l : List S39} (hl2 : l.length < 1000000) : ∀ (n i : Nat), l.length - i < n → i ≤ l.length → Ev (fun k => rollbacknetref27_Same.l0 k l l (i : Int)) true
  | 0, _, h, _ => by omega
  | n + 1, i, hn, hi => by
    by_cases c : i < l.length
    · obtain ⟨K, hK⟩ := same_loop hl2 n (i + 1) (by omega) (by omega)
      refine ⟨K + 1, fun k hk => ?_⟩
      obtain ⟨m, rfl⟩ : ∃ m, k = m + 1 := ⟨k - 1, by omega⟩
      have e2 := hK m (by omega)
      dsimp only at e2 ⊢
      rw [rollbacknetref27_Same.l0, if_pos (by omega), if_pos (by omega), if_pos (by omega), if_neg (by simp), w64 (by omega)]
      exact e2
    · refine ⟨1, fun k hk => ?_⟩
      obtain ⟨m, rfl⟩ : ∃ m, k = m + 1 := ⟨k - 1, by omega⟩
      dsimp only
      rw [rollbacknetref27_Same.l0, if_neg (by omega)]
theorem same_ev {l : List S39} (hl : l.length < 1000000) : Ev (fun k => rollbacknetref27_Same.f k l l) true := by
  obtain ⟨K, hK⟩ := same_loop hl (l.length + 1) 0 (by omega) (by omega)
  refine ⟨K, fun k hk => ?_⟩
  dsimp only
  rw [rollbacknetref27_Same.f, if_pos rfl]
  exact hK k hk
/-! Lineage, Has, Restorable -/
theorem lin_loop {p : Int} {l : List S37} (hl : l.length < 1000000) : ∀ (n i : Nat), l.length - i < n → i ≤ l.length → Ev (fun k => determinant_Lineage.l0 k p ((lin p l).take i) l (l.length : Int) (i : Int)) (lin p l)
  | 0, _, h, _ => by omega
  | n + 1, i, hn, hi => by
    by_cases c : i < l.length
    · obtain ⟨K, hK⟩ := lin_loop hl n (i + 1) (by omega) (by omega)
      refine ⟨K + 1, fun k hk => ?_⟩
      obtain ⟨m, rfl⟩ : ∃ m, k = m + 1 := ⟨k - 1, by omega⟩
      have g := hK m (by omega)
      dsimp only at g ⊢
      rw [lin_succ p l c] at g
      rw [determinant_Lineage.l0, if_pos (by omega), if_pos (by omega), if_pos (by omega), if_pos (by rw [List.length_take]; omega), w64 (by omega)]
      exact g
    · refine ⟨1, fun k hk => ?_⟩
      obtain ⟨m, rfl⟩ : ∃ m, k = m + 1 := ⟨k - 1, by omega⟩
      dsimp only
      rw [determinant_Lineage.l0, if_neg (by omega), List.take_of_length_le (by rw [lin_len]; omega)]
theorem lin_ev {p : Int} {l : List S37} (hl : l.length < 1000000) : Ev (fun k => determinant_Lineage.f k p l) (lin p l) := lin_loop hl (l.length + 1) 0 (by omega) (by omega)
theorem refhas_loop {l : List S39} {d : S39} (hl : l.length < 1000000) : ∀ (n i : Nat), l.length - i < n → i ≤ l.length → Ev (fun k => rollbacknetref27_Has.l0 k l (i : Int) d.f0 d.f1 d.f2.f0 d.f2.f1 d.f2.f2 d.f2.f3.f0 d.f2.f3.f1 d.f2.f4 d.f2.f5) (decide (d ∈ l.drop i))
  | 0, _, h, _ => by omega
  | n + 1, i, hn, hi => by
    by_cases c : i < l.length
    · obtain ⟨K, hK⟩ := refhas_loop (d := d) hl n (i + 1) (by omega) (by omega)
      refine ⟨K + 1, fun k hk => ?_⟩
      obtain ⟨m, rfl⟩ : ∃ m, k = m + 1 := ⟨k - 1, by omega⟩
      have g := hK m (by omega)
      dsimp only at g ⊢
      rw [rollbacknetref27_Has.l0, if_pos (by omega), if_pos (by omega), rd_at c, List.drop_eq_getElem_cons c]
      by_cases e : l[i] = d
      · rw [if_pos ((eq9 _ _).2 e), decide_eq_true (by rw [e]; exact List.mem_cons_self)]
      · rw [if_neg (fun hh => e ((eq9 _ _).1 hh)), w64 (by omega)]
        rw [show decide (d ∈ l[i] :: l.drop (i + 1)) = decide (d ∈ l.drop (i + 1)) by
          congr 1
          rw [List.mem_cons, eq_iff_iff]
          exact ⟨fun h => h.elim (fun h => absurd h.symm e) id, .inr⟩]
        exact g
    · refine ⟨1, fun k hk => ?_⟩
      obtain ⟨m, rfl⟩ : ∃ m, k = m + 1 := ⟨k - 1, by omega⟩
      dsimp only
      rw [rollbacknetref27_Has.l0, if_neg (by omega), List.drop_eq_nil_of_le (by omega)]
      simp
theorem refhas_ev {l : List S39} (d : S39) (hl : l.length < 1000000) : Ev (fun k => rollbacknetref27_Has.f k l d.f0 d.f1 d.f2.f0 d.f2.f1 d.f2.f2 d.f2.f3.f0 d.f2.f3.f1 d.f2.f4 d.f2.f5) (decide (d ∈ l)) := refhas_loop hl (l.length + 1) 0 (by omega) (by omega)
theorem has_mem (l : List S39) (d : S39) : determinant_Restorable.has l d = decide (d ∈ l) := by
  rw [Bool.eq_iff_iff, decide_eq_true_iff]
  simp only [determinant_Restorable.has, List.any_eq_true, determinant_Restorable.eqD_iff]
  exact ⟨fun ⟨x, h, e⟩ => e ▸ h, fun h => ⟨d, h, rfl⟩⟩
theorem mark_fold (n : Nat) : ∀ (l : List Int) (s : List Bool), s.length = n + 1 → ∀ j : Nat, j ≤ n → (l.foldl (determinant_Restorable.mark n) s).getD j false = (s.getD j false || decide ((j : Int) ∈ l))
  | [], s, _, j, _ => by simp
  | c :: l, s, hs, j, hj => by
    have hm : (determinant_Restorable.mark n s c).length = n + 1 := by
      unfold determinant_Restorable.mark
      split
      · split
        · rw [List.length_set]; exact hs
        · exact hs
      · exact hs
    rw [List.foldl_cons, mark_fold n l _ hm j hj]
    have : (determinant_Restorable.mark n s c).getD j false = (s.getD j false || decide ((j : Int) = c)) := by
      unfold determinant_Restorable.mark
      by_cases h0 : 0 ≤ c
      · rw [if_pos h0]
        by_cases h1 : c ≤ n
        · rw [if_pos h1]
          by_cases e : (j : Int) = c
          · have : c.toNat = j := by omega
            rw [this, decide_eq_true e, Bool.or_true, List.getD_eq_getElem?_getD, List.getElem?_set_self (by omega)]
            rfl
          · rw [decide_eq_false e, Bool.or_false, List.getD_eq_getElem?_getD, List.getElem?_set_ne (by omega), ← List.getD_eq_getElem?_getD]
        · rw [if_neg h1, decide_eq_false (by omega), Bool.or_false]
      · rw [if_neg h0, decide_eq_false (by omega), Bool.or_false]
    rw [this, Bool.or_assoc]
    congr 1
    rw [Bool.eq_iff_iff]
    simp
theorem marks_at (n : Nat) (l : List Int) {j : Nat} (hj : j ≤ n) : rdOf false (determinant_Restorable.marks n l) (j : Int) = decide ((j : Int) ∈ l) := by
  have h := mark_fold n l (List.replicate (n + 1) false) (by simp) j hj
  have h0 : (List.replicate (n + 1) false).getD j false = false := by rw [List.getD_eq_getElem?_getD, List.getElem?_replicate]; split <;> rfl
  rw [h0, Bool.false_or] at h
  exact h
/-- The restorable indexes, and whether the last one asked is one. -/
def rst (p : Int) (l : List S37) (ck : List Int) (s : List S39) (i : Nat) : List Int × Bool := determinant_Restorable.outs p l s (determinant_Restorable.marks l.length ck) i
def good (p : Int) (l : List S37) (ck : List Int) (s : List S39) (j : Nat) (ok : Bool) : Bool := decide ((j : Int) ∈ ck) || determinant_Restorable.ask p l s j ok
theorem rst_succ (p : Int) (l : List S37) (ck : List Int) (s : List S39) {i : Nat} (hi : i ≤ l.length) : rst p l ck s (i + 1) = if good p l ck s i (rst p l ck s i).2 = true then ((rst p l ck s i).1 ++ [(i : Int)], true) else ((rst p l ck s i).1, false) := by
  unfold rst
  rw [determinant_Restorable.outs_succ]
  unfold determinant_Restorable.step good
  rw [marks_at _ _ hi]
theorem rst_len (p : Int) (l : List S37) (ck : List Int) (s : List S39) (i : Nat) : (rst p l ck s i).1.length ≤ i := determinant_Restorable.outs_len p l s _ i
theorem restorable_at {p : Int} {l : List S37} {ck : List Int} {s : List S39} (hp : I64 p) (hl : l.length < 1000000) (hck : ck.length < 1000000) (hs : s.length < 1000000) (he : ∀ e ∈ l, EvI e) (hd : ∀ d ∈ s, DetI d) :
    determinant_Restorable.f p l ck s = some (rst p l ck s (l.length + 1)).1 := by
  unfold determinant_Restorable.f
  have i64 : ∀ {x : Int}, I64 x → determinant_Restorable.okI x = true := fun h => decide_eq_true h
  have z : determinant_Restorable.okI 0 = true := by decide
  rw [if_pos]
  · rfl
  · unfold determinant_Restorable.fit
    simp only [Bool.and_eq_true, decide_eq_true_eq, List.all_eq_true]
    refine ⟨⟨⟨⟨⟨hl, hck⟩, hs⟩, fun d h => ?_⟩, i64 hp⟩, fun e h => ?_⟩
    · obtain ⟨a, b, c, d, e, f, g, h, i⟩ := hd d h
      simp only [determinant_Restorable.okD, Bool.and_eq_true]
      exact ⟨⟨⟨⟨⟨⟨⟨⟨i64 a, i64 b⟩, i64 c⟩, i64 d⟩, i64 e⟩, i64 f⟩, i64 g⟩, i64 h⟩, i64 i⟩
    · obtain ⟨c, d, e, f, g, h, i⟩ := he e h
      simp only [determinant_Restorable.okD, Bool.and_eq_true]
      exact ⟨⟨⟨⟨⟨⟨⟨⟨z, z⟩, i64 c⟩, i64 d⟩, i64 e⟩, i64 f⟩, i64 g⟩, i64 h⟩, i64 i⟩
theorem refrest_l1 {p : Int} {l : List S37} {ck : List Int} {s : List S39} (hck : ck.length < 1000000) {acc : List Int} {kk : Int} {r : List Int} (hacc : acc.length < 1000000) (hw : wrap64 (kk + 1) = kk + 1) : ∀ (n i : Nat) (g : Bool), ck.length - i < n → i ≤ ck.length →
    Ev (fun k => rollbacknetref27_Restorable.l0 k p l ck s (if (g || decide (kk ∈ ck.drop i)) = true then acc ++ [kk] else acc) (g || decide (kk ∈ ck.drop i)) (kk + 1)) r → Ev (fun k => rollbacknetref27_Restorable.l1 k p l ck s acc g kk (i : Int)) r
  | 0, _, _, h, _, _ => by omega
  | n + 1, i, g, hn, hi, hr => by
    by_cases c : i < ck.length
    · have hm : decide (kk ∈ ck.drop i) = (decide (ck[i] = kk) || decide (kk ∈ ck.drop (i + 1))) := by
        rw [List.drop_eq_getElem_cons c, Bool.eq_iff_iff]
        simp only [List.mem_cons, Bool.or_eq_true, decide_eq_true_eq]
        exact ⟨fun h => h.imp_left Eq.symm, fun h => h.imp_left Eq.symm⟩
      have hrd : rd ck (i : Int) = ck[i] := by simp [rd, List.getD_eq_getElem?_getD, c]
      cases g with
      | true =>
        obtain ⟨K, hK⟩ := refrest_l1 hck hacc hw n (i + 1) true (by omega) (by omega) (by simpa using hr)
        refine ⟨K + 1, fun k hk => ?_⟩
        obtain ⟨m, rfl⟩ : ∃ m, k = m + 1 := ⟨k - 1, by omega⟩
        have g := hK m (by omega)
        dsimp only at g ⊢
        rw [rollbacknetref27_Restorable.l1, if_pos (by omega), if_pos rfl, w64 (by omega)]
        exact g
      | false =>
        rw [hm, Bool.false_or] at hr
        obtain ⟨K, hK⟩ := refrest_l1 hck hacc hw n (i + 1) (decide (ck[i] = kk)) (by omega) (by omega) hr
        refine ⟨K + 1, fun k hk => ?_⟩
        obtain ⟨m, rfl⟩ : ∃ m, k = m + 1 := ⟨k - 1, by omega⟩
        have g := hK m (by omega)
        dsimp only at g ⊢
        rw [rollbacknetref27_Restorable.l1, if_pos (by omega), if_neg (by decide), if_pos (by omega), w64 (x := (i : Int) + 1) (by omega), hrd]
        exact g
    · have hz : decide (kk ∈ ck.drop i) = false := by rw [List.drop_eq_nil_of_le (by omega)]; simp
      rw [hz, Bool.or_false] at hr
      obtain ⟨K, hK⟩ := hr
      refine ⟨K + 1, fun k hk => ?_⟩
      obtain ⟨m, rfl⟩ : ∃ m, k = m + 1 := ⟨k - 1, by omega⟩
      have e := hK m (by omega)
      dsimp only at e ⊢
      rw [rollbacknetref27_Restorable.l1, if_neg (by omega), hw]
      cases g with
      | true => rw [if_pos rfl, if_pos (by omega)]; exact e
      | false => rw [if_neg (by decide)]; exact e
theorem refrest_loop {p : Int} {l : List S37} {ck : List Int} {s : List S39} (hl : l.length < 900000) (hck : ck.length < 1000000) (hs : s.length < 1000000) : ∀ (n i : Nat), l.length + 1 - i < n → i ≤ l.length + 1 →
    Ev (fun k => rollbacknetref27_Restorable.l0 k p l ck s (rst p l ck s i).1 (rst p l ck s i).2 (i : Int)) (rst p l ck s (l.length + 1)).1
  | 0, _, h, _ => by omega
  | n + 1, i, hn, hi => by
    by_cases c : i ≤ l.length
    · have ih := refrest_loop (p := p) hl hck hs n (i + 1) (by omega) (by omega)
      have hsucc := rst_succ p l ck s c
      have hlen := rst_len p l ck s i
      have core : ∀ g : Bool, determinant_Restorable.ask p l s i (rst p l ck s i).2 = g → Ev (fun k => rollbacknetref27_Restorable.j1 k p l ck s (rst p l ck s i).1 g (i : Int)) (rst p l ck s (l.length + 1)).1 := by
        intro g hg
        have e : good p l ck s i (rst p l ck s i).2 = (g || decide ((i : Int) ∈ ck.drop 0)) := by
          unfold good
          rw [hg, Bool.or_comm, List.drop_zero]
        have st : Ev (fun k => rollbacknetref27_Restorable.l1 k p l ck s (rst p l ck s i).1 g (i : Int) ((0 : Nat) : Int)) (rst p l ck s (l.length + 1)).1 := by
          refine refrest_l1 hck (by omega) (w64 (by omega)) (ck.length + 1) 0 g (by omega) (by omega) ?_
          rw [← e]
          rw [hsucc] at ih
          by_cases hg2 : good p l ck s i (rst p l ck s i).2 = true
          · rw [if_pos hg2] at ih ⊢
            rw [hg2]
            exact ih
          · rw [if_neg hg2] at ih ⊢
            rw [Bool.eq_false_iff.2 hg2]
            exact ih
        obtain ⟨K, hK⟩ := st
        refine ⟨K + 1, fun k hk => ?_⟩
        obtain ⟨m, rfl⟩ : ∃ m, k = m + 1 := ⟨k - 1, by omega⟩
        have e := hK m (by omega)
        dsimp only at e ⊢
        rw [rollbacknetref27_Restorable.j1]
        exact e
      cases hb : (rst p l ck s i).2 with
      | false =>
        obtain ⟨K, hK⟩ := core false (by rw [hb]; unfold determinant_Restorable.ask; split <;> simp)
        refine ⟨K + 1, fun k hk => ?_⟩
        obtain ⟨m, rfl⟩ : ∃ m, k = m + 1 := ⟨k - 1, by omega⟩
        have e := hK m (by omega)
        dsimp only at e ⊢
        rw [rollbacknetref27_Restorable.l0, if_pos (by omega), if_neg (by decide)]
        exact e
      | true =>
        have hpos : 0 < i := by
          rcases Nat.eq_zero_or_pos i with h | h
          · subst h
            simp [rst, determinant_Restorable.outs] at hb
          · exact h
        obtain ⟨q, rfl⟩ : ∃ q, i = q + 1 := ⟨i - 1, by omega⟩
        have ew : wrap64 (((q + 1 : Nat) : Int) - 1) = (q : Int) := by rw [w64 (by omega)]; omega
        have hask : determinant_Restorable.ask p l s (q + 1) true = decide ((⟨p, ((q + 1 : Nat) : Int), rd_T37 l (q : Int)⟩ : S39) ∈ s) := by
          unfold determinant_Restorable.ask
          rw [if_pos (by omega), if_pos rfl, ew, has_mem]
        obtain ⟨K, hK⟩ := core (decide ((⟨p, ((q + 1 : Nat) : Int), rd_T37 l (q : Int)⟩ : S39) ∈ s)) (by rw [hb]; exact hask)
        obtain ⟨K', hK'⟩ := refhas_ev (l := s) (⟨p, ((q + 1 : Nat) : Int), rd_T37 l (q : Int)⟩ : S39) hs
        refine ⟨K + K' + 1, fun k hk => ?_⟩
        obtain ⟨m, rfl⟩ : ∃ m, k = m + 1 := ⟨k - 1, by omega⟩
        have e := hK m (by omega)
        have e' := hK' m (by omega)
        dsimp only at e e' ⊢
        rw [rollbacknetref27_Restorable.l0, if_pos (by omega), if_pos rfl, ew, if_pos (by omega), if_pos (by omega), e', Option.bind_some]
        exact e
    · have hi' : i = l.length + 1 := by omega
      subst hi'
      refine ⟨1, fun k hk => ?_⟩
      obtain ⟨m, rfl⟩ : ∃ m, k = m + 1 := ⟨k - 1, by omega⟩
      dsimp only
      rw [rollbacknetref27_Restorable.l0, if_neg (by omega)]
theorem refrest_ev {p : Int} {l : List S37} {ck : List Int} {s : List S39} (hl : l.length < 900000) (hck : ck.length < 1000000) (hs : s.length < 1000000) : Ev (fun k => rollbacknetref27_Restorable.f k p l ck s) (rst p l ck s (l.length + 1)).1 :=
  refrest_loop hl hck hs (l.length + 2) 0 (by omega) (by omega)
theorem sameints_loop {l : List Int} (hl : l.length < 1000000) : ∀ (n i : Nat), l.length - i < n → i ≤ l.length → Ev (fun k => rollbacknetref23_SameInts.l0 k l l (i : Int)) true
  | 0, _, h, _ => by omega
  | n + 1, i, hn, hi => by
    by_cases c : i < l.length
    · obtain ⟨K, hK⟩ := sameints_loop hl n (i + 1) (by omega) (by omega)
      refine ⟨K + 1, fun k hk => ?_⟩
      obtain ⟨m, rfl⟩ : ∃ m, k = m + 1 := ⟨k - 1, by omega⟩
      have g := hK m (by omega)
      dsimp only at g ⊢
      rw [rollbacknetref23_SameInts.l0, if_pos (by omega), if_pos (by omega), if_pos (by omega), if_pos rfl, w64 (by omega)]
      exact g
    · refine ⟨1, fun k hk => ?_⟩
      obtain ⟨m, rfl⟩ : ∃ m, k = m + 1 := ⟨k - 1, by omega⟩
      dsimp only
      rw [rollbacknetref23_SameInts.l0, if_neg (by omega)]
theorem sameints_ev {l : List Int} (hl : l.length < 1000000) : Ev (fun k => rollbacknetref23_SameInts.f k l l) true := by
  obtain ⟨K, hK⟩ := sameints_loop hl (l.length + 1) 0 (by omega) (by omega)
  refine ⟨K, fun k hk => ?_⟩
  have g := hK k hk
  dsimp only at g ⊢
  rw [rollbacknetref23_SameInts.f, if_pos rfl]
  exact g
/-! DeterminantRestores -/
theorem int_of {x : Int} (h : okInt .i64 x) : I64 x := by simpa [okInt, Lit.wf, IntKind.min, IntKind.max, IntKind.signed, IntKind.bits, I64] using h
theorem ev_of {e : S37} (h : ok37 e) : EvI e := by
  obtain ⟨a, b, c, ⟨d, e⟩, f, g⟩ := h
  exact ⟨int_of a, int_of b, int_of c, int_of d, int_of e, int_of f, int_of g⟩
theorem det_of {d : S39} (h : ok39 d) : DetI d := by
  obtain ⟨a, b, c⟩ := h
  obtain ⟨c0, c1, c2, c3, c4, c5, c6⟩ := ev_of c
  exact ⟨int_of a, int_of b, c0, c1, c2, c3, c4, c5, c6⟩
theorem DeterminantRestores : rollbacknetlaw27_DeterminantRestores.Pure := by
  intro p l ck s codes hp hl hck hs hc
  obtain ⟨K0, h0⟩ := awake_ev
  by_cases c0 : (l.length : Int) > 40
  · refine ⟨K0 + 1, ?_⟩
    rw [rollbacknetlaw27_DeterminantRestores.f, h0 (K0 + 1) (by omega), Option.bind_some, if_pos rfl, if_pos c0, rollbacknetlaw27_DeterminantRestores.j0, if_pos rfl, if_pos c0]
  by_cases c1 : (ck.length : Int) > 40
  · refine ⟨K0 + 1, ?_⟩
    rw [rollbacknetlaw27_DeterminantRestores.f, h0 (K0 + 1) (by omega), Option.bind_some, if_pos rfl, if_neg c0, if_pos c1, rollbacknetlaw27_DeterminantRestores.j0, if_pos rfl, if_neg c0, if_pos c1]
  by_cases c2 : (s.length : Int) > 60
  · refine ⟨K0 + 1, ?_⟩
    rw [rollbacknetlaw27_DeterminantRestores.f, h0 (K0 + 1) (by omega), Option.bind_some, if_pos rfl, if_neg c0, if_neg c1, decide_eq_true c2, rollbacknetlaw27_DeterminantRestores.j0, if_pos rfl, if_neg c0, if_neg c1, decide_eq_true c2]
  obtain ⟨p', l', ck', s', ⟨K1, h1⟩, hp', hl', he', hck', hs', hd'⟩ := scene_ev hc.2.2
  obtain ⟨K2, h2⟩ := lin_ev (p := p) (l := l) (by omega)
  obtain ⟨K3, h3⟩ := reflin_ev (p := p) (l := l) (by omega)
  obtain ⟨K4, h4⟩ := same_ev (l := lin p l) (by rw [lin_len]; omega)
  obtain ⟨K5, h5⟩ := lin_ev (p := p') (l := l') (by omega)
  obtain ⟨K6, h6⟩ := reflin_ev (p := p') (l := l') (by omega)
  obtain ⟨K7, h7⟩ := same_ev (l := lin p' l') (by rw [lin_len]; omega)
  obtain ⟨K8, h8⟩ := refrest_ev (p := p) (l := l) (ck := ck) (s := s) (by omega) (by omega) (by omega)
  obtain ⟨K9, h9⟩ := sameints_ev (l := (rst p l ck s (l.length + 1)).1) (by have := rst_len p l ck s (l.length + 1); omega)
  obtain ⟨K10, h10⟩ := refrest_ev (p := p') (l := l') (ck := ck') (s := s') (by omega) (by omega) (by omega)
  obtain ⟨K11, h11⟩ := sameints_ev (l := (rst p' l' ck' s' (l'.length + 1)).1) (by have := rst_len p' l' ck' s' (l'.length + 1); omega)
  have r1 := restorable_at (p := p) (l := l) (ck := ck) (s := s) (int_of hp) (by omega) (by omega) (by omega) (fun e h => ev_of (hl.2.2 e h)) (fun d h => det_of (hs.2.2 d h))
  have r2 := restorable_at (p := p') (l := l') (ck := ck') (s := s') hp' (by omega) (by omega) (by omega) he' hd'
  obtain ⟨M, hM⟩ : ∃ M, M = K0 + K1 + K2 + K3 + K4 + K5 + K6 + K7 + K8 + K9 + K10 + K11 := ⟨_, rfl⟩
  refine ⟨M + 1, ?_⟩
  have g1 := h1 M (by omega)
  have g2 := h2 M (by omega)
  have g3 := h3 M (by omega)
  have g4 := h4 M (by omega)
  have g5 := h5 M (by omega)
  have g6 := h6 M (by omega)
  have g7 := h7 M (by omega)
  have g8 := h8 M (by omega)
  have g9 := h9 M (by omega)
  have g10 := h10 M (by omega)
  have g11 := h11 M (by omega)
  dsimp only at g1 g2 g3 g4 g5 g6 g7 g8 g9 g10 g11
  rw [rollbacknetlaw27_DeterminantRestores.f, h0 (M + 1) (by omega), Option.bind_some, if_pos rfl, if_neg c0, if_neg c1, decide_eq_false c2, rollbacknetlaw27_DeterminantRestores.j0, if_neg (by decide), g1, Option.bind_some]
  dsimp only
  rw [g2, Option.bind_some, g3, Option.bind_some, g4, Option.bind_some, if_pos rfl, g5, Option.bind_some, g6, Option.bind_some, g7, Option.bind_some, if_pos rfl, r1, Option.bind_some, g8, Option.bind_some, g9, Option.bind_some, if_pos rfl, r2, Option.bind_some, g10, Option.bind_some, g11, Option.bind_some]
end Go.Proofs.Ytjlpggpkbcgekaa.Pure
