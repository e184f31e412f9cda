import Derived.Test.YtdobkcphmpbhlaaWMore
import Derived.Maps.OwnSet
import Derived.Maps.Views
import Derived.DeepKeys5
import Derived.Carry
import Derived.Maps.OwnOps
namespace Go.Proofs.YtdobkcphmpbhlaaW.PrintWords
set_option linter.unusedVariables false
set_option linter.unusedSimpArgs false
open Go.RowKit Go.Maps
section
variable {P : Program} {k e : TypeId} {w w1 : World} {b : Nat} {S : List Value}
def MapSet (P : Program) (k e : TypeId) (w : World) (b : Nat) (S : List Value) : Prop :=
  ∃ (n : Nat) (D : DataW Unit), w.ownsMap P k (plainElem P e) b n D ∧ n ≤ S.length ∧ IsMap D ∧
    ∀ key kl, keyOf P k key = some kl → (key ∈ S → D.atKey kl (.lit (.bool false)) = .lit (.bool true)) ∧ (key ∉ S → D.atKey kl (.lit (.bool false)) = .lit (.bool false))
theorem MapSet.lt (h : MapSet P k e w b S) : b < w.heap.size := by
  obtain ⟨n, D, h, _⟩ := h
  exact h.lt
theorem MapSet.kept {row : Option Nat} (h : MapSet P k e w b S) (hg : w.grownBy w1 row) (hne : some b ≠ row) : MapSet P k e w1 b S := by
  obtain ⟨n, D, h, r⟩ := h
  exact ⟨n, D, h.kept hg hne, r⟩
theorem MapSet.below (h : MapSet P k e w b S) (hb : Below w.heap.size w w1) : MapSet P k e w1 b S := h.kept (grown_of_below hb none) (by simp)
theorem MapSet.drewN (h : MapSet P k e w b S) (n : Nat) : MapSet P k e (w.drewN n) b S := by
  obtain ⟨m, D, ⟨es, c, h1, h2⟩, r⟩ := h
  exact ⟨m, D, ⟨es, c, h1, h2⟩, r⟩
theorem MapSet.alloc (h : MapSet P k e w b S) (o : Obj) : MapSet P k e (w.alloc o) b S := h.kept (World.grownBy_alloc w o none) (by simp)
theorem MapSet.set (h : MapSet P k e w b S) {p : Addr} (hp : b ≠ p.block) (u : Value) : MapSet P k e (w.setCell p u) b S := by
  obtain ⟨m, D, ⟨es, c, h1, h2⟩, r⟩ := h
  exact ⟨m, D, ⟨es, c, (Below.heap_setCell w p u b hp).trans h1, h2⟩, r⟩
theorem MapSet.ne_cells (h : MapSet P k e w b S) {g t : Nat} {fr : Nat × Nat} (hb : ∃ cells, w.heap[g]? = some (.cells cells t fr)) : some b ≠ some g := by
  obtain ⟨m, D, ⟨es, c, h1, h2⟩, r⟩ := h
  obtain ⟨cells, hb⟩ := hb
  rintro he
  cases he
  rw [h1] at hb
  cases hb
theorem MapSet.ne_own (h : MapSet P k e w b S) {v : Value} {t : Nat} (hty : ∀ k, v.ownBlock = some k → ∃ cells, w.heap[k]? = some (.cells cells t (0, 0))) : some b ≠ v.ownBlock := by
  intro he
  exact h.ne_cells (hty b he.symm) rfl
theorem MapSet.made (w : World) (P : Program) (k e : TypeId) : MapSet P k e (w.alloc (.map #[] 0)) w.heap.size [] :=
  ⟨0, .map [], World.ownsMap_made _ _ _ _, Nat.le_refl _, isMap_empty, fun _ _ _ => ⟨fun h => by simp at h, fun _ => rfl⟩⟩
theorem MapSet.put (h : MapSet P k e w b S) {t : TypeId} (K : Keyed P k) (ht : P.underlying t = some (.map k e)) (he : P.underlying e = some .bool) (hn : S.length < maxLen) {key : Value} {kl : Lit} (hkey : keyOf P k key = some kl) :
    ∃ w', (Instr.mapUpdate t (.map (some b)) key (.bool true)).run P w = .ok () w' ∧ MapSet P k e w' b (key :: S) ∧ w.grownBy w' (some b) := by
  obtain ⟨n, D, h1, h2, h3, h4⟩ := h
  obtain ⟨w', hr, g1, g2⟩ := h1.update K ht (by omega) hkey (plainElem_bool he true)
  refine ⟨w', hr, ⟨n + 1, _, g1, by simp; omega, h3.put _ _, fun key' kl' hk' => ?_⟩, g2⟩
  by_cases hkk : key' = key
  · subst hkk
    obtain rfl : kl = kl' := Option.some.inj (hkey.symm.trans hk')
    refine ⟨fun _ => atKey_put_same h3 (K.key hkey) _ _, fun hno => absurd (List.mem_cons_self) hno⟩
  · have hne : kl' ≠ kl := fun he => hkk (K.inj hk' (he ▸ hkey))
    rw [atKey_put_other hne]
    exact ⟨fun hm => (h4 _ _ hk').1 (by rcases List.mem_cons.1 hm with h | h; exact absurd h hkk; exact h), fun hm => (h4 _ _ hk').2 (fun h => hm (List.mem_cons_of_mem _ h))⟩
theorem MapSet.get (h : MapSet P k e w b S) {t : TypeId} (K : Keyed P k) (ht : P.underlying t = some (.map k e)) (he : P.underlying e = some .bool) (hz : (zeroValue e).run P w = .ok (.bool false) w) {key : Value} {kl : Lit} (hkey : keyOf P k key = some kl) (d : Bool) (hd : d = true ↔ key ∈ S) :
    (Instr.lookup t (.map (some b)) key false).run P w = .ok (.bool d) w := by
  obtain ⟨n, D, h1, h2, h3, h4⟩ := h
  obtain ⟨v, ps, hr, hv⟩ := h1.lookup K ht hz (plainElem_bool he false) hkey
  have : v = .bool d := by
    cases d with
    | true =>
      rw [(h4 _ _ hkey).1 (hd.1 rfl)] at hv
      simp [plainElem, he] at hv
      cases v <;> simp_all
    | false =>
      rw [(h4 _ _ hkey).2 (fun hm => by simpa using hd.2 hm)] at hv
      simp [plainElem, he] at hv
      cases v <;> simp_all
  rw [hr, this]
end
section
variable {P : Program} {ops : Array Oper} {rest : List Oper} {o : Oper} {a : Act} {Q : Exit → Act → World → Prop} {w : World}
theorem run_makeMap_hint {t k e : TypeId} (hu : P.underlying t = some (.map k e)) (n : Int) : (Instr.makeMap t (some (.int .i64 n))).run P w = .ok (.map (some w.heap.size)) (w.alloc (.map #[] 0)) := by
  simp [Instr.makeMap, run_underlying hu, asInt, asIntOf, Result.andThen]
theorem wpList_makeMap_set (hg : o.guard = none) (t : TypeId) (s : Operand) (hop : o.op = .makeMap t (some s)) (k e : TypeId) (n : Int) (hs : a.eval s = .int .i64 n) (hu : P.underlying t = some (.map k e))
    (h : ∀ (gm : Nat) (w1 : World), gm = w.heap.size → MapSet P k e w1 gm [] → Below w.heap.size w w1 → wpList P ops Q rest (a.put o.dst (.map (some gm))) w1) : wpList P ops Q (o :: rest) a w := by
  refine wpList_plain hg fun K hK => ?_
  unfold Oper.wp
  simp [execOp, hop, hs, run_makeMap_hint hu, Result.andThen]
  exact hK _ _ (h w.heap.size _ rfl (MapSet.made w P k e) (below_alloc (Below.refl _ _) _))
theorem wpList_mapUpdate_set (w : World) (hg : o.guard = none) (m x v : Operand) (t : TypeId) (hop : o.op = Op.mapUpdate t m x v) (k e : TypeId) (K : Keyed P k) (ht : P.underlying t = some (.map k e)) (he : P.underlying e = some .bool) (b : Nat) (S : List Value)
    (hm : a.eval m = .map (some b)) (hown : MapSet P k e w b S) (hn : S.length < maxLen) (key : Value) (hx : a.eval x = key) (hv : a.eval v = .bool true) (hkey : ∃ kl, keyOf P k key = some kl)
    (hK : ∀ w', MapSet P k e w' b (key :: S) → w.grownBy w' (some b) → wpList P ops Q rest (a.put o.dst undef) w') : wpList P ops Q (o :: rest) a w := by
  refine wpList_plain hg fun K' hK' => ?_
  obtain ⟨kl, hkl⟩ := hkey
  obtain ⟨w', hrun, r1, r2⟩ := hown.put K ht he hn hkl
  unfold Oper.wp
  simp [execOp, hop, hm, hx, hv, hrun, Result.andThen]
  exact hK' _ _ (hK w' r1 r2)
theorem wpList_lookup_set (w : World) (hg : o.guard = none) (m x : Operand) (t : TypeId) (hop : o.op = Op.lookup t m x false) (k e : TypeId) (K : Keyed P k) (ht : P.underlying t = some (.map k e)) (he : P.underlying e = some .bool) (hz : (zeroValue e).run P w = .ok (.bool false) w) (b : Nat) (S : List Value)
    (hm : a.eval m = .map (some b)) (hown : MapSet P k e w b S) (key : Value) (hx : a.eval x = key) (hkey : ∃ kl, keyOf P k key = some kl) (d : Bool) (hd : d = true ↔ key ∈ S)
    (hK : wpList P ops Q rest (a.put o.dst (.bool d)) w) : wpList P ops Q (o :: rest) a w := by
  refine wpList_plain hg fun K' hK' => ?_
  obtain ⟨kl, hkl⟩ := hkey
  have hrun := hown.get K ht he hz hkl d hd
  unfold Oper.wp
  simp [execOp, hop, hm, hx, hrun, Result.andThen]
  exact hK' _ _ hK
end
end Go.Proofs.YtdobkcphmpbhlaaW.PrintWords
