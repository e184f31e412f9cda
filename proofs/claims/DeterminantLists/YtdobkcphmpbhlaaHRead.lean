import Derived.Test.YtdobkcphmpbhlaaWMore
import Derived.Test.YtdobkcphmpbhlaaWLast
import Derived.Deep.Slices
import Derived.SizedLaws
import Derived.ChangeArms
import Derived.WideShapes
import Derived.ChangeShapes
import Derived.Below
namespace Go.Proofs.YtdobkcphmpbhlaaW.PrintWords
set_option linter.unusedVariables false
set_option linter.unusedSimpArgs false
open Go.RowKit Go.ChangeShapes Go.WideShapes
def Opens {α : Type} (P : Program) (t : TypeId) (d : Kd α) (ok : α → Prop) : Prop :=
  ∀ (H : Type) (enc : TypeId × Value → H) (w : World) (base : Nat) (spare : Nat → Bool) (held : Bool) (fuel : Nat) (cs : List Value) (x : DataW H × List MemPlace),
    DataW.trod enc P w base spare held fuel t cs = some x → (∀ n ∈ x.1.weights P t, n ≤ reachBytes) → ∃ a, d.K w a cs ∧ ok a
def OpensFrom {α : Type} (P : Program) (off : Nat) (fs : List Field) (d : Kd α) (ok : α → Prop) : Prop :=
  ∀ (H : Type) (enc : TypeId × Value → H) (w : World) (base : Nat) (spare : Nat → Bool) (held : Bool) (fuel : Nat) (cs : List Value) (xs : List (DataW H × List MemPlace)), cs.length = off + d.sz →
    xs.length = fs.length → (∀ (i : Nat) (f : Field), fs[i]? = some f → DataW.trod enc P w base spare held fuel f.type ((cs.drop f.offset).take (P.cellsOf f.type)) = xs[i]?) →
    (∀ n ∈ DataW.weightsEach P (fs.map (·.type)) (xs.map (·.1)), n ≤ reachBytes) → ∃ a, d.K w a (cs.drop off) ∧ ok a
def okInt (k : IntKind) (n : Int) : Prop := (Lit.int k n).wf = true
def okRow {α : Type} (B : Nat) (ok : α → Prop) (l : List α) : Prop := l.length ≤ maxLen ∧ l.length * B ≤ 140737488351232 ∧ ∀ x ∈ l, ok x
def okTwo {α β : Type} (p : α → Prop) (q : β → Prop) (x : α × β) : Prop := p x.1 ∧ q x.2
theorem opens_int {P : Program} {t : TypeId} {k : IntKind} (hu : P.underlying t = some (.int k)) : Opens P t (Kd.int k) (okInt k) := by
  intro H enc w base spare held fuel cs x h _
  obtain ⟨n, rfl, _, hw⟩ := DataW.trod_int hu h
  exact ⟨n, rfl, hw⟩
theorem list_of_all {α : Type} {n : Nat} {p : Nat → α → Prop} (h : ∀ i, i < n → ∃ x, p i x) : ∃ l : List α, l.length = n ∧ ∀ i x, l[i]? = some x → p i x := by
  induction n with
  | zero => exact ⟨[], rfl, fun i x h => by simp at h⟩
  | succ n ih =>
    obtain ⟨l, hl, hp⟩ := ih (fun i hi => h i (by omega))
    obtain ⟨x, hx⟩ := h n (by omega)
    refine ⟨l ++ [x], by simp [hl], fun i y hy => ?_⟩
    by_cases hi : i < l.length
    · rw [List.getElem?_append_left hi] at hy; exact hp i y hy
    · have hlt : i < (l ++ [x]).length := (List.getElem?_eq_some_iff.1 hy).1
      have : i = n := by simp at hlt; omega
      subst this
      rw [← hl] at hy
      simp at hy
      subst hy
      exact hx
theorem weights_all_mem {H : Type} {P : Program} {e : TypeId} {d : DataW H} : ∀ {ds : List (DataW H)}, d ∈ ds → ∀ n ∈ d.weights P e, n ∈ DataW.weightsAll P e ds
  | d0 :: ds, hm, n, hn => by
    simp only [DataW.weightsAll, List.mem_append]
    rcases List.mem_cons.1 hm with rfl | hm
    · exact .inl hn
    · exact .inr (weights_all_mem hm n hn)
theorem opens_slice {α : Type} {P : Program} {t e : TypeId} {d : Kd α} {ok : α → Prop} {B : Nat} (hu : P.underlying t = some (.slice e)) (hs : P.cellsOf e = d.sz) (hB : P.bytesOf e = B) (he : Opens P e d ok) : Opens P t (Kd.slice e d) (okRow B ok) := by
  intro H enc w base spare held fuel cs x h hz
  rcases Go.Deep.open_slice hu h with ⟨rfl, rfl⟩ | ⟨a, len, cap, m, n, D, Pl, rfl, hb, hl, hm, hmm, rfl, hx⟩
  · exact ⟨[], ⟨none, 0, rfl, Nat.le_refl _, Kd.C_nil d w⟩, by simp, by simp, by simp⟩
  have hlm : len ≤ m := by rw [hmm]; split <;> omega
  have hw0 : ∀ i, i < len → ∀ q ∈ (D i).weights P e, q ≤ reachBytes := fun i hi q hq => hz q (by
    simp only [DataW.weights, hu, List.mem_cons, List.mem_append]
    exact .inr (.inl (weights_all_mem (List.mem_map_of_mem (List.mem_range.2 hi)) q hq)))
  have hbig : len * B ≤ 140737488351232 := by
    have h1 := hz ((((List.range len).map D).length + ((List.range (m - len)).map fun j => D (len + j)).length) * P.bytesOf e) (by simp only [DataW.weights, hu]; exact List.mem_cons_self)
    rw [hB] at h1
    simp only [List.length_map, List.length_range] at h1
    exact Nat.le_trans (Nat.mul_le_mul_right _ (by omega)) h1
  obtain ⟨l, hlen, hp⟩ := list_of_all (n := len) (p := fun i y => ok y ∧ ∃ c, c.length = d.sz ∧ d.K w y c ∧ ∀ j u, c[j]? = some u → w.cell? (a.add (i * d.sz + j)) = some u) (fun i hi => by
    obtain ⟨cs', h1, h2⟩ := hx i (by omega)
    obtain ⟨y, hk, ho⟩ := he H enc w base spare held n cs' _ h2 (hw0 i hi)
    obtain ⟨_, h3, h4⟩ := World.cells?_some h1
    refine ⟨y, ho, cs', d.K_len hk, hk, fun j u hj => ?_⟩
    have hj' : j < cs'.length := (List.getElem?_eq_some_iff.1 hj).1
    have := h4 j (by omega)
    rw [hs, Go.Deep.add_add] at this
    rw [this]; exact hj)
  subst hlen
  refine ⟨l, ⟨some a, cap, rfl, hl, rfl, by simp only [maxLen] at hm; omega, fun _ => ⟨a, rfl, fun j p hj => (hp j p hj).2⟩⟩, by omega, hbig, fun y hy => ?_⟩
  obtain ⟨i, hi⟩ := List.getElem?_of_mem hy
  exact (hp i y hi).1
theorem opens_last {α : Type} {P : Program} {off : Nat} {f : Field} {d : Kd α} {ok : α → Prop} (ho : f.offset = off) (hs : P.cellsOf f.type = d.sz) (hf : Opens P f.type d ok) : OpensFrom P off [f] d ok := by
  intro H enc w base spare held fuel cs xs hl hxl hx hz
  match xs, hxl with
  | [x], _ =>
    have h0 := hx 0 f rfl
    rw [ho, hs, List.take_of_length_le (by rw [List.length_drop]; omega)] at h0
    exact hf H enc w base spare held fuel _ x h0 (fun n hn => hz n (by simp [DataW.weightsEach, hn]))
theorem opens_more {α β : Type} {P : Program} {off off' : Nat} {f : Field} {fs : List Field} {d : Kd α} {d' : Kd β} {ok : α → Prop} {ok' : β → Prop} (ho : f.offset = off) (hs : P.cellsOf f.type = d.sz) (hoff : off + d.sz = off') (hf : Opens P f.type d ok) (hr : OpensFrom P off' fs d' ok') :
    OpensFrom P off (f :: fs) (Kd.pair d d') (okTwo ok ok') := by
  intro H enc w base spare held fuel cs xs hl hxl hx hz
  have hl' : cs.length = off + (d.sz + d'.sz) := hl
  match xs, hxl with
  | x :: xs, hxl =>
    have h0 := hx 0 f rfl
    rw [ho, hs] at h0
    obtain ⟨a, ka, oa⟩ := hf H enc w base spare held fuel _ x h0 (fun n hn => hz n (by simp [DataW.weightsEach, hn]))
    obtain ⟨b, kb, ob⟩ := hr H enc w base spare held fuel cs xs (by omega) (by simpa using hxl) (fun i g hg => hx (i + 1) g (by simpa using hg)) (fun n hn => hz n (by simp only [List.map_cons, DataW.weightsEach, List.mem_append]; exact .inr hn))
    refine ⟨(a, b), ⟨_, _, ?_, ka, kb⟩, oa, ob⟩
    rw [← hoff, ← List.drop_drop, List.take_append_drop]
theorem opens_struct {α β : Type} {P : Program} {t : TypeId} {fs : Array Field} {d : Kd α} {ok : α → Prop} {f : β → α} (g : α → β) (hfg : ∀ a, f (g a) = a) (hu : P.underlying t = some (.struct fs)) (hs : P.cellsOf t = d.sz) (hf : OpensFrom P 0 fs.toList d ok) :
    Opens P t (Kd.iso d f) (fun x => ok (f x)) := by
  intro H enc w base spare held fuel cs x h hz
  obtain ⟨xs, n, _, rfl, hl, hxl, hx⟩ := DataW.trod_struct hu h
  obtain ⟨a, ka, oa⟩ := hf H enc w base spare held n cs xs (by omega) (by simpa using hxl) (fun i f hf => hx i f (by simpa using hf)) (fun n hn => hz n (by
    simp only [DataW.weights, hu]; exact hn))
  rw [List.drop_zero] at ka
  exact ⟨g a, by show d.K w (f (g a)) cs; rw [hfg]; exact ka, by show ok (f (g a)); rw [hfg]; exact oa⟩
section
variable {H : Type} {enc : TypeId × Value → H} {P : Program} {W : World} {base b0 : Nat} {r : Reach} {spare : Nat → Bool} {held : Bool} {t e : TypeId} {v : Value} {d : DataW H} {ps : List MemPlace} {ts : List TypeId} {ds : List (DataW H)} {j : Nat}
theorem weights_at (hsz : (DataW.weightsEach P ts ds).all (· ≤ reachBytes) = true) (ht : ts[j]? = some t) (hd : ds[j]? = some d) : ∀ n ∈ d.weights P t, n ≤ reachBytes := fun n hn => by
  simpa using List.all_eq_true.1 hsz n (DataW.weights_mem_each ht hd n hn)
theorem arg_slice {α : Type} {k : Kd α} {ok : List α → Prop} (h : Opens P t (Kd.slice e k) ok) (hu : P.underlying t = some (.slice e)) (hval : Value.okWide P W r b0 t v) (hsz : (DataW.weightsEach P ts ds).all (· ≤ reachBytes) = true) (ht : ts[j]? = some t) (hd : ds[j]? = some d)
    (hr : DataW.Trod enc P W base spare held t v d ps) : ∃ A c l, v = .slice A l.length c ∧ l.length ≤ c ∧ k.C W A l.length l ∧ ok l := by
  obtain ⟨a, len, cap, rfl⟩ := okWide_slice hu hval
  obtain ⟨fuel, hf⟩ := hr
  obtain ⟨l, ⟨A, c, hc, hl, hC⟩, ho⟩ := h H enc W base spare held fuel _ _ hf (weights_at hsz ht hd)
  simp [Value.cells] at hc
  obtain ⟨rfl, rfl, rfl⟩ := hc
  exact ⟨_, _, l, rfl, hl, hC, ho⟩
theorem arg_struct {α : Type} {k : Kd α} {ok : α → Prop} {fs : Array Field} (h : Opens P t k ok) (hu : P.underlying t = some (.struct fs)) (hval : Value.okWide P W r b0 t v) (hsz : (DataW.weightsEach P ts ds).all (· ≤ reachBytes) = true) (ht : ts[j]? = some t) (hd : ds[j]? = some d)
    (hr : DataW.Trod enc P W base spare held t v d ps) : ∃ cs x, v = .agg cs ∧ k.K W x cs.toList ∧ ok x := by
  obtain ⟨cs, rfl, _⟩ := okWide_struct hu hval
  obtain ⟨fuel, hf⟩ := hr
  obtain ⟨x, hk, ho⟩ := h H enc W base spare held fuel _ _ hf (weights_at hsz ht hd)
  exact ⟨cs, x, rfl, hk, ho⟩
end
end Go.Proofs.YtdobkcphmpbhlaaW.PrintWords
