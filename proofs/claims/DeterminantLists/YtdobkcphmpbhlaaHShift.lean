import Derived.Test.YtdobkcphmpbhlaaWMore
import Derived.Test.YtdobkcphmpbhlaaWLast
import Derived.Test.YtdobkcphmpbhlaaWFour
import Derived.Test.YtdobkcphmpbhlaaWQPut
namespace Go.Proofs.YtdobkcphmpbhlaaW.PrintWords
set_option linter.unusedVariables false
set_option linter.unusedSimpArgs false
open Go.RowKit
def shiftAt {α : Type} (l : List α) (k : Nat) : List α := l.take (k + 1) ++ (l.drop k).take (l.length - (k + 1))
theorem shiftAt_length {α : Type} (l : List α) (k : Nat) (h : k < l.length) : (shiftAt l k).length = l.length := by
  unfold shiftAt
  rw [List.length_append, List.length_take, List.length_take, List.length_drop]
  omega
namespace Kd
section
variable {P : Program} {α : Type}
theorem run_copy_sized (w : World) (dT sT ty elem : TypeId) (b o dLen dCap : Nat) (a : Addr) (sLen sCap : Nat) (cs : List Value) (i : TypeInfo)
    (hu : P.underlying dT = some (.slice elem)) (hq : P.info? elem = some i) (hn : cs.length = Nat.min sLen dLen * i.size)
    (hsrc : ∀ j v, cs[j]? = some v → w.cell? (a.add j) = some v) (hc : ∀ j, j < cs.length → (w.cell? ⟨b, o + j, none⟩).isSome = true) (hf : ∀ j, j < cs.length → w.frozen? ⟨b, o + j, none⟩ = false) (h1 : ∀ v ∈ cs, v.oneCell' = true) :
    (Builtin.copy_ #[dT, sT] ty #[.slice (some ⟨b, o, none⟩) dLen dCap, .slice (some a) sLen sCap]).run P w = .ok (goInt (Nat.min sLen dLen)) (w.setCells b o cs) := by
  have hl := run_loadCells_list (P := P) w a cs hsrc
  have hst := run_storeCells_cells (P := P) b o cs 0 w (by simpa using hc) (by simpa using hf) h1
  simp [Builtin.copy_, run_underlying hu, Builtin.lenOf, Builtin.firstCells, sizeOf, typeInfo, hq, ← hn, hl, hst]
theorem run_copy_zero (w : World) (dT sT ty elem : TypeId) (d a : Option Addr) (dLen dCap sLen sCap : Nat) (i : TypeInfo) (hu : P.underlying dT = some (.slice elem)) (hq : P.info? elem = some i) (hn : Nat.min sLen dLen = 0) :
    (Builtin.copy_ #[dT, sT] ty #[.slice d dLen dCap, .slice a sLen sCap]).run P w = .ok (goInt 0) w := by
  have hl : ∀ (x : Addr), (loadCells x 0).run P w = .ok #[] w := fun x => by simpa using run_loadCells_list (P := P) w x [] (by simp)
  cases d <;> cases a <;> simp [Builtin.copy_, run_underlying hu, Builtin.lenOf, Builtin.firstCells, sizeOf, typeInfo, hq, hn, storeCells, hl]
theorem R_shift_run (d : Kd α) {W : World} (base : Nat) (t ty e : TypeId) (i : TypeInfo) (ht : P.underlying t = some (.slice e)) (hi : P.info? e = some i) (hsz : i.size = d.sz)
    {g n c k : Nat} {xs : List α} {ok : Nat → Prop} (HO : d.R e W base ok (.slice (some ⟨g, 0, none⟩) n c) xs) (hk : k < n) {A1 A2 : Option Addr}
    (hA1 : A1 = if c = k + 1 then some ⟨g, 0, none⟩ else (some (⟨g, 0, none⟩ : Addr)).map (·.add ((k + 1) * d.sz))) (hA2 : A2 = if c = k then some ⟨g, 0, none⟩ else (some (⟨g, 0, none⟩ : Addr)).map (·.add (k * d.sz))) (c1 c2 : Nat) :
    ∃ w1, (Builtin.copy_ #[t, t] ty #[.slice A1 (n - (k + 1)) c1, .slice A2 (n - k) c2]).run P W = .ok (goInt (n - (k + 1) : Nat)) w1 ∧ d.R e w1 base ok (.slice (some ⟨g, 0, none⟩) n c) (shiftAt xs k) ∧ W.grownBy w1 (some g) := by
  obtain ⟨hn, hnc, _⟩ := R_reads' HO
  have hmin : Nat.min (n - k) (n - (k + 1)) = n - (k + 1) := Nat.min_eq_right (by omega)
  rcases Nat.eq_or_lt_of_le (show k + 1 ≤ n from hk) with hlast | hlt
  · refine ⟨W, ?_, ?_, ⟨rfl, rfl, rfl, Nat.le_refl _, fun _ _ _ => rfl⟩⟩
    · rw [run_copy_zero W t t ty e A1 A2 _ _ _ _ i ht hi (by rw [hmin]; omega), show n - (k + 1) = 0 by omega]
      rfl
    · have : shiftAt xs k = xs := by
        unfold shiftAt
        rw [List.take_of_length_le (by omega), show xs.length - (k + 1) = 0 by omega, List.take_zero, List.append_nil]
      rw [this]
      exact HO
  obtain ⟨hok, inner, hown, hr⟩ := HO
  have hin : inner.length = n * d.sz := by rw [hr.1, hn]
  rcases hown.2 with ⟨hv, _⟩ | ⟨g', cap', cur, hv, hb, hh, _, hcm, hcs, htake⟩
  · cases hv
  injection hv with ha _ hc
  injection ha with ha
  injection ha with hg
  subst hg; subst hc
  rw [← hn] at htake
  rw [if_neg (by omega), Option.map_some] at hA1 hA2
  subst hA1; subst hA2
  obtain ⟨news, hnews⟩ : ∃ news, news = (inner.drop (k * d.sz)).take ((n - (k + 1)) * d.sz) := ⟨_, rfl⟩
  have hks : (k + 1) * d.sz = k * d.sz + d.sz := Nat.succ_mul _ _
  have hle : (k + 1) * d.sz ≤ n * d.sz := Nat.mul_le_mul_right _ hk
  have hsub : (n - (k + 1)) * d.sz = n * d.sz - (k + 1) * d.sz := Nat.sub_mul _ _ _
  have hnl : news.length = (n - (k + 1)) * d.sz := by rw [hnews, List.length_take, List.length_drop, hin]; omega
  have hnc' : n * d.sz ≤ c * d.sz := Nat.mul_le_mul_right _ hnc
  have hcur : ∀ q, q < n * d.sz → cur.toList[q]? = inner[q]? := by
    intro q hq
    rw [← htake, List.getElem?_take, if_pos hq]
  have hcell : ∀ j u, news[j]? = some u → W.cell? (((⟨g, 0, none⟩ : Addr).add (k * d.sz)).add j) = some u := by
    intro j u hu
    have hj : j < news.length := (List.getElem?_eq_some_iff.1 hu).1
    rw [add_add, add_at, cell_of_row W g _ cur e (0, 0) hh, ← Array.getElem?_toList]
    rw [hnews, List.getElem?_take, if_pos (by omega), List.getElem?_drop] at hu
    rw [← hu, Nat.zero_add]
    exact hcur _ (by omega)
  have hone : ∀ u ∈ news, u.oneCell' = true := by
    intro u hu
    have hu' : u ∈ inner := by rw [hnews] at hu; exact List.mem_of_mem_drop (List.mem_of_mem_take hu)
    obtain ⟨q, hq, rfl⟩ := List.mem_iff_getElem.1 hu'
    have hs0 : 0 < d.sz := by
      rcases Nat.eq_zero_or_pos d.sz with h | h
      · rw [h, Nat.mul_zero] at hin; omega
      · exact h
    have hql : q / d.sz < xs.length := by
      rw [Nat.div_lt_iff_lt_mul hs0, ← hr.1]
      exact hq
    refine d.K_one (d.K_of_M (hr.2 (q / d.sz) _ (List.getElem?_eq_getElem hql))) _ ?_
    rw [List.mem_iff_getElem?]
    refine ⟨q % d.sz, ?_⟩
    rw [List.getElem?_take, if_pos (Nat.mod_lt _ hs0), List.getElem?_drop, Nat.mul_comm, Nat.div_add_mod, List.getElem?_eq_getElem hq]
  have hfit : (k + 1) * d.sz + news.length ≤ cur.size := by omega
  have hrun := run_copy_sized (P := P) W t t ty e g ((k + 1) * d.sz) (n - (k + 1)) c1 ((⟨g, 0, none⟩ : Addr).add (k * d.sz)) (n - k) c2 news i ht hi (by rw [hmin, hnl, hsz]) hcell
    (fun j hj => by rw [cell_of_row W g _ cur e (0, 0) hh]; simp; omega) (fun j _ => blk_frozen hh _) hone
  rw [hmin] at hrun
  obtain ⟨cur', h3, h4, h5⟩ := setCells_row news ((k + 1) * d.sz) W cur hh hfit
  obtain ⟨s1, s2, s3, s4⟩ := setCells_same g news ((k + 1) * d.sz) W
  have hfar : ∀ k', k' ≠ g → (W.setCells g ((k + 1) * d.sz) news).heap[k']? = W.heap[k']? := fun k' hk' => setCells_far news _ k' hk'
  have hel : (shiftAt xs k).length = n := by rw [shiftAt_length _ _ (by omega), hn]
  refine ⟨_, by rw [show ((⟨g, 0, none⟩ : Addr).add ((k + 1) * d.sz)) = ⟨g, (k + 1) * d.sz, none⟩ by rw [add_at, Nat.zero_add]]; exact hrun, ⟨hok, inner.take ((k + 1) * d.sz) ++ news, ⟨?_, .inr ⟨g, c, cur', by rw [hel], hb, h3, by rw [hel]; omega, hcm, by rw [h4, hcs], ?_⟩⟩, ?_⟩, ⟨s1, s2, s3, by rw [s4]; exact Nat.le_refl _, fun k' _ hk' => hfar k' (fun he => hk' (by rw [he]))⟩⟩
  · rw [List.length_append, List.length_take, hnl, hel]
    omega
  · rw [hel, h5]
    have h7 : cur.toList.take ((k + 1) * d.sz) = inner.take ((k + 1) * d.sz) := by
      rw [← htake, List.take_take, Nat.min_eq_left (by omega)]
    rw [h7]
    exact List.take_left' (by rw [List.length_append, List.length_take, hnl]; omega)
  · have hmv : ∀ p q, d.M W base (fun k' => ok k' ∧ some k' ≠ (Value.slice (some ⟨g, 0, none⟩) n c).ownBlock) p q → d.M (W.setCells g ((k + 1) * d.sz) news) base (fun k' => ok k' ∧ some k' ≠ (Value.slice (some ⟨g, 0, none⟩) n c).ownBlock) p q := fun p q hp =>
      d.M_move (fun k' hk' => hfar k' (fun he => hk'.2 (by rw [he]; simp [Value.ownBlock]))) hp
    unfold shiftAt
    subst hnews
    refine reps_append ((reps_take hr (by omega)).imp_ hmv) ?_
    have h8 := reps_take (m := xs.length - (k + 1)) (reps_drop (m := k) hr) (by rw [List.length_drop]; omega)
    rw [← hn] at h8 ⊢
    exact h8.imp_ hmv
end
section
variable {P : Program} {ops : Array Oper} {rest : List Oper} {o : Oper} {a : Act} {Q : Exit → Act → World → Prop} {Kc : Act → World → Prop} {α : Type}
theorem R_shift_step (d : Kd α) {w0 W : World} (base : Nat) (hw : Region.wanted o (yielded ops a.tmps) = true) (s x : Operand) (t e : TypeId) (ho : o.op = .call { callee := .builtin .copy, args := #[s, x], argTypes := #[t, t] })
    (ht : P.underlying t = some (.slice e)) (hinfo : (P.info? e).map (·.size) = some d.sz) {g n c k m1 m2 c1 c2 : Nat} {A1 A2 : Option Addr} {xs : List α} {ok : Nat → Prop}
    (hs : a.eval s = .slice A1 m1 c1) (hx : a.eval x = .slice A2 m2 c2) (hA1 : A1 = if c = k + 1 then some ⟨g, 0, none⟩ else (some (⟨g, 0, none⟩ : Addr)).map (·.add ((k + 1) * d.sz))) (hA2 : A2 = if c = k then some ⟨g, 0, none⟩ else (some (⟨g, 0, none⟩ : Addr)).map (·.add (k * d.sz))) (hm1 : m1 = n - (k + 1)) (hm2 : m2 = n - k)
    (HO : d.R e W base ok (.slice (some ⟨g, 0, none⟩) n c) xs) (hk : k < n) (HB : Below base w0 W) (hbase : base ≤ W.heap.size)
    (h : ∀ w1, d.R e w1 base ok (.slice (some ⟨g, 0, none⟩) n c) (shiftAt xs k) → Below base w0 w1 → W.grownBy w1 (some g) → Kc (a.put o.dst (goInt (n - (k + 1) : Nat))) w1) :
    if Region.wanted o (yielded ops a.tmps) = true then Oper.wp P o a W Kc Q else Kc (a.put o.dst undef) W := by
  obtain ⟨i0, hi, hsz⟩ := Option.map_eq_some_iff.1 hinfo
  subst hm1; subst hm2
  obtain ⟨w1, hr, h1, h2⟩ := R_shift_run (P := P) d base t o.type e i0 ht hi hsz HO hk hA1 hA2 c1 c2
  rw [if_pos hw]
  unfold Oper.wp execOp
  simp only [ho, resolve, invoke, builtin, Sem.run_bind, Sem.run_pure, Result.andThen_ok, List.map_toArray, List.map_cons, List.map_nil, hs, hx, hr]
  exact h w1 h1 (HB.grown h2 hbase (fun k hk => by injection hk with hk; subst hk; exact R_base HO _ (by simp [Value.ownBlock]))) h2
theorem R_made0 (d : Kd α) {w0 W : World} (base e : Nat) (t : TypeId) (m : Int) (ht : P.underlying t = some (.slice e)) (z : Value) (bytes : Nat) (hinfo : (P.info? e).map (fun i => (i.zero, i.size, i.bytes)) = some (some z, d.sz, bytes)) (hz : z.cells.size = d.sz) (hs0 : 0 < d.sz) (hb0 : 0 < bytes)
    {ok : Nat → Prop} (hfresh : ok W.heap.size) (h0 : 0 ≤ m) (hl : m.toNat * bytes ≤ 281474976710656) (HB : Below base w0 W) (hbase : base ≤ W.heap.size) :
    ∃ v1 w1, (Instr.makeSlice t (.int .i64 0) (.int .i64 m)).run P W = .ok v1 w1 ∧ d.R e w1 base ok v1 [] ∧ Below base w0 w1 ∧ W.grownBy w1 none ∧ ∃ b, v1.ownBlock = some b ∧ W.heap.size ≤ b := by
  obtain ⟨m, rfl⟩ := Int.eq_ofNat_of_zero_le h0
  simp only [Int.toNat_natCast] at hl
  obtain ⟨i0, hi, hzz⟩ := Option.map_eq_some_iff.1 hinfo
  simp only [Prod.mk.injEq] at hzz
  obtain ⟨hz0, hz1, hz2⟩ := hzz
  have hm : m ≤ 281474976710656 := Nat.le_trans (Nat.le_mul_of_pos_right _ hb0) hl
  have hr := run_make (P := P) W t e i0 z ht hi hz0 .i64 .i64 (0 : Int) (m : Int) (by omega) (by omega)
    (by
      have h3 : ((i0.bytes * m : Nat) : Int) ≤ 281474976710656 := by rw [hz2, Nat.mul_comm]; omega
      rwa [Int.natCast_mul] at h3) (by omega)
  simp only [Int.toNat_natCast, Int.toNat_zero] at hr
  refine ⟨_, _, hr, ?_, HB.alloc hbase _, World.grownBy_alloc W _ none, W.heap.size, by simp [Value.ownBlock], Nat.le_refl _⟩
  refine ⟨fun k hk => ?_, [], ⟨by simp, .inr ⟨W.heap.size, m, madeCells z.cells (m * i0.size), rfl, hbase, heap_alloc_new W _, by simp, ?_, ?_, by simp⟩⟩, Reps.none _ _⟩
  · have : W.heap.size = k := by simpa [Value.ownBlock] using hk
    subst this
    exact hfresh
  · simp only [maxLen]
    omega
  · simp [madeCells, hz1]
theorem R_mk0 (d : Kd α) {w0 W : World} (base e : Nat) (hgd : o.guard = none) {N : Tmp} (_hd : o.dst = some N) (t : TypeId) (x y : Operand) (ho : o.op = .makeSlice t x y) (m : Int) (hx : a.eval x = .int .i64 0) (hy : a.eval y = .int .i64 m)
    (ht : P.underlying t = some (.slice e)) (z : Value) (bytes : Nat) (hinfo : (P.info? e).map (fun i => (i.zero, i.size, i.bytes)) = some (some z, d.sz, bytes)) (hz : z.cells.size = d.sz) (hs0 : 0 < d.sz) (hb0 : 0 < bytes)
    (z0 : α) {ok okp : Nat → Prop} (_hzero : d.M W base okp z0 z.cells.toList) (_hok : ∀ k, okp k → ok k) (hfresh : ok W.heap.size) (h0 : 0 ≤ m) (hl : m.toNat * bytes ≤ 281474976710656) (HB : Below base w0 W) (hbase : base ≤ W.heap.size)
    (h : ∀ v1 w1, d.R e w1 base ok v1 ([] : List α) → Below base w0 w1 → W.grownBy w1 none → (∃ b, v1.ownBlock = some b ∧ W.heap.size ≤ b) → wpList P ops Q rest (a.put o.dst v1) w1) : wpList P ops Q (o :: rest) a W := by
  obtain ⟨v1, w1, hr, h1, h2, h3, h4⟩ := R_made0 (P := P) d base e t m ht z bytes hinfo hz hs0 hb0 hfresh h0 hl HB hbase
  refine wpList_plain hgd fun K hK => ?_
  unfold Oper.wp execOp
  simp only [ho, hx, hy, Sem.run_bind, Sem.run_pure, Result.andThen_ok, hr]
  exact hK _ _ (h v1 w1 h1 h2 h3 h4)
end
end Kd
end Go.Proofs.YtdobkcphmpbhlaaW.PrintWords
