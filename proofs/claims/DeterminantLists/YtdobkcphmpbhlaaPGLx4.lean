-- Written by a program of this session (hprint.py) out of the translation and of hand-proved parts. Lean checks it.
import Derived.Test.YtdobkcphmpbhlaaPGLx0
namespace Go.Proofs.Ytdobkcphmpbhlaa.PGL
open Go.RowKit Go.Proofs.YtdobkcphmpbhlaaW.PrintWords Go.Proofs.YtdobkcphmpbhlaaW.PrintLast Go.Proofs.YtdobkcphmpbhlaaW.PrintMore
attribute [local go_sem] max2_int min2_int max_two min_two max_three min_three max_four min_four   -- for this text's walks alone
set_option linter.unusedVariables false
set_option linter.unusedSimpArgs false

/-! ### determinant_Restorable: function 21 (proved by hand) -/
theorem determinant_Restorable.laidOut_ : laidOutB Try.prog = true := by kernel_rfl
theorem determinant_Restorable.c39 : Try.prog.cellsOf 28 = 9 := by kernel_rfl
theorem determinant_Restorable.c37 : Try.prog.cellsOf 26 = 7 := by kernel_rfl
theorem determinant_Restorable.c35 : Try.prog.cellsOf 24 = 2 := by kernel_rfl
theorem determinant_Restorable.c3 : Try.prog.cellsOf 3 = 1 := by kernel_rfl
theorem determinant_Restorable.kt39 : Try.prog.keyType 28 = true := by kernel_rfl
theorem determinant_Restorable.row39 : (28 : TypeId) < Try.prog.types.size := of_decide_eq_true (by kernel_rfl)
theorem determinant_Restorable.wide39 : (match Try.prog.underlying 28 with | some (.array _ _) | some (.struct _) => true | _ => false) = true := by kernel_rfl
theorem determinant_Restorable.small39 : Try.prog.types.size + 2 ≤ 10000 := of_decide_eq_true (by kernel_rfl)
theorem determinant_Restorable.keyed39 : Go.Maps.Keyed Try.prog 28 := Go.Maps.Keyed.of_law (deep_law_gate determinant_Restorable.laidOut_ determinant_Restorable.small39 determinant_Restorable.row39 determinant_Restorable.kt39 determinant_Restorable.wide39)
theorem determinant_Restorable.wf_i64 {x : Int} (h : -9223372036854775808 ≤ x ∧ x ≤ 9223372036854775807) : (Lit.int .i64 x).wf = true := by
 have h1 : IntKind.i64.min = -9223372036854775808 := by decide
 have h2 : IntKind.i64.max = 9223372036854775807 := by decide
 simp [Lit.wf, h1, h2, h]
def determinant_Restorable.okI (x : Int) : Bool := decide (-9223372036854775808 ≤ x ∧ x ≤ 9223372036854775807)
def determinant_Restorable.okD (d : S28) : Bool := determinant_Restorable.okI d.f0 && determinant_Restorable.okI d.f1 && determinant_Restorable.okI d.f2.f0 && determinant_Restorable.okI d.f2.f1 && determinant_Restorable.okI d.f2.f2 && determinant_Restorable.okI d.f2.f3.f0 && determinant_Restorable.okI d.f2.f3.f1 && determinant_Restorable.okI d.f2.f4 && determinant_Restorable.okI d.f2.f5
def determinant_Restorable.val39 (d : S28) : Value := .agg #[.int .i64 d.f0, .int .i64 d.f1, .int .i64 d.f2.f0, .int .i64 d.f2.f1, .int .i64 d.f2.f2, .int .i64 d.f2.f3.f0, .int .i64 d.f2.f3.f1, .int .i64 d.f2.f4, .int .i64 d.f2.f5]
theorem determinant_Restorable.val39_inj {a b : S28} (h : determinant_Restorable.val39 a = determinant_Restorable.val39 b) : a = b := by
 rcases a with ⟨a0, a1, a2, a3, a4, ⟨a5, a6⟩, a7, a8⟩
 rcases b with ⟨b0, b1, b2, b3, b4, ⟨b5, b6⟩, b7, b8⟩
 simp [determinant_Restorable.val39] at h
 obtain ⟨rfl, rfl, rfl, rfl, rfl, rfl, rfl, rfl, rfl⟩ := h
 rfl
theorem determinant_Restorable.key39 (d : S28) (h : determinant_Restorable.okD d = true) : ∃ kl, keyOf Try.prog 28 (determinant_Restorable.val39 d) = some kl := by
 rcases d with ⟨a0, a1, a2, a3, a4, ⟨a5, a6⟩, a7, a8⟩
 simp [determinant_Restorable.okD, determinant_Restorable.okI] at h
 obtain ⟨⟨⟨⟨⟨⟨⟨⟨h0, h1⟩, h2⟩, h3⟩, h4⟩, h5⟩, h6⟩, h7⟩, h8⟩ := h
 obtain ⟨m, hsz⟩ := Nat.exists_eq_add_of_le' (of_decide_eq_true (by kernel_rfl) : 6 ≤ Try.prog.types.size + 1)
 have hf : (determinant_Restorable.val39 ⟨a0, a1, a2, a3, a4, ⟨a5, a6⟩, a7, a8⟩).formed Try.prog 28 = true := by simp [Value.formed, determinant_Restorable.val39, Try.underlying28, determinant_Restorable.c39]
 unfold keyOf
 rw [Try.underlying28]
 simp only [determinant_Restorable.kt39, hf, Bool.true_and, ↓reduceIte, hsz]
 simp [Program.keyLits, Try.underlying28, Try.underlying26, Try.underlying24, Try.underlying3, determinant_Restorable.c39, determinant_Restorable.c37, determinant_Restorable.c35, determinant_Restorable.c3, determinant_Restorable.val39, Value.cells, determinant_Restorable.wf_i64 h0, determinant_Restorable.wf_i64 h1, determinant_Restorable.wf_i64 h2, determinant_Restorable.wf_i64 h3, determinant_Restorable.wf_i64 h4, determinant_Restorable.wf_i64 h5, determinant_Restorable.wf_i64 h6, determinant_Restorable.wf_i64 h7, determinant_Restorable.wf_i64 h8]
 rw [if_pos (by decide +kernel), if_pos (by decide +kernel)]
 exact ⟨_, rfl⟩
theorem determinant_Restorable.info3 : (Try.prog.info? 3).map (fun i => (i.zero, i.size, i.bytes)) = some (some (.int .i64 0), 1, 8) := by kernel_rfl
theorem determinant_Restorable.info4 : (Try.prog.info? 4).map (fun i => (i.zero, i.size, i.bytes)) = some (some (.bool false), 1, 1) := by kernel_rfl
theorem determinant_Restorable.zero4 (w : World) : (zeroValue 4).run Try.prog w = .ok (.bool false) w := by kernel_rfl
def determinant_Restorable.keys (l : List S28) (i : Nat) : List Value := ((l.take i).map determinant_Restorable.val39).reverse
theorem determinant_Restorable.keys_succ {l : List S28} {i : Nat} (h : i < l.length) : determinant_Restorable.keys l (i + 1) = determinant_Restorable.val39 (rd_T28 l (i : Int)) :: determinant_Restorable.keys l i := by
 unfold determinant_Restorable.keys
 have e : rd_T28 l (i : Int) = l[i] := by simp [rd_T28, List.getD_eq_getElem?_getD, h]
 rw [← List.take_append_getElem h, List.map_append, List.reverse_append, e]
 rfl
theorem determinant_Restorable.keys_len (l : List S28) (i : Nat) : (determinant_Restorable.keys l i).length ≤ l.length := by
 simp [determinant_Restorable.keys]
 omega
theorem determinant_Restorable.mem_keys (l : List S28) (d : S28) : determinant_Restorable.val39 d ∈ determinant_Restorable.keys l l.length ↔ d ∈ l := by
 simp only [determinant_Restorable.keys, List.take_length, List.mem_reverse, List.mem_map]
 exact ⟨fun ⟨a, h1, h2⟩ => determinant_Restorable.val39_inj h2 ▸ h1, fun h => ⟨d, h, rfl⟩⟩
def determinant_Restorable.eqD (a b : S28) : Bool := a.f0 == b.f0 && a.f1 == b.f1 && a.f2.f0 == b.f2.f0 && a.f2.f1 == b.f2.f1 && a.f2.f2 == b.f2.f2 && a.f2.f3.f0 == b.f2.f3.f0 && a.f2.f3.f1 == b.f2.f3.f1 && a.f2.f4 == b.f2.f4 && a.f2.f5 == b.f2.f5
theorem determinant_Restorable.eqD_iff (a b : S28) : determinant_Restorable.eqD a b = true ↔ a = b := by
 rcases a with ⟨a0, a1, a2, a3, a4, ⟨a5, a6⟩, a7, a8⟩
 rcases b with ⟨b0, b1, b2, b3, b4, ⟨b5, b6⟩, b7, b8⟩
 simp [determinant_Restorable.eqD, and_assoc]
def determinant_Restorable.has (l : List S28) (d : S28) : Bool := l.any (fun e => determinant_Restorable.eqD e d)
theorem determinant_Restorable.has_iff (l : List S28) (d : S28) : determinant_Restorable.has l d = true ↔ determinant_Restorable.val39 d ∈ determinant_Restorable.keys l l.length := by
 rw [determinant_Restorable.mem_keys]
 simp [determinant_Restorable.has, determinant_Restorable.eqD_iff]
def determinant_Restorable.mark (n : Int) (s : List Bool) (c : Int) : List Bool := if 0 ≤ c then if c ≤ n then s.set c.toNat true else s else s
def determinant_Restorable.marks (n : Nat) (l : List Int) : List Bool := l.foldl (determinant_Restorable.mark n) (List.replicate (n + 1) false)
theorem determinant_Restorable.marks_len (n : Nat) (l : List Int) : (determinant_Restorable.marks n l).length = n + 1 := by
 suffices h : ∀ (l : List Int) (s : List Bool), (l.foldl (determinant_Restorable.mark n) s).length = s.length by simp [determinant_Restorable.marks, h]
 intro l
 induction l with
 | nil => exact fun _ => rfl
 | cons c l ih =>
  intro s
  rw [List.foldl_cons, ih]
  unfold determinant_Restorable.mark
  split <;> (try split) <;> simp
def determinant_Restorable.rdI (l : List Int) (i : Int) : Int := l.getD i.toNat 0
theorem determinant_Restorable.marks_succ {n : Nat} {l : List Int} {i : Nat} (h : i < l.length) : determinant_Restorable.marks n (l.take (i + 1)) = determinant_Restorable.mark n (determinant_Restorable.marks n (l.take i)) (rd l (i : Int)) := by
 unfold determinant_Restorable.marks
 rw [← List.take_append_getElem h, List.foldl_append]
 simp [rd, List.getD_eq_getElem?_getD, h]
def determinant_Restorable.ask (a0 : Int) (l1 : List S26) (l3 : List S28) (j : Nat) (ok : Bool) : Bool := if 0 < (j : Int) then (if ok = true then determinant_Restorable.has l3 ⟨a0, j, rd_T26 l1 (wrap64 ((j : Int) - 1))⟩ else ok) else ok
def determinant_Restorable.step (a0 : Int) (l1 : List S26) (l3 : List S28) (s : List Bool) (st : List Int × Bool) (j : Nat) : List Int × Bool :=
 if (rdOf false s (j : Int) || determinant_Restorable.ask a0 l1 l3 j st.2) = true then (st.1 ++ [(j : Int)], true) else (st.1, false)
def determinant_Restorable.outs (a0 : Int) (l1 : List S26) (l3 : List S28) (s : List Bool) (i : Nat) : List Int × Bool := (List.range i).foldl (determinant_Restorable.step a0 l1 l3 s) ([], false)
theorem determinant_Restorable.outs_succ (a0 : Int) (l1 : List S26) (l3 : List S28) (s : List Bool) (i : Nat) : determinant_Restorable.outs a0 l1 l3 s (i + 1) = determinant_Restorable.step a0 l1 l3 s (determinant_Restorable.outs a0 l1 l3 s i) i := by
 simp [determinant_Restorable.outs, List.range_succ, List.foldl_append]
theorem determinant_Restorable.outs_len (a0 : Int) (l1 : List S26) (l3 : List S28) (s : List Bool) (i : Nat) : (determinant_Restorable.outs a0 l1 l3 s i).1.length ≤ i := by
 induction i with
 | zero => simp [determinant_Restorable.outs]
 | succ i ih =>
  rw [determinant_Restorable.outs_succ]
  unfold determinant_Restorable.step
  split <;> simp <;> omega
def determinant_Restorable.fit (a0 : Int) (l1 : List S26) (l2 : List Int) (l3 : List S28) : Bool := decide (l1.length < 1000000) && decide (l2.length < 1000000) && decide (l3.length < 1000000) && l3.all determinant_Restorable.okD && determinant_Restorable.okI a0 && l1.all (fun e => determinant_Restorable.okD ⟨0, 0, e⟩)
def determinant_Restorable.f (a0 : Int) (l1 : List S26) (l2 : List Int) (l3 : List S28) : Option (List Int) := if determinant_Restorable.fit a0 l1 l2 l3 = true then some (determinant_Restorable.outs a0 l1 l3 (determinant_Restorable.marks l1.length l2) (l1.length + 1)).1 else none
theorem determinant_Restorable.ok_mk {a i : Int} {e : S26} (h1 : determinant_Restorable.okI a = true) (h2 : determinant_Restorable.okI i = true) (h3 : determinant_Restorable.okD ⟨0, 0, e⟩ = true) : determinant_Restorable.okD ⟨a, i, e⟩ = true := by
 simp only [determinant_Restorable.okD, Bool.and_eq_true] at h3 ⊢
 obtain ⟨⟨⟨⟨⟨⟨⟨⟨_, _⟩, g2⟩, g3⟩, g4⟩, g5⟩, g6⟩, g7⟩, g8⟩ := h3
 exact ⟨⟨⟨⟨⟨⟨⟨⟨h1, h2⟩, g2⟩, g3⟩, g4⟩, g5⟩, g6⟩, g7⟩, g8⟩
theorem determinant_Restorable.mem_rd {l : List S26} {x : Int} (h0 : 0 ≤ x) (h1 : x < l.length) : rd_T26 l x ∈ l := by
 have h : x.toNat < l.length := by omega
 simp [rd_T26, List.getD_eq_getElem?_getD, h]
set_option maxHeartbeats 8000000 in
set_option maxRecDepth 100000 in
theorem determinant_Restorable.calls (a0 : Int) (A1 : Option Addr) (c1 : Nat) (l1 : List S26) (A2 : Option Addr) (c2 : Nat) (l2 : List Int) (A3 : Option Addr) (c3 : Nat) (l3 : List S28) (r : List Int) (w : World) (hr1 : Kd.C k26 w A1 l1.length l1) (hc1 : l1.length ≤ c1) (hr2 : Kd.C (Kd.int .i64) w A2 l2.length l2) (hc2 : l2.length ≤ c2) (hr3 : Kd.C k28 w A3 l3.length l3) (hc3 : l3.length ≤ c3) (h : determinant_Restorable.f a0 l1 l2 l3 = some r) :
  Calls Try.prog 21 #[.int .i64 a0, .slice A1 l1.length c1, .slice A2 l2.length c2, .slice A3 l3.length c3] w fun e w' => ∃ v0_ : Value, e = .returned (v0_) ∧ Kd.R (Kd.int .i64) 3 w' w.heap.size (fun _ => True) v0_ r ∧ Below w.heap.size w w' := by
 have hu37 := Try.underlying26
 have hu39 := Try.underlying28
 have HR1 := Aside0.mk hr1
 have HR2 := Aside0.mk hr2
 have HR3 := Aside0.mk hr3
 clear hr1 hc1 hr2 hc2 hr3 hc3
 have HB := Aside0.mk (Below.refl w.heap.size w)
 unfold determinant_Restorable.f at h
 by_cases hfit : determinant_Restorable.fit a0 l1 l2 l3 = true
 case neg => rw [if_neg hfit] at h; exact absurd h (by simp)
 rw [if_pos hfit] at h
 have Hr := Aside0.mk (Option.some.inj h)
 clear h
 have FT : Aside0 (l1.length < 1000000 ∧ l2.length < 1000000 ∧ l3.length < 1000000 ∧ (∀ d ∈ l3, determinant_Restorable.okD d = true) ∧ determinant_Restorable.okI a0 = true ∧ ∀ e ∈ l1, determinant_Restorable.okD ⟨0, 0, e⟩ = true) := ⟨by
  simp only [determinant_Restorable.fit, Bool.and_eq_true, decide_eq_true_eq, List.all_eq_true] at hfit
  obtain ⟨⟨⟨⟨⟨h1, h2⟩, h3⟩, h4⟩, h5⟩, h6⟩ := hfit
  exact ⟨h1, h2, h3, h4, h5, h6⟩⟩
 clear hfit
 obtain ⟨k3, hk3⟩ : ∃ k, k = l3.length + 1 := ⟨_, rfl⟩
 obtain ⟨k2, hk2⟩ : ∃ k, k = l2.length + 1 := ⟨_, rfl⟩
 obtain ⟨k1, hk1⟩ : ∃ k, k = l1.length + 2 := ⟨_, rfl⟩
 have K1 := Aside0.mk hk1
 have K2 := Aside0.mk hk2
 have K3 := Aside0.mk hk3
 clear hk1 hk2 hk3
 go_enter Try.func21, Try.ntmps21
 go_wp2_with (first | ((with_reducible refine gate_dst (N := 20) rfl ?_); refine wpList_makeMap_set rfl 51 _ rfl 28 4 (l3.length : Int) rfl Try.underlying51 ?_; intro gm w1 hgm hm hb; have GM := Aside0.mk (Nat.le_of_eq hgm.symm : w.heap.size ≤ gm); have n0_ := Aside0.mk hm; have n1_ := Aside0.mk (below_step HB.out hb); clear HB hm hb hgm; have HM := n0_; have HB := n1_; clear n0_ n1_))
 go_loopg [23] k3 (fun kq v23 w' => ∃ i : Nat, v23 = .int .i64 (i : Int) ∧ Aside0 (i + kq = l3.length + 1 ∧ i ≤ l3.length) ∧ Aside0 (MapSet Try.prog 28 4 w' gm (determinant_Restorable.keys l3 i)) ∧ Aside0 (Below w.heap.size w w'))
 case atStart => exact ⟨0, rfl, ⟨by have := K3.out; omega⟩, ⟨HM.out⟩, ⟨HB.out⟩⟩
 case round =>(
 clear HM HB
 obtain ⟨i, rfl, HK, HM, HB⟩ := hrel
 cases gk with
 | zero => exact absurd HK.out.1 (by have := HK.out.2; omega)
 | succ kq =>(
 by_cases c1 : (i : Int) < (l3.length : Int)
 ·(
 have c1b : decide ((i : Int) < (l3.length : Int)) = true := decide_eq_true c1
 have p1 : 0 ≤ (i : Int) := Int.natCast_nonneg i
 have q1 := c1
 obtain ⟨ad1, e1, hx0, hx1, hx2, hx3, hx4, hx5, hx6, hx7, hx8⟩ := at_T28 HR3.out (i : Int) p1 q1
 have NI := Aside0.mk (Int.ofNat_lt.1 c1)
 clear c1
 cases e1
 replace hx0 := hce HB hx0
 replace hx1 := hce HB hx1
 replace hx2 := hce HB hx2
 replace hx3 := hce HB hx3
 replace hx4 := hce HB hx4
 replace hx5 := hce HB hx5
 replace hx6 := hce HB hx6
 replace hx7 := hce HB hx7
 replace hx8 := hce HB hx8
 simp only [Int.toNat_natCast] at hx0 hx1 hx2 hx3 hx4 hx5 hx6 hx7 hx8
 replace p1 := eq_true p1
 replace q1 := eq_true q1
 go_wp2_with (first | ((with_reducible refine gate_dst (N := 11) rfl ?_); refine box_event ?hg (N := 11) ?hd (cs := #[.int .i64 0, .int .i64 0, .int .i64 0, .int .i64 0, .int .i64 0, .int .i64 0, .int .i64 0, .int .i64 0, .int .i64 0]) (t := 28) ?hr ?_; (case hd => rfl); (case hg => rfl); (case hr => first | (go_simp; done) | (go_simp; rfl)); intro gb hg w7 hbox hb; have n0_ := Aside0.mk (MapSet.below HM.out hb); have n1_ := Aside0.mk (below_step (bq HB.out) hb); have n2_ := Aside0.mk hbox; have n3_ := Aside0.mk (by rw [hg]; exact (below_size (bq HB.out)) : w.heap.size ≤ gb); have n4_ := Aside0.mk (by rw [hg]; exact Nat.ne_of_lt (MapSet.lt HM.out) : gm ≠ gb); clear HM HB; have HM := n0_; have HB := n1_; have BK := n2_; have GE := n3_; have GN := n4_; clear n0_ n1_ n2_ n3_ n4_; clear hb hbox hg; have hcz_0 : w7.cell? ⟨gb, 0, none⟩ = some (.int .i64 0) := bc BK.out 0; have hcz_1 : w7.cell? ⟨gb, 1, none⟩ = some (.int .i64 0) := bc BK.out 1; have hcz_2 : w7.cell? ⟨gb, 2, none⟩ = some (.int .i64 0) := bc BK.out 2; have hcz_3 : w7.cell? ⟨gb, 3, none⟩ = some (.int .i64 0) := bc BK.out 3; have hcz_4 : w7.cell? ⟨gb, 4, none⟩ = some (.int .i64 0) := bc BK.out 4; have hcz_5 : w7.cell? ⟨gb, 5, none⟩ = some (.int .i64 0) := bc BK.out 5; have hcz_6 : w7.cell? ⟨gb, 6, none⟩ = some (.int .i64 0) := bc BK.out 6; have hcz_7 : w7.cell? ⟨gb, 7, none⟩ = some (.int .i64 0) := bc BK.out 7; have hcz_8 : w7.cell? ⟨gb, 8, none⟩ = some (.int .i64 0) := bc BK.out 8; have hfz_0 := blk_frozen BK.out 0; have hfz_1 := blk_frozen BK.out 1; have hfz_2 := blk_frozen BK.out 2; have hfz_3 := blk_frozen BK.out 3; have hfz_4 := blk_frozen BK.out 4; have hfz_5 := blk_frozen BK.out 5; have hfz_6 := blk_frozen BK.out 6; have hfz_7 := blk_frozen BK.out 7; have hfz_8 := blk_frozen BK.out 8) | (at_mapUpdate; refine wpList_mapUpdate_set _ rfl _ _ _ 51 rfl 28 4 determinant_Restorable.keyed39 Try.underlying51 Try.underlying4 gm (determinant_Restorable.keys l3 i) ?um ?uo ?un (determinant_Restorable.val39 (rd_T28 l3 (i : Int))) ?ux rfl ?uk ?_; (case um => first | rfl | (go_simp; done) | (go_simp; rfl)); (case uo => repeat (first | (with_reducible first | exact HM.out | refine MapSet.set ?_ GN.out _) | exact HM.out)); (case un => exact Nat.lt_of_le_of_lt (determinant_Restorable.keys_len l3 i) (Nat.lt_of_lt_of_le FT.out.2.2.1 (by decide))); (case ux => first | (go_simp; done) | (go_simp; rfl)); (case uk => exact determinant_Restorable.key39 _ (FT.out.2.2.2.1 _ (by simp [rd_T28, List.getD_eq_getElem?_getD, NI.out]))); intro wq hm hg; have n0_ := Aside0.mk hm; have n1_ := Aside0.mk (pw_below_grown (bq1 HB.out GE.out) (some gm) (below_size (bq1 HB.out GE.out)) hg (fun k hk => by cases hk; exact GM.out)); clear HM HB; have HM := n0_; have HB := n1_; clear n0_ n1_ hm hg))
 go_roundg kq
 case measure => omega
 case rel => exact ⟨i + 1, (by rw [show (wrap64 ((i : Int) + 1)) = ((i + 1 : Nat) : Int) by rw [Go.IntWalk.wrap64_in _ (by have := NI.out; have := FT.out.2.2.1; omega)]; omega]), ⟨by have := HK.out; have := NI.out; omega⟩, ⟨by rw [determinant_Restorable.keys_succ NI.out]; exact HM.out⟩, ⟨HB.out⟩⟩)
 ·(
 have c1b : decide ((i : Int) < (l3.length : Int)) = false := decide_eq_false c1
 obtain rfl : i = l3.length := by have := HK.out.2; omega
 clear c1
 have hw1 : wrap64 ((l1.length : Int) + 1) = ((l1.length + 1 : Nat) : Int) := by rw [Go.IntWalk.wrap64_in _ (by have := FT.out.1; omega)]; omega
 have HW1 := Aside0.mk hw1
 clear hw1
 go_wp2_with (first | ((with_reducible refine gate_dst (N := 33) rfl ?_); refine Kd.R_make Kd.bool _ 4 rfl (N := 33) rfl 52 _ _ rfl (wrap64 ((l1.length : Int) + 1)) rfl rfl Try.underlying52 (.bool false) 1 determinant_Restorable.info4 rfl (by decide) (by omega) false (ok := fun _ => True) (okp := fun _ => True) rfl (fun _ hk => hk) trivial (by rw [HW1.out]; omega) (by rw [HW1.out]; have := FT.out.1; omega) (Below.refl _ _) (Nat.le_refl _) ?_; intro vs ws ho hb hg_ hnew_; clear hg_ hnew_; have n0_ := Aside0.mk (MapSet.below HM.out hb); have n1_ := Aside0.mk (Kd.R_lower ho (below_size (bq HB.out))); have n2_ := Aside0.mk (below_step (bq HB.out) hb); clear HM HB; have HM := n0_; have HS0 := n1_; have HB := n2_; clear n0_ n1_ n2_ hb ho))
 have HS := Aside0.mk (show Kd.R Kd.bool 4 ws w.heap.size (fun _ => True) vs (determinant_Restorable.marks l1.length (l2.take 0)) by have := HS0.out; rw [HW1.out] at this; exact this)
 clear HS0
 go_loopg [36] k2 (fun kq v36 w' => ∃ i : Nat, v36 = .int .i64 (i : Int) ∧ Aside0 (i + kq = l2.length + 1 ∧ i ≤ l2.length) ∧ Aside0 (Kd.R Kd.bool 4 w' w.heap.size (fun _ => True) vs (determinant_Restorable.marks l1.length (l2.take i))) ∧ Aside0 (MapSet Try.prog 28 4 w' gm (determinant_Restorable.keys l3 l3.length)) ∧ Aside0 (Below w.heap.size w w'))
 case atStart => exact ⟨0, rfl, ⟨by have := K2.out; omega⟩, ⟨HS.out⟩, ⟨HM.out⟩, ⟨HB.out⟩⟩
 case round =>(
 clear HM HB HS HK
 obtain ⟨i, rfl, HK, HS, HM, HB⟩ := hrel
 cases gk with
 | zero => exact absurd HK.out.1 (by have := HK.out.2; omega)
 | succ kq =>(
 by_cases c1 : (i : Int) < (l2.length : Int)
 ·(
 have c1b : decide ((i : Int) < (l2.length : Int)) = true := decide_eq_true c1
 have NI := Aside0.mk (Int.ofNat_lt.1 c1)
 have p1 : 0 ≤ (i : Int) := Int.natCast_nonneg i
 have q1 := c1
 obtain ⟨y, hy⟩ : ∃ y, y = rd l2 (i : Int) := ⟨_, rfl⟩
 obtain ⟨ad2, e2, hx0⟩ := Kd.at_int HR2.out (i : Int) p1 q1
 clear c1
 cases e2
 replace hx0 := hce HB hx0
 simp only [Int.toNat_natCast] at hx0
 rw [← hy] at hx0
 have NY := Aside0.mk hy
 replace p1 := eq_true p1
 replace q1 := eq_true q1
 have hms := determinant_Restorable.marks_succ (n := l1.length) NI.out
 by_cases c2 : 0 ≤ y
 ·(
 have c2b : decide (0 ≤ y) = true := decide_eq_true c2
 by_cases c3 : y ≤ (l1.length : Int)
 ·(
 have c3b : decide (y ≤ (l1.length : Int)) = true := decide_eq_true c3
 rw [← hy, determinant_Restorable.mark, if_pos c2, if_pos c3] at hms
 have NM := Aside0.mk hms
 have hl := determinant_Restorable.marks_len l1.length (l2.take i)
 have NL := Aside0.mk hl
 have p2 : 0 ≤ y := c2
 have q2 : y < ((determinant_Restorable.marks l1.length (l2.take i)).length : Int) := by rw [hl]; omega
 obtain ⟨go, co, eo, gb, gl, cl, HG⟩ := Kd.R_form HS.out (by omega)
 cases eo
 have GB := Aside0.mk gb
 have GT := Aside0.mk HG
 clear gb gl HG
 obtain ⟨hs0, hf0⟩ := Kd.R_celln false HS.out y p2 q2
 have HP := Kd.R_putg HS.out y true
 replace p2 := eq_true p2
 replace q2 := eq_true q2
 clear hms hl c2 c3 hy
 have HPP := Aside0.mk HP
 clear HP
 go_wp2
 go_roundg kq
 case measure => omega
 case rel => exact ⟨i + 1, (by rw [show (wrap64 ((i : Int) + 1)) = ((i + 1 : Nat) : Int) by rw [Go.IntWalk.wrap64_in _ (by have := NI.out; have := FT.out.2.1; omega)]; omega]), ⟨by have := HK.out; have := NI.out; omega⟩, ⟨by rw [NM.out]; exact HPP.out.1⟩, ⟨MapSet.kept HM.out HPP.out.2 (MapSet.ne_cells HM.out ⟨cl, GT.out⟩)⟩, ⟨below_set HB.out GB.out⟩⟩)
 ·(
 have c3b : decide (y ≤ (l1.length : Int)) = false := decide_eq_false c3
 rw [← hy, determinant_Restorable.mark, if_pos c2, if_neg c3] at hms
 have NM := Aside0.mk hms
 clear hms c2 c3 hy
 go_wp2
 go_roundg kq
 case measure => omega
 case rel => exact ⟨i + 1, (by rw [show (wrap64 ((i : Int) + 1)) = ((i + 1 : Nat) : Int) by rw [Go.IntWalk.wrap64_in _ (by have := NI.out; have := FT.out.2.1; omega)]; omega]), ⟨by have := HK.out; have := NI.out; omega⟩, ⟨by rw [NM.out]; exact HS.out⟩, ⟨HM.out⟩, ⟨HB.out⟩⟩))
 ·(
 have c2b : decide (0 ≤ y) = false := decide_eq_false c2
 rw [← hy, determinant_Restorable.mark, if_neg c2] at hms
 have NM := Aside0.mk hms
 clear hms c2 hy
 go_wp2
 go_roundg kq
 case measure => omega
 case rel => exact ⟨i + 1, (by rw [show (wrap64 ((i : Int) + 1)) = ((i + 1 : Nat) : Int) by rw [Go.IntWalk.wrap64_in _ (by have := NI.out; have := FT.out.2.1; omega)]; omega]), ⟨by have := HK.out; have := NI.out; omega⟩, ⟨by rw [NM.out]; exact HS.out⟩, ⟨HM.out⟩, ⟨HB.out⟩⟩))
 ·(
 have c1b : decide ((i : Int) < (l2.length : Int)) = false := decide_eq_false c1
 obtain rfl : i = l2.length := by have := HK.out.2; omega
 clear c1
 obtain ⟨s, hs⟩ : ∃ s, s = determinant_Restorable.marks l1.length l2 := ⟨_, rfl⟩
 have hs' := HS.out
 rw [List.take_length, ← hs] at hs'
 have HS' := Aside0.mk hs'
 have hl : s.length = l1.length + 1 := by rw [hs]; exact determinant_Restorable.marks_len _ _
 have NS := Aside0.mk hs
 have NL := Aside0.mk hl
 clear HS hs' hs
 obtain ⟨go, co, eo, gb, gl, cl, HG⟩ := Kd.R_form HS'.out (by omega)
 cases eo
 have GB := Aside0.mk gb
 clear gb gl HG hl
 go_wp2
 go_loopg [15, 16, 54] k1 (fun kq v15 v16 v54 w' => ∃ (i : Nat) (xs : List Int) (b : Bool), v54 = .int .i64 (i : Int) ∧ v16 = .bool b ∧ Aside0 (determinant_Restorable.outs a0 l1 l3 s i = (xs, b)) ∧ Aside0 (i + kq = l1.length + 2 ∧ i ≤ l1.length + 1) ∧ Aside0 (Kd.R (Kd.int .i64) 3 w' w.heap.size (fun _ => True) v15 xs) ∧ Aside0 (Kd.R Kd.bool 4 w' w.heap.size (fun _ => True) (.slice (some ⟨go, 0, none⟩) s.length co) s) ∧ Aside0 (MapSet Try.prog 28 4 w' gm (determinant_Restorable.keys l3 l3.length)) ∧ Aside0 (Below w.heap.size w w'))
 case atStart => exact ⟨0, [], false, rfl, rfl, ⟨rfl⟩, ⟨by have := K1.out; omega⟩, ⟨Kd.R_nil _ _ _ _ _⟩, ⟨HS'.out⟩, ⟨HM.out⟩, ⟨HB.out⟩⟩
 case round =>(
 clear HM HB HS' HK
 obtain ⟨i, xs, b, rfl, rfl, HX, HK, HO, HS, HM, HB⟩ := hrel
 cases gk with
 | zero => exact absurd HK.out.1 (by have := HK.out.2; omega)
 | succ kq =>(
 by_cases c1 : (i : Int) < (s.length : Int)
 ·(
 have c1b : decide ((i : Int) < (s.length : Int)) = true := decide_eq_true c1
 have c1n : (i < s.length) = True := eq_true (by omega)
 have NI := Aside0.mk (Int.ofNat_lt.1 c1)
 obtain ⟨hs0, hf0⟩ := Kd.R_celln false HS.out (i : Int) (Int.natCast_nonneg i) c1
 simp only [Int.toNat_natCast] at hs0 hf0
 have p9 : 0 ≤ (i : Int) := Int.natCast_nonneg i
 replace p9 := eq_true p9
 have hstep := determinant_Restorable.outs_succ a0 l1 l3 s i
 have holen := determinant_Restorable.outs_len a0 l1 l3 s i
 rw [HX.out] at hstep holen
 have NO := Aside0.mk (show xs.length ≤ i from holen)
 have NT := Aside0.mk hstep
 have BND := Aside0.mk (show (i : Int) ≤ 1000000 by have := NI.out; have := NL.out; have := FT.out.1; omega)
 clear holen hstep c1
 cases hsi : rdOf false s (i : Int)
 all_goals rw [hsi] at hs0
 all_goals have HSI := Aside0.mk hsi
 all_goals clear hsi
 all_goals by_cases hi : 0 < (i : Int)
 ·(
 cases b
 ·(
 have _z := trivial
 have hst : determinant_Restorable.outs a0 l1 l3 s (i + 1) = (xs, false) := by rw [NT.out]; show (if (rdOf false s (i : Int) || (if 0 < (i : Int) then (if false = true then determinant_Restorable.has l3 ⟨a0, (i : Int), rd_T26 l1 (wrap64 ((i : Int) - 1))⟩ else false) else false)) = true then (xs ++ [(i : Int)], true) else (xs, false)) = _; rw [HSI.out, if_pos hi]; rfl
 have HST := Aside0.mk hst
 have hib : decide (0 < (i : Int)) = true := decide_eq_true hi
 have hin : (0 < i) = True := eq_true (by omega)
 clear hst hi
 go_wp2
 go_roundg kq
 case measure => omega
 case rel => exact ⟨i + 1, xs, false, (by rw [show (wrap64 ((i : Int) + 1)) = ((i + 1 : Nat) : Int) by rw [Go.IntWalk.wrap64_in _ (by have := BND.out; omega)]; omega]), rfl, ⟨HST.out⟩, ⟨by have := HK.out; have := NI.out; have := NL.out; omega⟩, ⟨HO.out⟩, ⟨HS.out⟩, ⟨HM.out⟩, ⟨HB.out⟩⟩)
 ·(
 have _z := trivial
 obtain ⟨p7, q7⟩ : 0 ≤ wrap64 ((i : Int) - 1) ∧ wrap64 ((i : Int) - 1) < (l1.length : Int) := by rw [Go.IntWalk.wrap64_in _ (by have := BND.out; omega)]; have := NI.out; have := NL.out; omega
 have HKEY := Aside0.mk (determinant_Restorable.key39 ⟨a0, (i : Int), rd_T26 l1 (wrap64 ((i : Int) - 1))⟩ (determinant_Restorable.ok_mk FT.out.2.2.2.2.1 (by simp only [determinant_Restorable.okI, decide_eq_true_eq]; have := BND.out; omega) (FT.out.2.2.2.2.2 _ (determinant_Restorable.mem_rd p7 q7))))
 obtain ⟨ad7, e7, hy0, hy1, hy2, hy3, hy4, hy5, hy6⟩ := at_T26 HR1.out (wrap64 ((i : Int) - 1)) p7 q7
 cases e7
 replace hy0 := (HB.out.cell (World.block_lt_of_cell? w _ hy0)).trans hy0
 replace hy1 := (HB.out.cell (World.block_lt_of_cell? w _ hy1)).trans hy1
 replace hy2 := (HB.out.cell (World.block_lt_of_cell? w _ hy2)).trans hy2
 replace hy3 := (HB.out.cell (World.block_lt_of_cell? w _ hy3)).trans hy3
 replace hy4 := (HB.out.cell (World.block_lt_of_cell? w _ hy4)).trans hy4
 replace hy5 := (HB.out.cell (World.block_lt_of_cell? w _ hy5)).trans hy5
 replace hy6 := (HB.out.cell (World.block_lt_of_cell? w _ hy6)).trans hy6
 replace p7 := eq_true p7
 replace q7 := eq_true q7
 cases hdq : determinant_Restorable.has l3 ⟨a0, (i : Int), rd_T26 l1 (wrap64 ((i : Int) - 1))⟩
 ·(
 have HDQ := Aside0.mk hdq
 have HD := Aside0.mk (show (false = true ↔ determinant_Restorable.val39 ⟨a0, (i : Int), rd_T26 l1 (wrap64 ((i : Int) - 1))⟩ ∈ determinant_Restorable.keys l3 l3.length) by rw [← determinant_Restorable.has_iff, hdq])
 clear hdq
 have hst : determinant_Restorable.outs a0 l1 l3 s (i + 1) = (xs, false) := by rw [NT.out]; show (if (rdOf false s (i : Int) || (if 0 < (i : Int) then (if true = true then determinant_Restorable.has l3 ⟨a0, (i : Int), rd_T26 l1 (wrap64 ((i : Int) - 1))⟩ else true) else true)) = true then (xs ++ [(i : Int)], true) else (xs, false)) = _; rw [HSI.out, if_pos hi, if_pos rfl, HDQ.out]; rfl
 have HST := Aside0.mk hst
 have hib : decide (0 < (i : Int)) = true := decide_eq_true hi
 have hin : (0 < i) = True := eq_true (by omega)
 clear hst hi
 go_wp2_with (first | (at_lookup; refine wpList_lookup_set _ rfl _ _ 51 rfl 28 4 determinant_Restorable.keyed39 Try.underlying51 Try.underlying4 (determinant_Restorable.zero4 _) gm (determinant_Restorable.keys l3 l3.length) ?lm HM.out (determinant_Restorable.val39 ⟨a0, (i : Int), rd_T26 l1 (wrap64 ((i : Int) - 1))⟩) ?lx HKEY.out false HD.out ?_; (case lm => first | rfl | (go_simp; done) | (go_simp; rfl)); (case lx => first | (go_simp; done) | (go_simp; rfl))))
 go_roundg kq
 case measure => omega
 case rel => exact ⟨i + 1, xs, false, (by rw [show (wrap64 ((i : Int) + 1)) = ((i + 1 : Nat) : Int) by rw [Go.IntWalk.wrap64_in _ (by have := BND.out; omega)]; omega]), rfl, ⟨HST.out⟩, ⟨by have := HK.out; have := NI.out; have := NL.out; omega⟩, ⟨HO.out⟩, ⟨HS.out⟩, ⟨HM.out⟩, ⟨HB.out⟩⟩)
 ·(
 have HDQ := Aside0.mk hdq
 have HD := Aside0.mk (show (true = true ↔ determinant_Restorable.val39 ⟨a0, (i : Int), rd_T26 l1 (wrap64 ((i : Int) - 1))⟩ ∈ determinant_Restorable.keys l3 l3.length) by rw [← determinant_Restorable.has_iff, hdq])
 clear hdq
 have hst : determinant_Restorable.outs a0 l1 l3 s (i + 1) = (xs ++ [(i : Int)], true) := by rw [NT.out]; show (if (rdOf false s (i : Int) || (if 0 < (i : Int) then (if true = true then determinant_Restorable.has l3 ⟨a0, (i : Int), rd_T26 l1 (wrap64 ((i : Int) - 1))⟩ else true) else true)) = true then (xs ++ [(i : Int)], true) else (xs, false)) = _; rw [HSI.out, if_pos hi, if_pos rfl, HDQ.out]; rfl
 have HST := Aside0.mk hst
 have hib : decide (0 < (i : Int)) = true := decide_eq_true hi
 have hin : (0 < i) = True := eq_true (by omega)
 clear hst hi
 go_wp2_with (first | (at_lookup; refine wpList_lookup_set _ rfl _ _ 51 rfl 28 4 determinant_Restorable.keyed39 Try.underlying51 Try.underlying4 (determinant_Restorable.zero4 _) gm (determinant_Restorable.keys l3 l3.length) ?lm HM.out (determinant_Restorable.val39 ⟨a0, (i : Int), rd_T26 l1 (wrap64 ((i : Int) - 1))⟩) ?lx HKEY.out true HD.out ?_; (case lm => first | rfl | (go_simp; done) | (go_simp; rfl)); (case lx => first | (go_simp; done) | (go_simp; rfl))) | ((with_reducible refine gate_builtin (b := .append) (xs := #[.tmp 77, .tmp 79]) rfl ?_); at_builtin; refine Kd.R_append (Kd.int .i64) (w0 := w) w.heap.size rfl (.tmp 77) (.tmp 79) 45 3 (.int .i64 0) 8 rfl Try.underlying45 determinant_Restorable.info3 rfl (by decide) (by omega) u15 xs (i : Int) [.int .i64 (i : Int)] (fun _ => True) (fun _ => False) rfl rfl ?aP (fun _ hk => hk.elim) ?aF ?aO ?aB ?aS ?aL ?_; (case aP => exact rfl); (case aB => exact (bq HB.out)); (case aF => exact (fun _ _ => trivial)); (case aO => exact HO.out); (case aS => exact (below_size (bq HB.out))); (case aL => have := NO.out; have := BND.out; omega); intro v2 w14 ho hb hg hat; have n0_ := Aside0.mk (Kd.R_over' HS.out (Kd.R_typed HO.out) (by decide) hg); have n1_ := Aside0.mk (MapSet.kept HM.out hg (MapSet.ne_own HM.out (Kd.R_typed HO.out))); have n2_ := Aside0.mk hb; have n3_ := Aside0.mk ho; clear HS HM HB HO; have HS := n0_; have HM := n1_; have HB := n2_; have HO := n3_; clear n0_ n1_ n2_ n3_ ho hb hg hat))
 go_roundg kq
 case measure => omega
 case rel => exact ⟨i + 1, xs ++ [(i : Int)], true, (by rw [show (wrap64 ((i : Int) + 1)) = ((i + 1 : Nat) : Int) by rw [Go.IntWalk.wrap64_in _ (by have := BND.out; omega)]; omega]), rfl, ⟨HST.out⟩, ⟨by have := HK.out; have := NI.out; have := NL.out; omega⟩, ⟨HO.out⟩, ⟨HS.out⟩, ⟨HM.out⟩, ⟨HB.out⟩⟩)))
 ·(
 cases b
 ·(
 have _z := trivial
 have hst : determinant_Restorable.outs a0 l1 l3 s (i + 1) = (xs, false) := by rw [NT.out]; show (if (rdOf false s (i : Int) || (if 0 < (i : Int) then (if false = true then determinant_Restorable.has l3 ⟨a0, (i : Int), rd_T26 l1 (wrap64 ((i : Int) - 1))⟩ else false) else false)) = true then (xs ++ [(i : Int)], true) else (xs, false)) = _; rw [HSI.out, if_neg hi]; rfl
 have HST := Aside0.mk hst
 have hib : decide (0 < (i : Int)) = false := decide_eq_false hi
 have hin : (0 < i) = False := eq_false (by omega)
 clear hst hi
 go_wp2
 go_roundg kq
 case measure => omega
 case rel => exact ⟨i + 1, xs, false, (by rw [show (wrap64 ((i : Int) + 1)) = ((i + 1 : Nat) : Int) by rw [Go.IntWalk.wrap64_in _ (by have := BND.out; omega)]; omega]), rfl, ⟨HST.out⟩, ⟨by have := HK.out; have := NI.out; have := NL.out; omega⟩, ⟨HO.out⟩, ⟨HS.out⟩, ⟨HM.out⟩, ⟨HB.out⟩⟩)
 ·(
 have _z := trivial
 have hst : determinant_Restorable.outs a0 l1 l3 s (i + 1) = (xs ++ [(i : Int)], true) := by rw [NT.out]; show (if (rdOf false s (i : Int) || (if 0 < (i : Int) then (if true = true then determinant_Restorable.has l3 ⟨a0, (i : Int), rd_T26 l1 (wrap64 ((i : Int) - 1))⟩ else true) else true)) = true then (xs ++ [(i : Int)], true) else (xs, false)) = _; rw [HSI.out, if_neg hi]; rfl
 have HST := Aside0.mk hst
 have hib : decide (0 < (i : Int)) = false := decide_eq_false hi
 have hin : (0 < i) = False := eq_false (by omega)
 clear hst hi
 go_wp2_with (first | ((with_reducible refine gate_builtin (b := .append) (xs := #[.tmp 77, .tmp 79]) rfl ?_); at_builtin; refine Kd.R_append (Kd.int .i64) (w0 := w) w.heap.size rfl (.tmp 77) (.tmp 79) 45 3 (.int .i64 0) 8 rfl Try.underlying45 determinant_Restorable.info3 rfl (by decide) (by omega) u15 xs (i : Int) [.int .i64 (i : Int)] (fun _ => True) (fun _ => False) rfl rfl ?aP (fun _ hk => hk.elim) ?aF ?aO ?aB ?aS ?aL ?_; (case aP => exact rfl); (case aB => exact (bq HB.out)); (case aF => exact (fun _ _ => trivial)); (case aO => exact HO.out); (case aS => exact (below_size (bq HB.out))); (case aL => have := NO.out; have := BND.out; omega); intro v2 w14 ho hb hg hat; have n0_ := Aside0.mk (Kd.R_over' HS.out (Kd.R_typed HO.out) (by decide) hg); have n1_ := Aside0.mk (MapSet.kept HM.out hg (MapSet.ne_own HM.out (Kd.R_typed HO.out))); have n2_ := Aside0.mk hb; have n3_ := Aside0.mk ho; clear HS HM HB HO; have HS := n0_; have HM := n1_; have HB := n2_; have HO := n3_; clear n0_ n1_ n2_ n3_ ho hb hg hat))
 go_roundg kq
 case measure => omega
 case rel => exact ⟨i + 1, xs ++ [(i : Int)], true, (by rw [show (wrap64 ((i : Int) + 1)) = ((i + 1 : Nat) : Int) by rw [Go.IntWalk.wrap64_in _ (by have := BND.out; omega)]; omega]), rfl, ⟨HST.out⟩, ⟨by have := HK.out; have := NI.out; have := NL.out; omega⟩, ⟨HO.out⟩, ⟨HS.out⟩, ⟨HM.out⟩, ⟨HB.out⟩⟩))
 ·(
 cases b
 ·(
 have _z := trivial
 have hst : determinant_Restorable.outs a0 l1 l3 s (i + 1) = (xs ++ [(i : Int)], true) := by rw [NT.out]; show (if (rdOf false s (i : Int) || (if 0 < (i : Int) then (if false = true then determinant_Restorable.has l3 ⟨a0, (i : Int), rd_T26 l1 (wrap64 ((i : Int) - 1))⟩ else false) else false)) = true then (xs ++ [(i : Int)], true) else (xs, false)) = _; rw [HSI.out, if_pos hi]; rfl
 have HST := Aside0.mk hst
 have hib : decide (0 < (i : Int)) = true := decide_eq_true hi
 have hin : (0 < i) = True := eq_true (by omega)
 clear hst hi
 go_wp2_with (first | ((with_reducible refine gate_builtin (b := .append) (xs := #[.tmp 77, .tmp 79]) rfl ?_); at_builtin; refine Kd.R_append (Kd.int .i64) (w0 := w) w.heap.size rfl (.tmp 77) (.tmp 79) 45 3 (.int .i64 0) 8 rfl Try.underlying45 determinant_Restorable.info3 rfl (by decide) (by omega) u15 xs (i : Int) [.int .i64 (i : Int)] (fun _ => True) (fun _ => False) rfl rfl ?aP (fun _ hk => hk.elim) ?aF ?aO ?aB ?aS ?aL ?_; (case aP => exact rfl); (case aB => exact (bq HB.out)); (case aF => exact (fun _ _ => trivial)); (case aO => exact HO.out); (case aS => exact (below_size (bq HB.out))); (case aL => have := NO.out; have := BND.out; omega); intro v2 w14 ho hb hg hat; have n0_ := Aside0.mk (Kd.R_over' HS.out (Kd.R_typed HO.out) (by decide) hg); have n1_ := Aside0.mk (MapSet.kept HM.out hg (MapSet.ne_own HM.out (Kd.R_typed HO.out))); have n2_ := Aside0.mk hb; have n3_ := Aside0.mk ho; clear HS HM HB HO; have HS := n0_; have HM := n1_; have HB := n2_; have HO := n3_; clear n0_ n1_ n2_ n3_ ho hb hg hat))
 go_roundg kq
 case measure => omega
 case rel => exact ⟨i + 1, xs ++ [(i : Int)], true, (by rw [show (wrap64 ((i : Int) + 1)) = ((i + 1 : Nat) : Int) by rw [Go.IntWalk.wrap64_in _ (by have := BND.out; omega)]; omega]), rfl, ⟨HST.out⟩, ⟨by have := HK.out; have := NI.out; have := NL.out; omega⟩, ⟨HO.out⟩, ⟨HS.out⟩, ⟨HM.out⟩, ⟨HB.out⟩⟩)
 ·(
 have _z := trivial
 obtain ⟨p7, q7⟩ : 0 ≤ wrap64 ((i : Int) - 1) ∧ wrap64 ((i : Int) - 1) < (l1.length : Int) := by rw [Go.IntWalk.wrap64_in _ (by have := BND.out; omega)]; have := NI.out; have := NL.out; omega
 have HKEY := Aside0.mk (determinant_Restorable.key39 ⟨a0, (i : Int), rd_T26 l1 (wrap64 ((i : Int) - 1))⟩ (determinant_Restorable.ok_mk FT.out.2.2.2.2.1 (by simp only [determinant_Restorable.okI, decide_eq_true_eq]; have := BND.out; omega) (FT.out.2.2.2.2.2 _ (determinant_Restorable.mem_rd p7 q7))))
 obtain ⟨ad7, e7, hy0, hy1, hy2, hy3, hy4, hy5, hy6⟩ := at_T26 HR1.out (wrap64 ((i : Int) - 1)) p7 q7
 cases e7
 replace hy0 := (HB.out.cell (World.block_lt_of_cell? w _ hy0)).trans hy0
 replace hy1 := (HB.out.cell (World.block_lt_of_cell? w _ hy1)).trans hy1
 replace hy2 := (HB.out.cell (World.block_lt_of_cell? w _ hy2)).trans hy2
 replace hy3 := (HB.out.cell (World.block_lt_of_cell? w _ hy3)).trans hy3
 replace hy4 := (HB.out.cell (World.block_lt_of_cell? w _ hy4)).trans hy4
 replace hy5 := (HB.out.cell (World.block_lt_of_cell? w _ hy5)).trans hy5
 replace hy6 := (HB.out.cell (World.block_lt_of_cell? w _ hy6)).trans hy6
 replace p7 := eq_true p7
 replace q7 := eq_true q7
 cases hdq : determinant_Restorable.has l3 ⟨a0, (i : Int), rd_T26 l1 (wrap64 ((i : Int) - 1))⟩
 ·(
 have HDQ := Aside0.mk hdq
 have HD := Aside0.mk (show (false = true ↔ determinant_Restorable.val39 ⟨a0, (i : Int), rd_T26 l1 (wrap64 ((i : Int) - 1))⟩ ∈ determinant_Restorable.keys l3 l3.length) by rw [← determinant_Restorable.has_iff, hdq])
 clear hdq
 have hst : determinant_Restorable.outs a0 l1 l3 s (i + 1) = (xs ++ [(i : Int)], true) := by rw [NT.out]; show (if (rdOf false s (i : Int) || (if 0 < (i : Int) then (if true = true then determinant_Restorable.has l3 ⟨a0, (i : Int), rd_T26 l1 (wrap64 ((i : Int) - 1))⟩ else true) else true)) = true then (xs ++ [(i : Int)], true) else (xs, false)) = _; rw [HSI.out, if_pos hi, if_pos rfl, HDQ.out]; rfl
 have HST := Aside0.mk hst
 have hib : decide (0 < (i : Int)) = true := decide_eq_true hi
 have hin : (0 < i) = True := eq_true (by omega)
 clear hst hi
 go_wp2_with (first | (at_lookup; refine wpList_lookup_set _ rfl _ _ 51 rfl 28 4 determinant_Restorable.keyed39 Try.underlying51 Try.underlying4 (determinant_Restorable.zero4 _) gm (determinant_Restorable.keys l3 l3.length) ?lm HM.out (determinant_Restorable.val39 ⟨a0, (i : Int), rd_T26 l1 (wrap64 ((i : Int) - 1))⟩) ?lx HKEY.out false HD.out ?_; (case lm => first | rfl | (go_simp; done) | (go_simp; rfl)); (case lx => first | (go_simp; done) | (go_simp; rfl))) | ((with_reducible refine gate_builtin (b := .append) (xs := #[.tmp 77, .tmp 79]) rfl ?_); at_builtin; refine Kd.R_append (Kd.int .i64) (w0 := w) w.heap.size rfl (.tmp 77) (.tmp 79) 45 3 (.int .i64 0) 8 rfl Try.underlying45 determinant_Restorable.info3 rfl (by decide) (by omega) u15 xs (i : Int) [.int .i64 (i : Int)] (fun _ => True) (fun _ => False) rfl rfl ?aP (fun _ hk => hk.elim) ?aF ?aO ?aB ?aS ?aL ?_; (case aP => exact rfl); (case aB => exact (bq HB.out)); (case aF => exact (fun _ _ => trivial)); (case aO => exact HO.out); (case aS => exact (below_size (bq HB.out))); (case aL => have := NO.out; have := BND.out; omega); intro v2 w14 ho hb hg hat; have n0_ := Aside0.mk (Kd.R_over' HS.out (Kd.R_typed HO.out) (by decide) hg); have n1_ := Aside0.mk (MapSet.kept HM.out hg (MapSet.ne_own HM.out (Kd.R_typed HO.out))); have n2_ := Aside0.mk hb; have n3_ := Aside0.mk ho; clear HS HM HB HO; have HS := n0_; have HM := n1_; have HB := n2_; have HO := n3_; clear n0_ n1_ n2_ n3_ ho hb hg hat))
 go_roundg kq
 case measure => omega
 case rel => exact ⟨i + 1, xs ++ [(i : Int)], true, (by rw [show (wrap64 ((i : Int) + 1)) = ((i + 1 : Nat) : Int) by rw [Go.IntWalk.wrap64_in _ (by have := BND.out; omega)]; omega]), rfl, ⟨HST.out⟩, ⟨by have := HK.out; have := NI.out; have := NL.out; omega⟩, ⟨HO.out⟩, ⟨HS.out⟩, ⟨HM.out⟩, ⟨HB.out⟩⟩)
 ·(
 have HDQ := Aside0.mk hdq
 have HD := Aside0.mk (show (true = true ↔ determinant_Restorable.val39 ⟨a0, (i : Int), rd_T26 l1 (wrap64 ((i : Int) - 1))⟩ ∈ determinant_Restorable.keys l3 l3.length) by rw [← determinant_Restorable.has_iff, hdq])
 clear hdq
 have hst : determinant_Restorable.outs a0 l1 l3 s (i + 1) = (xs ++ [(i : Int)], true) := by rw [NT.out]; show (if (rdOf false s (i : Int) || (if 0 < (i : Int) then (if true = true then determinant_Restorable.has l3 ⟨a0, (i : Int), rd_T26 l1 (wrap64 ((i : Int) - 1))⟩ else true) else true)) = true then (xs ++ [(i : Int)], true) else (xs, false)) = _; rw [HSI.out, if_pos hi, if_pos rfl, HDQ.out]; rfl
 have HST := Aside0.mk hst
 have hib : decide (0 < (i : Int)) = true := decide_eq_true hi
 have hin : (0 < i) = True := eq_true (by omega)
 clear hst hi
 go_wp2_with (first | (at_lookup; refine wpList_lookup_set _ rfl _ _ 51 rfl 28 4 determinant_Restorable.keyed39 Try.underlying51 Try.underlying4 (determinant_Restorable.zero4 _) gm (determinant_Restorable.keys l3 l3.length) ?lm HM.out (determinant_Restorable.val39 ⟨a0, (i : Int), rd_T26 l1 (wrap64 ((i : Int) - 1))⟩) ?lx HKEY.out true HD.out ?_; (case lm => first | rfl | (go_simp; done) | (go_simp; rfl)); (case lx => first | (go_simp; done) | (go_simp; rfl))) | ((with_reducible refine gate_builtin (b := .append) (xs := #[.tmp 77, .tmp 79]) rfl ?_); at_builtin; refine Kd.R_append (Kd.int .i64) (w0 := w) w.heap.size rfl (.tmp 77) (.tmp 79) 45 3 (.int .i64 0) 8 rfl Try.underlying45 determinant_Restorable.info3 rfl (by decide) (by omega) u15 xs (i : Int) [.int .i64 (i : Int)] (fun _ => True) (fun _ => False) rfl rfl ?aP (fun _ hk => hk.elim) ?aF ?aO ?aB ?aS ?aL ?_; (case aP => exact rfl); (case aB => exact (bq HB.out)); (case aF => exact (fun _ _ => trivial)); (case aO => exact HO.out); (case aS => exact (below_size (bq HB.out))); (case aL => have := NO.out; have := BND.out; omega); intro v2 w14 ho hb hg hat; have n0_ := Aside0.mk (Kd.R_over' HS.out (Kd.R_typed HO.out) (by decide) hg); have n1_ := Aside0.mk (MapSet.kept HM.out hg (MapSet.ne_own HM.out (Kd.R_typed HO.out))); have n2_ := Aside0.mk hb; have n3_ := Aside0.mk ho; clear HS HM HB HO; have HS := n0_; have HM := n1_; have HB := n2_; have HO := n3_; clear n0_ n1_ n2_ n3_ ho hb hg hat))
 go_roundg kq
 case measure => omega
 case rel => exact ⟨i + 1, xs ++ [(i : Int)], true, (by rw [show (wrap64 ((i : Int) + 1)) = ((i + 1 : Nat) : Int) by rw [Go.IntWalk.wrap64_in _ (by have := BND.out; omega)]; omega]), rfl, ⟨HST.out⟩, ⟨by have := HK.out; have := NI.out; have := NL.out; omega⟩, ⟨HO.out⟩, ⟨HS.out⟩, ⟨HM.out⟩, ⟨HB.out⟩⟩)))
 ·(
 cases b
 ·(
 have _z := trivial
 have hst : determinant_Restorable.outs a0 l1 l3 s (i + 1) = (xs ++ [(i : Int)], true) := by rw [NT.out]; show (if (rdOf false s (i : Int) || (if 0 < (i : Int) then (if false = true then determinant_Restorable.has l3 ⟨a0, (i : Int), rd_T26 l1 (wrap64 ((i : Int) - 1))⟩ else false) else false)) = true then (xs ++ [(i : Int)], true) else (xs, false)) = _; rw [HSI.out, if_neg hi]; rfl
 have HST := Aside0.mk hst
 have hib : decide (0 < (i : Int)) = false := decide_eq_false hi
 have hin : (0 < i) = False := eq_false (by omega)
 clear hst hi
 go_wp2_with (first | ((with_reducible refine gate_builtin (b := .append) (xs := #[.tmp 77, .tmp 79]) rfl ?_); at_builtin; refine Kd.R_append (Kd.int .i64) (w0 := w) w.heap.size rfl (.tmp 77) (.tmp 79) 45 3 (.int .i64 0) 8 rfl Try.underlying45 determinant_Restorable.info3 rfl (by decide) (by omega) u15 xs (i : Int) [.int .i64 (i : Int)] (fun _ => True) (fun _ => False) rfl rfl ?aP (fun _ hk => hk.elim) ?aF ?aO ?aB ?aS ?aL ?_; (case aP => exact rfl); (case aB => exact (bq HB.out)); (case aF => exact (fun _ _ => trivial)); (case aO => exact HO.out); (case aS => exact (below_size (bq HB.out))); (case aL => have := NO.out; have := BND.out; omega); intro v2 w14 ho hb hg hat; have n0_ := Aside0.mk (Kd.R_over' HS.out (Kd.R_typed HO.out) (by decide) hg); have n1_ := Aside0.mk (MapSet.kept HM.out hg (MapSet.ne_own HM.out (Kd.R_typed HO.out))); have n2_ := Aside0.mk hb; have n3_ := Aside0.mk ho; clear HS HM HB HO; have HS := n0_; have HM := n1_; have HB := n2_; have HO := n3_; clear n0_ n1_ n2_ n3_ ho hb hg hat))
 go_roundg kq
 case measure => omega
 case rel => exact ⟨i + 1, xs ++ [(i : Int)], true, (by rw [show (wrap64 ((i : Int) + 1)) = ((i + 1 : Nat) : Int) by rw [Go.IntWalk.wrap64_in _ (by have := BND.out; omega)]; omega]), rfl, ⟨HST.out⟩, ⟨by have := HK.out; have := NI.out; have := NL.out; omega⟩, ⟨HO.out⟩, ⟨HS.out⟩, ⟨HM.out⟩, ⟨HB.out⟩⟩)
 ·(
 have _z := trivial
 have hst : determinant_Restorable.outs a0 l1 l3 s (i + 1) = (xs ++ [(i : Int)], true) := by rw [NT.out]; show (if (rdOf false s (i : Int) || (if 0 < (i : Int) then (if true = true then determinant_Restorable.has l3 ⟨a0, (i : Int), rd_T26 l1 (wrap64 ((i : Int) - 1))⟩ else true) else true)) = true then (xs ++ [(i : Int)], true) else (xs, false)) = _; rw [HSI.out, if_neg hi]; rfl
 have HST := Aside0.mk hst
 have hib : decide (0 < (i : Int)) = false := decide_eq_false hi
 have hin : (0 < i) = False := eq_false (by omega)
 clear hst hi
 go_wp2_with (first | ((with_reducible refine gate_builtin (b := .append) (xs := #[.tmp 77, .tmp 79]) rfl ?_); at_builtin; refine Kd.R_append (Kd.int .i64) (w0 := w) w.heap.size rfl (.tmp 77) (.tmp 79) 45 3 (.int .i64 0) 8 rfl Try.underlying45 determinant_Restorable.info3 rfl (by decide) (by omega) u15 xs (i : Int) [.int .i64 (i : Int)] (fun _ => True) (fun _ => False) rfl rfl ?aP (fun _ hk => hk.elim) ?aF ?aO ?aB ?aS ?aL ?_; (case aP => exact rfl); (case aB => exact (bq HB.out)); (case aF => exact (fun _ _ => trivial)); (case aO => exact HO.out); (case aS => exact (below_size (bq HB.out))); (case aL => have := NO.out; have := BND.out; omega); intro v2 w14 ho hb hg hat; have n0_ := Aside0.mk (Kd.R_over' HS.out (Kd.R_typed HO.out) (by decide) hg); have n1_ := Aside0.mk (MapSet.kept HM.out hg (MapSet.ne_own HM.out (Kd.R_typed HO.out))); have n2_ := Aside0.mk hb; have n3_ := Aside0.mk ho; clear HS HM HB HO; have HS := n0_; have HM := n1_; have HB := n2_; have HO := n3_; clear n0_ n1_ n2_ n3_ ho hb hg hat))
 go_roundg kq
 case measure => omega
 case rel => exact ⟨i + 1, xs ++ [(i : Int)], true, (by rw [show (wrap64 ((i : Int) + 1)) = ((i + 1 : Nat) : Int) by rw [Go.IntWalk.wrap64_in _ (by have := BND.out; omega)]; omega]), rfl, ⟨HST.out⟩, ⟨by have := HK.out; have := NI.out; have := NL.out; omega⟩, ⟨HO.out⟩, ⟨HS.out⟩, ⟨HM.out⟩, ⟨HB.out⟩⟩)))
 ·(
 have c1b : decide ((i : Int) < (s.length : Int)) = false := decide_eq_false c1
 have c1n : (i < s.length) = False := eq_false (by omega)
 have hi : i = l1.length + 1 := by have := HK.out.2; have := NL.out; omega
 have hr := Hr.out
 rw [← NS.out, ← hi, HX.out] at hr
 have HR := Aside0.mk (show xs = r from hr)
 clear c1 hi hr
 go_wp2
 go_ret
 exact ⟨_, rfl, by rw [← HR.out]; exact HO.out, HB.out⟩)))))))))
end Go.Proofs.Ytdobkcphmpbhlaa.PGL
