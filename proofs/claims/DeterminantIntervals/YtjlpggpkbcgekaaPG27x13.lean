-- Written by a program of this session (hprint.py) out of the translation and of hand-proved parts. Lean checks it.
import Derived.Test.YtjlpggpkbcgekaaPG27x0
namespace Go.Proofs.Ytjlpggpkbcgekaa.PG27
open Go.RowKit Go.Proofs.YtjlpggpkbcgekaaW.PrintWords Go.Proofs.YtjlpggpkbcgekaaW.PrintLast Go.Proofs.YtjlpggpkbcgekaaW.PrintMore
attribute [local go_sem] max2_int min2_int max_two min_two max_three min_three max_four min_four   -- for this text's walks alone
set_option linter.unusedVariables false
set_option linter.unusedSimpArgs false

/-! ### rollbacknetref27_Lineage: function 16 -/
def rollbacknetref27_Lineage.l0 : Nat → Int → List (S37) → List (S39) → Int → Option ((List (S39)))
 | 0, _, _, _, _ => none
 | k + 1, x0, x1, x5, x6 => if x6 < (x1.length : Int) then (if 0 ≤ x6 then (if x5.length < 1954687338268 then (rollbacknetref27_Lineage.l0 k x0 x1 (x5 ++ [(⟨x0, wrap64 (x6 + 1), (⟨(rd_T37 x1 x6).f0, (rd_T37 x1 x6).f1, (rd_T37 x1 x6).f2, (⟨(rd_T37 x1 x6).f3.f0, (rd_T37 x1 x6).f3.f1⟩ : S35), (rd_T37 x1 x6).f4, (rd_T37 x1 x6).f5⟩ : S37)⟩ : S39)]) (wrap64 (x6 + 1))) else (none)) else (none)) else (some x5)
def rollbacknetref27_Lineage.f (k : Nat) (a0 : Int) (l1 : List (S37)) : Option ((List (S39))) := rollbacknetref27_Lineage.l0 k a0 l1 ([] : List (S39)) 0
theorem rollbacknetref27_Lineage.mono_l : ∀ k, (∀ y0 y1 y2 y3, LeO (rollbacknetref27_Lineage.l0 k y0 y1 y2 y3) (rollbacknetref27_Lineage.l0 (k + 1) y0 y1 y2 y3))
 | 0 => fun _ _ _ _ r h => by simp [rollbacknetref27_Lineage.l0] at h
 | k + 1 => by
  have ih0 := rollbacknetref27_Lineage.mono_l k
  ·intro y0 y1 y2 y3
   unfold rollbacknetref27_Lineage.l0
   repeat' first
   | (with_reducible exact ih0 _ _ _ _)
   | (with_reducible exact LeO.refl _)
   | (with_reducible exact LeO.none _)
   | (with_reducible refine LeO.ite ?_ ?_)
   | (with_reducible refine LeO.bind ?_ (fun _ => ?_))
   | exact ih0 _ _ _ _
   | exact LeO.none _
   | refine LeO.ite ?_ ?_
   | refine LeO.bind ?_ (fun _ => ?_)
theorem rollbacknetref27_Lineage.mono : ∀ a0 a1 k, LeO (rollbacknetref27_Lineage.f k a0 a1) (rollbacknetref27_Lineage.f (k + 1) a0 a1) := by
 intro a0 a1 k
 have ih0 := rollbacknetref27_Lineage.mono_l k
 unfold rollbacknetref27_Lineage.f
 repeat' first
   | (with_reducible exact ih0 _ _ _ _)
   | (with_reducible exact LeO.refl _)
   | (with_reducible exact LeO.none _)
   | (with_reducible refine LeO.ite ?_ ?_)
   | (with_reducible refine LeO.bind ?_ (fun _ => ?_))
   | exact ih0 _ _ _ _
   | exact LeO.none _
   | refine LeO.ite ?_ ?_
   | refine LeO.bind ?_ (fun _ => ?_)
set_option maxHeartbeats 8000000 in
set_option maxRecDepth 100000 in
theorem rollbacknetref27_Lineage.calls (k : Nat) (a0 : Int) (A1 : Option Addr) (c1 : Nat) (l1 : List (S37)) (r : List (S39)) (w : World) (hr1 : Kd.C k37 w A1 l1.length l1) (hc1 : l1.length ≤ c1) (h : rollbacknetref27_Lineage.f k a0 l1 = some r) :
  Calls Try.prog 16 #[.int .i64 a0, .slice A1 l1.length c1] w fun e w' => ∃ v0_ : Value, e = .returned (v0_) ∧ Kd.R k39 39 w' w.heap.size (fun _ => True) v0_ r ∧ Below w.heap.size w w' := by
 have hu37 := Try.underlying37
 have hu39 := Try.underlying39
 have HR1 := Aside0.mk hr1
 have HC1 := Aside0.mk hc1
 clear hr1 hc1
 have HB := Aside0.mk (Below.refl w.heap.size w)
 have H : (rollbacknetref27_Lineage.l0 k a0 l1 ([] : List (S39)) 0) = some r := h
 clear h
 have H' := Aside0.mk H
 clear H
 go_enter Try.func16, Try.ntmps16
 go_wp2
 go_loopg [5, 6] k (fun kq v5 v6 w' => ∃ (x5_1 : List (S39)) (x6_1 : Int), v6 = .int .i64 x6_1 ∧ Aside0 (rollbacknetref27_Lineage.l0 kq a0 l1 x5_1 x6_1 = some r) ∧ Aside0 (kq ≤ k) ∧ Aside0 (Kd.R k39 39 w' w.heap.size (fun _ => True) v5 x5_1) ∧ Aside0 (Below w.heap.size w w'))
 case atStart => exact ⟨(([] : List (S39))), (0), (by first | rfl | (simp; done) | (simp [*]; done)), H', ⟨Nat.le_refl _⟩, ⟨by first | exact Kd.R_nil _ _ _ _ _ | exact Kd.N_nil _ _ _ _ _ | exact Kd.V_nil _ _ _ _ _ | exact Kd.Q_nil _ _ _ _ _ | exact Kd.S_nil _ _ _ _ _⟩, ⟨bq HB.out⟩⟩
 case round =>
  clear H'
  try clear c1
  try clear p2
  obtain ⟨x5_1, x6_1, rfl, HA, HK1, HO_5, HB⟩ := hrel
  cases gk with
  | zero => exact absurd HA.out (by simp [rollbacknetref27_Lineage.l0])
  | succ k1 =>
   have H := HA.out
   clear HA
   simp only [rollbacknetref27_Lineage.l0] at H
   by_cases c3 : x6_1 < (l1.length : Int)
   ·rw [if_pos c3] at H
    have c3b0 : decide (x6_1 < (l1.length : Int)) = true := decide_eq_true c3
    clear c3
    by_cases c4 : 0 ≤ x6_1
    ·rw [if_pos c4] at H
     have c4b0 : decide (0 ≤ x6_1) = true := decide_eq_true c4
     clear c4
     by_cases c5 : x5_1.length < 1954687338268
     ·rw [if_pos c5] at H
      have LMc5 := Aside0.mk c5
      clear c5
      obtain ⟨y240, hy240⟩ : ∃ y_ : List (S39), y_ = (x5_1 ++ [(⟨a0, wrap64 (x6_1 + 1), (⟨(rd_T37 l1 x6_1).f0, (rd_T37 l1 x6_1).f1, (rd_T37 l1 x6_1).f2, (⟨(rd_T37 l1 x6_1).f3.f0, (rd_T37 l1 x6_1).f3.f1⟩ : S35), (rd_T37 l1 x6_1).f4, (rd_T37 l1 x6_1).f5⟩ : S37)⟩ : S39)]) := ⟨_, rfl⟩
      replace H : (rollbacknetref27_Lineage.l0 k1 a0 l1 y240 (wrap64 (x6_1 + 1))) = some r := by first | (rw [hy240]; with_reducible exact H) | (have H2_ := (Option.bind_some _ _).symm.trans H; rw [hy240]; with_reducible exact H2_) | (have H2_ := (Option.bind_some _ _).symm.trans H; with_reducible exact H2_) | with_reducible exact H | (rw [hy240]; exact H) | exact H
      have Ny240 := Aside0.mk hy240
      clear hy240
      have H' := Aside0.mk H
      clear H
      have p239 : 0 ≤ (x6_1 : Int) := of_decide_eq_true (by first | (with_reducible assumption) | assumption)
      have q239 : x6_1 < (l1.length : Int) := of_decide_eq_true (by first | (with_reducible assumption) | assumption)
      obtain ⟨ad239, e239, hx239_0, hx239_1, hx239_2, hx239_3, hx239_4, hx239_5, hx239_6⟩ := at_T37 HR1.out x6_1 p239 q239
      cases e239
      replace hx239_0 := (HB.out.cell (World.block_lt_of_cell? w _ hx239_0)).trans hx239_0
      replace hx239_1 := (HB.out.cell (World.block_lt_of_cell? w _ hx239_1)).trans hx239_1
      replace hx239_2 := (HB.out.cell (World.block_lt_of_cell? w _ hx239_2)).trans hx239_2
      replace hx239_3 := (HB.out.cell (World.block_lt_of_cell? w _ hx239_3)).trans hx239_3
      replace hx239_4 := (HB.out.cell (World.block_lt_of_cell? w _ hx239_4)).trans hx239_4
      replace hx239_5 := (HB.out.cell (World.block_lt_of_cell? w _ hx239_5)).trans hx239_5
      replace hx239_6 := (HB.out.cell (World.block_lt_of_cell? w _ hx239_6)).trans hx239_6
      replace p239 := eq_true p239
      replace q239 := eq_true q239
      go_wp2_with (first | ((with_reducible refine gate_builtin (b := .append) (xs := #[.tmp 13, .tmp 22]) rfl ?_); at_builtin; refine Kd.R_append k39 (w0 := w) w.heap.size rfl (.tmp 13) (.tmp 22) 24 39 (.agg #[(.int .i64 0), (.int .i64 0), (.int .i64 0), (.int .i64 0), (.int .i64 0), (.int .i64 0), (.int .i64 0), (.int .i64 0), (.int .i64 0)]) 72 rfl Try.underlying24 info39 rfl (by decide) (by omega) u5 x5_1 (⟨a0, wrap64 (x6_1 + 1), (⟨(rd_T37 l1 x6_1).f0, (rd_T37 l1 x6_1).f1, (rd_T37 l1 x6_1).f2, (⟨(rd_T37 l1 x6_1).f3.f0, (rd_T37 l1 x6_1).f3.f1⟩ : S35), (rd_T37 l1 x6_1).f4, (rd_T37 l1 x6_1).f5⟩ : S37)⟩ : S39) [.int .i64 a0, .int .i64 (wrap64 (x6_1 + 1)), .int .i64 ((rd_T37 l1 x6_1).f0), .int .i64 ((rd_T37 l1 x6_1).f1), .int .i64 ((rd_T37 l1 x6_1).f2), .int .i64 ((rd_T37 l1 x6_1).f3.f0), .int .i64 ((rd_T37 l1 x6_1).f3.f1), .int .i64 ((rd_T37 l1 x6_1).f4), .int .i64 ((rd_T37 l1 x6_1).f5)] (fun _ => True) (fun _ => False) rfl rfl ?aP (fun _ hk => hk.elim) ?aF ?aO ?aB ?aS ?aL ?_; (case aP => exact k39_mkM _ _ _ (⟨a0, wrap64 (x6_1 + 1), (⟨(rd_T37 l1 x6_1).f0, (rd_T37 l1 x6_1).f1, (rd_T37 l1 x6_1).f2, (⟨(rd_T37 l1 x6_1).f3.f0, (rd_T37 l1 x6_1).f3.f1⟩ : S35), (rd_T37 l1 x6_1).f4, (rd_T37 l1 x6_1).f5⟩ : S37)⟩ : S39)); (case aB => exact (bq HB.out)); (case aF => exact (fun _ _ => trivial)); (case aO => exact (rq HO_5.out)); (case aS => exact (below_size (bq HB.out))); (case aL => have := LMc5.out; omega); intro v241 w6 ho hb hg hat; rw [← Ny240.out] at ho; have n0_ := Aside0.mk (hb); have n1_ := Aside0.mk (ho); clear HB; clear HO_5; have HB := n0_; have HO242 := n1_; clear n0_ n1_; clear ho hb hg hat))
      go_roundg k1
      case measure => have := HK1.out; omega
      case rel => exact ⟨(y240), (wrap64 (x6_1 + 1)), (by first | rfl | (simp; done) | (simp [*]; done)), H', ⟨by have := HK1.out; omega⟩, ⟨rq HO242.out⟩, ⟨bq HB.out⟩⟩
     ·rw [if_neg c5] at H
      exact absurd H (by simp)
    ·rw [if_neg c4] at H
     exact absurd H (by simp)
   ·rw [if_neg c3] at H
    have c3b0 : decide (x6_1 < (l1.length : Int)) = false := decide_eq_false c3
    clear c3
    obtain rfl := Option.some.inj H
    go_wp2
    go_ret
    exact ⟨_, by first | rfl | (simp [errW_none, errW_some] <;> rfl) | (simp [*, errW_none, errW_some] <;> rfl), rq HO_5.out, bq HB.out⟩

end Go.Proofs.Ytjlpggpkbcgekaa.PG27
