-- Written by a program of this session (hprint.py) out of the translation and of hand-proved parts. Lean checks it.
import Derived.Test.YtjlpggpkbcgekaaPG27x0
import Derived.Test.YtjlpggpkbcgekaaPG27x20
namespace Go.Proofs.Ytjlpggpkbcgekaa.PG27
open Go.RowKit Go.Proofs.YtjlpggpkbcgekaaW.PrintWords Go.Proofs.YtjlpggpkbcgekaaW.PrintLast Go.Proofs.YtjlpggpkbcgekaaW.PrintMore
attribute [local go_sem] max2_int min2_int max_two min_two max_three min_three max_four min_four   -- for this text's walks alone
set_option linter.unusedVariables false
set_option linter.unusedSimpArgs false

/-! ### determinant_Merge: function 25 -/
mutual
def determinant_Merge.l0 : Nat → List (S39) → List (S39) → List (S39) → Int → Int → Option ((List (S39)))
 | 0, _, _, _, _, _ => none
 | k + 1, x1, x5, x16, x17, x18 => if x18 < x17 then (if 0 ≤ x18 then (if x18 < (x16.length : Int) then ((determinant_insert.f k x5 ((rd_T39 x16 x18).f0) ((rd_T39 x16 x18).f1) ((rd_T39 x16 x18).f2.f0) ((rd_T39 x16 x18).f2.f1) ((rd_T39 x16 x18).f2.f2) ((rd_T39 x16 x18).f2.f3.f0) ((rd_T39 x16 x18).f2.f3.f1) ((rd_T39 x16 x18).f2.f4) ((rd_T39 x16 x18).f2.f5)).bind fun t394 => (determinant_Merge.l0 k x1 t394 x16 x17 (wrap64 (x18 + 1)))) else (none)) else (none)) else (determinant_Merge.l1 k x5 x1 (x1.length : Int) 0)
def determinant_Merge.l1 : Nat → List (S39) → List (S39) → Int → Int → Option ((List (S39)))
 | 0, _, _, _, _ => none
 | k + 1, x5, x26, x27, x28 => if x28 < x27 then (if 0 ≤ x28 then (if x28 < (x26.length : Int) then ((determinant_insert.f k x5 ((rd_T39 x26 x28).f0) ((rd_T39 x26 x28).f1) ((rd_T39 x26 x28).f2.f0) ((rd_T39 x26 x28).f2.f1) ((rd_T39 x26 x28).f2.f2) ((rd_T39 x26 x28).f2.f3.f0) ((rd_T39 x26 x28).f2.f3.f1) ((rd_T39 x26 x28).f2.f4) ((rd_T39 x26 x28).f2.f5)).bind fun t399 => (determinant_Merge.l1 k t399 x26 x27 (wrap64 (x28 + 1)))) else (none)) else (none)) else (some x5)
end
def determinant_Merge.f (k : Nat) (l0 : List (S39)) (l1 : List (S39)) : Option ((List (S39))) := if 0 ≤ (wrap64 ((l0.length : Int) + (l1.length : Int))) then (if (wrap64 ((l0.length : Int) + (l1.length : Int)) : Int).toNat ≤ 3909374676536 then (determinant_Merge.l0 k l1 (([] : List (S39))) l0 (l0.length : Int) 0) else (none)) else (none)
theorem determinant_Merge.mono_l : ∀ k, (∀ y0 y1 y2 y3 y4, LeO (determinant_Merge.l0 k y0 y1 y2 y3 y4) (determinant_Merge.l0 (k + 1) y0 y1 y2 y3 y4)) ∧ (∀ y0 y1 y2 y3, LeO (determinant_Merge.l1 k y0 y1 y2 y3) (determinant_Merge.l1 (k + 1) y0 y1 y2 y3))
 | 0 => ⟨fun _ _ _ _ _ r h => by simp [determinant_Merge.l0] at h, fun _ _ _ _ r h => by simp [determinant_Merge.l1] at h⟩
 | k + 1 => by
  obtain ⟨ih0, ih1⟩ := determinant_Merge.mono_l k
  refine ⟨?_, ?_⟩
  ·intro y0 y1 y2 y3 y4
   unfold determinant_Merge.l0
   repeat' first
   | (with_reducible exact ih0 _ _ _ _ _)
   | (with_reducible exact ih1 _ _ _ _)
   | (with_reducible exact determinant_insert.mono _ _ _ _ _ _ _ _ _ _ _)
   | (with_reducible exact LeO.refl _)
   | (with_reducible exact LeO.none _)
   | (with_reducible refine LeO.ite ?_ ?_)
   | (with_reducible refine LeO.bind ?_ (fun _ => ?_))
   | exact ih0 _ _ _ _ _
   | exact ih1 _ _ _ _
   | exact determinant_insert.mono _ _ _ _ _ _ _ _ _ _ _
   | exact LeO.none _
   | refine LeO.ite ?_ ?_
   | refine LeO.bind ?_ (fun _ => ?_)
  ·intro y0 y1 y2 y3
   unfold determinant_Merge.l1
   repeat' first
   | (with_reducible exact ih0 _ _ _ _ _)
   | (with_reducible exact ih1 _ _ _ _)
   | (with_reducible exact determinant_insert.mono _ _ _ _ _ _ _ _ _ _ _)
   | (with_reducible exact LeO.refl _)
   | (with_reducible exact LeO.none _)
   | (with_reducible refine LeO.ite ?_ ?_)
   | (with_reducible refine LeO.bind ?_ (fun _ => ?_))
   | exact ih0 _ _ _ _ _
   | exact ih1 _ _ _ _
   | exact determinant_insert.mono _ _ _ _ _ _ _ _ _ _ _
   | exact LeO.none _
   | refine LeO.ite ?_ ?_
   | refine LeO.bind ?_ (fun _ => ?_)
theorem determinant_Merge.mono : ∀ a0 a1 k, LeO (determinant_Merge.f k a0 a1) (determinant_Merge.f (k + 1) a0 a1) := by
 intro a0 a1 k
 obtain ⟨ih0, ih1⟩ := determinant_Merge.mono_l k
 unfold determinant_Merge.f
 repeat' first
   | (with_reducible exact ih0 _ _ _ _ _)
   | (with_reducible exact ih1 _ _ _ _)
   | (with_reducible exact determinant_insert.mono _ _ _ _ _ _ _ _ _ _ _)
   | (with_reducible exact LeO.refl _)
   | (with_reducible exact LeO.none _)
   | (with_reducible refine LeO.ite ?_ ?_)
   | (with_reducible refine LeO.bind ?_ (fun _ => ?_))
   | exact ih0 _ _ _ _ _
   | exact ih1 _ _ _ _
   | exact determinant_insert.mono _ _ _ _ _ _ _ _ _ _ _
   | exact LeO.none _
   | refine LeO.ite ?_ ?_
   | refine LeO.bind ?_ (fun _ => ?_)
set_option maxHeartbeats 8000000 in
set_option maxRecDepth 100000 in
theorem determinant_Merge.calls (k : Nat) (A0 : Option Addr) (c0 : Nat) (l0 : List (S39)) (A1 : Option Addr) (c1 : Nat) (l1 : List (S39)) (r : List (S39)) (w : World) (hr0 : Kd.C k39 w A0 l0.length l0) (hc0 : l0.length ≤ c0) (hr1 : Kd.C k39 w A1 l1.length l1) (hc1 : l1.length ≤ c1) (h : determinant_Merge.f k l0 l1 = some r) :
  Calls Try.prog 25 #[.slice A0 l0.length c0, .slice A1 l1.length c1] w fun e w' => ∃ v0_ : Value, e = .returned (v0_) ∧ Kd.R k39 39 w' w.heap.size (fun _ => True) v0_ r ∧ Below w.heap.size w w' := by
 have hu39 := Try.underlying39
 have HR0 := Aside0.mk hr0
 have HC0 := Aside0.mk hc0
 clear hr0 hc0
 have HR1 := Aside0.mk hr1
 have HC1 := Aside0.mk hc1
 clear hr1 hc1
 have HB := Aside0.mk (Below.refl w.heap.size w)
 have H : (if 0 ≤ (wrap64 ((l0.length : Int) + (l1.length : Int))) then (if (wrap64 ((l0.length : Int) + (l1.length : Int)) : Int).toNat ≤ 3909374676536 then (determinant_Merge.l0 k l1 (([] : List (S39))) l0 (l0.length : Int) 0) else (none)) else (none)) = some r := h
 clear h
 obtain ⟨ji3, hji3⟩ : ∃ j_ : Int, (wrap64 ((l0.length : Int) + (l1.length : Int))) = j_ := ⟨_, rfl⟩
 replace H : (if 0 ≤ (ji3) then (if (ji3 : Int).toNat ≤ 3909374676536 then (determinant_Merge.l0 k l1 (([] : List (S39))) l0 (l0.length : Int) 0) else (none)) else (none)) = some r := by first | (rw [hji3] at H; exact H) | (simp only [hji3] at H ⊢; exact H)
 have hji3w : (IntKind.i64.wrap ((l0.length : Int) + (l1.length : Int))) = ji3 := (i64_w _).trans hji3
 by_cases c4 : 0 ≤ (ji3)
 ·rw [if_pos c4] at H
  have c4b0 := eq_true c4
  have c4b1 : decide (0 ≤ (ji3)) = true := decide_eq_true c4
  clear c4
  by_cases c5 : (ji3 : Int).toNat ≤ 3909374676536
  ·rw [if_pos c5] at H
   have c5b0 := eq_true c5
   have c5b1 : decide ((ji3 : Int).toNat ≤ 3909374676536) = true := decide_eq_true c5
   clear c5
   obtain ⟨y389, hy389⟩ : ∃ y_ : List (S39), y_ = (([] : List (S39))) := ⟨_, rfl⟩
   replace H : (determinant_Merge.l0 k l1 y389 l0 (l0.length : Int) 0) = some r := by first | (rw [hy389]; with_reducible exact H) | (have H2_ := (Option.bind_some _ _).symm.trans H; rw [hy389]; with_reducible exact H2_) | (have H2_ := (Option.bind_some _ _).symm.trans H; with_reducible exact H2_) | with_reducible exact H | (rw [hy389]; exact H) | exact H
   have Ny389 := Aside0.mk hy389
   clear hy389
   have H' := Aside0.mk H
   clear H
   go_enter Try.func25, Try.ntmps25
   go_wp2_with (first | ((with_reducible refine gate_dst (N := 15) rfl ?_); refine Kd.R_mk0 k39 _ 39 rfl (N := 15) rfl 24 _ _ rfl ji3 rfl rfl Try.underlying24 (.agg #[(.int .i64 0), (.int .i64 0), (.int .i64 0), (.int .i64 0), (.int .i64 0), (.int .i64 0), (.int .i64 0), (.int .i64 0), (.int .i64 0)]) 72 info39 rfl (by decide) (by omega) z39 (ok := fun _ => True) (okp := fun _ => True) (k39_mkM _ _ _ z39 ) (fun _ hk => hk) trivial (of_decide_eq_true (by first | (with_reducible assumption) | assumption)) (Nat.le_trans (Nat.mul_le_mul_right _ (of_decide_eq_true (by first | (with_reducible assumption) | assumption) : ji3.toNat ≤ 3909374676536)) (by omega)) (Below.refl _ _) (Nat.le_refl _) ?_; intro v390 w6 ho7 hb hg_ hnew_; clear hg_ hnew_; (first | rw [← Ny389.out] at ho7 | (simp only [Int.reduceToNat] at ho7; rw [← Ny389.out] at ho7)); have n0_ := Aside0.mk (Kd.R_lower ho7 (below_size (bq HB.out))); have n1_ := Aside0.mk (below_step (bq HB.out) hb); clear HB; have HO391 := n0_; have HB := n1_; clear n0_ n1_; clear hb ho7))
   go_loopg [5, 18] k (fun kq v5 v18 w' => ∃ (x5_1 : List (S39)) (x18_1 : Int), v18 = .int .i64 x18_1 ∧ Aside0 (determinant_Merge.l0 kq l1 x5_1 l0 (l0.length : Int) x18_1 = some r) ∧ Aside0 (kq ≤ k) ∧ Aside0 (Kd.R k39 39 w' w.heap.size (fun _ => True) v5 x5_1) ∧ Aside0 (Below w.heap.size w w'))
   case atStart => exact ⟨(y389), (0), (by first | rfl | (simp; done) | (simp [*]; done)), H', ⟨Nat.le_refl _⟩, ⟨rq HO391.out⟩, ⟨bq HB.out⟩⟩
   case round =>
    clear H'
    try clear c1
    try clear c2
    try clear p2
    try clear c4
    try clear c4b0
    try clear c4b1
    try clear c5
    try clear c5b0
    try clear c5b1
    try clear p6
    obtain ⟨x5_1, x18_1, rfl, HA, HK1, HO_5, HB⟩ := hrel
    cases gk with
    | zero => exact absurd HA.out (by simp [determinant_Merge.l0])
    | succ k1 =>
     have H := HA.out
     clear HA
     simp only [determinant_Merge.l0] at H
     by_cases c8 : x18_1 < (l0.length : Int)
     ·rw [if_pos c8] at H
      have c8b0 : decide (x18_1 < (l0.length : Int)) = true := decide_eq_true c8
      clear c8
      by_cases c9 : 0 ≤ x18_1
      ·rw [if_pos c9] at H
       have c9b0 : decide (0 ≤ x18_1) = true := decide_eq_true c9
       clear c9
       by_cases c10 : x18_1 < (l0.length : Int)
       ·rw [if_pos c10] at H
        have c10b0 : decide (x18_1 < (l0.length : Int)) = true := decide_eq_true c10
        clear c10
        replace H := Option.bind_eq_some_iff.mp H
        obtain ⟨t394, A110, H⟩ := H
        replace H : (determinant_Merge.l0 k1 l1 t394 l0 (l0.length : Int) (wrap64 (x18_1 + 1))) = some r := H
        have A11 := Aside0.mk A110
        clear A110
        have H' := Aside0.mk H
        clear H
        have p392 : 0 ≤ (x18_1 : Int) := of_decide_eq_true (by first | (with_reducible assumption) | assumption)
        have q392 : x18_1 < (l0.length : Int) := of_decide_eq_true (by first | (with_reducible assumption) | assumption)
        obtain ⟨ad392, e392, hx392_0, hx392_1, hx392_2, hx392_3, hx392_4, hx392_5, hx392_6, hx392_7, hx392_8⟩ := at_T39 HR0.out x18_1 p392 q392
        cases e392
        replace hx392_0 := (HB.out.cell (World.block_lt_of_cell? w _ hx392_0)).trans hx392_0
        replace hx392_1 := (HB.out.cell (World.block_lt_of_cell? w _ hx392_1)).trans hx392_1
        replace hx392_2 := (HB.out.cell (World.block_lt_of_cell? w _ hx392_2)).trans hx392_2
        replace hx392_3 := (HB.out.cell (World.block_lt_of_cell? w _ hx392_3)).trans hx392_3
        replace hx392_4 := (HB.out.cell (World.block_lt_of_cell? w _ hx392_4)).trans hx392_4
        replace hx392_5 := (HB.out.cell (World.block_lt_of_cell? w _ hx392_5)).trans hx392_5
        replace hx392_6 := (HB.out.cell (World.block_lt_of_cell? w _ hx392_6)).trans hx392_6
        replace hx392_7 := (HB.out.cell (World.block_lt_of_cell? w _ hx392_7)).trans hx392_7
        replace hx392_8 := (HB.out.cell (World.block_lt_of_cell? w _ hx392_8)).trans hx392_8
        replace p392 := eq_true p392
        replace q392 := eq_true q392
        go_wp2_with (first | ((with_reducible refine gate_dst (N := 7) rfl ?_); refine box_event ?hg (N := 7) ?hd (cs := #[.int .i64 0, .int .i64 0, .int .i64 0, .int .i64 0, .int .i64 0, .int .i64 0, .int .i64 0, .int .i64 0, .int .i64 0]) (t := 39) ?hr ?_; (case hd => rfl); (case hg => rfl); (case hr => first | (go_simp; done) | (go_simp; rfl)); intro gb393 hg w12 hbox hb; have n0_ := Aside0.mk (Kd.R_below (Kd.R_elderB (rq HO_5.out) gb393 (Nat.le_of_eq hg.symm)) hb); have n1_ := Aside0.mk (below_step (bq HB.out) hb); have n2_ := Aside0.mk (hbox); have n3_ := Aside0.mk ((by rw [hg]; exact (below_size (bq HB.out)) : w.heap.size ≤ gb393)); have n4_ := Aside0.mk ((by rw [hg]; exact (below_size (bq HB.out)) : w.heap.size ≤ gb393)); clear HO_5; clear HB; have HO_5 := n0_; have HB := n1_; have BK393 := n2_; have GW393 := n3_; have GE393 := n4_; clear n0_ n1_ n2_ n3_ n4_; clear hb hbox hg; have hcz13_0 : w12.cell? ⟨gb393, 0, none⟩ = some (.int .i64 0) := (blk_cell BK393.out 0).trans rfl; have hcz13_1 : w12.cell? ⟨gb393, 1, none⟩ = some (.int .i64 0) := (blk_cell BK393.out 1).trans rfl; have hcz13_2 : w12.cell? ⟨gb393, 2, none⟩ = some (.int .i64 0) := (blk_cell BK393.out 2).trans rfl; have hcz13_3 : w12.cell? ⟨gb393, 3, none⟩ = some (.int .i64 0) := (blk_cell BK393.out 3).trans rfl; have hcz13_4 : w12.cell? ⟨gb393, 4, none⟩ = some (.int .i64 0) := (blk_cell BK393.out 4).trans rfl; have hcz13_5 : w12.cell? ⟨gb393, 5, none⟩ = some (.int .i64 0) := (blk_cell BK393.out 5).trans rfl; have hcz13_6 : w12.cell? ⟨gb393, 6, none⟩ = some (.int .i64 0) := (blk_cell BK393.out 6).trans rfl; have hcz13_7 : w12.cell? ⟨gb393, 7, none⟩ = some (.int .i64 0) := (blk_cell BK393.out 7).trans rfl; have hcz13_8 : w12.cell? ⟨gb393, 8, none⟩ = some (.int .i64 0) := (blk_cell BK393.out 8).trans rfl; have hfz13_0 := blk_frozen BK393.out 0; have hfz13_1 := blk_frozen BK393.out 1; have hfz13_2 := blk_frozen BK393.out 2; have hfz13_3 := blk_frozen BK393.out 3; have hfz13_4 := blk_frozen BK393.out 4; have hfz13_5 := blk_frozen BK393.out 5; have hfz13_6 := blk_frozen BK393.out 6; have hfz13_7 := blk_frozen BK393.out 7; have hfz13_8 := blk_frozen BK393.out 8) | ((with_reducible refine gate_store (t := 39) (p := 7) rfl ?_); refine store_event (t := 39) (p := 7) (v := ?vo_w14) (w1 := (((((((((w12.setCell ⟨gb393, 0, none⟩ (.int .i64 ((rd_T39 l0 x18_1).f0))).setCell ⟨gb393, 1, none⟩ (.int .i64 ((rd_T39 l0 x18_1).f1))).setCell ⟨gb393, 2, none⟩ (.int .i64 ((rd_T39 l0 x18_1).f2.f0))).setCell ⟨gb393, 3, none⟩ (.int .i64 ((rd_T39 l0 x18_1).f2.f1))).setCell ⟨gb393, 4, none⟩ (.int .i64 ((rd_T39 l0 x18_1).f2.f2))).setCell ⟨gb393, 5, none⟩ (.int .i64 ((rd_T39 l0 x18_1).f2.f3.f0))).setCell ⟨gb393, 6, none⟩ (.int .i64 ((rd_T39 l0 x18_1).f2.f3.f1))).setCell ⟨gb393, 7, none⟩ (.int .i64 ((rd_T39 l0 x18_1).f2.f4))).setCell ⟨gb393, 8, none⟩ (.int .i64 ((rd_T39 l0 x18_1).f2.f5)))) ?hg ?ho ?hn ?hr ?_; (case ho => rfl); (case hg => rfl); (case hn => rfl); (case hr => first | (go_simp; done) | (go_simp; rfl)); intro w14 hw; have n0_ : Aside0 (Kd.R k39 39 w14 w.heap.size (fun k_ => k_ ≠ gb393) u5 x5_1) := ⟨(by rw [hw]; exact (by (with_reducible repeat (first | apply Kd.R_alloc | apply Kd.R_drewN | apply Kd.R_drew)); exact Kd.R_mono (Kd.R_far (p := ⟨gb393, 8, none⟩) (Kd.R_far (p := ⟨gb393, 7, none⟩) (Kd.R_far (p := ⟨gb393, 6, none⟩) (Kd.R_far (p := ⟨gb393, 5, none⟩) (Kd.R_far (p := ⟨gb393, 4, none⟩) (Kd.R_far (p := ⟨gb393, 3, none⟩) (Kd.R_far (p := ⟨gb393, 2, none⟩) (Kd.R_far (p := ⟨gb393, 1, none⟩) (Kd.R_far (p := ⟨gb393, 0, none⟩) (Kd.R_mono HO_5.out (fun k_ hk => (⟨hk, hk.2⟩ : _ ∧ k_ ≠ gb393))) (fun _ hk => hk.2) (.int .i64 ((rd_T39 l0 x18_1).f0))) (fun _ hk => hk.2) (.int .i64 ((rd_T39 l0 x18_1).f1))) (fun _ hk => hk.2) (.int .i64 ((rd_T39 l0 x18_1).f2.f0))) (fun _ hk => hk.2) (.int .i64 ((rd_T39 l0 x18_1).f2.f1))) (fun _ hk => hk.2) (.int .i64 ((rd_T39 l0 x18_1).f2.f2))) (fun _ hk => hk.2) (.int .i64 ((rd_T39 l0 x18_1).f2.f3.f0))) (fun _ hk => hk.2) (.int .i64 ((rd_T39 l0 x18_1).f2.f3.f1))) (fun _ hk => hk.2) (.int .i64 ((rd_T39 l0 x18_1).f2.f4))) (fun _ hk => hk.2) (.int .i64 ((rd_T39 l0 x18_1).f2.f5))) (fun _ hk => hk.1.2)))⟩; have n1_ : Aside0 (w14.heap[gb393]? = some (.cells #[.int .i64 ((rd_T39 l0 x18_1).f0), .int .i64 ((rd_T39 l0 x18_1).f1), .int .i64 ((rd_T39 l0 x18_1).f2.f0), .int .i64 ((rd_T39 l0 x18_1).f2.f1), .int .i64 ((rd_T39 l0 x18_1).f2.f2), .int .i64 ((rd_T39 l0 x18_1).f2.f3.f0), .int .i64 ((rd_T39 l0 x18_1).f2.f3.f1), .int .i64 ((rd_T39 l0 x18_1).f2.f4), .int .i64 ((rd_T39 l0 x18_1).f2.f5)] 39 (0, 0))) := ⟨(by rw [hw]; exact (by (with_reducible repeat (first | refine blk_drewN ?_ _ | refine blk_drew ?_ | refine blk_alloc ?_ _)); refine blk_put (cs := #[.int .i64 ((rd_T39 l0 x18_1).f0), .int .i64 ((rd_T39 l0 x18_1).f1), .int .i64 ((rd_T39 l0 x18_1).f2.f0), .int .i64 ((rd_T39 l0 x18_1).f2.f1), .int .i64 ((rd_T39 l0 x18_1).f2.f2), .int .i64 ((rd_T39 l0 x18_1).f2.f3.f0), .int .i64 ((rd_T39 l0 x18_1).f2.f3.f1), .int .i64 ((rd_T39 l0 x18_1).f2.f4), .int .i64 0]) ?_ 8 _ rfl; (with_reducible repeat (first | refine blk_drewN ?_ _ | refine blk_drew ?_ | refine blk_alloc ?_ _)); refine blk_put (cs := #[.int .i64 ((rd_T39 l0 x18_1).f0), .int .i64 ((rd_T39 l0 x18_1).f1), .int .i64 ((rd_T39 l0 x18_1).f2.f0), .int .i64 ((rd_T39 l0 x18_1).f2.f1), .int .i64 ((rd_T39 l0 x18_1).f2.f2), .int .i64 ((rd_T39 l0 x18_1).f2.f3.f0), .int .i64 ((rd_T39 l0 x18_1).f2.f3.f1), .int .i64 0, .int .i64 0]) ?_ 7 _ rfl; (with_reducible repeat (first | refine blk_drewN ?_ _ | refine blk_drew ?_ | refine blk_alloc ?_ _)); refine blk_put (cs := #[.int .i64 ((rd_T39 l0 x18_1).f0), .int .i64 ((rd_T39 l0 x18_1).f1), .int .i64 ((rd_T39 l0 x18_1).f2.f0), .int .i64 ((rd_T39 l0 x18_1).f2.f1), .int .i64 ((rd_T39 l0 x18_1).f2.f2), .int .i64 ((rd_T39 l0 x18_1).f2.f3.f0), .int .i64 0, .int .i64 0, .int .i64 0]) ?_ 6 _ rfl; (with_reducible repeat (first | refine blk_drewN ?_ _ | refine blk_drew ?_ | refine blk_alloc ?_ _)); refine blk_put (cs := #[.int .i64 ((rd_T39 l0 x18_1).f0), .int .i64 ((rd_T39 l0 x18_1).f1), .int .i64 ((rd_T39 l0 x18_1).f2.f0), .int .i64 ((rd_T39 l0 x18_1).f2.f1), .int .i64 ((rd_T39 l0 x18_1).f2.f2), .int .i64 0, .int .i64 0, .int .i64 0, .int .i64 0]) ?_ 5 _ rfl; (with_reducible repeat (first | refine blk_drewN ?_ _ | refine blk_drew ?_ | refine blk_alloc ?_ _)); refine blk_put (cs := #[.int .i64 ((rd_T39 l0 x18_1).f0), .int .i64 ((rd_T39 l0 x18_1).f1), .int .i64 ((rd_T39 l0 x18_1).f2.f0), .int .i64 ((rd_T39 l0 x18_1).f2.f1), .int .i64 0, .int .i64 0, .int .i64 0, .int .i64 0, .int .i64 0]) ?_ 4 _ rfl; (with_reducible repeat (first | refine blk_drewN ?_ _ | refine blk_drew ?_ | refine blk_alloc ?_ _)); refine blk_put (cs := #[.int .i64 ((rd_T39 l0 x18_1).f0), .int .i64 ((rd_T39 l0 x18_1).f1), .int .i64 ((rd_T39 l0 x18_1).f2.f0), .int .i64 0, .int .i64 0, .int .i64 0, .int .i64 0, .int .i64 0, .int .i64 0]) ?_ 3 _ rfl; (with_reducible repeat (first | refine blk_drewN ?_ _ | refine blk_drew ?_ | refine blk_alloc ?_ _)); refine blk_put (cs := #[.int .i64 ((rd_T39 l0 x18_1).f0), .int .i64 ((rd_T39 l0 x18_1).f1), .int .i64 0, .int .i64 0, .int .i64 0, .int .i64 0, .int .i64 0, .int .i64 0, .int .i64 0]) ?_ 2 _ rfl; (with_reducible repeat (first | refine blk_drewN ?_ _ | refine blk_drew ?_ | refine blk_alloc ?_ _)); refine blk_put (cs := #[.int .i64 ((rd_T39 l0 x18_1).f0), .int .i64 0, .int .i64 0, .int .i64 0, .int .i64 0, .int .i64 0, .int .i64 0, .int .i64 0, .int .i64 0]) ?_ 1 _ rfl; (with_reducible repeat (first | refine blk_drewN ?_ _ | refine blk_drew ?_ | refine blk_alloc ?_ _)); refine blk_put (cs := #[.int .i64 0, .int .i64 0, .int .i64 0, .int .i64 0, .int .i64 0, .int .i64 0, .int .i64 0, .int .i64 0, .int .i64 0]) ?_ 0 _ rfl; (with_reducible repeat (first | refine blk_drewN ?_ _ | refine blk_drew ?_ | refine blk_alloc ?_ _)); exact BK393.out))⟩; have n2_ : Aside0 (Below w.heap.size w w14) := ⟨(by rw [hw]; exact (bq1 HB.out GE393.out))⟩; clear hw; clear HO_5; clear BK393; clear HB; have HO_5 := n0_; have BK393 := n1_; have HB := n2_; clear n0_ n1_ n2_; have hcz15_0 : w14.cell? ⟨gb393, 0, none⟩ = some (.int .i64 ((rd_T39 l0 x18_1).f0)) := (blk_cell BK393.out 0).trans rfl; have hcz15_1 : w14.cell? ⟨gb393, 1, none⟩ = some (.int .i64 ((rd_T39 l0 x18_1).f1)) := (blk_cell BK393.out 1).trans rfl; have hcz15_2 : w14.cell? ⟨gb393, 2, none⟩ = some (.int .i64 ((rd_T39 l0 x18_1).f2.f0)) := (blk_cell BK393.out 2).trans rfl; have hcz15_3 : w14.cell? ⟨gb393, 3, none⟩ = some (.int .i64 ((rd_T39 l0 x18_1).f2.f1)) := (blk_cell BK393.out 3).trans rfl; have hcz15_4 : w14.cell? ⟨gb393, 4, none⟩ = some (.int .i64 ((rd_T39 l0 x18_1).f2.f2)) := (blk_cell BK393.out 4).trans rfl; have hcz15_5 : w14.cell? ⟨gb393, 5, none⟩ = some (.int .i64 ((rd_T39 l0 x18_1).f2.f3.f0)) := (blk_cell BK393.out 5).trans rfl; have hcz15_6 : w14.cell? ⟨gb393, 6, none⟩ = some (.int .i64 ((rd_T39 l0 x18_1).f2.f3.f1)) := (blk_cell BK393.out 6).trans rfl; have hcz15_7 : w14.cell? ⟨gb393, 7, none⟩ = some (.int .i64 ((rd_T39 l0 x18_1).f2.f4)) := (blk_cell BK393.out 7).trans rfl; have hcz15_8 : w14.cell? ⟨gb393, 8, none⟩ = some (.int .i64 ((rd_T39 l0 x18_1).f2.f5)) := (blk_cell BK393.out 8).trans rfl; have hfz15_0 := blk_frozen BK393.out 0; have hfz15_1 := blk_frozen BK393.out 1; have hfz15_2 := blk_frozen BK393.out 2; have hfz15_3 := blk_frozen BK393.out 3; have hfz15_4 := blk_frozen BK393.out 4; have hfz15_5 := blk_frozen BK393.out 5; have hfz15_6 := blk_frozen BK393.out 6; have hfz15_7 := blk_frozen BK393.out 7; have hfz15_8 := blk_frozen BK393.out 8; obtain ⟨Ao16, co16, eo16⟩ := Kd.R_slice HO_5.out; subst eo16) | ((with_reducible refine gate_callee (f := 43) rfl ?_); refine goesL_ (some 24) rfl rfl Try.func43 (by kernel_rfl) rfl #[.slice Ao16 x5_1.length co16, .agg #[.int .i64 ((rd_T39 l0 x18_1).f0), .int .i64 ((rd_T39 l0 x18_1).f1), .int .i64 ((rd_T39 l0 x18_1).f2.f0), .int .i64 ((rd_T39 l0 x18_1).f2.f1), .int .i64 ((rd_T39 l0 x18_1).f2.f2), .int .i64 ((rd_T39 l0 x18_1).f2.f3.f0), .int .i64 ((rd_T39 l0 x18_1).f2.f3.f1), .int .i64 ((rd_T39 l0 x18_1).f2.f4), .int .i64 ((rd_T39 l0 x18_1).f2.f5)]] rfl (by (try simp only [List.map_toArray, List.map_cons, List.map_nil]); first | done | rfl | (simp only [List.length_drop, List.length_take]; rfl)) ?_; (with_reducible refine (determinant_insert.calls k1 (fun k_ => some k_ = (.slice Ao16 x5_1.length co16 : Value).ownBlock) (.slice Ao16 x5_1.length co16) x5_1 ((rd_T39 l0 x18_1).f0) ((rd_T39 l0 x18_1).f1) ((rd_T39 l0 x18_1).f2.f0) ((rd_T39 l0 x18_1).f2.f1) ((rd_T39 l0 x18_1).f2.f2) ((rd_T39 l0 x18_1).f2.f3.f0) ((rd_T39 l0 x18_1).f2.f3.f1) ((rd_T39 l0 x18_1).f2.f4) ((rd_T39 l0 x18_1).f2.f5) t394 w _ ?side1 ?side2 A11.out).mono ?_); (case side1 => repeat (first | (with_reducible first | exact HB.out | apply below_alloc | apply pw_below_drewN | apply below_drew1 | refine below_set ?_ GE393.out) | exact HB.out)); (case side2 => exact Kd.R_tight rfl HO_5.out); rintro e w17 ⟨v395, rfl, ho0, hb, hkp⟩; refine ⟨_, rfl, ?_⟩; have n0_ := Aside0.mk (blk_kept (kq BK393.out) hkp (fun hs_ => (fun e_ => (Kd.R_away HO_5.out (fun _ hk => hk)) e_) hs_)); have n1_ := Aside0.mk (Kd.R_mono (ok' := fun k_ => k_ ≠ gb393) ho0 (fun k_ hk_ => Or.elim hk_ (fun hs_ => fun e_ => (Kd.R_away HO_5.out (fun _ hk => hk)) (by rw [← e_]; exact hs_)) (fun hn_ => (Kd.freshB (g := gb393) (o := .cells #[.int .i64 ((rd_T39 l0 x18_1).f0), .int .i64 ((rd_T39 l0 x18_1).f1), .int .i64 ((rd_T39 l0 x18_1).f2.f0), .int .i64 ((rd_T39 l0 x18_1).f2.f1), .int .i64 ((rd_T39 l0 x18_1).f2.f2), .int .i64 ((rd_T39 l0 x18_1).f2.f3.f0), .int .i64 ((rd_T39 l0 x18_1).f2.f3.f1), .int .i64 ((rd_T39 l0 x18_1).f2.f4), .int .i64 ((rd_T39 l0 x18_1).f2.f5)] 39 (0, 0)) (kq BK393.out) k_ hn_)))); have n2_ := Aside0.mk (hb); clear BK393; clear HB; clear HO_5; have BK393 := n0_; have HO396 := n1_; have HB := n2_; clear n0_ n1_ n2_; (try clear hb); (try clear hkp); (try clear ho0)))
        go_roundg k1
        case measure => have := HK1.out; omega
        case rel => exact ⟨(t394), (wrap64 (x18_1 + 1)), (by first | rfl | (simp; done) | (simp [*]; done)), H', ⟨by have := HK1.out; omega⟩, ⟨by (with_reducible repeat (first | apply Kd.R_alloc | apply Kd.R_drewN | apply Kd.R_drew)); exact Kd.R_mono HO396.out (fun _ hk => trivial)⟩, ⟨bq1 HB.out GE393.out⟩⟩
       ·rw [if_neg c10] at H
        exact absurd H (by simp)
      ·rw [if_neg c9] at H
       exact absurd H (by simp)
     ·rw [if_neg c8] at H
      have c8b0 : decide (x18_1 < (l0.length : Int)) = false := decide_eq_false c8
      clear c8
      have H' := Aside0.mk H
      clear H
      go_wp2
      go_loopg [5, 28] k1 (fun kq v5 v28 w' => ∃ (x5_2 : List (S39)) (x28_2 : Int), v28 = .int .i64 x28_2 ∧ Aside0 (determinant_Merge.l1 kq x5_2 l1 (l1.length : Int) x28_2 = some r) ∧ Aside0 (kq ≤ k1) ∧ Aside0 (Kd.R k39 39 w' w.heap.size (fun _ => True) v5 x5_2) ∧ Aside0 (Below w.heap.size w w'))
      case atStart => exact ⟨(x5_1), (0), (by first | rfl | (simp; done) | (simp [*]; done)), H', ⟨Nat.le_refl _⟩, ⟨rq HO_5.out⟩, ⟨bq HB.out⟩⟩
      case round =>
       clear H'
       try clear c1
       try clear c2
       try clear p2
       try clear p3
       try clear q3
       try clear hx3
       try clear c4
       try clear c4b0
       try clear c4b1
       try clear c5
       try clear c5b0
       try clear c5b1
       try clear p6
       try clear c8
       try clear c8b0
       try clear c9
       try clear c9b0
       try clear c10
       try clear c10b0
       try clear hcz13_0
       try clear hcz13_1
       try clear hcz13_2
       try clear hcz13_3
       try clear hcz13_4
       try clear hcz13_5
       try clear hcz13_6
       try clear hcz13_7
       try clear hcz13_8
       try clear hcz15_0
       try clear hcz15_1
       try clear hcz15_2
       try clear hcz15_3
       try clear hcz15_4
       try clear hcz15_5
       try clear hcz15_6
       try clear hcz15_7
       try clear hcz15_8
       try clear hfz13_0
       try clear hfz13_1
       try clear hfz13_2
       try clear hfz13_3
       try clear hfz13_4
       try clear hfz13_5
       try clear hfz13_6
       try clear hfz13_7
       try clear hfz13_8
       try clear hfz15_0
       try clear hfz15_1
       try clear hfz15_2
       try clear hfz15_3
       try clear hfz15_4
       try clear hfz15_5
       try clear hfz15_6
       try clear hfz15_7
       try clear hfz15_8
       try clear hx392_0
       try clear hx392_1
       try clear hx392_2
       try clear hx392_3
       try clear hx392_4
       try clear hx392_5
       try clear hx392_6
       try clear hx392_7
       try clear hx392_8
       try clear p2
       try clear p392
       try clear p6
       try clear q392
       obtain ⟨x5_2, x28_2, rfl, HA, HK2, HO_5, HB⟩ := hrel
       cases gk with
       | zero => exact absurd HA.out (by simp [determinant_Merge.l1])
       | succ k2 =>
        have H := HA.out
        clear HA
        simp only [determinant_Merge.l1] at H
        by_cases c18 : x28_2 < (l1.length : Int)
        ·rw [if_pos c18] at H
         have c18b0 : decide (x28_2 < (l1.length : Int)) = true := decide_eq_true c18
         clear c18
         by_cases c19 : 0 ≤ x28_2
         ·rw [if_pos c19] at H
          have c19b0 : decide (0 ≤ x28_2) = true := decide_eq_true c19
          clear c19
          by_cases c20 : x28_2 < (l1.length : Int)
          ·rw [if_pos c20] at H
           have c20b0 : decide (x28_2 < (l1.length : Int)) = true := decide_eq_true c20
           clear c20
           replace H := Option.bind_eq_some_iff.mp H
           obtain ⟨t399, A210, H⟩ := H
           replace H : (determinant_Merge.l1 k2 t399 l1 (l1.length : Int) (wrap64 (x28_2 + 1))) = some r := H
           have A21 := Aside0.mk A210
           clear A210
           have H' := Aside0.mk H
           clear H
           have p397 : 0 ≤ (x28_2 : Int) := of_decide_eq_true (by first | (with_reducible assumption) | assumption)
           have q397 : x28_2 < (l1.length : Int) := of_decide_eq_true (by first | (with_reducible assumption) | assumption)
           obtain ⟨ad397, e397, hx397_0, hx397_1, hx397_2, hx397_3, hx397_4, hx397_5, hx397_6, hx397_7, hx397_8⟩ := at_T39 HR1.out x28_2 p397 q397
           cases e397
           replace hx397_0 := (HB.out.cell (World.block_lt_of_cell? w _ hx397_0)).trans hx397_0
           replace hx397_1 := (HB.out.cell (World.block_lt_of_cell? w _ hx397_1)).trans hx397_1
           replace hx397_2 := (HB.out.cell (World.block_lt_of_cell? w _ hx397_2)).trans hx397_2
           replace hx397_3 := (HB.out.cell (World.block_lt_of_cell? w _ hx397_3)).trans hx397_3
           replace hx397_4 := (HB.out.cell (World.block_lt_of_cell? w _ hx397_4)).trans hx397_4
           replace hx397_5 := (HB.out.cell (World.block_lt_of_cell? w _ hx397_5)).trans hx397_5
           replace hx397_6 := (HB.out.cell (World.block_lt_of_cell? w _ hx397_6)).trans hx397_6
           replace hx397_7 := (HB.out.cell (World.block_lt_of_cell? w _ hx397_7)).trans hx397_7
           replace hx397_8 := (HB.out.cell (World.block_lt_of_cell? w _ hx397_8)).trans hx397_8
           replace p397 := eq_true p397
           replace q397 := eq_true q397
           go_wp2_with (first | ((with_reducible refine gate_dst (N := 9) rfl ?_); refine box_event ?hg (N := 9) ?hd (cs := #[.int .i64 0, .int .i64 0, .int .i64 0, .int .i64 0, .int .i64 0, .int .i64 0, .int .i64 0, .int .i64 0, .int .i64 0]) (t := 39) ?hr ?_; (case hd => rfl); (case hg => rfl); (case hr => first | (go_simp; done) | (go_simp; rfl)); intro gb398 hg w22 hbox hb; have n0_ := Aside0.mk (Kd.R_below (Kd.R_elderB (rq HO_5.out) gb398 (Nat.le_of_eq hg.symm)) hb); have n1_ := Aside0.mk (below_step (bq HB.out) hb); have n2_ := Aside0.mk (hbox); have n3_ := Aside0.mk ((by rw [hg]; exact (below_size (bq HB.out)) : w.heap.size ≤ gb398)); have n4_ := Aside0.mk ((by rw [hg]; exact (below_size (bq HB.out)) : w.heap.size ≤ gb398)); clear HO_5; clear HB; have HO_5 := n0_; have HB := n1_; have BK398 := n2_; have GW398 := n3_; have GE398 := n4_; clear n0_ n1_ n2_ n3_ n4_; clear hb hbox hg; have hcz23_0 : w22.cell? ⟨gb398, 0, none⟩ = some (.int .i64 0) := (blk_cell BK398.out 0).trans rfl; have hcz23_1 : w22.cell? ⟨gb398, 1, none⟩ = some (.int .i64 0) := (blk_cell BK398.out 1).trans rfl; have hcz23_2 : w22.cell? ⟨gb398, 2, none⟩ = some (.int .i64 0) := (blk_cell BK398.out 2).trans rfl; have hcz23_3 : w22.cell? ⟨gb398, 3, none⟩ = some (.int .i64 0) := (blk_cell BK398.out 3).trans rfl; have hcz23_4 : w22.cell? ⟨gb398, 4, none⟩ = some (.int .i64 0) := (blk_cell BK398.out 4).trans rfl; have hcz23_5 : w22.cell? ⟨gb398, 5, none⟩ = some (.int .i64 0) := (blk_cell BK398.out 5).trans rfl; have hcz23_6 : w22.cell? ⟨gb398, 6, none⟩ = some (.int .i64 0) := (blk_cell BK398.out 6).trans rfl; have hcz23_7 : w22.cell? ⟨gb398, 7, none⟩ = some (.int .i64 0) := (blk_cell BK398.out 7).trans rfl; have hcz23_8 : w22.cell? ⟨gb398, 8, none⟩ = some (.int .i64 0) := (blk_cell BK398.out 8).trans rfl; have hfz23_0 := blk_frozen BK398.out 0; have hfz23_1 := blk_frozen BK398.out 1; have hfz23_2 := blk_frozen BK398.out 2; have hfz23_3 := blk_frozen BK398.out 3; have hfz23_4 := blk_frozen BK398.out 4; have hfz23_5 := blk_frozen BK398.out 5; have hfz23_6 := blk_frozen BK398.out 6; have hfz23_7 := blk_frozen BK398.out 7; have hfz23_8 := blk_frozen BK398.out 8) | ((with_reducible refine gate_store (t := 39) (p := 9) rfl ?_); refine store_event (t := 39) (p := 9) (v := ?vo_w24) (w1 := (((((((((w22.setCell ⟨gb398, 0, none⟩ (.int .i64 ((rd_T39 l1 x28_2).f0))).setCell ⟨gb398, 1, none⟩ (.int .i64 ((rd_T39 l1 x28_2).f1))).setCell ⟨gb398, 2, none⟩ (.int .i64 ((rd_T39 l1 x28_2).f2.f0))).setCell ⟨gb398, 3, none⟩ (.int .i64 ((rd_T39 l1 x28_2).f2.f1))).setCell ⟨gb398, 4, none⟩ (.int .i64 ((rd_T39 l1 x28_2).f2.f2))).setCell ⟨gb398, 5, none⟩ (.int .i64 ((rd_T39 l1 x28_2).f2.f3.f0))).setCell ⟨gb398, 6, none⟩ (.int .i64 ((rd_T39 l1 x28_2).f2.f3.f1))).setCell ⟨gb398, 7, none⟩ (.int .i64 ((rd_T39 l1 x28_2).f2.f4))).setCell ⟨gb398, 8, none⟩ (.int .i64 ((rd_T39 l1 x28_2).f2.f5)))) ?hg ?ho ?hn ?hr ?_; (case ho => rfl); (case hg => rfl); (case hn => rfl); (case hr => first | (go_simp; done) | (go_simp; rfl)); intro w24 hw; have n0_ : Aside0 (Kd.R k39 39 w24 w.heap.size (fun k_ => k_ ≠ gb398) u5 x5_2) := ⟨(by rw [hw]; exact (by (with_reducible repeat (first | apply Kd.R_alloc | apply Kd.R_drewN | apply Kd.R_drew)); exact Kd.R_mono (Kd.R_far (p := ⟨gb398, 8, none⟩) (Kd.R_far (p := ⟨gb398, 7, none⟩) (Kd.R_far (p := ⟨gb398, 6, none⟩) (Kd.R_far (p := ⟨gb398, 5, none⟩) (Kd.R_far (p := ⟨gb398, 4, none⟩) (Kd.R_far (p := ⟨gb398, 3, none⟩) (Kd.R_far (p := ⟨gb398, 2, none⟩) (Kd.R_far (p := ⟨gb398, 1, none⟩) (Kd.R_far (p := ⟨gb398, 0, none⟩) (Kd.R_mono HO_5.out (fun k_ hk => (⟨hk, hk.2⟩ : _ ∧ k_ ≠ gb398))) (fun _ hk => hk.2) (.int .i64 ((rd_T39 l1 x28_2).f0))) (fun _ hk => hk.2) (.int .i64 ((rd_T39 l1 x28_2).f1))) (fun _ hk => hk.2) (.int .i64 ((rd_T39 l1 x28_2).f2.f0))) (fun _ hk => hk.2) (.int .i64 ((rd_T39 l1 x28_2).f2.f1))) (fun _ hk => hk.2) (.int .i64 ((rd_T39 l1 x28_2).f2.f2))) (fun _ hk => hk.2) (.int .i64 ((rd_T39 l1 x28_2).f2.f3.f0))) (fun _ hk => hk.2) (.int .i64 ((rd_T39 l1 x28_2).f2.f3.f1))) (fun _ hk => hk.2) (.int .i64 ((rd_T39 l1 x28_2).f2.f4))) (fun _ hk => hk.2) (.int .i64 ((rd_T39 l1 x28_2).f2.f5))) (fun _ hk => hk.1.2)))⟩; have n1_ : Aside0 (w24.heap[gb398]? = some (.cells #[.int .i64 ((rd_T39 l1 x28_2).f0), .int .i64 ((rd_T39 l1 x28_2).f1), .int .i64 ((rd_T39 l1 x28_2).f2.f0), .int .i64 ((rd_T39 l1 x28_2).f2.f1), .int .i64 ((rd_T39 l1 x28_2).f2.f2), .int .i64 ((rd_T39 l1 x28_2).f2.f3.f0), .int .i64 ((rd_T39 l1 x28_2).f2.f3.f1), .int .i64 ((rd_T39 l1 x28_2).f2.f4), .int .i64 ((rd_T39 l1 x28_2).f2.f5)] 39 (0, 0))) := ⟨(by rw [hw]; exact (by (with_reducible repeat (first | refine blk_drewN ?_ _ | refine blk_drew ?_ | refine blk_alloc ?_ _)); refine blk_put (cs := #[.int .i64 ((rd_T39 l1 x28_2).f0), .int .i64 ((rd_T39 l1 x28_2).f1), .int .i64 ((rd_T39 l1 x28_2).f2.f0), .int .i64 ((rd_T39 l1 x28_2).f2.f1), .int .i64 ((rd_T39 l1 x28_2).f2.f2), .int .i64 ((rd_T39 l1 x28_2).f2.f3.f0), .int .i64 ((rd_T39 l1 x28_2).f2.f3.f1), .int .i64 ((rd_T39 l1 x28_2).f2.f4), .int .i64 0]) ?_ 8 _ rfl; (with_reducible repeat (first | refine blk_drewN ?_ _ | refine blk_drew ?_ | refine blk_alloc ?_ _)); refine blk_put (cs := #[.int .i64 ((rd_T39 l1 x28_2).f0), .int .i64 ((rd_T39 l1 x28_2).f1), .int .i64 ((rd_T39 l1 x28_2).f2.f0), .int .i64 ((rd_T39 l1 x28_2).f2.f1), .int .i64 ((rd_T39 l1 x28_2).f2.f2), .int .i64 ((rd_T39 l1 x28_2).f2.f3.f0), .int .i64 ((rd_T39 l1 x28_2).f2.f3.f1), .int .i64 0, .int .i64 0]) ?_ 7 _ rfl; (with_reducible repeat (first | refine blk_drewN ?_ _ | refine blk_drew ?_ | refine blk_alloc ?_ _)); refine blk_put (cs := #[.int .i64 ((rd_T39 l1 x28_2).f0), .int .i64 ((rd_T39 l1 x28_2).f1), .int .i64 ((rd_T39 l1 x28_2).f2.f0), .int .i64 ((rd_T39 l1 x28_2).f2.f1), .int .i64 ((rd_T39 l1 x28_2).f2.f2), .int .i64 ((rd_T39 l1 x28_2).f2.f3.f0), .int .i64 0, .int .i64 0, .int .i64 0]) ?_ 6 _ rfl; (with_reducible repeat (first | refine blk_drewN ?_ _ | refine blk_drew ?_ | refine blk_alloc ?_ _)); refine blk_put (cs := #[.int .i64 ((rd_T39 l1 x28_2).f0), .int .i64 ((rd_T39 l1 x28_2).f1), .int .i64 ((rd_T39 l1 x28_2).f2.f0), .int .i64 ((rd_T39 l1 x28_2).f2.f1), .int .i64 ((rd_T39 l1 x28_2).f2.f2), .int .i64 0, .int .i64 0, .int .i64 0, .int .i64 0]) ?_ 5 _ rfl; (with_reducible repeat (first | refine blk_drewN ?_ _ | refine blk_drew ?_ | refine blk_alloc ?_ _)); refine blk_put (cs := #[.int .i64 ((rd_T39 l1 x28_2).f0), .int .i64 ((rd_T39 l1 x28_2).f1), .int .i64 ((rd_T39 l1 x28_2).f2.f0), .int .i64 ((rd_T39 l1 x28_2).f2.f1), .int .i64 0, .int .i64 0, .int .i64 0, .int .i64 0, .int .i64 0]) ?_ 4 _ rfl; (with_reducible repeat (first | refine blk_drewN ?_ _ | refine blk_drew ?_ | refine blk_alloc ?_ _)); refine blk_put (cs := #[.int .i64 ((rd_T39 l1 x28_2).f0), .int .i64 ((rd_T39 l1 x28_2).f1), .int .i64 ((rd_T39 l1 x28_2).f2.f0), .int .i64 0, .int .i64 0, .int .i64 0, .int .i64 0, .int .i64 0, .int .i64 0]) ?_ 3 _ rfl; (with_reducible repeat (first | refine blk_drewN ?_ _ | refine blk_drew ?_ | refine blk_alloc ?_ _)); refine blk_put (cs := #[.int .i64 ((rd_T39 l1 x28_2).f0), .int .i64 ((rd_T39 l1 x28_2).f1), .int .i64 0, .int .i64 0, .int .i64 0, .int .i64 0, .int .i64 0, .int .i64 0, .int .i64 0]) ?_ 2 _ rfl; (with_reducible repeat (first | refine blk_drewN ?_ _ | refine blk_drew ?_ | refine blk_alloc ?_ _)); refine blk_put (cs := #[.int .i64 ((rd_T39 l1 x28_2).f0), .int .i64 0, .int .i64 0, .int .i64 0, .int .i64 0, .int .i64 0, .int .i64 0, .int .i64 0, .int .i64 0]) ?_ 1 _ rfl; (with_reducible repeat (first | refine blk_drewN ?_ _ | refine blk_drew ?_ | refine blk_alloc ?_ _)); refine blk_put (cs := #[.int .i64 0, .int .i64 0, .int .i64 0, .int .i64 0, .int .i64 0, .int .i64 0, .int .i64 0, .int .i64 0, .int .i64 0]) ?_ 0 _ rfl; (with_reducible repeat (first | refine blk_drewN ?_ _ | refine blk_drew ?_ | refine blk_alloc ?_ _)); exact BK398.out))⟩; have n2_ : Aside0 (Below w.heap.size w w24) := ⟨(by rw [hw]; exact (bq1 HB.out GE398.out))⟩; clear hw; clear HO_5; clear BK398; clear HB; have HO_5 := n0_; have BK398 := n1_; have HB := n2_; clear n0_ n1_ n2_; have hcz25_0 : w24.cell? ⟨gb398, 0, none⟩ = some (.int .i64 ((rd_T39 l1 x28_2).f0)) := (blk_cell BK398.out 0).trans rfl; have hcz25_1 : w24.cell? ⟨gb398, 1, none⟩ = some (.int .i64 ((rd_T39 l1 x28_2).f1)) := (blk_cell BK398.out 1).trans rfl; have hcz25_2 : w24.cell? ⟨gb398, 2, none⟩ = some (.int .i64 ((rd_T39 l1 x28_2).f2.f0)) := (blk_cell BK398.out 2).trans rfl; have hcz25_3 : w24.cell? ⟨gb398, 3, none⟩ = some (.int .i64 ((rd_T39 l1 x28_2).f2.f1)) := (blk_cell BK398.out 3).trans rfl; have hcz25_4 : w24.cell? ⟨gb398, 4, none⟩ = some (.int .i64 ((rd_T39 l1 x28_2).f2.f2)) := (blk_cell BK398.out 4).trans rfl; have hcz25_5 : w24.cell? ⟨gb398, 5, none⟩ = some (.int .i64 ((rd_T39 l1 x28_2).f2.f3.f0)) := (blk_cell BK398.out 5).trans rfl; have hcz25_6 : w24.cell? ⟨gb398, 6, none⟩ = some (.int .i64 ((rd_T39 l1 x28_2).f2.f3.f1)) := (blk_cell BK398.out 6).trans rfl; have hcz25_7 : w24.cell? ⟨gb398, 7, none⟩ = some (.int .i64 ((rd_T39 l1 x28_2).f2.f4)) := (blk_cell BK398.out 7).trans rfl; have hcz25_8 : w24.cell? ⟨gb398, 8, none⟩ = some (.int .i64 ((rd_T39 l1 x28_2).f2.f5)) := (blk_cell BK398.out 8).trans rfl; have hfz25_0 := blk_frozen BK398.out 0; have hfz25_1 := blk_frozen BK398.out 1; have hfz25_2 := blk_frozen BK398.out 2; have hfz25_3 := blk_frozen BK398.out 3; have hfz25_4 := blk_frozen BK398.out 4; have hfz25_5 := blk_frozen BK398.out 5; have hfz25_6 := blk_frozen BK398.out 6; have hfz25_7 := blk_frozen BK398.out 7; have hfz25_8 := blk_frozen BK398.out 8; obtain ⟨Ao26, co26, eo26⟩ := Kd.R_slice HO_5.out; subst eo26) | ((with_reducible refine gate_callee (f := 43) rfl ?_); refine goesL_ (some 34) rfl rfl Try.func43 (by kernel_rfl) rfl #[.slice Ao26 x5_2.length co26, .agg #[.int .i64 ((rd_T39 l1 x28_2).f0), .int .i64 ((rd_T39 l1 x28_2).f1), .int .i64 ((rd_T39 l1 x28_2).f2.f0), .int .i64 ((rd_T39 l1 x28_2).f2.f1), .int .i64 ((rd_T39 l1 x28_2).f2.f2), .int .i64 ((rd_T39 l1 x28_2).f2.f3.f0), .int .i64 ((rd_T39 l1 x28_2).f2.f3.f1), .int .i64 ((rd_T39 l1 x28_2).f2.f4), .int .i64 ((rd_T39 l1 x28_2).f2.f5)]] rfl (by (try simp only [List.map_toArray, List.map_cons, List.map_nil]); first | done | rfl | (simp only [List.length_drop, List.length_take]; rfl)) ?_; (with_reducible refine (determinant_insert.calls k2 (fun k_ => some k_ = (.slice Ao26 x5_2.length co26 : Value).ownBlock) (.slice Ao26 x5_2.length co26) x5_2 ((rd_T39 l1 x28_2).f0) ((rd_T39 l1 x28_2).f1) ((rd_T39 l1 x28_2).f2.f0) ((rd_T39 l1 x28_2).f2.f1) ((rd_T39 l1 x28_2).f2.f2) ((rd_T39 l1 x28_2).f2.f3.f0) ((rd_T39 l1 x28_2).f2.f3.f1) ((rd_T39 l1 x28_2).f2.f4) ((rd_T39 l1 x28_2).f2.f5) t399 w _ ?side1 ?side2 A21.out).mono ?_); (case side1 => repeat (first | (with_reducible first | exact HB.out | apply below_alloc | apply pw_below_drewN | apply below_drew1 | refine below_set ?_ GE398.out) | exact HB.out)); (case side2 => exact Kd.R_tight rfl HO_5.out); rintro e w27 ⟨v400, rfl, ho0, hb, hkp⟩; refine ⟨_, rfl, ?_⟩; have n0_ := Aside0.mk (blk_kept (kq BK398.out) hkp (fun hs_ => (fun e_ => (Kd.R_away HO_5.out (fun _ hk => hk)) e_) hs_)); have n1_ := Aside0.mk (Kd.R_mono (ok' := fun k_ => k_ ≠ gb398) ho0 (fun k_ hk_ => Or.elim hk_ (fun hs_ => fun e_ => (Kd.R_away HO_5.out (fun _ hk => hk)) (by rw [← e_]; exact hs_)) (fun hn_ => (Kd.freshB (g := gb398) (o := .cells #[.int .i64 ((rd_T39 l1 x28_2).f0), .int .i64 ((rd_T39 l1 x28_2).f1), .int .i64 ((rd_T39 l1 x28_2).f2.f0), .int .i64 ((rd_T39 l1 x28_2).f2.f1), .int .i64 ((rd_T39 l1 x28_2).f2.f2), .int .i64 ((rd_T39 l1 x28_2).f2.f3.f0), .int .i64 ((rd_T39 l1 x28_2).f2.f3.f1), .int .i64 ((rd_T39 l1 x28_2).f2.f4), .int .i64 ((rd_T39 l1 x28_2).f2.f5)] 39 (0, 0)) (kq BK398.out) k_ hn_)))); have n2_ := Aside0.mk (hb); clear BK398; clear HB; clear HO_5; have BK398 := n0_; have HO401 := n1_; have HB := n2_; clear n0_ n1_ n2_; (try clear hb); (try clear hkp); (try clear ho0)))
           go_roundg k2
           case measure => have := HK1.out; have := HK2.out; omega
           case rel => exact ⟨(t399), (wrap64 (x28_2 + 1)), (by first | rfl | (simp; done) | (simp [*]; done)), H', ⟨by have := HK1.out; have := HK2.out; omega⟩, ⟨by (with_reducible repeat (first | apply Kd.R_alloc | apply Kd.R_drewN | apply Kd.R_drew)); exact Kd.R_mono HO401.out (fun _ hk => trivial)⟩, ⟨bq1 HB.out GE398.out⟩⟩
          ·rw [if_neg c20] at H
           exact absurd H (by simp)
         ·rw [if_neg c19] at H
          exact absurd H (by simp)
        ·rw [if_neg c18] at H
         have c18b0 : decide (x28_2 < (l1.length : Int)) = false := decide_eq_false c18
         clear c18
         obtain rfl := Option.some.inj H
         go_wp2
         go_ret
         exact ⟨_, by first | rfl | (simp [errW_none, errW_some] <;> rfl) | (simp only [← hji3]; first | rfl | (simp [errW_none, errW_some] <;> rfl)) | (simp [*, errW_none, errW_some] <;> rfl), rq HO_5.out, bq HB.out⟩
  ·rw [if_neg c5] at H
   exact absurd H (by simp)
 ·rw [if_neg c4] at H
  exact absurd H (by simp)

end Go.Proofs.Ytjlpggpkbcgekaa.PG27
