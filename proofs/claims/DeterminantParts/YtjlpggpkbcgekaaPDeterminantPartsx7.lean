-- Written by a program of this session (hprint.py) out of the translation and of hand-proved parts. Lean checks it.
import Derived.Test.YtjlpggpkbcgekaaPDeterminantPartsx0
import Derived.Test.YtjlpggpkbcgekaaPDeterminantPartsx6
namespace Go.Proofs.Ytjlpggpkbcgekaa.PDeterminantParts
open Go.RowKit Go.Proofs.YtjlpggpkbcgekaaW.PrintWords Go.Proofs.YtjlpggpkbcgekaaW.PrintLast Go.Proofs.YtjlpggpkbcgekaaW.PrintMore
attribute [local go_sem] max2_int min2_int max_two min_two max_three min_three max_four min_four   -- for this text's walks alone
set_option linter.unusedVariables false
set_option linter.unusedSimpArgs false

/-! ### determinant_Merge: function 25 -/
mutual
def determinant_Merge.l0 : Nat → List (S39) → List (S39) → List (S39) → Int → Int → Option ((List (S39)))
 | 0, _, _, _, _, _ => none
 | k + 1, x1, x5, x16, x17, x18 => if x18 < x17 then (if 0 ≤ x18 then (if x18 < (x16.length : Int) then ((determinant_insert.f k x5 ((rd_T39 x16 x18).f0) ((rd_T39 x16 x18).f1) ((rd_T39 x16 x18).f2.f0) ((rd_T39 x16 x18).f2.f1) ((rd_T39 x16 x18).f2.f2) ((rd_T39 x16 x18).f2.f3.f0) ((rd_T39 x16 x18).f2.f3.f1) ((rd_T39 x16 x18).f2.f4) ((rd_T39 x16 x18).f2.f5)).bind fun t255 => (determinant_Merge.l0 k x1 t255 x16 x17 (wrap64 (x18 + 1)))) else (none)) else (none)) else (determinant_Merge.l1 k x5 x1 (x1.length : Int) 0)
def determinant_Merge.l1 : Nat → List (S39) → List (S39) → Int → Int → Option ((List (S39)))
 | 0, _, _, _, _ => none
 | k + 1, x5, x26, x27, x28 => if x28 < x27 then (if 0 ≤ x28 then (if x28 < (x26.length : Int) then ((determinant_insert.f k x5 ((rd_T39 x26 x28).f0) ((rd_T39 x26 x28).f1) ((rd_T39 x26 x28).f2.f0) ((rd_T39 x26 x28).f2.f1) ((rd_T39 x26 x28).f2.f2) ((rd_T39 x26 x28).f2.f3.f0) ((rd_T39 x26 x28).f2.f3.f1) ((rd_T39 x26 x28).f2.f4) ((rd_T39 x26 x28).f2.f5)).bind fun t260 => (determinant_Merge.l1 k t260 x26 x27 (wrap64 (x28 + 1)))) else (none)) else (none)) else (some x5)
end
def determinant_Merge.f (k : Nat) (l0 : List (S39)) (l1 : List (S39)) : Option ((List (S39))) := if 0 ≤ (wrap64 ((l0.length : Int) + (l1.length : Int))) then (if (wrap64 ((l0.length : Int) + (l1.length : Int)) : Int).toNat ≤ 3909374676536 then (determinant_Merge.l0 k l1 (([] : List (S39))) l0 (l0.length : Int) 0) else (none)) else (none)
theorem determinant_Merge.mono_l : ∀ k, (∀ y0 y1 y2 y3 y4, LeO (determinant_Merge.l0 k y0 y1 y2 y3 y4) (determinant_Merge.l0 (k + 1) y0 y1 y2 y3 y4)) ∧ (∀ y0 y1 y2 y3, LeO (determinant_Merge.l1 k y0 y1 y2 y3) (determinant_Merge.l1 (k + 1) y0 y1 y2 y3))
 | 0 => ⟨fun _ _ _ _ _ r h => by simp [determinant_Merge.l0] at h, fun _ _ _ _ r h => by simp [determinant_Merge.l1] at h⟩
 | k + 1 => by
  obtain ⟨ih0, ih1⟩ := determinant_Merge.mono_l k
  refine ⟨?_, ?_⟩
  ·intro y0 y1 y2 y3 y4
   unfold determinant_Merge.l0
   repeat' first
   | (with_reducible exact ih0 _ _ _ _ _)
   | (with_reducible exact ih1 _ _ _ _)
   | (with_reducible exact determinant_insert.mono _ _ _ _ _ _ _ _ _ _ _)
   | (with_reducible exact LeO.refl _)
   | (with_reducible exact LeO.none _)
   | (with_reducible refine LeO.ite ?_ ?_)
   | (with_reducible refine LeO.bind ?_ (fun _ => ?_))
   | exact ih0 _ _ _ _ _
   | exact ih1 _ _ _ _
   | exact determinant_insert.mono _ _ _ _ _ _ _ _ _ _ _
   | exact LeO.none _
   | refine LeO.ite ?_ ?_
   | refine LeO.bind ?_ (fun _ => ?_)
  ·intro y0 y1 y2 y3
   unfold determinant_Merge.l1
   repeat' first
   | (with_reducible exact ih0 _ _ _ _ _)
   | (with_reducible exact ih1 _ _ _ _)
   | (with_reducible exact determinant_insert.mono _ _ _ _ _ _ _ _ _ _ _)
   | (with_reducible exact LeO.refl _)
   | (with_reducible exact LeO.none _)
   | (with_reducible refine LeO.ite ?_ ?_)
   | (with_reducible refine LeO.bind ?_ (fun _ => ?_))
   | exact ih0 _ _ _ _ _
   | exact ih1 _ _ _ _
   | exact determinant_insert.mono _ _ _ _ _ _ _ _ _ _ _
   | exact LeO.none _
   | refine LeO.ite ?_ ?_
   | refine LeO.bind ?_ (fun _ => ?_)
theorem determinant_Merge.mono : ∀ a0 a1 k, LeO (determinant_Merge.f k a0 a1) (determinant_Merge.f (k + 1) a0 a1) := by
 intro a0 a1 k
 obtain ⟨ih0, ih1⟩ := determinant_Merge.mono_l k
 unfold determinant_Merge.f
 repeat' first
   | (with_reducible exact ih0 _ _ _ _ _)
   | (with_reducible exact ih1 _ _ _ _)
   | (with_reducible exact determinant_insert.mono _ _ _ _ _ _ _ _ _ _ _)
   | (with_reducible exact LeO.refl _)
   | (with_reducible exact LeO.none _)
   | (with_reducible refine LeO.ite ?_ ?_)
   | (with_reducible refine LeO.bind ?_ (fun _ => ?_))
   | exact ih0 _ _ _ _ _
   | exact ih1 _ _ _ _
   | exact determinant_insert.mono _ _ _ _ _ _ _ _ _ _ _
   | exact LeO.none _
   | refine LeO.ite ?_ ?_
   | refine LeO.bind ?_ (fun _ => ?_)
set_option maxHeartbeats 8000000 in
set_option maxRecDepth 100000 in
theorem determinant_Merge.calls (k : Nat) (A0 : Option Addr) (c0 : Nat) (l0 : List (S39)) (A1 : Option Addr) (c1 : Nat) (l1 : List (S39)) (r : List (S39)) (w : World) (hr0 : Kd.C k39 w A0 l0.length l0) (hc0 : l0.length ≤ c0) (hr1 : Kd.C k39 w A1 l1.length l1) (hc1 : l1.length ≤ c1) (h : determinant_Merge.f k l0 l1 = some r) :
  Calls Try.prog 25 #[.slice A0 l0.length c0, .slice A1 l1.length c1] w fun e w' => ∃ v0_ : Value, e = .returned (v0_) ∧ Kd.R k39 39 w' w.heap.size (fun _ => True) v0_ r ∧ Below w.heap.size w w' := by
 have hu39 := Try.underlying39
 have HR0 := Aside0.mk hr0
 have HC0 := Aside0.mk hc0
 clear hr0 hc0
 have HR1 := Aside0.mk hr1
 have HC1 := Aside0.mk hc1
 clear hr1 hc1
 have HB := Aside0.mk (Below.refl w.heap.size w)
 have H : (if 0 ≤ (wrap64 ((l0.length : Int) + (l1.length : Int))) then (if (wrap64 ((l0.length : Int) + (l1.length : Int)) : Int).toNat ≤ 3909374676536 then (determinant_Merge.l0 k l1 (([] : List (S39))) l0 (l0.length : Int) 0) else (none)) else (none)) = some r := h
 clear h
 obtain ⟨ji3, hji3⟩ : ∃ j_ : Int, (wrap64 ((l0.length : Int) + (l1.length : Int))) = j_ := ⟨_, rfl⟩
 replace H : (if 0 ≤ (ji3) then (if (ji3 : Int).toNat ≤ 3909374676536 then (determinant_Merge.l0 k l1 (([] : List (S39))) l0 (l0.length : Int) 0) else (none)) else (none)) = some r := by first | (rw [hji3] at H; exact H) | (simp only [hji3] at H ⊢; exact H)
 have hji3w : (IntKind.i64.wrap ((l0.length : Int) + (l1.length : Int))) = ji3 := (i64_w _).trans hji3
 by_cases c4 : 0 ≤ (ji3)
 ·rw [if_pos c4] at H
  have c4b0 := eq_true c4
  have c4b1 : decide (0 ≤ (ji3)) = true := decide_eq_true c4
  clear c4
  by_cases c5 : (ji3 : Int).toNat ≤ 3909374676536
  ·rw [if_pos c5] at H
   have c5b0 := eq_true c5
   have c5b1 : decide ((ji3 : Int).toNat ≤ 3909374676536) = true := decide_eq_true c5
   clear c5
   obtain ⟨y250, hy250⟩ : ∃ y_ : List (S39), y_ = (([] : List (S39))) := ⟨_, rfl⟩
   replace H : (determinant_Merge.l0 k l1 y250 l0 (l0.length : Int) 0) = some r := by first | (rw [hy250]; with_reducible exact H) | (have H2_ := (Option.bind_some _ _).symm.trans H; rw [hy250]; with_reducible exact H2_) | (have H2_ := (Option.bind_some _ _).symm.trans H; with_reducible exact H2_) | with_reducible exact H | (rw [hy250]; exact H) | exact H
   have Ny250 := Aside0.mk hy250
   clear hy250
   have H' := Aside0.mk H
   clear H
   go_enter Try.func25, Try.ntmps25
   go_wp2_with (first | ((with_reducible refine gate_dst (N := 15) rfl ?_); refine Kd.R_mk0 k39 _ 39 rfl (N := 15) rfl 24 _ _ rfl ji3 rfl rfl Try.underlying24 (.agg #[(.int .i64 0), (.int .i64 0), (.int .i64 0), (.int .i64 0), (.int .i64 0), (.int .i64 0), (.int .i64 0), (.int .i64 0), (.int .i64 0)]) 72 info39 rfl (by decide) (by omega) z39 (ok := fun _ => True) (okp := fun _ => True) (k39_mkM _ _ _ z39 ) (fun _ hk => hk) trivial (of_decide_eq_true (by first | (with_reducible assumption) | assumption)) (Nat.le_trans (Nat.mul_le_mul_right _ (of_decide_eq_true (by first | (with_reducible assumption) | assumption) : ji3.toNat ≤ 3909374676536)) (by omega)) (Below.refl _ _) (Nat.le_refl _) ?_; intro v251 w6 ho7 hb hg_ hnew_; clear hg_ hnew_; (first | rw [← Ny250.out] at ho7 | (simp only [Int.reduceToNat] at ho7; rw [← Ny250.out] at ho7)); have n0_ := Aside0.mk (Kd.R_lower ho7 (below_size (by repeat (first | (with_reducible first | exact HB.out | apply below_alloc | apply pw_below_drewN | apply below_drew1) | exact HB.out)))); have n1_ := Aside0.mk (below_step (by repeat (first | (with_reducible first | exact HB.out | apply below_alloc | apply pw_below_drewN | apply below_drew1) | exact HB.out)) hb); clear HB; have HO252 := n0_; have HB := n1_; clear n0_ n1_; clear hb ho7))
   go_loopg [5, 18] k (fun kq v5 v18 w' => ∃ (x5_1 : List (S39)) (x18_1 : Int), v18 = .int .i64 x18_1 ∧ Aside0 (determinant_Merge.l0 kq l1 x5_1 l0 (l0.length : Int) x18_1 = some r) ∧ Aside0 (kq ≤ k) ∧ Aside0 (Kd.R k39 39 w' w.heap.size (fun _ => True) v5 x5_1) ∧ Aside0 (Below w.heap.size w w'))
   case atStart => exact ⟨(y250), (0), (by first | rfl | (simp; done) | (simp [*]; done)), H', ⟨Nat.le_refl _⟩, ⟨by (with_reducible repeat (first | apply Kd.R_alloc | apply Kd.R_drewN | apply Kd.R_drew)); exact HO252.out⟩, ⟨by repeat (first | (with_reducible first | exact HB.out | apply below_alloc | apply pw_below_drewN | apply below_drew1) | exact HB.out)⟩⟩
   case round =>
    clear H'
    try clear c1
    try clear c2
    try clear p2
    try clear c4
    try clear c4b0
    try clear c4b1
    try clear c5
    try clear c5b0
    try clear c5b1
    try clear p6
    obtain ⟨x5_1, x18_1, rfl, HA, HK1, HO_5, HB⟩ := hrel
    cases gk with
    | zero => exact absurd HA.out (by simp [determinant_Merge.l0])
    | succ k1 =>
     have H := HA.out
     clear HA
     simp only [determinant_Merge.l0] at H
     by_cases c8 : x18_1 < (l0.length : Int)
     ·rw [if_pos c8] at H
      have c8b0 : decide (x18_1 < (l0.length : Int)) = true := decide_eq_true c8
      clear c8
      by_cases c9 : 0 ≤ x18_1
      ·rw [if_pos c9] at H
       have c9b0 : decide (0 ≤ x18_1) = true := decide_eq_true c9
       clear c9
       by_cases c10 : x18_1 < (l0.length : Int)
       ·rw [if_pos c10] at H
        have c10b0 : decide (x18_1 < (l0.length : Int)) = true := decide_eq_true c10
        clear c10
        replace H := Option.bind_eq_some_iff.mp H
        obtain ⟨t255, A110, H⟩ := H
        replace H : (determinant_Merge.l0 k1 l1 t255 l0 (l0.length : Int) (wrap64 (x18_1 + 1))) = some r := H
        have A11 := Aside0.mk A110
        clear A110
        have H' := Aside0.mk H
        clear H
        have p253 : 0 ≤ (x18_1 : Int) := of_decide_eq_true (by first | (with_reducible assumption) | assumption)
        have q253 : x18_1 < (l0.length : Int) := of_decide_eq_true (by first | (with_reducible assumption) | assumption)
        obtain ⟨ad253, e253, hx253_0, hx253_1, hx253_2, hx253_3, hx253_4, hx253_5, hx253_6, hx253_7, hx253_8⟩ := at_T39 HR0.out x18_1 p253 q253
        cases e253
        replace hx253_0 := (HB.out.cell (World.block_lt_of_cell? w _ hx253_0)).trans hx253_0
        replace hx253_1 := (HB.out.cell (World.block_lt_of_cell? w _ hx253_1)).trans hx253_1
        replace hx253_2 := (HB.out.cell (World.block_lt_of_cell? w _ hx253_2)).trans hx253_2
        replace hx253_3 := (HB.out.cell (World.block_lt_of_cell? w _ hx253_3)).trans hx253_3
        replace hx253_4 := (HB.out.cell (World.block_lt_of_cell? w _ hx253_4)).trans hx253_4
        replace hx253_5 := (HB.out.cell (World.block_lt_of_cell? w _ hx253_5)).trans hx253_5
        replace hx253_6 := (HB.out.cell (World.block_lt_of_cell? w _ hx253_6)).trans hx253_6
        replace hx253_7 := (HB.out.cell (World.block_lt_of_cell? w _ hx253_7)).trans hx253_7
        replace hx253_8 := (HB.out.cell (World.block_lt_of_cell? w _ hx253_8)).trans hx253_8
        replace p253 := eq_true p253
        replace q253 := eq_true q253
        go_wp2_with (first | ((with_reducible refine gate_dst (N := 7) rfl ?_); refine box_event ?hg (N := 7) ?hd (cs := #[.int .i64 0, .int .i64 0, .int .i64 0, .int .i64 0, .int .i64 0, .int .i64 0, .int .i64 0, .int .i64 0, .int .i64 0]) (t := 39) ?hr ?_; (case hd => rfl); (case hg => rfl); (case hr => first | (go_simp; done) | (go_simp; rfl)); intro gb254 hg w12 hbox hb; have n0_ := Aside0.mk (Kd.R_below (Kd.R_elderB (by (with_reducible repeat (first | apply Kd.R_alloc | apply Kd.R_drewN | apply Kd.R_drew)); exact HO_5.out) gb254 (Nat.le_of_eq hg.symm)) hb); have n1_ := Aside0.mk (below_step (by repeat (first | (with_reducible first | exact HB.out | apply below_alloc | apply pw_below_drewN | apply below_drew1) | exact HB.out)) hb); have n2_ := Aside0.mk (hbox); have n3_ := Aside0.mk ((by rw [hg]; exact (below_size (by repeat (first | (with_reducible first | exact HB.out | apply below_alloc | apply pw_below_drewN | apply below_drew1) | exact HB.out))) : w.heap.size ≤ gb254)); have n4_ := Aside0.mk ((by rw [hg]; exact (below_size (by repeat (first | (with_reducible first | exact HB.out | apply below_alloc | apply pw_below_drewN | apply below_drew1) | exact HB.out))) : w.heap.size ≤ gb254)); clear HO_5; clear HB; have HO_5 := n0_; have HB := n1_; have BK254 := n2_; have GW254 := n3_; have GE254 := n4_; clear n0_ n1_ n2_ n3_ n4_; clear hb hbox hg; have hcz13_0 : w12.cell? ⟨gb254, 0, none⟩ = some (.int .i64 0) := (blk_cell BK254.out 0).trans rfl; have hcz13_1 : w12.cell? ⟨gb254, 1, none⟩ = some (.int .i64 0) := (blk_cell BK254.out 1).trans rfl; have hcz13_2 : w12.cell? ⟨gb254, 2, none⟩ = some (.int .i64 0) := (blk_cell BK254.out 2).trans rfl; have hcz13_3 : w12.cell? ⟨gb254, 3, none⟩ = some (.int .i64 0) := (blk_cell BK254.out 3).trans rfl; have hcz13_4 : w12.cell? ⟨gb254, 4, none⟩ = some (.int .i64 0) := (blk_cell BK254.out 4).trans rfl; have hcz13_5 : w12.cell? ⟨gb254, 5, none⟩ = some (.int .i64 0) := (blk_cell BK254.out 5).trans rfl; have hcz13_6 : w12.cell? ⟨gb254, 6, none⟩ = some (.int .i64 0) := (blk_cell BK254.out 6).trans rfl; have hcz13_7 : w12.cell? ⟨gb254, 7, none⟩ = some (.int .i64 0) := (blk_cell BK254.out 7).trans rfl; have hcz13_8 : w12.cell? ⟨gb254, 8, none⟩ = some (.int .i64 0) := (blk_cell BK254.out 8).trans rfl; have hfz13_0 := blk_frozen BK254.out 0; have hfz13_1 := blk_frozen BK254.out 1; have hfz13_2 := blk_frozen BK254.out 2; have hfz13_3 := blk_frozen BK254.out 3; have hfz13_4 := blk_frozen BK254.out 4; have hfz13_5 := blk_frozen BK254.out 5; have hfz13_6 := blk_frozen BK254.out 6; have hfz13_7 := blk_frozen BK254.out 7; have hfz13_8 := blk_frozen BK254.out 8) | ((with_reducible refine gate_store (t := 39) (p := 7) rfl ?_); refine store_event (t := 39) (p := 7) (v := ?vo_w14) (w1 := (((((((((w12.setCell ⟨gb254, 0, none⟩ (.int .i64 ((rd_T39 l0 x18_1).f0))).setCell ⟨gb254, 1, none⟩ (.int .i64 ((rd_T39 l0 x18_1).f1))).setCell ⟨gb254, 2, none⟩ (.int .i64 ((rd_T39 l0 x18_1).f2.f0))).setCell ⟨gb254, 3, none⟩ (.int .i64 ((rd_T39 l0 x18_1).f2.f1))).setCell ⟨gb254, 4, none⟩ (.int .i64 ((rd_T39 l0 x18_1).f2.f2))).setCell ⟨gb254, 5, none⟩ (.int .i64 ((rd_T39 l0 x18_1).f2.f3.f0))).setCell ⟨gb254, 6, none⟩ (.int .i64 ((rd_T39 l0 x18_1).f2.f3.f1))).setCell ⟨gb254, 7, none⟩ (.int .i64 ((rd_T39 l0 x18_1).f2.f4))).setCell ⟨gb254, 8, none⟩ (.int .i64 ((rd_T39 l0 x18_1).f2.f5)))) ?hg ?ho ?hn ?hr ?_; (case ho => rfl); (case hg => rfl); (case hn => rfl); (case hr => first | (go_simp; done) | (go_simp; rfl)); intro w14 hw; have n0_ : Aside0 (Kd.R k39 39 w14 w.heap.size (fun k_ => k_ ≠ gb254) u5 x5_1) := ⟨(by rw [hw]; exact (by (with_reducible repeat (first | apply Kd.R_alloc | apply Kd.R_drewN | apply Kd.R_drew)); exact Kd.R_mono (Kd.R_far (p := ⟨gb254, 8, none⟩) (Kd.R_far (p := ⟨gb254, 7, none⟩) (Kd.R_far (p := ⟨gb254, 6, none⟩) (Kd.R_far (p := ⟨gb254, 5, none⟩) (Kd.R_far (p := ⟨gb254, 4, none⟩) (Kd.R_far (p := ⟨gb254, 3, none⟩) (Kd.R_far (p := ⟨gb254, 2, none⟩) (Kd.R_far (p := ⟨gb254, 1, none⟩) (Kd.R_far (p := ⟨gb254, 0, none⟩) (Kd.R_mono HO_5.out (fun k_ hk => (⟨hk, hk.2⟩ : _ ∧ k_ ≠ gb254))) (fun _ hk => hk.2) (.int .i64 ((rd_T39 l0 x18_1).f0))) (fun _ hk => hk.2) (.int .i64 ((rd_T39 l0 x18_1).f1))) (fun _ hk => hk.2) (.int .i64 ((rd_T39 l0 x18_1).f2.f0))) (fun _ hk => hk.2) (.int .i64 ((rd_T39 l0 x18_1).f2.f1))) (fun _ hk => hk.2) (.int .i64 ((rd_T39 l0 x18_1).f2.f2))) (fun _ hk => hk.2) (.int .i64 ((rd_T39 l0 x18_1).f2.f3.f0))) (fun _ hk => hk.2) (.int .i64 ((rd_T39 l0 x18_1).f2.f3.f1))) (fun _ hk => hk.2) (.int .i64 ((rd_T39 l0 x18_1).f2.f4))) (fun _ hk => hk.2) (.int .i64 ((rd_T39 l0 x18_1).f2.f5))) (fun _ hk => hk.1.2)))⟩; have n1_ : Aside0 (w14.heap[gb254]? = some (.cells #[.int .i64 ((rd_T39 l0 x18_1).f0), .int .i64 ((rd_T39 l0 x18_1).f1), .int .i64 ((rd_T39 l0 x18_1).f2.f0), .int .i64 ((rd_T39 l0 x18_1).f2.f1), .int .i64 ((rd_T39 l0 x18_1).f2.f2), .int .i64 ((rd_T39 l0 x18_1).f2.f3.f0), .int .i64 ((rd_T39 l0 x18_1).f2.f3.f1), .int .i64 ((rd_T39 l0 x18_1).f2.f4), .int .i64 ((rd_T39 l0 x18_1).f2.f5)] 39 (0, 0))) := ⟨(by rw [hw]; exact (by (with_reducible repeat (first | refine blk_drewN ?_ _ | refine blk_drew ?_ | refine blk_alloc ?_ _)); refine blk_put (cs := #[.int .i64 ((rd_T39 l0 x18_1).f0), .int .i64 ((rd_T39 l0 x18_1).f1), .int .i64 ((rd_T39 l0 x18_1).f2.f0), .int .i64 ((rd_T39 l0 x18_1).f2.f1), .int .i64 ((rd_T39 l0 x18_1).f2.f2), .int .i64 ((rd_T39 l0 x18_1).f2.f3.f0), .int .i64 ((rd_T39 l0 x18_1).f2.f3.f1), .int .i64 ((rd_T39 l0 x18_1).f2.f4), .int .i64 0]) ?_ 8 _ rfl; (with_reducible repeat (first | refine blk_drewN ?_ _ | refine blk_drew ?_ | refine blk_alloc ?_ _)); refine blk_put (cs := #[.int .i64 ((rd_T39 l0 x18_1).f0), .int .i64 ((rd_T39 l0 x18_1).f1), .int .i64 ((rd_T39 l0 x18_1).f2.f0), .int .i64 ((rd_T39 l0 x18_1).f2.f1), .int .i64 ((rd_T39 l0 x18_1).f2.f2), .int .i64 ((rd_T39 l0 x18_1).f2.f3.f0), .int .i64 ((rd_T39 l0 x18_1).f2.f3.f1), .int .i64 0, .int .i64 0]) ?_ 7 _ rfl; (with_reducible repeat (first | refine blk_drewN ?_ _ | refine blk_drew ?_ | refine blk_alloc ?_ _)); refine blk_put (cs := #[.int .i64 ((rd_T39 l0 x18_1).f0), .int .i64 ((rd_T39 l0 x18_1).f1), .int .i64 ((rd_T39 l0 x18_1).f2.f0), .int .i64 ((rd_T39 l0 x18_1).f2.f1), .int .i64 ((rd_T39 l0 x18_1).f2.f2), .int .i64 ((rd_T39 l0 x18_1).f2.f3.f0), .int .i64 0, .int .i64 0, .int .i64 0]) ?_ 6 _ rfl; (with_reducible repeat (first | refine blk_drewN ?_ _ | refine blk_drew ?_ | refine blk_alloc ?_ _)); refine blk_put (cs := #[.int .i64 ((rd_T39 l0 x18_1).f0), .int .i64 ((rd_T39 l0 x18_1).f1), .int .i64 ((rd_T39 l0 x18_1).f2.f0), .int .i64 ((rd_T39 l0 x18_1).f2.f1), .int .i64 ((rd_T39 l0 x18_1).f2.f2), .int .i64 0, .int .i64 0, .int .i64 0, .int .i64 0]) ?_ 5 _ rfl; (with_reducible repeat (first | refine blk_drewN ?_ _ | refine blk_drew ?_ | refine blk_alloc ?_ _)); refine blk_put (cs := #[.int .i64 ((rd_T39 l0 x18_1).f0), .int .i64 ((rd_T39 l0 x18_1).f1), .int .i64 ((rd_T39 l0 x18_1).f2.f0), .int .i64 ((rd_T39 l0 x18_1).f2.f1), .int .i64 0, .int .i64 0, .int .i64 0, .int .i64 0, .int .i64 0]) ?_ 4 _ rfl; (with_reducible repeat (first | refine blk_drewN ?_ _ | refine blk_drew ?_ | refine blk_alloc ?_ _)); refine blk_put (cs := #[.int .i64 ((rd_T39 l0 x18_1).f0), .int .i64 ((rd_T39 l0 x18_1).f1), .int .i64 ((rd_T39 l0 x18_1).f2.f0), .int .i64 0, .int .i64 0, .int .i64 0, .int .i64 0, .int .i64 0, .int .i64 0]) ?_ 3 _ rfl; (with_reducible repeat (first | refine blk_drewN ?_ _ | refine blk_drew ?_ | refine blk_alloc ?_ _)); refine blk_put (cs := #[.int .i64 ((rd_T39 l0 x18_1).f0), .int .i64 ((rd_T39 l0 x18_1).f1), .int .i64 0, .int .i64 0, .int .i64 0, .int .i64 0, .int .i64 0, .int .i64 0, .int .i64 0]) ?_ 2 _ rfl; (with_reducible repeat (first | refine blk_drewN ?_ _ | refine blk_drew ?_ | refine blk_alloc ?_ _)); refine blk_put (cs := #[.int .i64 ((rd_T39 l0 x18_1).f0), .int .i64 0, .int .i64 0, .int .i64 0, .int .i64 0, .int .i64 0, .int .i64 0, .int .i64 0, .int .i64 0]) ?_ 1 _ rfl; (with_reducible repeat (first | refine blk_drewN ?_ _ | refine blk_drew ?_ | refine blk_alloc ?_ _)); refine blk_put (cs := #[.int .i64 0, .int .i64 0, .int .i64 0, .int .i64 0, .int .i64 0, .int .i64 0, .int .i64 0, .int .i64 0, .int .i64 0]) ?_ 0 _ rfl; (with_reducible repeat (first | refine blk_drewN ?_ _ | refine blk_drew ?_ | refine blk_alloc ?_ _)); exact BK254.out))⟩; have n2_ : Aside0 (Below w.heap.size w w14) := ⟨(by rw [hw]; exact (by repeat (first | (with_reducible first | exact HB.out | apply below_alloc | apply pw_below_drewN | apply below_drew1 | refine below_set ?_ GE254.out) | exact HB.out)))⟩; clear hw; clear HO_5; clear BK254; clear HB; have HO_5 := n0_; have BK254 := n1_; have HB := n2_; clear n0_ n1_ n2_; have hcz15_0 : w14.cell? ⟨gb254, 0, none⟩ = some (.int .i64 ((rd_T39 l0 x18_1).f0)) := (blk_cell BK254.out 0).trans rfl; have hcz15_1 : w14.cell? ⟨gb254, 1, none⟩ = some (.int .i64 ((rd_T39 l0 x18_1).f1)) := (blk_cell BK254.out 1).trans rfl; have hcz15_2 : w14.cell? ⟨gb254, 2, none⟩ = some (.int .i64 ((rd_T39 l0 x18_1).f2.f0)) := (blk_cell BK254.out 2).trans rfl; have hcz15_3 : w14.cell? ⟨gb254, 3, none⟩ = some (.int .i64 ((rd_T39 l0 x18_1).f2.f1)) := (blk_cell BK254.out 3).trans rfl; have hcz15_4 : w14.cell? ⟨gb254, 4, none⟩ = some (.int .i64 ((rd_T39 l0 x18_1).f2.f2)) := (blk_cell BK254.out 4).trans rfl; have hcz15_5 : w14.cell? ⟨gb254, 5, none⟩ = some (.int .i64 ((rd_T39 l0 x18_1).f2.f3.f0)) := (blk_cell BK254.out 5).trans rfl; have hcz15_6 : w14.cell? ⟨gb254, 6, none⟩ = some (.int .i64 ((rd_T39 l0 x18_1).f2.f3.f1)) := (blk_cell BK254.out 6).trans rfl; have hcz15_7 : w14.cell? ⟨gb254, 7, none⟩ = some (.int .i64 ((rd_T39 l0 x18_1).f2.f4)) := (blk_cell BK254.out 7).trans rfl; have hcz15_8 : w14.cell? ⟨gb254, 8, none⟩ = some (.int .i64 ((rd_T39 l0 x18_1).f2.f5)) := (blk_cell BK254.out 8).trans rfl; have hfz15_0 := blk_frozen BK254.out 0; have hfz15_1 := blk_frozen BK254.out 1; have hfz15_2 := blk_frozen BK254.out 2; have hfz15_3 := blk_frozen BK254.out 3; have hfz15_4 := blk_frozen BK254.out 4; have hfz15_5 := blk_frozen BK254.out 5; have hfz15_6 := blk_frozen BK254.out 6; have hfz15_7 := blk_frozen BK254.out 7; have hfz15_8 := blk_frozen BK254.out 8; obtain ⟨Ao16, co16, eo16⟩ := Kd.R_slice HO_5.out; subst eo16) | ((with_reducible refine gate_callee (f := 43) rfl ?_); refine goesL_ (some 24) rfl rfl Try.func43 (by kernel_rfl) rfl #[.slice Ao16 x5_1.length co16, .agg #[.int .i64 ((rd_T39 l0 x18_1).f0), .int .i64 ((rd_T39 l0 x18_1).f1), .int .i64 ((rd_T39 l0 x18_1).f2.f0), .int .i64 ((rd_T39 l0 x18_1).f2.f1), .int .i64 ((rd_T39 l0 x18_1).f2.f2), .int .i64 ((rd_T39 l0 x18_1).f2.f3.f0), .int .i64 ((rd_T39 l0 x18_1).f2.f3.f1), .int .i64 ((rd_T39 l0 x18_1).f2.f4), .int .i64 ((rd_T39 l0 x18_1).f2.f5)]] rfl (by (try simp only [List.map_toArray, List.map_cons, List.map_nil]); first | done | rfl | (simp only [List.length_drop, List.length_take]; rfl)) ?_; (with_reducible refine (determinant_insert.calls k1 (fun k_ => some k_ = (.slice Ao16 x5_1.length co16 : Value).ownBlock) (.slice Ao16 x5_1.length co16) x5_1 ((rd_T39 l0 x18_1).f0) ((rd_T39 l0 x18_1).f1) ((rd_T39 l0 x18_1).f2.f0) ((rd_T39 l0 x18_1).f2.f1) ((rd_T39 l0 x18_1).f2.f2) ((rd_T39 l0 x18_1).f2.f3.f0) ((rd_T39 l0 x18_1).f2.f3.f1) ((rd_T39 l0 x18_1).f2.f4) ((rd_T39 l0 x18_1).f2.f5) t255 w _ ?side1 ?side2 A11.out).mono ?_); (case side1 => repeat (first | (with_reducible first | exact HB.out | apply below_alloc | apply pw_below_drewN | apply below_drew1 | refine below_set ?_ GE254.out) | exact HB.out)); (case side2 => exact Kd.R_tight rfl HO_5.out); rintro e w17 ⟨v256, rfl, ho0, hb, hkp⟩; refine ⟨_, rfl, ?_⟩; have n0_ := Aside0.mk (blk_kept (by (with_reducible repeat (first | refine blk_drewN ?_ _ | refine blk_drew ?_ | refine blk_alloc ?_ _)); exact BK254.out) hkp (fun hs_ => (fun e_ => (Kd.R_away HO_5.out (fun _ hk => hk)) e_) hs_)); have n1_ := Aside0.mk (Kd.R_mono (ok' := fun k_ => k_ ≠ gb254) ho0 (fun k_ hk_ => Or.elim hk_ (fun hs_ => fun e_ => (Kd.R_away HO_5.out (fun _ hk => hk)) (by rw [← e_]; exact hs_)) (fun hn_ => (Kd.freshB (g := gb254) (o := .cells #[.int .i64 ((rd_T39 l0 x18_1).f0), .int .i64 ((rd_T39 l0 x18_1).f1), .int .i64 ((rd_T39 l0 x18_1).f2.f0), .int .i64 ((rd_T39 l0 x18_1).f2.f1), .int .i64 ((rd_T39 l0 x18_1).f2.f2), .int .i64 ((rd_T39 l0 x18_1).f2.f3.f0), .int .i64 ((rd_T39 l0 x18_1).f2.f3.f1), .int .i64 ((rd_T39 l0 x18_1).f2.f4), .int .i64 ((rd_T39 l0 x18_1).f2.f5)] 39 (0, 0)) (by (with_reducible repeat (first | refine blk_drewN ?_ _ | refine blk_drew ?_ | refine blk_alloc ?_ _)); exact BK254.out) k_ hn_)))); have n2_ := Aside0.mk (hb); clear BK254; clear HB; clear HO_5; have BK254 := n0_; have HO257 := n1_; have HB := n2_; clear n0_ n1_ n2_; (try clear hb); (try clear hkp); (try clear ho0)))
        go_roundg k1
        case measure => have := HK1.out; omega
        case rel => exact ⟨(t255), (wrap64 (x18_1 + 1)), (by first | rfl | (simp; done) | (simp [*]; done)), H', ⟨by have := HK1.out; omega⟩, ⟨by (with_reducible repeat (first | apply Kd.R_alloc | apply Kd.R_drewN | apply Kd.R_drew)); exact Kd.R_mono HO257.out (fun _ hk => trivial)⟩, ⟨by repeat (first | (with_reducible first | exact HB.out | apply below_alloc | apply pw_below_drewN | apply below_drew1 | refine below_set ?_ GE254.out) | exact HB.out)⟩⟩
       ·rw [if_neg c10] at H
        exact absurd H (by simp)
      ·rw [if_neg c9] at H
       exact absurd H (by simp)
     ·rw [if_neg c8] at H
      have c8b0 : decide (x18_1 < (l0.length : Int)) = false := decide_eq_false c8
      clear c8
      have H' := Aside0.mk H
      clear H
      go_wp2
      go_loopg [5, 28] k1 (fun kq v5 v28 w' => ∃ (x5_2 : List (S39)) (x28_2 : Int), v28 = .int .i64 x28_2 ∧ Aside0 (determinant_Merge.l1 kq x5_2 l1 (l1.length : Int) x28_2 = some r) ∧ Aside0 (kq ≤ k1) ∧ Aside0 (Kd.R k39 39 w' w.heap.size (fun _ => True) v5 x5_2) ∧ Aside0 (Below w.heap.size w w'))
      case atStart => exact ⟨(x5_1), (0), (by first | rfl | (simp; done) | (simp [*]; done)), H', ⟨Nat.le_refl _⟩, ⟨by (with_reducible repeat (first | apply Kd.R_alloc | apply Kd.R_drewN | apply Kd.R_drew)); exact HO_5.out⟩, ⟨by repeat (first | (with_reducible first | exact HB.out | apply below_alloc | apply pw_below_drewN | apply below_drew1) | exact HB.out)⟩⟩
      case round =>
       clear H'
       try clear c1
       try clear c2
       try clear p2
       try clear q2
       try clear hx2
       try clear c4
       try clear c4b0
       try clear c4b1
       try clear c5
       try clear c5b0
       try clear c5b1
       try clear p6
       try clear c8
       try clear c8b0
       try clear c9
       try clear c9b0
       try clear c10
       try clear c10b0
       try clear hcz13_0
       try clear hcz13_1
       try clear hcz13_2
       try clear hcz13_3
       try clear hcz13_4
       try clear hcz13_5
       try clear hcz13_6
       try clear hcz13_7
       try clear hcz13_8
       try clear hcz15_0
       try clear hcz15_1
       try clear hcz15_2
       try clear hcz15_3
       try clear hcz15_4
       try clear hcz15_5
       try clear hcz15_6
       try clear hcz15_7
       try clear hcz15_8
       try clear hfz13_0
       try clear hfz13_1
       try clear hfz13_2
       try clear hfz13_3
       try clear hfz13_4
       try clear hfz13_5
       try clear hfz13_6
       try clear hfz13_7
       try clear hfz13_8
       try clear hfz15_0
       try clear hfz15_1
       try clear hfz15_2
       try clear hfz15_3
       try clear hfz15_4
       try clear hfz15_5
       try clear hfz15_6
       try clear hfz15_7
       try clear hfz15_8
       try clear hx253_0
       try clear hx253_1
       try clear hx253_2
       try clear hx253_3
       try clear hx253_4
       try clear hx253_5
       try clear hx253_6
       try clear hx253_7
       try clear hx253_8
       try clear p2
       try clear p253
       try clear p6
       try clear q253
       obtain ⟨x5_2, x28_2, rfl, HA, HK2, HO_5, HB⟩ := hrel
       cases gk with
       | zero => exact absurd HA.out (by simp [determinant_Merge.l1])
       | succ k2 =>
        have H := HA.out
        clear HA
        simp only [determinant_Merge.l1] at H
        by_cases c18 : x28_2 < (l1.length : Int)
        ·rw [if_pos c18] at H
         have c18b0 : decide (x28_2 < (l1.length : Int)) = true := decide_eq_true c18
         clear c18
         by_cases c19 : 0 ≤ x28_2
         ·rw [if_pos c19] at H
          have c19b0 : decide (0 ≤ x28_2) = true := decide_eq_true c19
          clear c19
          by_cases c20 : x28_2 < (l1.length : Int)
          ·rw [if_pos c20] at H
           have c20b0 : decide (x28_2 < (l1.length : Int)) = true := decide_eq_true c20
           clear c20
           replace H := Option.bind_eq_some_iff.mp H
           obtain ⟨t260, A210, H⟩ := H
           replace H : (determinant_Merge.l1 k2 t260 l1 (l1.length : Int) (wrap64 (x28_2 + 1))) = some r := H
           have A21 := Aside0.mk A210
           clear A210
           have H' := Aside0.mk H
           clear H
           have p258 : 0 ≤ (x28_2 : Int) := of_decide_eq_true (by first | (with_reducible assumption) | assumption)
           have q258 : x28_2 < (l1.length : Int) := of_decide_eq_true (by first | (with_reducible assumption) | assumption)
           obtain ⟨ad258, e258, hx258_0, hx258_1, hx258_2, hx258_3, hx258_4, hx258_5, hx258_6, hx258_7, hx258_8⟩ := at_T39 HR1.out x28_2 p258 q258
           cases e258
           replace hx258_0 := (HB.out.cell (World.block_lt_of_cell? w _ hx258_0)).trans hx258_0
           replace hx258_1 := (HB.out.cell (World.block_lt_of_cell? w _ hx258_1)).trans hx258_1
           replace hx258_2 := (HB.out.cell (World.block_lt_of_cell? w _ hx258_2)).trans hx258_2
           replace hx258_3 := (HB.out.cell (World.block_lt_of_cell? w _ hx258_3)).trans hx258_3
           replace hx258_4 := (HB.out.cell (World.block_lt_of_cell? w _ hx258_4)).trans hx258_4
           replace hx258_5 := (HB.out.cell (World.block_lt_of_cell? w _ hx258_5)).trans hx258_5
           replace hx258_6 := (HB.out.cell (World.block_lt_of_cell? w _ hx258_6)).trans hx258_6
           replace hx258_7 := (HB.out.cell (World.block_lt_of_cell? w _ hx258_7)).trans hx258_7
           replace hx258_8 := (HB.out.cell (World.block_lt_of_cell? w _ hx258_8)).trans hx258_8
           replace p258 := eq_true p258
           replace q258 := eq_true q258
           go_wp2_with (first | ((with_reducible refine gate_dst (N := 9) rfl ?_); refine box_event ?hg (N := 9) ?hd (cs := #[.int .i64 0, .int .i64 0, .int .i64 0, .int .i64 0, .int .i64 0, .int .i64 0, .int .i64 0, .int .i64 0, .int .i64 0]) (t := 39) ?hr ?_; (case hd => rfl); (case hg => rfl); (case hr => first | (go_simp; done) | (go_simp; rfl)); intro gb259 hg w22 hbox hb; have n0_ := Aside0.mk (Kd.R_below (Kd.R_elderB (by (with_reducible repeat (first | apply Kd.R_alloc | apply Kd.R_drewN | apply Kd.R_drew)); exact HO_5.out) gb259 (Nat.le_of_eq hg.symm)) hb); have n1_ := Aside0.mk (below_step (by repeat (first | (with_reducible first | exact HB.out | apply below_alloc | apply pw_below_drewN | apply below_drew1) | exact HB.out)) hb); have n2_ := Aside0.mk (hbox); have n3_ := Aside0.mk ((by rw [hg]; exact (below_size (by repeat (first | (with_reducible first | exact HB.out | apply below_alloc | apply pw_below_drewN | apply below_drew1) | exact HB.out))) : w.heap.size ≤ gb259)); have n4_ := Aside0.mk ((by rw [hg]; exact (below_size (by repeat (first | (with_reducible first | exact HB.out | apply below_alloc | apply pw_below_drewN | apply below_drew1) | exact HB.out))) : w.heap.size ≤ gb259)); clear HO_5; clear HB; have HO_5 := n0_; have HB := n1_; have BK259 := n2_; have GW259 := n3_; have GE259 := n4_; clear n0_ n1_ n2_ n3_ n4_; clear hb hbox hg; have hcz23_0 : w22.cell? ⟨gb259, 0, none⟩ = some (.int .i64 0) := (blk_cell BK259.out 0).trans rfl; have hcz23_1 : w22.cell? ⟨gb259, 1, none⟩ = some (.int .i64 0) := (blk_cell BK259.out 1).trans rfl; have hcz23_2 : w22.cell? ⟨gb259, 2, none⟩ = some (.int .i64 0) := (blk_cell BK259.out 2).trans rfl; have hcz23_3 : w22.cell? ⟨gb259, 3, none⟩ = some (.int .i64 0) := (blk_cell BK259.out 3).trans rfl; have hcz23_4 : w22.cell? ⟨gb259, 4, none⟩ = some (.int .i64 0) := (blk_cell BK259.out 4).trans rfl; have hcz23_5 : w22.cell? ⟨gb259, 5, none⟩ = some (.int .i64 0) := (blk_cell BK259.out 5).trans rfl; have hcz23_6 : w22.cell? ⟨gb259, 6, none⟩ = some (.int .i64 0) := (blk_cell BK259.out 6).trans rfl; have hcz23_7 : w22.cell? ⟨gb259, 7, none⟩ = some (.int .i64 0) := (blk_cell BK259.out 7).trans rfl; have hcz23_8 : w22.cell? ⟨gb259, 8, none⟩ = some (.int .i64 0) := (blk_cell BK259.out 8).trans rfl; have hfz23_0 := blk_frozen BK259.out 0; have hfz23_1 := blk_frozen BK259.out 1; have hfz23_2 := blk_frozen BK259.out 2; have hfz23_3 := blk_frozen BK259.out 3; have hfz23_4 := blk_frozen BK259.out 4; have hfz23_5 := blk_frozen BK259.out 5; have hfz23_6 := blk_frozen BK259.out 6; have hfz23_7 := blk_frozen BK259.out 7; have hfz23_8 := blk_frozen BK259.out 8) | ((with_reducible refine gate_store (t := 39) (p := 9) rfl ?_); refine store_event (t := 39) (p := 9) (v := ?vo_w24) (w1 := (((((((((w22.setCell ⟨gb259, 0, none⟩ (.int .i64 ((rd_T39 l1 x28_2).f0))).setCell ⟨gb259, 1, none⟩ (.int .i64 ((rd_T39 l1 x28_2).f1))).setCell ⟨gb259, 2, none⟩ (.int .i64 ((rd_T39 l1 x28_2).f2.f0))).setCell ⟨gb259, 3, none⟩ (.int .i64 ((rd_T39 l1 x28_2).f2.f1))).setCell ⟨gb259, 4, none⟩ (.int .i64 ((rd_T39 l1 x28_2).f2.f2))).setCell ⟨gb259, 5, none⟩ (.int .i64 ((rd_T39 l1 x28_2).f2.f3.f0))).setCell ⟨gb259, 6, none⟩ (.int .i64 ((rd_T39 l1 x28_2).f2.f3.f1))).setCell ⟨gb259, 7, none⟩ (.int .i64 ((rd_T39 l1 x28_2).f2.f4))).setCell ⟨gb259, 8, none⟩ (.int .i64 ((rd_T39 l1 x28_2).f2.f5)))) ?hg ?ho ?hn ?hr ?_; (case ho => rfl); (case hg => rfl); (case hn => rfl); (case hr => first | (go_simp; done) | (go_simp; rfl)); intro w24 hw; have n0_ : Aside0 (Kd.R k39 39 w24 w.heap.size (fun k_ => k_ ≠ gb259) u5 x5_2) := ⟨(by rw [hw]; exact (by (with_reducible repeat (first | apply Kd.R_alloc | apply Kd.R_drewN | apply Kd.R_drew)); exact Kd.R_mono (Kd.R_far (p := ⟨gb259, 8, none⟩) (Kd.R_far (p := ⟨gb259, 7, none⟩) (Kd.R_far (p := ⟨gb259, 6, none⟩) (Kd.R_far (p := ⟨gb259, 5, none⟩) (Kd.R_far (p := ⟨gb259, 4, none⟩) (Kd.R_far (p := ⟨gb259, 3, none⟩) (Kd.R_far (p := ⟨gb259, 2, none⟩) (Kd.R_far (p := ⟨gb259, 1, none⟩) (Kd.R_far (p := ⟨gb259, 0, none⟩) (Kd.R_mono HO_5.out (fun k_ hk => (⟨hk, hk.2⟩ : _ ∧ k_ ≠ gb259))) (fun _ hk => hk.2) (.int .i64 ((rd_T39 l1 x28_2).f0))) (fun _ hk => hk.2) (.int .i64 ((rd_T39 l1 x28_2).f1))) (fun _ hk => hk.2) (.int .i64 ((rd_T39 l1 x28_2).f2.f0))) (fun _ hk => hk.2) (.int .i64 ((rd_T39 l1 x28_2).f2.f1))) (fun _ hk => hk.2) (.int .i64 ((rd_T39 l1 x28_2).f2.f2))) (fun _ hk => hk.2) (.int .i64 ((rd_T39 l1 x28_2).f2.f3.f0))) (fun _ hk => hk.2) (.int .i64 ((rd_T39 l1 x28_2).f2.f3.f1))) (fun _ hk => hk.2) (.int .i64 ((rd_T39 l1 x28_2).f2.f4))) (fun _ hk => hk.2) (.int .i64 ((rd_T39 l1 x28_2).f2.f5))) (fun _ hk => hk.1.2)))⟩; have n1_ : Aside0 (w24.heap[gb259]? = some (.cells #[.int .i64 ((rd_T39 l1 x28_2).f0), .int .i64 ((rd_T39 l1 x28_2).f1), .int .i64 ((rd_T39 l1 x28_2).f2.f0), .int .i64 ((rd_T39 l1 x28_2).f2.f1), .int .i64 ((rd_T39 l1 x28_2).f2.f2), .int .i64 ((rd_T39 l1 x28_2).f2.f3.f0), .int .i64 ((rd_T39 l1 x28_2).f2.f3.f1), .int .i64 ((rd_T39 l1 x28_2).f2.f4), .int .i64 ((rd_T39 l1 x28_2).f2.f5)] 39 (0, 0))) := ⟨(by rw [hw]; exact (by (with_reducible repeat (first | refine blk_drewN ?_ _ | refine blk_drew ?_ | refine blk_alloc ?_ _)); refine blk_put (cs := #[.int .i64 ((rd_T39 l1 x28_2).f0), .int .i64 ((rd_T39 l1 x28_2).f1), .int .i64 ((rd_T39 l1 x28_2).f2.f0), .int .i64 ((rd_T39 l1 x28_2).f2.f1), .int .i64 ((rd_T39 l1 x28_2).f2.f2), .int .i64 ((rd_T39 l1 x28_2).f2.f3.f0), .int .i64 ((rd_T39 l1 x28_2).f2.f3.f1), .int .i64 ((rd_T39 l1 x28_2).f2.f4), .int .i64 0]) ?_ 8 _ rfl; (with_reducible repeat (first | refine blk_drewN ?_ _ | refine blk_drew ?_ | refine blk_alloc ?_ _)); refine blk_put (cs := #[.int .i64 ((rd_T39 l1 x28_2).f0), .int .i64 ((rd_T39 l1 x28_2).f1), .int .i64 ((rd_T39 l1 x28_2).f2.f0), .int .i64 ((rd_T39 l1 x28_2).f2.f1), .int .i64 ((rd_T39 l1 x28_2).f2.f2), .int .i64 ((rd_T39 l1 x28_2).f2.f3.f0), .int .i64 ((rd_T39 l1 x28_2).f2.f3.f1), .int .i64 0, .int .i64 0]) ?_ 7 _ rfl; (with_reducible repeat (first | refine blk_drewN ?_ _ | refine blk_drew ?_ | refine blk_alloc ?_ _)); refine blk_put (cs := #[.int .i64 ((rd_T39 l1 x28_2).f0), .int .i64 ((rd_T39 l1 x28_2).f1), .int .i64 ((rd_T39 l1 x28_2).f2.f0), .int .i64 ((rd_T39 l1 x28_2).f2.f1), .int .i64 ((rd_T39 l1 x28_2).f2.f2), .int .i64 ((rd_T39 l1 x28_2).f2.f3.f0), .int .i64 0, .int .i64 0, .int .i64 0]) ?_ 6 _ rfl; (with_reducible repeat (first | refine blk_drewN ?_ _ | refine blk_drew ?_ | refine blk_alloc ?_ _)); refine blk_put (cs := #[.int .i64 ((rd_T39 l1 x28_2).f0), .int .i64 ((rd_T39 l1 x28_2).f1), .int .i64 ((rd_T39 l1 x28_2).f2.f0), .int .i64 ((rd_T39 l1 x28_2).f2.f1), .int .i64 ((rd_T39 l1 x28_2).f2.f2), .int .i64 0, .int .i64 0, .int .i64 0, .int .i64 0]) ?_ 5 _ rfl; (with_reducible repeat (first | refine blk_drewN ?_ _ | refine blk_drew ?_ | refine blk_alloc ?_ _)); refine blk_put (cs := #[.int .i64 ((rd_T39 l1 x28_2).f0), .int .i64 ((rd_T39 l1 x28_2).f1), .int .i64 ((rd_T39 l1 x28_2).f2.f0), .int .i64 ((rd_T39 l1 x28_2).f2.f1), .int .i64 0, .int .i64 0, .int .i64 0, .int .i64 0, .int .i64 0]) ?_ 4 _ rfl; (with_reducible repeat (first | refine blk_drewN ?_ _ | refine blk_drew ?_ | refine blk_alloc ?_ _)); refine blk_put (cs := #[.int .i64 ((rd_T39 l1 x28_2).f0), .int .i64 ((rd_T39 l1 x28_2).f1), .int .i64 ((rd_T39 l1 x28_2).f2.f0), .int .i64 0, .int .i64 0, .int .i64 0, .int .i64 0, .int .i64 0, .int .i64 0]) ?_ 3 _ rfl; (with_reducible repeat (first | refine blk_drewN ?_ _ | refine blk_drew ?_ | refine blk_alloc ?_ _)); refine blk_put (cs := #[.int .i64 ((rd_T39 l1 x28_2).f0), .int .i64 ((rd_T39 l1 x28_2).f1), .int .i64 0, .int .i64 0, .int .i64 0, .int .i64 0, .int .i64 0, .int .i64 0, .int .i64 0]) ?_ 2 _ rfl; (with_reducible repeat (first | refine blk_drewN ?_ _ | refine blk_drew ?_ | refine blk_alloc ?_ _)); refine blk_put (cs := #[.int .i64 ((rd_T39 l1 x28_2).f0), .int .i64 0, .int .i64 0, .int .i64 0, .int .i64 0, .int .i64 0, .int .i64 0, .int .i64 0, .int .i64 0]) ?_ 1 _ rfl; (with_reducible repeat (first | refine blk_drewN ?_ _ | refine blk_drew ?_ | refine blk_alloc ?_ _)); refine blk_put (cs := #[.int .i64 0, .int .i64 0, .int .i64 0, .int .i64 0, .int .i64 0, .int .i64 0, .int .i64 0, .int .i64 0, .int .i64 0]) ?_ 0 _ rfl; (with_reducible repeat (first | refine blk_drewN ?_ _ | refine blk_drew ?_ | refine blk_alloc ?_ _)); exact BK259.out))⟩; have n2_ : Aside0 (Below w.heap.size w w24) := ⟨(by rw [hw]; exact (by repeat (first | (with_reducible first | exact HB.out | apply below_alloc | apply pw_below_drewN | apply below_drew1 | refine below_set ?_ GE259.out) | exact HB.out)))⟩; clear hw; clear HO_5; clear BK259; clear HB; have HO_5 := n0_; have BK259 := n1_; have HB := n2_; clear n0_ n1_ n2_; have hcz25_0 : w24.cell? ⟨gb259, 0, none⟩ = some (.int .i64 ((rd_T39 l1 x28_2).f0)) := (blk_cell BK259.out 0).trans rfl; have hcz25_1 : w24.cell? ⟨gb259, 1, none⟩ = some (.int .i64 ((rd_T39 l1 x28_2).f1)) := (blk_cell BK259.out 1).trans rfl; have hcz25_2 : w24.cell? ⟨gb259, 2, none⟩ = some (.int .i64 ((rd_T39 l1 x28_2).f2.f0)) := (blk_cell BK259.out 2).trans rfl; have hcz25_3 : w24.cell? ⟨gb259, 3, none⟩ = some (.int .i64 ((rd_T39 l1 x28_2).f2.f1)) := (blk_cell BK259.out 3).trans rfl; have hcz25_4 : w24.cell? ⟨gb259, 4, none⟩ = some (.int .i64 ((rd_T39 l1 x28_2).f2.f2)) := (blk_cell BK259.out 4).trans rfl; have hcz25_5 : w24.cell? ⟨gb259, 5, none⟩ = some (.int .i64 ((rd_T39 l1 x28_2).f2.f3.f0)) := (blk_cell BK259.out 5).trans rfl; have hcz25_6 : w24.cell? ⟨gb259, 6, none⟩ = some (.int .i64 ((rd_T39 l1 x28_2).f2.f3.f1)) := (blk_cell BK259.out 6).trans rfl; have hcz25_7 : w24.cell? ⟨gb259, 7, none⟩ = some (.int .i64 ((rd_T39 l1 x28_2).f2.f4)) := (blk_cell BK259.out 7).trans rfl; have hcz25_8 : w24.cell? ⟨gb259, 8, none⟩ = some (.int .i64 ((rd_T39 l1 x28_2).f2.f5)) := (blk_cell BK259.out 8).trans rfl; have hfz25_0 := blk_frozen BK259.out 0; have hfz25_1 := blk_frozen BK259.out 1; have hfz25_2 := blk_frozen BK259.out 2; have hfz25_3 := blk_frozen BK259.out 3; have hfz25_4 := blk_frozen BK259.out 4; have hfz25_5 := blk_frozen BK259.out 5; have hfz25_6 := blk_frozen BK259.out 6; have hfz25_7 := blk_frozen BK259.out 7; have hfz25_8 := blk_frozen BK259.out 8; obtain ⟨Ao26, co26, eo26⟩ := Kd.R_slice HO_5.out; subst eo26) | ((with_reducible refine gate_callee (f := 43) rfl ?_); refine goesL_ (some 34) rfl rfl Try.func43 (by kernel_rfl) rfl #[.slice Ao26 x5_2.length co26, .agg #[.int .i64 ((rd_T39 l1 x28_2).f0), .int .i64 ((rd_T39 l1 x28_2).f1), .int .i64 ((rd_T39 l1 x28_2).f2.f0), .int .i64 ((rd_T39 l1 x28_2).f2.f1), .int .i64 ((rd_T39 l1 x28_2).f2.f2), .int .i64 ((rd_T39 l1 x28_2).f2.f3.f0), .int .i64 ((rd_T39 l1 x28_2).f2.f3.f1), .int .i64 ((rd_T39 l1 x28_2).f2.f4), .int .i64 ((rd_T39 l1 x28_2).f2.f5)]] rfl (by (try simp only [List.map_toArray, List.map_cons, List.map_nil]); first | done | rfl | (simp only [List.length_drop, List.length_take]; rfl)) ?_; (with_reducible refine (determinant_insert.calls k2 (fun k_ => some k_ = (.slice Ao26 x5_2.length co26 : Value).ownBlock) (.slice Ao26 x5_2.length co26) x5_2 ((rd_T39 l1 x28_2).f0) ((rd_T39 l1 x28_2).f1) ((rd_T39 l1 x28_2).f2.f0) ((rd_T39 l1 x28_2).f2.f1) ((rd_T39 l1 x28_2).f2.f2) ((rd_T39 l1 x28_2).f2.f3.f0) ((rd_T39 l1 x28_2).f2.f3.f1) ((rd_T39 l1 x28_2).f2.f4) ((rd_T39 l1 x28_2).f2.f5) t260 w _ ?side1 ?side2 A21.out).mono ?_); (case side1 => repeat (first | (with_reducible first | exact HB.out | apply below_alloc | apply pw_below_drewN | apply below_drew1 | refine below_set ?_ GE259.out) | exact HB.out)); (case side2 => exact Kd.R_tight rfl HO_5.out); rintro e w27 ⟨v261, rfl, ho0, hb, hkp⟩; refine ⟨_, rfl, ?_⟩; have n0_ := Aside0.mk (blk_kept (by (with_reducible repeat (first | refine blk_drewN ?_ _ | refine blk_drew ?_ | refine blk_alloc ?_ _)); exact BK259.out) hkp (fun hs_ => (fun e_ => (Kd.R_away HO_5.out (fun _ hk => hk)) e_) hs_)); have n1_ := Aside0.mk (Kd.R_mono (ok' := fun k_ => k_ ≠ gb259) ho0 (fun k_ hk_ => Or.elim hk_ (fun hs_ => fun e_ => (Kd.R_away HO_5.out (fun _ hk => hk)) (by rw [← e_]; exact hs_)) (fun hn_ => (Kd.freshB (g := gb259) (o := .cells #[.int .i64 ((rd_T39 l1 x28_2).f0), .int .i64 ((rd_T39 l1 x28_2).f1), .int .i64 ((rd_T39 l1 x28_2).f2.f0), .int .i64 ((rd_T39 l1 x28_2).f2.f1), .int .i64 ((rd_T39 l1 x28_2).f2.f2), .int .i64 ((rd_T39 l1 x28_2).f2.f3.f0), .int .i64 ((rd_T39 l1 x28_2).f2.f3.f1), .int .i64 ((rd_T39 l1 x28_2).f2.f4), .int .i64 ((rd_T39 l1 x28_2).f2.f5)] 39 (0, 0)) (by (with_reducible repeat (first | refine blk_drewN ?_ _ | refine blk_drew ?_ | refine blk_alloc ?_ _)); exact BK259.out) k_ hn_)))); have n2_ := Aside0.mk (hb); clear BK259; clear HB; clear HO_5; have BK259 := n0_; have HO262 := n1_; have HB := n2_; clear n0_ n1_ n2_; (try clear hb); (try clear hkp); (try clear ho0)))
           go_roundg k2
           case measure => have := HK1.out; have := HK2.out; omega
           case rel => exact ⟨(t260), (wrap64 (x28_2 + 1)), (by first | rfl | (simp; done) | (simp [*]; done)), H', ⟨by have := HK1.out; have := HK2.out; omega⟩, ⟨by (with_reducible repeat (first | apply Kd.R_alloc | apply Kd.R_drewN | apply Kd.R_drew)); exact Kd.R_mono HO262.out (fun _ hk => trivial)⟩, ⟨by repeat (first | (with_reducible first | exact HB.out | apply below_alloc | apply pw_below_drewN | apply below_drew1 | refine below_set ?_ GE259.out) | exact HB.out)⟩⟩
          ·rw [if_neg c20] at H
           exact absurd H (by simp)
         ·rw [if_neg c19] at H
          exact absurd H (by simp)
        ·rw [if_neg c18] at H
         have c18b0 : decide (x28_2 < (l1.length : Int)) = false := decide_eq_false c18
         clear c18
         obtain rfl := Option.some.inj H
         go_wp2
         go_ret
         exact ⟨_, by first | rfl | (simp [errW_none, errW_some] <;> rfl) | (simp only [← hji3]; first | rfl | (simp [errW_none, errW_some] <;> rfl)) | (simp [*, errW_none, errW_some] <;> rfl), by (with_reducible repeat (first | apply Kd.R_alloc | apply Kd.R_drewN | apply Kd.R_drew)); exact HO_5.out, by repeat (first | (with_reducible first | exact HB.out | apply below_alloc | apply pw_below_drewN | apply below_drew1) | exact HB.out)⟩
  ·rw [if_neg c5] at H
   exact absurd H (by simp)
 ·rw [if_neg c4] at H
  exact absurd H (by simp)

/-! ### rollbacknetmake_Mod: function 27 -/
def rollbacknetmake_Mod.f (a0 : Int) (a1 : Int) : Option (Int) := if a1 = 0 then (none) else (if (Int.tmod a0 a1) < 0 then (some (wrap64 ((Int.tmod a0 a1) + a1))) else (some (Int.tmod a0 a1)))
set_option maxHeartbeats 8000000 in
set_option maxRecDepth 100000 in
theorem rollbacknetmake_Mod.calls (a0 : Int) (a1 : Int) (r : Int) (w : World) (h : rollbacknetmake_Mod.f a0 a1 = some r) :
  Calls Try.prog 27 #[.int .i64 a0, .int .i64 a1] w fun e w' => e = .returned (.int .i64 r) ∧ Drawn0 w w' := by
 have H : (if a1 = 0 then (none) else (if (Int.tmod a0 a1) < 0 then (some (wrap64 ((Int.tmod a0 a1) + a1))) else (some (Int.tmod a0 a1)))) = some r := h
 clear h
 by_cases c3 : a1 = 0
 ·rw [if_pos c3] at H
  exact absurd H (by simp)
 ·rw [if_neg c3] at H
  have c3b0 : (a1 == 0) = false := beq_eq_false_iff_ne.mpr c3
  have c3b1 : (a1 != 0) = true := bne_iff_ne.mpr c3
  by_cases c4 : (Int.tmod a0 a1) < 0
  ·rw [if_pos c4] at H
   have c4b0 : decide ((Int.tmod a0 a1) < 0) = true := decide_eq_true c4
   clear c4
   obtain rfl := Option.some.inj H
   go_enter Try.func27, Try.ntmps27
   go_wp2
   go_ret
   exact ⟨by first | rfl | (simp; done) | (simp [*]; done), by repeat (first | exact Drawn0.refl _ | apply Drawn0.step)⟩
  ·rw [if_neg c4] at H
   have c4b0 : decide ((Int.tmod a0 a1) < 0) = false := decide_eq_false c4
   clear c4
   obtain rfl := Option.some.inj H
   go_enter Try.func27, Try.ntmps27
   go_wp2
   go_ret
   exact ⟨by first | rfl | (simp; done) | (simp [*]; done), by repeat (first | exact Drawn0.refl _ | apply Drawn0.step)⟩

/-! ### determinant_Cut: function 31 -/
def determinant_Cut.l0 : Nat → Int → Int → List (S39) → List (S39) → Int → Int → Option ((List (S39)))
 | 0, _, _, _, _, _, _ => none
 | k + 1, x1, x2, x7, x10, x11, x12 => if x12 < x11 then (if 0 ≤ x12 then (if x12 < (x10.length : Int) then (if ((rd_T39 x10 x12).f0) = x1 then (if ((rd_T39 x10 x12).f1) ≤ x2 then (if x7.length < 1954687338268 then (determinant_Cut.l0 k x1 x2 (x7 ++ [(⟨(rd_T39 x10 x12).f0, (rd_T39 x10 x12).f1, (⟨(rd_T39 x10 x12).f2.f0, (rd_T39 x10 x12).f2.f1, (rd_T39 x10 x12).f2.f2, (⟨(rd_T39 x10 x12).f2.f3.f0, (rd_T39 x10 x12).f2.f3.f1⟩ : S35), (rd_T39 x10 x12).f2.f4, (rd_T39 x10 x12).f2.f5⟩ : S37)⟩ : S39)]) x10 x11 (wrap64 (x12 + 1))) else (none)) else (determinant_Cut.l0 k x1 x2 x7 x10 x11 (wrap64 (x12 + 1)))) else (if x7.length < 1954687338268 then (determinant_Cut.l0 k x1 x2 (x7 ++ [(⟨(rd_T39 x10 x12).f0, (rd_T39 x10 x12).f1, (⟨(rd_T39 x10 x12).f2.f0, (rd_T39 x10 x12).f2.f1, (rd_T39 x10 x12).f2.f2, (⟨(rd_T39 x10 x12).f2.f3.f0, (rd_T39 x10 x12).f2.f3.f1⟩ : S35), (rd_T39 x10 x12).f2.f4, (rd_T39 x10 x12).f2.f5⟩ : S37)⟩ : S39)]) x10 x11 (wrap64 (x12 + 1))) else (none))) else (none)) else (none)) else (some x7)
def determinant_Cut.f (k : Nat) (l0 : List (S39)) (a1 : Int) (a2 : Int) : Option ((List (S39))) := determinant_Cut.l0 k a1 a2 ([] : List (S39)) l0 (l0.length : Int) 0
theorem determinant_Cut.mono_l : ∀ k, (∀ y0 y1 y2 y3 y4 y5, LeO (determinant_Cut.l0 k y0 y1 y2 y3 y4 y5) (determinant_Cut.l0 (k + 1) y0 y1 y2 y3 y4 y5))
 | 0 => fun _ _ _ _ _ _ r h => by simp [determinant_Cut.l0] at h
 | k + 1 => by
  have ih0 := determinant_Cut.mono_l k
  ·intro y0 y1 y2 y3 y4 y5
   unfold determinant_Cut.l0
   repeat' first
   | (with_reducible exact ih0 _ _ _ _ _ _)
   | (with_reducible exact LeO.refl _)
   | (with_reducible exact LeO.none _)
   | (with_reducible refine LeO.ite ?_ ?_)
   | (with_reducible refine LeO.bind ?_ (fun _ => ?_))
   | exact ih0 _ _ _ _ _ _
   | exact LeO.none _
   | refine LeO.ite ?_ ?_
   | refine LeO.bind ?_ (fun _ => ?_)
theorem determinant_Cut.mono : ∀ a0 a1 a2 k, LeO (determinant_Cut.f k a0 a1 a2) (determinant_Cut.f (k + 1) a0 a1 a2) := by
 intro a0 a1 a2 k
 have ih0 := determinant_Cut.mono_l k
 unfold determinant_Cut.f
 repeat' first
   | (with_reducible exact ih0 _ _ _ _ _ _)
   | (with_reducible exact LeO.refl _)
   | (with_reducible exact LeO.none _)
   | (with_reducible refine LeO.ite ?_ ?_)
   | (with_reducible refine LeO.bind ?_ (fun _ => ?_))
   | exact ih0 _ _ _ _ _ _
   | exact LeO.none _
   | refine LeO.ite ?_ ?_
   | refine LeO.bind ?_ (fun _ => ?_)
set_option maxHeartbeats 8000000 in
set_option maxRecDepth 100000 in
theorem determinant_Cut.calls (k : Nat) (A0 : Option Addr) (c0 : Nat) (l0 : List (S39)) (a1 : Int) (a2 : Int) (r : List (S39)) (w : World) (hr0 : Kd.C k39 w A0 l0.length l0) (hc0 : l0.length ≤ c0) (h : determinant_Cut.f k l0 a1 a2 = some r) :
  Calls Try.prog 31 #[.slice A0 l0.length c0, .int .i64 a1, .int .i64 a2] w fun e w' => ∃ v0_ : Value, e = .returned (v0_) ∧ Kd.R k39 39 w' w.heap.size (fun _ => True) v0_ r ∧ Below w.heap.size w w' := by
 have hu39 := Try.underlying39
 have HR0 := Aside0.mk hr0
 have HC0 := Aside0.mk hc0
 clear hr0 hc0
 have HB := Aside0.mk (Below.refl w.heap.size w)
 have H : (determinant_Cut.l0 k a1 a2 ([] : List (S39)) l0 (l0.length : Int) 0) = some r := h
 clear h
 have H' := Aside0.mk H
 clear H
 go_enter Try.func31, Try.ntmps31
 go_wp2
 go_loopg [7, 12] k (fun kq v7 v12 w' => ∃ (x7_1 : List (S39)) (x12_1 : Int), v12 = .int .i64 x12_1 ∧ Aside0 (determinant_Cut.l0 kq a1 a2 x7_1 l0 (l0.length : Int) x12_1 = some r) ∧ Aside0 (kq ≤ k) ∧ Aside0 (Kd.R k39 39 w' w.heap.size (fun _ => True) v7 x7_1) ∧ Aside0 (Below w.heap.size w w'))
 case atStart => exact ⟨(([] : List (S39))), (0), (by first | rfl | (simp; done) | (simp [*]; done)), H', ⟨Nat.le_refl _⟩, ⟨by first | exact Kd.R_nil _ _ _ _ _ | exact Kd.N_nil _ _ _ _ _ | exact Kd.V_nil _ _ _ _ _ | exact Kd.Q_nil _ _ _ _ _ | exact Kd.S_nil _ _ _ _ _⟩, ⟨by repeat (first | (with_reducible first | exact HB.out | apply below_alloc | apply pw_below_drewN | apply below_drew1) | exact HB.out)⟩⟩
 case round =>
  clear H'
  try clear p2
  try clear c3
  obtain ⟨x7_1, x12_1, rfl, HA, HK1, HO_7, HB⟩ := hrel
  cases gk with
  | zero => exact absurd HA.out (by simp [determinant_Cut.l0])
  | succ k1 =>
   have H := HA.out
   clear HA
   simp only [determinant_Cut.l0] at H
   by_cases c4 : x12_1 < (l0.length : Int)
   ·rw [if_pos c4] at H
    have c4b0 : decide (x12_1 < (l0.length : Int)) = true := decide_eq_true c4
    clear c4
    by_cases c5 : 0 ≤ x12_1
    ·rw [if_pos c5] at H
     have c5b0 : decide (0 ≤ x12_1) = true := decide_eq_true c5
     clear c5
     by_cases c6 : x12_1 < (l0.length : Int)
     ·rw [if_pos c6] at H
      have c6b0 : decide (x12_1 < (l0.length : Int)) = true := decide_eq_true c6
      clear c6
      by_cases c7 : ((rd_T39 l0 x12_1).f0) = a1
      ·rw [if_pos c7] at H
       have c7b0 : (((rd_T39 l0 x12_1).f0) == a1) = true := beq_iff_eq.mpr c7
       have c7b1 : (((rd_T39 l0 x12_1).f0) != a1) = false := bne_eq_false_iff_eq.mpr c7
       clear c7
       by_cases c8 : ((rd_T39 l0 x12_1).f1) ≤ a2
       ·rw [if_pos c8] at H
        have c8b0 : decide (((rd_T39 l0 x12_1).f1) ≤ a2) = true := decide_eq_true c8
        clear c8
        by_cases c9 : x7_1.length < 1954687338268
        ·rw [if_pos c9] at H
         have LMc9 := Aside0.mk c9
         clear c9
         obtain ⟨y265, hy265⟩ : ∃ y_ : List (S39), y_ = (x7_1 ++ [(⟨(rd_T39 l0 x12_1).f0, (rd_T39 l0 x12_1).f1, (⟨(rd_T39 l0 x12_1).f2.f0, (rd_T39 l0 x12_1).f2.f1, (rd_T39 l0 x12_1).f2.f2, (⟨(rd_T39 l0 x12_1).f2.f3.f0, (rd_T39 l0 x12_1).f2.f3.f1⟩ : S35), (rd_T39 l0 x12_1).f2.f4, (rd_T39 l0 x12_1).f2.f5⟩ : S37)⟩ : S39)]) := ⟨_, rfl⟩
         replace H : (determinant_Cut.l0 k1 a1 a2 y265 l0 (l0.length : Int) (wrap64 (x12_1 + 1))) = some r := by first | (rw [hy265]; with_reducible exact H) | (have H2_ := (Option.bind_some _ _).symm.trans H; rw [hy265]; with_reducible exact H2_) | (have H2_ := (Option.bind_some _ _).symm.trans H; with_reducible exact H2_) | with_reducible exact H | (rw [hy265]; exact H) | exact H
         have Ny265 := Aside0.mk hy265
         clear hy265
         have H' := Aside0.mk H
         clear H
         have p263 : 0 ≤ (x12_1 : Int) := of_decide_eq_true (by first | (with_reducible assumption) | assumption)
         have q263 : x12_1 < (l0.length : Int) := of_decide_eq_true (by first | (with_reducible assumption) | assumption)
         obtain ⟨ad263, e263, hx263_0, hx263_1, hx263_2, hx263_3, hx263_4, hx263_5, hx263_6, hx263_7, hx263_8⟩ := at_T39 HR0.out x12_1 p263 q263
         cases e263
         replace hx263_0 := (HB.out.cell (World.block_lt_of_cell? w _ hx263_0)).trans hx263_0
         replace hx263_1 := (HB.out.cell (World.block_lt_of_cell? w _ hx263_1)).trans hx263_1
         replace hx263_2 := (HB.out.cell (World.block_lt_of_cell? w _ hx263_2)).trans hx263_2
         replace hx263_3 := (HB.out.cell (World.block_lt_of_cell? w _ hx263_3)).trans hx263_3
         replace hx263_4 := (HB.out.cell (World.block_lt_of_cell? w _ hx263_4)).trans hx263_4
         replace hx263_5 := (HB.out.cell (World.block_lt_of_cell? w _ hx263_5)).trans hx263_5
         replace hx263_6 := (HB.out.cell (World.block_lt_of_cell? w _ hx263_6)).trans hx263_6
         replace hx263_7 := (HB.out.cell (World.block_lt_of_cell? w _ hx263_7)).trans hx263_7
         replace hx263_8 := (HB.out.cell (World.block_lt_of_cell? w _ hx263_8)).trans hx263_8
         replace p263 := eq_true p263
         replace q263 := eq_true q263
         go_wp2_with (first | ((with_reducible refine gate_dst (N := 9) rfl ?_); refine box_event ?hg (N := 9) ?hd (cs := #[.int .i64 0, .int .i64 0, .int .i64 0, .int .i64 0, .int .i64 0, .int .i64 0, .int .i64 0, .int .i64 0, .int .i64 0]) (t := 39) ?hr ?_; (case hd => rfl); (case hg => rfl); (case hr => first | (go_simp; done) | (go_simp; rfl)); intro gb264 hg w10 hbox hb; have n0_ := Aside0.mk (Kd.R_below (Kd.R_elderB (by (with_reducible repeat (first | apply Kd.R_alloc | apply Kd.R_drewN | apply Kd.R_drew)); exact HO_7.out) gb264 (Nat.le_of_eq hg.symm)) hb); have n1_ := Aside0.mk (below_step (by repeat (first | (with_reducible first | exact HB.out | apply below_alloc | apply pw_below_drewN | apply below_drew1) | exact HB.out)) hb); have n2_ := Aside0.mk (hbox); have n3_ := Aside0.mk ((by rw [hg]; exact (below_size (by repeat (first | (with_reducible first | exact HB.out | apply below_alloc | apply pw_below_drewN | apply below_drew1) | exact HB.out))) : w.heap.size ≤ gb264)); have n4_ := Aside0.mk ((by rw [hg]; exact (below_size (by repeat (first | (with_reducible first | exact HB.out | apply below_alloc | apply pw_below_drewN | apply below_drew1) | exact HB.out))) : w.heap.size ≤ gb264)); clear HO_7; clear HB; have HO_7 := n0_; have HB := n1_; have BK264 := n2_; have GW264 := n3_; have GE264 := n4_; clear n0_ n1_ n2_ n3_ n4_; clear hb hbox hg; have hcz11_0 : w10.cell? ⟨gb264, 0, none⟩ = some (.int .i64 0) := (blk_cell BK264.out 0).trans rfl; have hcz11_1 : w10.cell? ⟨gb264, 1, none⟩ = some (.int .i64 0) := (blk_cell BK264.out 1).trans rfl; have hcz11_2 : w10.cell? ⟨gb264, 2, none⟩ = some (.int .i64 0) := (blk_cell BK264.out 2).trans rfl; have hcz11_3 : w10.cell? ⟨gb264, 3, none⟩ = some (.int .i64 0) := (blk_cell BK264.out 3).trans rfl; have hcz11_4 : w10.cell? ⟨gb264, 4, none⟩ = some (.int .i64 0) := (blk_cell BK264.out 4).trans rfl; have hcz11_5 : w10.cell? ⟨gb264, 5, none⟩ = some (.int .i64 0) := (blk_cell BK264.out 5).trans rfl; have hcz11_6 : w10.cell? ⟨gb264, 6, none⟩ = some (.int .i64 0) := (blk_cell BK264.out 6).trans rfl; have hcz11_7 : w10.cell? ⟨gb264, 7, none⟩ = some (.int .i64 0) := (blk_cell BK264.out 7).trans rfl; have hcz11_8 : w10.cell? ⟨gb264, 8, none⟩ = some (.int .i64 0) := (blk_cell BK264.out 8).trans rfl; have hfz11_0 := blk_frozen BK264.out 0; have hfz11_1 := blk_frozen BK264.out 1; have hfz11_2 := blk_frozen BK264.out 2; have hfz11_3 := blk_frozen BK264.out 3; have hfz11_4 := blk_frozen BK264.out 4; have hfz11_5 := blk_frozen BK264.out 5; have hfz11_6 := blk_frozen BK264.out 6; have hfz11_7 := blk_frozen BK264.out 7; have hfz11_8 := blk_frozen BK264.out 8) | ((with_reducible refine gate_builtin (b := .append) (xs := #[.tmp 26, .tmp 28]) rfl ?_); at_builtin; refine Kd.R_append k39 (w0 := w) w.heap.size rfl (.tmp 26) (.tmp 28) 24 39 (.agg #[(.int .i64 0), (.int .i64 0), (.int .i64 0), (.int .i64 0), (.int .i64 0), (.int .i64 0), (.int .i64 0), (.int .i64 0), (.int .i64 0)]) 72 rfl Try.underlying24 info39 rfl (by decide) (by omega) u7 x7_1 (⟨(rd_T39 l0 x12_1).f0, (rd_T39 l0 x12_1).f1, (⟨(rd_T39 l0 x12_1).f2.f0, (rd_T39 l0 x12_1).f2.f1, (rd_T39 l0 x12_1).f2.f2, (⟨(rd_T39 l0 x12_1).f2.f3.f0, (rd_T39 l0 x12_1).f2.f3.f1⟩ : S35), (rd_T39 l0 x12_1).f2.f4, (rd_T39 l0 x12_1).f2.f5⟩ : S37)⟩ : S39) [.int .i64 ((rd_T39 l0 x12_1).f0), .int .i64 ((rd_T39 l0 x12_1).f1), .int .i64 ((rd_T39 l0 x12_1).f2.f0), .int .i64 ((rd_T39 l0 x12_1).f2.f1), .int .i64 ((rd_T39 l0 x12_1).f2.f2), .int .i64 ((rd_T39 l0 x12_1).f2.f3.f0), .int .i64 ((rd_T39 l0 x12_1).f2.f3.f1), .int .i64 ((rd_T39 l0 x12_1).f2.f4), .int .i64 ((rd_T39 l0 x12_1).f2.f5)] (fun k_ => k_ ≠ gb264) (fun _ => False) rfl (by first | (go_simp; done) | (go_simp; rfl)) ?aP (fun _ hk => hk.elim) ?aF ?aO ?aB ?aS ?aL ?_; (case aP => exact k39_mkM _ _ _ (⟨(rd_T39 l0 x12_1).f0, (rd_T39 l0 x12_1).f1, (⟨(rd_T39 l0 x12_1).f2.f0, (rd_T39 l0 x12_1).f2.f1, (rd_T39 l0 x12_1).f2.f2, (⟨(rd_T39 l0 x12_1).f2.f3.f0, (rd_T39 l0 x12_1).f2.f3.f1⟩ : S35), (rd_T39 l0 x12_1).f2.f4, (rd_T39 l0 x12_1).f2.f5⟩ : S37)⟩ : S39)); (case aB => exact (by repeat (first | (with_reducible first | exact HB.out | apply below_alloc | apply pw_below_drewN | apply below_drew1 | refine below_set ?_ GE264.out) | exact HB.out))); (case aF => exact (fun k_ hk => Kd.freshB (g := gb264) (o := .cells #[.int .i64 ((rd_T39 l0 x12_1).f0), .int .i64 ((rd_T39 l0 x12_1).f1), .int .i64 ((rd_T39 l0 x12_1).f2.f0), .int .i64 ((rd_T39 l0 x12_1).f2.f1), .int .i64 ((rd_T39 l0 x12_1).f2.f2), .int .i64 ((rd_T39 l0 x12_1).f2.f3.f0), .int .i64 ((rd_T39 l0 x12_1).f2.f3.f1), .int .i64 ((rd_T39 l0 x12_1).f2.f4), .int .i64 ((rd_T39 l0 x12_1).f2.f5)] 39 (0, 0)) (by (with_reducible repeat (first | refine blk_drewN ?_ _ | refine blk_drew ?_ | refine blk_alloc ?_ _)); refine blk_put (cs := #[.int .i64 ((rd_T39 l0 x12_1).f0), .int .i64 ((rd_T39 l0 x12_1).f1), .int .i64 ((rd_T39 l0 x12_1).f2.f0), .int .i64 ((rd_T39 l0 x12_1).f2.f1), .int .i64 ((rd_T39 l0 x12_1).f2.f2), .int .i64 ((rd_T39 l0 x12_1).f2.f3.f0), .int .i64 ((rd_T39 l0 x12_1).f2.f3.f1), .int .i64 ((rd_T39 l0 x12_1).f2.f4), .int .i64 0]) ?_ 8 _ rfl; (with_reducible repeat (first | refine blk_drewN ?_ _ | refine blk_drew ?_ | refine blk_alloc ?_ _)); refine blk_put (cs := #[.int .i64 ((rd_T39 l0 x12_1).f0), .int .i64 ((rd_T39 l0 x12_1).f1), .int .i64 ((rd_T39 l0 x12_1).f2.f0), .int .i64 ((rd_T39 l0 x12_1).f2.f1), .int .i64 ((rd_T39 l0 x12_1).f2.f2), .int .i64 ((rd_T39 l0 x12_1).f2.f3.f0), .int .i64 ((rd_T39 l0 x12_1).f2.f3.f1), .int .i64 0, .int .i64 0]) ?_ 7 _ rfl; (with_reducible repeat (first | refine blk_drewN ?_ _ | refine blk_drew ?_ | refine blk_alloc ?_ _)); refine blk_put (cs := #[.int .i64 ((rd_T39 l0 x12_1).f0), .int .i64 ((rd_T39 l0 x12_1).f1), .int .i64 ((rd_T39 l0 x12_1).f2.f0), .int .i64 ((rd_T39 l0 x12_1).f2.f1), .int .i64 ((rd_T39 l0 x12_1).f2.f2), .int .i64 ((rd_T39 l0 x12_1).f2.f3.f0), .int .i64 0, .int .i64 0, .int .i64 0]) ?_ 6 _ rfl; (with_reducible repeat (first | refine blk_drewN ?_ _ | refine blk_drew ?_ | refine blk_alloc ?_ _)); refine blk_put (cs := #[.int .i64 ((rd_T39 l0 x12_1).f0), .int .i64 ((rd_T39 l0 x12_1).f1), .int .i64 ((rd_T39 l0 x12_1).f2.f0), .int .i64 ((rd_T39 l0 x12_1).f2.f1), .int .i64 ((rd_T39 l0 x12_1).f2.f2), .int .i64 0, .int .i64 0, .int .i64 0, .int .i64 0]) ?_ 5 _ rfl; (with_reducible repeat (first | refine blk_drewN ?_ _ | refine blk_drew ?_ | refine blk_alloc ?_ _)); refine blk_put (cs := #[.int .i64 ((rd_T39 l0 x12_1).f0), .int .i64 ((rd_T39 l0 x12_1).f1), .int .i64 ((rd_T39 l0 x12_1).f2.f0), .int .i64 ((rd_T39 l0 x12_1).f2.f1), .int .i64 0, .int .i64 0, .int .i64 0, .int .i64 0, .int .i64 0]) ?_ 4 _ rfl; (with_reducible repeat (first | refine blk_drewN ?_ _ | refine blk_drew ?_ | refine blk_alloc ?_ _)); refine blk_put (cs := #[.int .i64 ((rd_T39 l0 x12_1).f0), .int .i64 ((rd_T39 l0 x12_1).f1), .int .i64 ((rd_T39 l0 x12_1).f2.f0), .int .i64 0, .int .i64 0, .int .i64 0, .int .i64 0, .int .i64 0, .int .i64 0]) ?_ 3 _ rfl; (with_reducible repeat (first | refine blk_drewN ?_ _ | refine blk_drew ?_ | refine blk_alloc ?_ _)); refine blk_put (cs := #[.int .i64 ((rd_T39 l0 x12_1).f0), .int .i64 ((rd_T39 l0 x12_1).f1), .int .i64 0, .int .i64 0, .int .i64 0, .int .i64 0, .int .i64 0, .int .i64 0, .int .i64 0]) ?_ 2 _ rfl; (with_reducible repeat (first | refine blk_drewN ?_ _ | refine blk_drew ?_ | refine blk_alloc ?_ _)); refine blk_put (cs := #[.int .i64 ((rd_T39 l0 x12_1).f0), .int .i64 0, .int .i64 0, .int .i64 0, .int .i64 0, .int .i64 0, .int .i64 0, .int .i64 0, .int .i64 0]) ?_ 1 _ rfl; (with_reducible repeat (first | refine blk_drewN ?_ _ | refine blk_drew ?_ | refine blk_alloc ?_ _)); refine blk_put (cs := #[.int .i64 0, .int .i64 0, .int .i64 0, .int .i64 0, .int .i64 0, .int .i64 0, .int .i64 0, .int .i64 0, .int .i64 0]) ?_ 0 _ rfl; (with_reducible repeat (first | refine blk_drewN ?_ _ | refine blk_drew ?_ | refine blk_alloc ?_ _)); exact BK264.out) k_ hk)); (case aO => exact (by (with_reducible repeat (first | apply Kd.R_alloc | apply Kd.R_drewN | apply Kd.R_drew)); exact Kd.R_mono (Kd.R_far (p := ⟨gb264, 8, none⟩) (Kd.R_far (p := ⟨gb264, 7, none⟩) (Kd.R_far (p := ⟨gb264, 6, none⟩) (Kd.R_far (p := ⟨gb264, 5, none⟩) (Kd.R_far (p := ⟨gb264, 4, none⟩) (Kd.R_far (p := ⟨gb264, 3, none⟩) (Kd.R_far (p := ⟨gb264, 2, none⟩) (Kd.R_far (p := ⟨gb264, 1, none⟩) (Kd.R_far (p := ⟨gb264, 0, none⟩) (Kd.R_mono HO_7.out (fun k_ hk => (⟨hk, hk.2⟩ : _ ∧ k_ ≠ gb264))) (fun _ hk => hk.2) (.int .i64 ((rd_T39 l0 x12_1).f0))) (fun _ hk => hk.2) (.int .i64 ((rd_T39 l0 x12_1).f1))) (fun _ hk => hk.2) (.int .i64 ((rd_T39 l0 x12_1).f2.f0))) (fun _ hk => hk.2) (.int .i64 ((rd_T39 l0 x12_1).f2.f1))) (fun _ hk => hk.2) (.int .i64 ((rd_T39 l0 x12_1).f2.f2))) (fun _ hk => hk.2) (.int .i64 ((rd_T39 l0 x12_1).f2.f3.f0))) (fun _ hk => hk.2) (.int .i64 ((rd_T39 l0 x12_1).f2.f3.f1))) (fun _ hk => hk.2) (.int .i64 ((rd_T39 l0 x12_1).f2.f4))) (fun _ hk => hk.2) (.int .i64 ((rd_T39 l0 x12_1).f2.f5))) (fun _ hk => hk.1.2))); (case aS => exact (below_size (by repeat (first | (with_reducible first | exact HB.out | apply below_alloc | apply pw_below_drewN | apply below_drew1 | refine below_set ?_ GE264.out) | exact HB.out)))); (case aL => have := LMc9.out; omega); intro v266 w12 ho hb hg hat; rw [← Ny265.out] at ho; have n0_ := Aside0.mk (blk_grown (g := gb264) (o := .cells #[.int .i64 ((rd_T39 l0 x12_1).f0), .int .i64 ((rd_T39 l0 x12_1).f1), .int .i64 ((rd_T39 l0 x12_1).f2.f0), .int .i64 ((rd_T39 l0 x12_1).f2.f1), .int .i64 ((rd_T39 l0 x12_1).f2.f2), .int .i64 ((rd_T39 l0 x12_1).f2.f3.f0), .int .i64 ((rd_T39 l0 x12_1).f2.f3.f1), .int .i64 ((rd_T39 l0 x12_1).f2.f4), .int .i64 ((rd_T39 l0 x12_1).f2.f5)] 39 (0, 0)) (by (with_reducible repeat (first | refine blk_drewN ?_ _ | refine blk_drew ?_ | refine blk_alloc ?_ _)); refine blk_put (cs := #[.int .i64 ((rd_T39 l0 x12_1).f0), .int .i64 ((rd_T39 l0 x12_1).f1), .int .i64 ((rd_T39 l0 x12_1).f2.f0), .int .i64 ((rd_T39 l0 x12_1).f2.f1), .int .i64 ((rd_T39 l0 x12_1).f2.f2), .int .i64 ((rd_T39 l0 x12_1).f2.f3.f0), .int .i64 ((rd_T39 l0 x12_1).f2.f3.f1), .int .i64 ((rd_T39 l0 x12_1).f2.f4), .int .i64 0]) ?_ 8 _ rfl; (with_reducible repeat (first | refine blk_drewN ?_ _ | refine blk_drew ?_ | refine blk_alloc ?_ _)); refine blk_put (cs := #[.int .i64 ((rd_T39 l0 x12_1).f0), .int .i64 ((rd_T39 l0 x12_1).f1), .int .i64 ((rd_T39 l0 x12_1).f2.f0), .int .i64 ((rd_T39 l0 x12_1).f2.f1), .int .i64 ((rd_T39 l0 x12_1).f2.f2), .int .i64 ((rd_T39 l0 x12_1).f2.f3.f0), .int .i64 ((rd_T39 l0 x12_1).f2.f3.f1), .int .i64 0, .int .i64 0]) ?_ 7 _ rfl; (with_reducible repeat (first | refine blk_drewN ?_ _ | refine blk_drew ?_ | refine blk_alloc ?_ _)); refine blk_put (cs := #[.int .i64 ((rd_T39 l0 x12_1).f0), .int .i64 ((rd_T39 l0 x12_1).f1), .int .i64 ((rd_T39 l0 x12_1).f2.f0), .int .i64 ((rd_T39 l0 x12_1).f2.f1), .int .i64 ((rd_T39 l0 x12_1).f2.f2), .int .i64 ((rd_T39 l0 x12_1).f2.f3.f0), .int .i64 0, .int .i64 0, .int .i64 0]) ?_ 6 _ rfl; (with_reducible repeat (first | refine blk_drewN ?_ _ | refine blk_drew ?_ | refine blk_alloc ?_ _)); refine blk_put (cs := #[.int .i64 ((rd_T39 l0 x12_1).f0), .int .i64 ((rd_T39 l0 x12_1).f1), .int .i64 ((rd_T39 l0 x12_1).f2.f0), .int .i64 ((rd_T39 l0 x12_1).f2.f1), .int .i64 ((rd_T39 l0 x12_1).f2.f2), .int .i64 0, .int .i64 0, .int .i64 0, .int .i64 0]) ?_ 5 _ rfl; (with_reducible repeat (first | refine blk_drewN ?_ _ | refine blk_drew ?_ | refine blk_alloc ?_ _)); refine blk_put (cs := #[.int .i64 ((rd_T39 l0 x12_1).f0), .int .i64 ((rd_T39 l0 x12_1).f1), .int .i64 ((rd_T39 l0 x12_1).f2.f0), .int .i64 ((rd_T39 l0 x12_1).f2.f1), .int .i64 0, .int .i64 0, .int .i64 0, .int .i64 0, .int .i64 0]) ?_ 4 _ rfl; (with_reducible repeat (first | refine blk_drewN ?_ _ | refine blk_drew ?_ | refine blk_alloc ?_ _)); refine blk_put (cs := #[.int .i64 ((rd_T39 l0 x12_1).f0), .int .i64 ((rd_T39 l0 x12_1).f1), .int .i64 ((rd_T39 l0 x12_1).f2.f0), .int .i64 0, .int .i64 0, .int .i64 0, .int .i64 0, .int .i64 0, .int .i64 0]) ?_ 3 _ rfl; (with_reducible repeat (first | refine blk_drewN ?_ _ | refine blk_drew ?_ | refine blk_alloc ?_ _)); refine blk_put (cs := #[.int .i64 ((rd_T39 l0 x12_1).f0), .int .i64 ((rd_T39 l0 x12_1).f1), .int .i64 0, .int .i64 0, .int .i64 0, .int .i64 0, .int .i64 0, .int .i64 0, .int .i64 0]) ?_ 2 _ rfl; (with_reducible repeat (first | refine blk_drewN ?_ _ | refine blk_drew ?_ | refine blk_alloc ?_ _)); refine blk_put (cs := #[.int .i64 ((rd_T39 l0 x12_1).f0), .int .i64 0, .int .i64 0, .int .i64 0, .int .i64 0, .int .i64 0, .int .i64 0, .int .i64 0, .int .i64 0]) ?_ 1 _ rfl; (with_reducible repeat (first | refine blk_drewN ?_ _ | refine blk_drew ?_ | refine blk_alloc ?_ _)); refine blk_put (cs := #[.int .i64 0, .int .i64 0, .int .i64 0, .int .i64 0, .int .i64 0, .int .i64 0, .int .i64 0, .int .i64 0, .int .i64 0]) ?_ 0 _ rfl; (with_reducible repeat (first | refine blk_drewN ?_ _ | refine blk_drew ?_ | refine blk_alloc ?_ _)); exact BK264.out) hg (Kd.R_away HO_7.out (fun _ hk => hk.2))); have n1_ := Aside0.mk (hb); have n2_ := Aside0.mk (ho); clear BK264; clear HB; clear HO_7; have BK264 := n0_; have HB := n1_; have HO267 := n2_; clear n0_ n1_ n2_; clear ho hb hg hat))
         go_roundg k1
         case measure => have := HK1.out; omega
         case rel => exact ⟨(y265), (wrap64 (x12_1 + 1)), (by first | rfl | (simp; done) | (simp [*]; done)), H', ⟨by have := HK1.out; omega⟩, ⟨by (with_reducible repeat (first | apply Kd.R_alloc | apply Kd.R_drewN | apply Kd.R_drew)); exact Kd.R_mono HO267.out (fun _ hk => trivial)⟩, ⟨by repeat (first | (with_reducible first | exact HB.out | apply below_alloc | apply pw_below_drewN | apply below_drew1 | refine below_set ?_ GE264.out) | exact HB.out)⟩⟩
        ·rw [if_neg c9] at H
         exact absurd H (by simp)
       ·rw [if_neg c8] at H
        have c8b0 : decide (((rd_T39 l0 x12_1).f1) ≤ a2) = false := decide_eq_false c8
        clear c8
        have H' := Aside0.mk H
        clear H
        have p263 : 0 ≤ (x12_1 : Int) := of_decide_eq_true (by first | (with_reducible assumption) | assumption)
        have q263 : x12_1 < (l0.length : Int) := of_decide_eq_true (by first | (with_reducible assumption) | assumption)
        obtain ⟨ad263, e263, hx263_0, hx263_1, hx263_2, hx263_3, hx263_4, hx263_5, hx263_6, hx263_7, hx263_8⟩ := at_T39 HR0.out x12_1 p263 q263
        cases e263
        replace hx263_0 := (HB.out.cell (World.block_lt_of_cell? w _ hx263_0)).trans hx263_0
        replace hx263_1 := (HB.out.cell (World.block_lt_of_cell? w _ hx263_1)).trans hx263_1
        replace hx263_2 := (HB.out.cell (World.block_lt_of_cell? w _ hx263_2)).trans hx263_2
        replace hx263_3 := (HB.out.cell (World.block_lt_of_cell? w _ hx263_3)).trans hx263_3
        replace hx263_4 := (HB.out.cell (World.block_lt_of_cell? w _ hx263_4)).trans hx263_4
        replace hx263_5 := (HB.out.cell (World.block_lt_of_cell? w _ hx263_5)).trans hx263_5
        replace hx263_6 := (HB.out.cell (World.block_lt_of_cell? w _ hx263_6)).trans hx263_6
        replace hx263_7 := (HB.out.cell (World.block_lt_of_cell? w _ hx263_7)).trans hx263_7
        replace hx263_8 := (HB.out.cell (World.block_lt_of_cell? w _ hx263_8)).trans hx263_8
        replace p263 := eq_true p263
        replace q263 := eq_true q263
        go_wp2_with (first | ((with_reducible refine gate_dst (N := 9) rfl ?_); refine box_event ?hg (N := 9) ?hd (cs := #[.int .i64 0, .int .i64 0, .int .i64 0, .int .i64 0, .int .i64 0, .int .i64 0, .int .i64 0, .int .i64 0, .int .i64 0]) (t := 39) ?hr ?_; (case hd => rfl); (case hg => rfl); (case hr => first | (go_simp; done) | (go_simp; rfl)); intro gb264 hg w13 hbox hb; have n0_ := Aside0.mk (Kd.R_below (Kd.R_elderB (by (with_reducible repeat (first | apply Kd.R_alloc | apply Kd.R_drewN | apply Kd.R_drew)); exact HO_7.out) gb264 (Nat.le_of_eq hg.symm)) hb); have n1_ := Aside0.mk (below_step (by repeat (first | (with_reducible first | exact HB.out | apply below_alloc | apply pw_below_drewN | apply below_drew1) | exact HB.out)) hb); have n2_ := Aside0.mk (hbox); have n3_ := Aside0.mk ((by rw [hg]; exact (below_size (by repeat (first | (with_reducible first | exact HB.out | apply below_alloc | apply pw_below_drewN | apply below_drew1) | exact HB.out))) : w.heap.size ≤ gb264)); have n4_ := Aside0.mk ((by rw [hg]; exact (below_size (by repeat (first | (with_reducible first | exact HB.out | apply below_alloc | apply pw_below_drewN | apply below_drew1) | exact HB.out))) : w.heap.size ≤ gb264)); clear HO_7; clear HB; have HO_7 := n0_; have HB := n1_; have BK264 := n2_; have GW264 := n3_; have GE264 := n4_; clear n0_ n1_ n2_ n3_ n4_; clear hb hbox hg; have hcz14_0 : w13.cell? ⟨gb264, 0, none⟩ = some (.int .i64 0) := (blk_cell BK264.out 0).trans rfl; have hcz14_1 : w13.cell? ⟨gb264, 1, none⟩ = some (.int .i64 0) := (blk_cell BK264.out 1).trans rfl; have hcz14_2 : w13.cell? ⟨gb264, 2, none⟩ = some (.int .i64 0) := (blk_cell BK264.out 2).trans rfl; have hcz14_3 : w13.cell? ⟨gb264, 3, none⟩ = some (.int .i64 0) := (blk_cell BK264.out 3).trans rfl; have hcz14_4 : w13.cell? ⟨gb264, 4, none⟩ = some (.int .i64 0) := (blk_cell BK264.out 4).trans rfl; have hcz14_5 : w13.cell? ⟨gb264, 5, none⟩ = some (.int .i64 0) := (blk_cell BK264.out 5).trans rfl; have hcz14_6 : w13.cell? ⟨gb264, 6, none⟩ = some (.int .i64 0) := (blk_cell BK264.out 6).trans rfl; have hcz14_7 : w13.cell? ⟨gb264, 7, none⟩ = some (.int .i64 0) := (blk_cell BK264.out 7).trans rfl; have hcz14_8 : w13.cell? ⟨gb264, 8, none⟩ = some (.int .i64 0) := (blk_cell BK264.out 8).trans rfl; have hfz14_0 := blk_frozen BK264.out 0; have hfz14_1 := blk_frozen BK264.out 1; have hfz14_2 := blk_frozen BK264.out 2; have hfz14_3 := blk_frozen BK264.out 3; have hfz14_4 := blk_frozen BK264.out 4; have hfz14_5 := blk_frozen BK264.out 5; have hfz14_6 := blk_frozen BK264.out 6; have hfz14_7 := blk_frozen BK264.out 7; have hfz14_8 := blk_frozen BK264.out 8))
        go_roundg k1
        case measure => have := HK1.out; omega
        case rel => exact ⟨(x7_1), (wrap64 (x12_1 + 1)), (by first | rfl | (simp; done) | (simp [*]; done)), H', ⟨by have := HK1.out; omega⟩, ⟨by (with_reducible repeat (first | apply Kd.R_alloc | apply Kd.R_drewN | apply Kd.R_drew)); exact Kd.R_mono (Kd.R_far (p := ⟨gb264, 8, none⟩) (Kd.R_far (p := ⟨gb264, 7, none⟩) (Kd.R_far (p := ⟨gb264, 6, none⟩) (Kd.R_far (p := ⟨gb264, 5, none⟩) (Kd.R_far (p := ⟨gb264, 4, none⟩) (Kd.R_far (p := ⟨gb264, 3, none⟩) (Kd.R_far (p := ⟨gb264, 2, none⟩) (Kd.R_far (p := ⟨gb264, 1, none⟩) (Kd.R_far (p := ⟨gb264, 0, none⟩) (Kd.R_mono HO_7.out (fun k_ hk => (⟨hk, hk.2⟩ : _ ∧ k_ ≠ gb264))) (fun _ hk => hk.2) (.int .i64 ((rd_T39 l0 x12_1).f0))) (fun _ hk => hk.2) (.int .i64 ((rd_T39 l0 x12_1).f1))) (fun _ hk => hk.2) (.int .i64 ((rd_T39 l0 x12_1).f2.f0))) (fun _ hk => hk.2) (.int .i64 ((rd_T39 l0 x12_1).f2.f1))) (fun _ hk => hk.2) (.int .i64 ((rd_T39 l0 x12_1).f2.f2))) (fun _ hk => hk.2) (.int .i64 ((rd_T39 l0 x12_1).f2.f3.f0))) (fun _ hk => hk.2) (.int .i64 ((rd_T39 l0 x12_1).f2.f3.f1))) (fun _ hk => hk.2) (.int .i64 ((rd_T39 l0 x12_1).f2.f4))) (fun _ hk => hk.2) (.int .i64 ((rd_T39 l0 x12_1).f2.f5))) (fun _ hk => trivial)⟩, ⟨by repeat (first | (with_reducible first | exact HB.out | apply below_alloc | apply pw_below_drewN | apply below_drew1 | refine below_set ?_ GE264.out) | exact HB.out)⟩⟩
      ·rw [if_neg c7] at H
       have c7b0 : (((rd_T39 l0 x12_1).f0) == a1) = false := beq_eq_false_iff_ne.mpr c7
       have c7b1 : (((rd_T39 l0 x12_1).f0) != a1) = true := bne_iff_ne.mpr c7
       by_cases c15 : x7_1.length < 1954687338268
       ·rw [if_pos c15] at H
        have LMc15 := Aside0.mk c15
        clear c15
        obtain ⟨y268, hy268⟩ : ∃ y_ : List (S39), y_ = (x7_1 ++ [(⟨(rd_T39 l0 x12_1).f0, (rd_T39 l0 x12_1).f1, (⟨(rd_T39 l0 x12_1).f2.f0, (rd_T39 l0 x12_1).f2.f1, (rd_T39 l0 x12_1).f2.f2, (⟨(rd_T39 l0 x12_1).f2.f3.f0, (rd_T39 l0 x12_1).f2.f3.f1⟩ : S35), (rd_T39 l0 x12_1).f2.f4, (rd_T39 l0 x12_1).f2.f5⟩ : S37)⟩ : S39)]) := ⟨_, rfl⟩
        replace H : (determinant_Cut.l0 k1 a1 a2 y268 l0 (l0.length : Int) (wrap64 (x12_1 + 1))) = some r := by first | (rw [hy268]; with_reducible exact H) | (have H2_ := (Option.bind_some _ _).symm.trans H; rw [hy268]; with_reducible exact H2_) | (have H2_ := (Option.bind_some _ _).symm.trans H; with_reducible exact H2_) | with_reducible exact H | (rw [hy268]; exact H) | exact H
        have Ny268 := Aside0.mk hy268
        clear hy268
        have H' := Aside0.mk H
        clear H
        have p263 : 0 ≤ (x12_1 : Int) := of_decide_eq_true (by first | (with_reducible assumption) | assumption)
        have q263 : x12_1 < (l0.length : Int) := of_decide_eq_true (by first | (with_reducible assumption) | assumption)
        obtain ⟨ad263, e263, hx263_0, hx263_1, hx263_2, hx263_3, hx263_4, hx263_5, hx263_6, hx263_7, hx263_8⟩ := at_T39 HR0.out x12_1 p263 q263
        cases e263
        replace hx263_0 := (HB.out.cell (World.block_lt_of_cell? w _ hx263_0)).trans hx263_0
        replace hx263_1 := (HB.out.cell (World.block_lt_of_cell? w _ hx263_1)).trans hx263_1
        replace hx263_2 := (HB.out.cell (World.block_lt_of_cell? w _ hx263_2)).trans hx263_2
        replace hx263_3 := (HB.out.cell (World.block_lt_of_cell? w _ hx263_3)).trans hx263_3
        replace hx263_4 := (HB.out.cell (World.block_lt_of_cell? w _ hx263_4)).trans hx263_4
        replace hx263_5 := (HB.out.cell (World.block_lt_of_cell? w _ hx263_5)).trans hx263_5
        replace hx263_6 := (HB.out.cell (World.block_lt_of_cell? w _ hx263_6)).trans hx263_6
        replace hx263_7 := (HB.out.cell (World.block_lt_of_cell? w _ hx263_7)).trans hx263_7
        replace hx263_8 := (HB.out.cell (World.block_lt_of_cell? w _ hx263_8)).trans hx263_8
        replace p263 := eq_true p263
        replace q263 := eq_true q263
        go_wp2_with (first | ((with_reducible refine gate_dst (N := 9) rfl ?_); refine box_event ?hg (N := 9) ?hd (cs := #[.int .i64 0, .int .i64 0, .int .i64 0, .int .i64 0, .int .i64 0, .int .i64 0, .int .i64 0, .int .i64 0, .int .i64 0]) (t := 39) ?hr ?_; (case hd => rfl); (case hg => rfl); (case hr => first | (go_simp; done) | (go_simp; rfl)); intro gb264 hg w16 hbox hb; have n0_ := Aside0.mk (Kd.R_below (Kd.R_elderB (by (with_reducible repeat (first | apply Kd.R_alloc | apply Kd.R_drewN | apply Kd.R_drew)); exact HO_7.out) gb264 (Nat.le_of_eq hg.symm)) hb); have n1_ := Aside0.mk (below_step (by repeat (first | (with_reducible first | exact HB.out | apply below_alloc | apply pw_below_drewN | apply below_drew1) | exact HB.out)) hb); have n2_ := Aside0.mk (hbox); have n3_ := Aside0.mk ((by rw [hg]; exact (below_size (by repeat (first | (with_reducible first | exact HB.out | apply below_alloc | apply pw_below_drewN | apply below_drew1) | exact HB.out))) : w.heap.size ≤ gb264)); have n4_ := Aside0.mk ((by rw [hg]; exact (below_size (by repeat (first | (with_reducible first | exact HB.out | apply below_alloc | apply pw_below_drewN | apply below_drew1) | exact HB.out))) : w.heap.size ≤ gb264)); clear HO_7; clear HB; have HO_7 := n0_; have HB := n1_; have BK264 := n2_; have GW264 := n3_; have GE264 := n4_; clear n0_ n1_ n2_ n3_ n4_; clear hb hbox hg; have hcz17_0 : w16.cell? ⟨gb264, 0, none⟩ = some (.int .i64 0) := (blk_cell BK264.out 0).trans rfl; have hcz17_1 : w16.cell? ⟨gb264, 1, none⟩ = some (.int .i64 0) := (blk_cell BK264.out 1).trans rfl; have hcz17_2 : w16.cell? ⟨gb264, 2, none⟩ = some (.int .i64 0) := (blk_cell BK264.out 2).trans rfl; have hcz17_3 : w16.cell? ⟨gb264, 3, none⟩ = some (.int .i64 0) := (blk_cell BK264.out 3).trans rfl; have hcz17_4 : w16.cell? ⟨gb264, 4, none⟩ = some (.int .i64 0) := (blk_cell BK264.out 4).trans rfl; have hcz17_5 : w16.cell? ⟨gb264, 5, none⟩ = some (.int .i64 0) := (blk_cell BK264.out 5).trans rfl; have hcz17_6 : w16.cell? ⟨gb264, 6, none⟩ = some (.int .i64 0) := (blk_cell BK264.out 6).trans rfl; have hcz17_7 : w16.cell? ⟨gb264, 7, none⟩ = some (.int .i64 0) := (blk_cell BK264.out 7).trans rfl; have hcz17_8 : w16.cell? ⟨gb264, 8, none⟩ = some (.int .i64 0) := (blk_cell BK264.out 8).trans rfl; have hfz17_0 := blk_frozen BK264.out 0; have hfz17_1 := blk_frozen BK264.out 1; have hfz17_2 := blk_frozen BK264.out 2; have hfz17_3 := blk_frozen BK264.out 3; have hfz17_4 := blk_frozen BK264.out 4; have hfz17_5 := blk_frozen BK264.out 5; have hfz17_6 := blk_frozen BK264.out 6; have hfz17_7 := blk_frozen BK264.out 7; have hfz17_8 := blk_frozen BK264.out 8) | ((with_reducible refine gate_builtin (b := .append) (xs := #[.tmp 26, .tmp 28]) rfl ?_); at_builtin; refine Kd.R_append k39 (w0 := w) w.heap.size rfl (.tmp 26) (.tmp 28) 24 39 (.agg #[(.int .i64 0), (.int .i64 0), (.int .i64 0), (.int .i64 0), (.int .i64 0), (.int .i64 0), (.int .i64 0), (.int .i64 0), (.int .i64 0)]) 72 rfl Try.underlying24 info39 rfl (by decide) (by omega) u7 x7_1 (⟨(rd_T39 l0 x12_1).f0, (rd_T39 l0 x12_1).f1, (⟨(rd_T39 l0 x12_1).f2.f0, (rd_T39 l0 x12_1).f2.f1, (rd_T39 l0 x12_1).f2.f2, (⟨(rd_T39 l0 x12_1).f2.f3.f0, (rd_T39 l0 x12_1).f2.f3.f1⟩ : S35), (rd_T39 l0 x12_1).f2.f4, (rd_T39 l0 x12_1).f2.f5⟩ : S37)⟩ : S39) [.int .i64 ((rd_T39 l0 x12_1).f0), .int .i64 ((rd_T39 l0 x12_1).f1), .int .i64 ((rd_T39 l0 x12_1).f2.f0), .int .i64 ((rd_T39 l0 x12_1).f2.f1), .int .i64 ((rd_T39 l0 x12_1).f2.f2), .int .i64 ((rd_T39 l0 x12_1).f2.f3.f0), .int .i64 ((rd_T39 l0 x12_1).f2.f3.f1), .int .i64 ((rd_T39 l0 x12_1).f2.f4), .int .i64 ((rd_T39 l0 x12_1).f2.f5)] (fun k_ => k_ ≠ gb264) (fun _ => False) rfl (by first | (go_simp; done) | (go_simp; rfl)) ?aP (fun _ hk => hk.elim) ?aF ?aO ?aB ?aS ?aL ?_; (case aP => exact k39_mkM _ _ _ (⟨(rd_T39 l0 x12_1).f0, (rd_T39 l0 x12_1).f1, (⟨(rd_T39 l0 x12_1).f2.f0, (rd_T39 l0 x12_1).f2.f1, (rd_T39 l0 x12_1).f2.f2, (⟨(rd_T39 l0 x12_1).f2.f3.f0, (rd_T39 l0 x12_1).f2.f3.f1⟩ : S35), (rd_T39 l0 x12_1).f2.f4, (rd_T39 l0 x12_1).f2.f5⟩ : S37)⟩ : S39)); (case aB => exact (by repeat (first | (with_reducible first | exact HB.out | apply below_alloc | apply pw_below_drewN | apply below_drew1 | refine below_set ?_ GE264.out) | exact HB.out))); (case aF => exact (fun k_ hk => Kd.freshB (g := gb264) (o := .cells #[.int .i64 ((rd_T39 l0 x12_1).f0), .int .i64 ((rd_T39 l0 x12_1).f1), .int .i64 ((rd_T39 l0 x12_1).f2.f0), .int .i64 ((rd_T39 l0 x12_1).f2.f1), .int .i64 ((rd_T39 l0 x12_1).f2.f2), .int .i64 ((rd_T39 l0 x12_1).f2.f3.f0), .int .i64 ((rd_T39 l0 x12_1).f2.f3.f1), .int .i64 ((rd_T39 l0 x12_1).f2.f4), .int .i64 ((rd_T39 l0 x12_1).f2.f5)] 39 (0, 0)) (by (with_reducible repeat (first | refine blk_drewN ?_ _ | refine blk_drew ?_ | refine blk_alloc ?_ _)); refine blk_put (cs := #[.int .i64 ((rd_T39 l0 x12_1).f0), .int .i64 ((rd_T39 l0 x12_1).f1), .int .i64 ((rd_T39 l0 x12_1).f2.f0), .int .i64 ((rd_T39 l0 x12_1).f2.f1), .int .i64 ((rd_T39 l0 x12_1).f2.f2), .int .i64 ((rd_T39 l0 x12_1).f2.f3.f0), .int .i64 ((rd_T39 l0 x12_1).f2.f3.f1), .int .i64 ((rd_T39 l0 x12_1).f2.f4), .int .i64 0]) ?_ 8 _ rfl; (with_reducible repeat (first | refine blk_drewN ?_ _ | refine blk_drew ?_ | refine blk_alloc ?_ _)); refine blk_put (cs := #[.int .i64 ((rd_T39 l0 x12_1).f0), .int .i64 ((rd_T39 l0 x12_1).f1), .int .i64 ((rd_T39 l0 x12_1).f2.f0), .int .i64 ((rd_T39 l0 x12_1).f2.f1), .int .i64 ((rd_T39 l0 x12_1).f2.f2), .int .i64 ((rd_T39 l0 x12_1).f2.f3.f0), .int .i64 ((rd_T39 l0 x12_1).f2.f3.f1), .int .i64 0, .int .i64 0]) ?_ 7 _ rfl; (with_reducible repeat (first | refine blk_drewN ?_ _ | refine blk_drew ?_ | refine blk_alloc ?_ _)); refine blk_put (cs := #[.int .i64 ((rd_T39 l0 x12_1).f0), .int .i64 ((rd_T39 l0 x12_1).f1), .int .i64 ((rd_T39 l0 x12_1).f2.f0), .int .i64 ((rd_T39 l0 x12_1).f2.f1), .int .i64 ((rd_T39 l0 x12_1).f2.f2), .int .i64 ((rd_T39 l0 x12_1).f2.f3.f0), .int .i64 0, .int .i64 0, .int .i64 0]) ?_ 6 _ rfl; (with_reducible repeat (first | refine blk_drewN ?_ _ | refine blk_drew ?_ | refine blk_alloc ?_ _)); refine blk_put (cs := #[.int .i64 ((rd_T39 l0 x12_1).f0), .int .i64 ((rd_T39 l0 x12_1).f1), .int .i64 ((rd_T39 l0 x12_1).f2.f0), .int .i64 ((rd_T39 l0 x12_1).f2.f1), .int .i64 ((rd_T39 l0 x12_1).f2.f2), .int .i64 0, .int .i64 0, .int .i64 0, .int .i64 0]) ?_ 5 _ rfl; (with_reducible repeat (first | refine blk_drewN ?_ _ | refine blk_drew ?_ | refine blk_alloc ?_ _)); refine blk_put (cs := #[.int .i64 ((rd_T39 l0 x12_1).f0), .int .i64 ((rd_T39 l0 x12_1).f1), .int .i64 ((rd_T39 l0 x12_1).f2.f0), .int .i64 ((rd_T39 l0 x12_1).f2.f1), .int .i64 0, .int .i64 0, .int .i64 0, .int .i64 0, .int .i64 0]) ?_ 4 _ rfl; (with_reducible repeat (first | refine blk_drewN ?_ _ | refine blk_drew ?_ | refine blk_alloc ?_ _)); refine blk_put (cs := #[.int .i64 ((rd_T39 l0 x12_1).f0), .int .i64 ((rd_T39 l0 x12_1).f1), .int .i64 ((rd_T39 l0 x12_1).f2.f0), .int .i64 0, .int .i64 0, .int .i64 0, .int .i64 0, .int .i64 0, .int .i64 0]) ?_ 3 _ rfl; (with_reducible repeat (first | refine blk_drewN ?_ _ | refine blk_drew ?_ | refine blk_alloc ?_ _)); refine blk_put (cs := #[.int .i64 ((rd_T39 l0 x12_1).f0), .int .i64 ((rd_T39 l0 x12_1).f1), .int .i64 0, .int .i64 0, .int .i64 0, .int .i64 0, .int .i64 0, .int .i64 0, .int .i64 0]) ?_ 2 _ rfl; (with_reducible repeat (first | refine blk_drewN ?_ _ | refine blk_drew ?_ | refine blk_alloc ?_ _)); refine blk_put (cs := #[.int .i64 ((rd_T39 l0 x12_1).f0), .int .i64 0, .int .i64 0, .int .i64 0, .int .i64 0, .int .i64 0, .int .i64 0, .int .i64 0, .int .i64 0]) ?_ 1 _ rfl; (with_reducible repeat (first | refine blk_drewN ?_ _ | refine blk_drew ?_ | refine blk_alloc ?_ _)); refine blk_put (cs := #[.int .i64 0, .int .i64 0, .int .i64 0, .int .i64 0, .int .i64 0, .int .i64 0, .int .i64 0, .int .i64 0, .int .i64 0]) ?_ 0 _ rfl; (with_reducible repeat (first | refine blk_drewN ?_ _ | refine blk_drew ?_ | refine blk_alloc ?_ _)); exact BK264.out) k_ hk)); (case aO => exact (by (with_reducible repeat (first | apply Kd.R_alloc | apply Kd.R_drewN | apply Kd.R_drew)); exact Kd.R_mono (Kd.R_far (p := ⟨gb264, 8, none⟩) (Kd.R_far (p := ⟨gb264, 7, none⟩) (Kd.R_far (p := ⟨gb264, 6, none⟩) (Kd.R_far (p := ⟨gb264, 5, none⟩) (Kd.R_far (p := ⟨gb264, 4, none⟩) (Kd.R_far (p := ⟨gb264, 3, none⟩) (Kd.R_far (p := ⟨gb264, 2, none⟩) (Kd.R_far (p := ⟨gb264, 1, none⟩) (Kd.R_far (p := ⟨gb264, 0, none⟩) (Kd.R_mono HO_7.out (fun k_ hk => (⟨hk, hk.2⟩ : _ ∧ k_ ≠ gb264))) (fun _ hk => hk.2) (.int .i64 ((rd_T39 l0 x12_1).f0))) (fun _ hk => hk.2) (.int .i64 ((rd_T39 l0 x12_1).f1))) (fun _ hk => hk.2) (.int .i64 ((rd_T39 l0 x12_1).f2.f0))) (fun _ hk => hk.2) (.int .i64 ((rd_T39 l0 x12_1).f2.f1))) (fun _ hk => hk.2) (.int .i64 ((rd_T39 l0 x12_1).f2.f2))) (fun _ hk => hk.2) (.int .i64 ((rd_T39 l0 x12_1).f2.f3.f0))) (fun _ hk => hk.2) (.int .i64 ((rd_T39 l0 x12_1).f2.f3.f1))) (fun _ hk => hk.2) (.int .i64 ((rd_T39 l0 x12_1).f2.f4))) (fun _ hk => hk.2) (.int .i64 ((rd_T39 l0 x12_1).f2.f5))) (fun _ hk => hk.1.2))); (case aS => exact (below_size (by repeat (first | (with_reducible first | exact HB.out | apply below_alloc | apply pw_below_drewN | apply below_drew1 | refine below_set ?_ GE264.out) | exact HB.out)))); (case aL => have := LMc15.out; omega); intro v269 w18 ho hb hg hat; rw [← Ny268.out] at ho; have n0_ := Aside0.mk (blk_grown (g := gb264) (o := .cells #[.int .i64 ((rd_T39 l0 x12_1).f0), .int .i64 ((rd_T39 l0 x12_1).f1), .int .i64 ((rd_T39 l0 x12_1).f2.f0), .int .i64 ((rd_T39 l0 x12_1).f2.f1), .int .i64 ((rd_T39 l0 x12_1).f2.f2), .int .i64 ((rd_T39 l0 x12_1).f2.f3.f0), .int .i64 ((rd_T39 l0 x12_1).f2.f3.f1), .int .i64 ((rd_T39 l0 x12_1).f2.f4), .int .i64 ((rd_T39 l0 x12_1).f2.f5)] 39 (0, 0)) (by (with_reducible repeat (first | refine blk_drewN ?_ _ | refine blk_drew ?_ | refine blk_alloc ?_ _)); refine blk_put (cs := #[.int .i64 ((rd_T39 l0 x12_1).f0), .int .i64 ((rd_T39 l0 x12_1).f1), .int .i64 ((rd_T39 l0 x12_1).f2.f0), .int .i64 ((rd_T39 l0 x12_1).f2.f1), .int .i64 ((rd_T39 l0 x12_1).f2.f2), .int .i64 ((rd_T39 l0 x12_1).f2.f3.f0), .int .i64 ((rd_T39 l0 x12_1).f2.f3.f1), .int .i64 ((rd_T39 l0 x12_1).f2.f4), .int .i64 0]) ?_ 8 _ rfl; (with_reducible repeat (first | refine blk_drewN ?_ _ | refine blk_drew ?_ | refine blk_alloc ?_ _)); refine blk_put (cs := #[.int .i64 ((rd_T39 l0 x12_1).f0), .int .i64 ((rd_T39 l0 x12_1).f1), .int .i64 ((rd_T39 l0 x12_1).f2.f0), .int .i64 ((rd_T39 l0 x12_1).f2.f1), .int .i64 ((rd_T39 l0 x12_1).f2.f2), .int .i64 ((rd_T39 l0 x12_1).f2.f3.f0), .int .i64 ((rd_T39 l0 x12_1).f2.f3.f1), .int .i64 0, .int .i64 0]) ?_ 7 _ rfl; (with_reducible repeat (first | refine blk_drewN ?_ _ | refine blk_drew ?_ | refine blk_alloc ?_ _)); refine blk_put (cs := #[.int .i64 ((rd_T39 l0 x12_1).f0), .int .i64 ((rd_T39 l0 x12_1).f1), .int .i64 ((rd_T39 l0 x12_1).f2.f0), .int .i64 ((rd_T39 l0 x12_1).f2.f1), .int .i64 ((rd_T39 l0 x12_1).f2.f2), .int .i64 ((rd_T39 l0 x12_1).f2.f3.f0), .int .i64 0, .int .i64 0, .int .i64 0]) ?_ 6 _ rfl; (with_reducible repeat (first | refine blk_drewN ?_ _ | refine blk_drew ?_ | refine blk_alloc ?_ _)); refine blk_put (cs := #[.int .i64 ((rd_T39 l0 x12_1).f0), .int .i64 ((rd_T39 l0 x12_1).f1), .int .i64 ((rd_T39 l0 x12_1).f2.f0), .int .i64 ((rd_T39 l0 x12_1).f2.f1), .int .i64 ((rd_T39 l0 x12_1).f2.f2), .int .i64 0, .int .i64 0, .int .i64 0, .int .i64 0]) ?_ 5 _ rfl; (with_reducible repeat (first | refine blk_drewN ?_ _ | refine blk_drew ?_ | refine blk_alloc ?_ _)); refine blk_put (cs := #[.int .i64 ((rd_T39 l0 x12_1).f0), .int .i64 ((rd_T39 l0 x12_1).f1), .int .i64 ((rd_T39 l0 x12_1).f2.f0), .int .i64 ((rd_T39 l0 x12_1).f2.f1), .int .i64 0, .int .i64 0, .int .i64 0, .int .i64 0, .int .i64 0]) ?_ 4 _ rfl; (with_reducible repeat (first | refine blk_drewN ?_ _ | refine blk_drew ?_ | refine blk_alloc ?_ _)); refine blk_put (cs := #[.int .i64 ((rd_T39 l0 x12_1).f0), .int .i64 ((rd_T39 l0 x12_1).f1), .int .i64 ((rd_T39 l0 x12_1).f2.f0), .int .i64 0, .int .i64 0, .int .i64 0, .int .i64 0, .int .i64 0, .int .i64 0]) ?_ 3 _ rfl; (with_reducible repeat (first | refine blk_drewN ?_ _ | refine blk_drew ?_ | refine blk_alloc ?_ _)); refine blk_put (cs := #[.int .i64 ((rd_T39 l0 x12_1).f0), .int .i64 ((rd_T39 l0 x12_1).f1), .int .i64 0, .int .i64 0, .int .i64 0, .int .i64 0, .int .i64 0, .int .i64 0, .int .i64 0]) ?_ 2 _ rfl; (with_reducible repeat (first | refine blk_drewN ?_ _ | refine blk_drew ?_ | refine blk_alloc ?_ _)); refine blk_put (cs := #[.int .i64 ((rd_T39 l0 x12_1).f0), .int .i64 0, .int .i64 0, .int .i64 0, .int .i64 0, .int .i64 0, .int .i64 0, .int .i64 0, .int .i64 0]) ?_ 1 _ rfl; (with_reducible repeat (first | refine blk_drewN ?_ _ | refine blk_drew ?_ | refine blk_alloc ?_ _)); refine blk_put (cs := #[.int .i64 0, .int .i64 0, .int .i64 0, .int .i64 0, .int .i64 0, .int .i64 0, .int .i64 0, .int .i64 0, .int .i64 0]) ?_ 0 _ rfl; (with_reducible repeat (first | refine blk_drewN ?_ _ | refine blk_drew ?_ | refine blk_alloc ?_ _)); exact BK264.out) hg (Kd.R_away HO_7.out (fun _ hk => hk.2))); have n1_ := Aside0.mk (hb); have n2_ := Aside0.mk (ho); clear BK264; clear HB; clear HO_7; have BK264 := n0_; have HB := n1_; have HO270 := n2_; clear n0_ n1_ n2_; clear ho hb hg hat))
        go_roundg k1
        case measure => have := HK1.out; omega
        case rel => exact ⟨(y268), (wrap64 (x12_1 + 1)), (by first | rfl | (simp; done) | (simp [*]; done)), H', ⟨by have := HK1.out; omega⟩, ⟨by (with_reducible repeat (first | apply Kd.R_alloc | apply Kd.R_drewN | apply Kd.R_drew)); exact Kd.R_mono HO270.out (fun _ hk => trivial)⟩, ⟨by repeat (first | (with_reducible first | exact HB.out | apply below_alloc | apply pw_below_drewN | apply below_drew1 | refine below_set ?_ GE264.out) | exact HB.out)⟩⟩
       ·rw [if_neg c15] at H
        exact absurd H (by simp)
     ·rw [if_neg c6] at H
      exact absurd H (by simp)
    ·rw [if_neg c5] at H
     exact absurd H (by simp)
   ·rw [if_neg c4] at H
    have c4b0 : decide (x12_1 < (l0.length : Int)) = false := decide_eq_false c4
    clear c4
    obtain rfl := Option.some.inj H
    go_wp2
    go_ret
    exact ⟨_, by first | rfl | (simp [errW_none, errW_some] <;> rfl) | (simp [*, errW_none, errW_some] <;> rfl), by (with_reducible repeat (first | apply Kd.R_alloc | apply Kd.R_drewN | apply Kd.R_drew)); exact HO_7.out, by repeat (first | (with_reducible first | exact HB.out | apply below_alloc | apply pw_below_drewN | apply below_drew1) | exact HB.out)⟩

/-! ### determinant_Discard: function 32 -/
def determinant_Discard.l0 : Nat → Int → Int → List (S39) → List (S39) → Int → Int → Option ((List (S39)))
 | 0, _, _, _, _, _, _ => none
 | k + 1, x1, x2, x7, x10, x11, x12 => if x12 < x11 then (if 0 ≤ x12 then (if x12 < (x10.length : Int) then (if ((rd_T39 x10 x12).f0) = x1 then (if ((rd_T39 x10 x12).f1) > x2 then (if x7.length < 1954687338268 then (determinant_Discard.l0 k x1 x2 (x7 ++ [(⟨(rd_T39 x10 x12).f0, (rd_T39 x10 x12).f1, (⟨(rd_T39 x10 x12).f2.f0, (rd_T39 x10 x12).f2.f1, (rd_T39 x10 x12).f2.f2, (⟨(rd_T39 x10 x12).f2.f3.f0, (rd_T39 x10 x12).f2.f3.f1⟩ : S35), (rd_T39 x10 x12).f2.f4, (rd_T39 x10 x12).f2.f5⟩ : S37)⟩ : S39)]) x10 x11 (wrap64 (x12 + 1))) else (none)) else (determinant_Discard.l0 k x1 x2 x7 x10 x11 (wrap64 (x12 + 1)))) else (if x7.length < 1954687338268 then (determinant_Discard.l0 k x1 x2 (x7 ++ [(⟨(rd_T39 x10 x12).f0, (rd_T39 x10 x12).f1, (⟨(rd_T39 x10 x12).f2.f0, (rd_T39 x10 x12).f2.f1, (rd_T39 x10 x12).f2.f2, (⟨(rd_T39 x10 x12).f2.f3.f0, (rd_T39 x10 x12).f2.f3.f1⟩ : S35), (rd_T39 x10 x12).f2.f4, (rd_T39 x10 x12).f2.f5⟩ : S37)⟩ : S39)]) x10 x11 (wrap64 (x12 + 1))) else (none))) else (none)) else (none)) else (some x7)
def determinant_Discard.f (k : Nat) (l0 : List (S39)) (a1 : Int) (a2 : Int) : Option ((List (S39))) := determinant_Discard.l0 k a1 a2 ([] : List (S39)) l0 (l0.length : Int) 0
theorem determinant_Discard.mono_l : ∀ k, (∀ y0 y1 y2 y3 y4 y5, LeO (determinant_Discard.l0 k y0 y1 y2 y3 y4 y5) (determinant_Discard.l0 (k + 1) y0 y1 y2 y3 y4 y5))
 | 0 => fun _ _ _ _ _ _ r h => by simp [determinant_Discard.l0] at h
 | k + 1 => by
  have ih0 := determinant_Discard.mono_l k
  ·intro y0 y1 y2 y3 y4 y5
   unfold determinant_Discard.l0
   repeat' first
   | (with_reducible exact ih0 _ _ _ _ _ _)
   | (with_reducible exact LeO.refl _)
   | (with_reducible exact LeO.none _)
   | (with_reducible refine LeO.ite ?_ ?_)
   | (with_reducible refine LeO.bind ?_ (fun _ => ?_))
   | exact ih0 _ _ _ _ _ _
   | exact LeO.none _
   | refine LeO.ite ?_ ?_
   | refine LeO.bind ?_ (fun _ => ?_)
theorem determinant_Discard.mono : ∀ a0 a1 a2 k, LeO (determinant_Discard.f k a0 a1 a2) (determinant_Discard.f (k + 1) a0 a1 a2) := by
 intro a0 a1 a2 k
 have ih0 := determinant_Discard.mono_l k
 unfold determinant_Discard.f
 repeat' first
   | (with_reducible exact ih0 _ _ _ _ _ _)
   | (with_reducible exact LeO.refl _)
   | (with_reducible exact LeO.none _)
   | (with_reducible refine LeO.ite ?_ ?_)
   | (with_reducible refine LeO.bind ?_ (fun _ => ?_))
   | exact ih0 _ _ _ _ _ _
   | exact LeO.none _
   | refine LeO.ite ?_ ?_
   | refine LeO.bind ?_ (fun _ => ?_)
set_option maxHeartbeats 8000000 in
set_option maxRecDepth 100000 in
theorem determinant_Discard.calls (k : Nat) (A0 : Option Addr) (c0 : Nat) (l0 : List (S39)) (a1 : Int) (a2 : Int) (r : List (S39)) (w : World) (hr0 : Kd.C k39 w A0 l0.length l0) (hc0 : l0.length ≤ c0) (h : determinant_Discard.f k l0 a1 a2 = some r) :
  Calls Try.prog 32 #[.slice A0 l0.length c0, .int .i64 a1, .int .i64 a2] w fun e w' => ∃ v0_ : Value, e = .returned (v0_) ∧ Kd.R k39 39 w' w.heap.size (fun _ => True) v0_ r ∧ Below w.heap.size w w' := by
 have hu39 := Try.underlying39
 have HR0 := Aside0.mk hr0
 have HC0 := Aside0.mk hc0
 clear hr0 hc0
 have HB := Aside0.mk (Below.refl w.heap.size w)
 have H : (determinant_Discard.l0 k a1 a2 ([] : List (S39)) l0 (l0.length : Int) 0) = some r := h
 clear h
 have H' := Aside0.mk H
 clear H
 go_enter Try.func32, Try.ntmps32
 go_wp2
 go_loopg [7, 12] k (fun kq v7 v12 w' => ∃ (x7_1 : List (S39)) (x12_1 : Int), v12 = .int .i64 x12_1 ∧ Aside0 (determinant_Discard.l0 kq a1 a2 x7_1 l0 (l0.length : Int) x12_1 = some r) ∧ Aside0 (kq ≤ k) ∧ Aside0 (Kd.R k39 39 w' w.heap.size (fun _ => True) v7 x7_1) ∧ Aside0 (Below w.heap.size w w'))
 case atStart => exact ⟨(([] : List (S39))), (0), (by first | rfl | (simp; done) | (simp [*]; done)), H', ⟨Nat.le_refl _⟩, ⟨by first | exact Kd.R_nil _ _ _ _ _ | exact Kd.N_nil _ _ _ _ _ | exact Kd.V_nil _ _ _ _ _ | exact Kd.Q_nil _ _ _ _ _ | exact Kd.S_nil _ _ _ _ _⟩, ⟨by repeat (first | (with_reducible first | exact HB.out | apply below_alloc | apply pw_below_drewN | apply below_drew1) | exact HB.out)⟩⟩
 case round =>
  clear H'
  try clear p2
  try clear c3
  obtain ⟨x7_1, x12_1, rfl, HA, HK1, HO_7, HB⟩ := hrel
  cases gk with
  | zero => exact absurd HA.out (by simp [determinant_Discard.l0])
  | succ k1 =>
   have H := HA.out
   clear HA
   simp only [determinant_Discard.l0] at H
   by_cases c4 : x12_1 < (l0.length : Int)
   ·rw [if_pos c4] at H
    have c4b0 : decide (x12_1 < (l0.length : Int)) = true := decide_eq_true c4
    clear c4
    by_cases c5 : 0 ≤ x12_1
    ·rw [if_pos c5] at H
     have c5b0 : decide (0 ≤ x12_1) = true := decide_eq_true c5
     clear c5
     by_cases c6 : x12_1 < (l0.length : Int)
     ·rw [if_pos c6] at H
      have c6b0 : decide (x12_1 < (l0.length : Int)) = true := decide_eq_true c6
      clear c6
      by_cases c7 : ((rd_T39 l0 x12_1).f0) = a1
      ·rw [if_pos c7] at H
       have c7b0 : (((rd_T39 l0 x12_1).f0) == a1) = true := beq_iff_eq.mpr c7
       have c7b1 : (((rd_T39 l0 x12_1).f0) != a1) = false := bne_eq_false_iff_eq.mpr c7
       clear c7
       by_cases c8 : ((rd_T39 l0 x12_1).f1) > a2
       ·rw [if_pos c8] at H
        have c8b0 : decide (a2 < ((rd_T39 l0 x12_1).f1)) = true := decide_eq_true c8
        clear c8
        by_cases c9 : x7_1.length < 1954687338268
        ·rw [if_pos c9] at H
         have LMc9 := Aside0.mk c9
         clear c9
         obtain ⟨y273, hy273⟩ : ∃ y_ : List (S39), y_ = (x7_1 ++ [(⟨(rd_T39 l0 x12_1).f0, (rd_T39 l0 x12_1).f1, (⟨(rd_T39 l0 x12_1).f2.f0, (rd_T39 l0 x12_1).f2.f1, (rd_T39 l0 x12_1).f2.f2, (⟨(rd_T39 l0 x12_1).f2.f3.f0, (rd_T39 l0 x12_1).f2.f3.f1⟩ : S35), (rd_T39 l0 x12_1).f2.f4, (rd_T39 l0 x12_1).f2.f5⟩ : S37)⟩ : S39)]) := ⟨_, rfl⟩
         replace H : (determinant_Discard.l0 k1 a1 a2 y273 l0 (l0.length : Int) (wrap64 (x12_1 + 1))) = some r := by first | (rw [hy273]; with_reducible exact H) | (have H2_ := (Option.bind_some _ _).symm.trans H; rw [hy273]; with_reducible exact H2_) | (have H2_ := (Option.bind_some _ _).symm.trans H; with_reducible exact H2_) | with_reducible exact H | (rw [hy273]; exact H) | exact H
         have Ny273 := Aside0.mk hy273
         clear hy273
         have H' := Aside0.mk H
         clear H
         have p271 : 0 ≤ (x12_1 : Int) := of_decide_eq_true (by first | (with_reducible assumption) | assumption)
         have q271 : x12_1 < (l0.length : Int) := of_decide_eq_true (by first | (with_reducible assumption) | assumption)
         obtain ⟨ad271, e271, hx271_0, hx271_1, hx271_2, hx271_3, hx271_4, hx271_5, hx271_6, hx271_7, hx271_8⟩ := at_T39 HR0.out x12_1 p271 q271
         cases e271
         replace hx271_0 := (HB.out.cell (World.block_lt_of_cell? w _ hx271_0)).trans hx271_0
         replace hx271_1 := (HB.out.cell (World.block_lt_of_cell? w _ hx271_1)).trans hx271_1
         replace hx271_2 := (HB.out.cell (World.block_lt_of_cell? w _ hx271_2)).trans hx271_2
         replace hx271_3 := (HB.out.cell (World.block_lt_of_cell? w _ hx271_3)).trans hx271_3
         replace hx271_4 := (HB.out.cell (World.block_lt_of_cell? w _ hx271_4)).trans hx271_4
         replace hx271_5 := (HB.out.cell (World.block_lt_of_cell? w _ hx271_5)).trans hx271_5
         replace hx271_6 := (HB.out.cell (World.block_lt_of_cell? w _ hx271_6)).trans hx271_6
         replace hx271_7 := (HB.out.cell (World.block_lt_of_cell? w _ hx271_7)).trans hx271_7
         replace hx271_8 := (HB.out.cell (World.block_lt_of_cell? w _ hx271_8)).trans hx271_8
         replace p271 := eq_true p271
         replace q271 := eq_true q271
         go_wp2_with (first | ((with_reducible refine gate_dst (N := 9) rfl ?_); refine box_event ?hg (N := 9) ?hd (cs := #[.int .i64 0, .int .i64 0, .int .i64 0, .int .i64 0, .int .i64 0, .int .i64 0, .int .i64 0, .int .i64 0, .int .i64 0]) (t := 39) ?hr ?_; (case hd => rfl); (case hg => rfl); (case hr => first | (go_simp; done) | (go_simp; rfl)); intro gb272 hg w10 hbox hb; have n0_ := Aside0.mk (Kd.R_below (Kd.R_elderB (by (with_reducible repeat (first | apply Kd.R_alloc | apply Kd.R_drewN | apply Kd.R_drew)); exact HO_7.out) gb272 (Nat.le_of_eq hg.symm)) hb); have n1_ := Aside0.mk (below_step (by repeat (first | (with_reducible first | exact HB.out | apply below_alloc | apply pw_below_drewN | apply below_drew1) | exact HB.out)) hb); have n2_ := Aside0.mk (hbox); have n3_ := Aside0.mk ((by rw [hg]; exact (below_size (by repeat (first | (with_reducible first | exact HB.out | apply below_alloc | apply pw_below_drewN | apply below_drew1) | exact HB.out))) : w.heap.size ≤ gb272)); have n4_ := Aside0.mk ((by rw [hg]; exact (below_size (by repeat (first | (with_reducible first | exact HB.out | apply below_alloc | apply pw_below_drewN | apply below_drew1) | exact HB.out))) : w.heap.size ≤ gb272)); clear HO_7; clear HB; have HO_7 := n0_; have HB := n1_; have BK272 := n2_; have GW272 := n3_; have GE272 := n4_; clear n0_ n1_ n2_ n3_ n4_; clear hb hbox hg; have hcz11_0 : w10.cell? ⟨gb272, 0, none⟩ = some (.int .i64 0) := (blk_cell BK272.out 0).trans rfl; have hcz11_1 : w10.cell? ⟨gb272, 1, none⟩ = some (.int .i64 0) := (blk_cell BK272.out 1).trans rfl; have hcz11_2 : w10.cell? ⟨gb272, 2, none⟩ = some (.int .i64 0) := (blk_cell BK272.out 2).trans rfl; have hcz11_3 : w10.cell? ⟨gb272, 3, none⟩ = some (.int .i64 0) := (blk_cell BK272.out 3).trans rfl; have hcz11_4 : w10.cell? ⟨gb272, 4, none⟩ = some (.int .i64 0) := (blk_cell BK272.out 4).trans rfl; have hcz11_5 : w10.cell? ⟨gb272, 5, none⟩ = some (.int .i64 0) := (blk_cell BK272.out 5).trans rfl; have hcz11_6 : w10.cell? ⟨gb272, 6, none⟩ = some (.int .i64 0) := (blk_cell BK272.out 6).trans rfl; have hcz11_7 : w10.cell? ⟨gb272, 7, none⟩ = some (.int .i64 0) := (blk_cell BK272.out 7).trans rfl; have hcz11_8 : w10.cell? ⟨gb272, 8, none⟩ = some (.int .i64 0) := (blk_cell BK272.out 8).trans rfl; have hfz11_0 := blk_frozen BK272.out 0; have hfz11_1 := blk_frozen BK272.out 1; have hfz11_2 := blk_frozen BK272.out 2; have hfz11_3 := blk_frozen BK272.out 3; have hfz11_4 := blk_frozen BK272.out 4; have hfz11_5 := blk_frozen BK272.out 5; have hfz11_6 := blk_frozen BK272.out 6; have hfz11_7 := blk_frozen BK272.out 7; have hfz11_8 := blk_frozen BK272.out 8) | ((with_reducible refine gate_builtin (b := .append) (xs := #[.tmp 26, .tmp 28]) rfl ?_); at_builtin; refine Kd.R_append k39 (w0 := w) w.heap.size rfl (.tmp 26) (.tmp 28) 24 39 (.agg #[(.int .i64 0), (.int .i64 0), (.int .i64 0), (.int .i64 0), (.int .i64 0), (.int .i64 0), (.int .i64 0), (.int .i64 0), (.int .i64 0)]) 72 rfl Try.underlying24 info39 rfl (by decide) (by omega) u7 x7_1 (⟨(rd_T39 l0 x12_1).f0, (rd_T39 l0 x12_1).f1, (⟨(rd_T39 l0 x12_1).f2.f0, (rd_T39 l0 x12_1).f2.f1, (rd_T39 l0 x12_1).f2.f2, (⟨(rd_T39 l0 x12_1).f2.f3.f0, (rd_T39 l0 x12_1).f2.f3.f1⟩ : S35), (rd_T39 l0 x12_1).f2.f4, (rd_T39 l0 x12_1).f2.f5⟩ : S37)⟩ : S39) [.int .i64 ((rd_T39 l0 x12_1).f0), .int .i64 ((rd_T39 l0 x12_1).f1), .int .i64 ((rd_T39 l0 x12_1).f2.f0), .int .i64 ((rd_T39 l0 x12_1).f2.f1), .int .i64 ((rd_T39 l0 x12_1).f2.f2), .int .i64 ((rd_T39 l0 x12_1).f2.f3.f0), .int .i64 ((rd_T39 l0 x12_1).f2.f3.f1), .int .i64 ((rd_T39 l0 x12_1).f2.f4), .int .i64 ((rd_T39 l0 x12_1).f2.f5)] (fun k_ => k_ ≠ gb272) (fun _ => False) rfl (by first | (go_simp; done) | (go_simp; rfl)) ?aP (fun _ hk => hk.elim) ?aF ?aO ?aB ?aS ?aL ?_; (case aP => exact k39_mkM _ _ _ (⟨(rd_T39 l0 x12_1).f0, (rd_T39 l0 x12_1).f1, (⟨(rd_T39 l0 x12_1).f2.f0, (rd_T39 l0 x12_1).f2.f1, (rd_T39 l0 x12_1).f2.f2, (⟨(rd_T39 l0 x12_1).f2.f3.f0, (rd_T39 l0 x12_1).f2.f3.f1⟩ : S35), (rd_T39 l0 x12_1).f2.f4, (rd_T39 l0 x12_1).f2.f5⟩ : S37)⟩ : S39)); (case aB => exact (by repeat (first | (with_reducible first | exact HB.out | apply below_alloc | apply pw_below_drewN | apply below_drew1 | refine below_set ?_ GE272.out) | exact HB.out))); (case aF => exact (fun k_ hk => Kd.freshB (g := gb272) (o := .cells #[.int .i64 ((rd_T39 l0 x12_1).f0), .int .i64 ((rd_T39 l0 x12_1).f1), .int .i64 ((rd_T39 l0 x12_1).f2.f0), .int .i64 ((rd_T39 l0 x12_1).f2.f1), .int .i64 ((rd_T39 l0 x12_1).f2.f2), .int .i64 ((rd_T39 l0 x12_1).f2.f3.f0), .int .i64 ((rd_T39 l0 x12_1).f2.f3.f1), .int .i64 ((rd_T39 l0 x12_1).f2.f4), .int .i64 ((rd_T39 l0 x12_1).f2.f5)] 39 (0, 0)) (by (with_reducible repeat (first | refine blk_drewN ?_ _ | refine blk_drew ?_ | refine blk_alloc ?_ _)); refine blk_put (cs := #[.int .i64 ((rd_T39 l0 x12_1).f0), .int .i64 ((rd_T39 l0 x12_1).f1), .int .i64 ((rd_T39 l0 x12_1).f2.f0), .int .i64 ((rd_T39 l0 x12_1).f2.f1), .int .i64 ((rd_T39 l0 x12_1).f2.f2), .int .i64 ((rd_T39 l0 x12_1).f2.f3.f0), .int .i64 ((rd_T39 l0 x12_1).f2.f3.f1), .int .i64 ((rd_T39 l0 x12_1).f2.f4), .int .i64 0]) ?_ 8 _ rfl; (with_reducible repeat (first | refine blk_drewN ?_ _ | refine blk_drew ?_ | refine blk_alloc ?_ _)); refine blk_put (cs := #[.int .i64 ((rd_T39 l0 x12_1).f0), .int .i64 ((rd_T39 l0 x12_1).f1), .int .i64 ((rd_T39 l0 x12_1).f2.f0), .int .i64 ((rd_T39 l0 x12_1).f2.f1), .int .i64 ((rd_T39 l0 x12_1).f2.f2), .int .i64 ((rd_T39 l0 x12_1).f2.f3.f0), .int .i64 ((rd_T39 l0 x12_1).f2.f3.f1), .int .i64 0, .int .i64 0]) ?_ 7 _ rfl; (with_reducible repeat (first | refine blk_drewN ?_ _ | refine blk_drew ?_ | refine blk_alloc ?_ _)); refine blk_put (cs := #[.int .i64 ((rd_T39 l0 x12_1).f0), .int .i64 ((rd_T39 l0 x12_1).f1), .int .i64 ((rd_T39 l0 x12_1).f2.f0), .int .i64 ((rd_T39 l0 x12_1).f2.f1), .int .i64 ((rd_T39 l0 x12_1).f2.f2), .int .i64 ((rd_T39 l0 x12_1).f2.f3.f0), .int .i64 0, .int .i64 0, .int .i64 0]) ?_ 6 _ rfl; (with_reducible repeat (first | refine blk_drewN ?_ _ | refine blk_drew ?_ | refine blk_alloc ?_ _)); refine blk_put (cs := #[.int .i64 ((rd_T39 l0 x12_1).f0), .int .i64 ((rd_T39 l0 x12_1).f1), .int .i64 ((rd_T39 l0 x12_1).f2.f0), .int .i64 ((rd_T39 l0 x12_1).f2.f1), .int .i64 ((rd_T39 l0 x12_1).f2.f2), .int .i64 0, .int .i64 0, .int .i64 0, .int .i64 0]) ?_ 5 _ rfl; (with_reducible repeat (first | refine blk_drewN ?_ _ | refine blk_drew ?_ | refine blk_alloc ?_ _)); refine blk_put (cs := #[.int .i64 ((rd_T39 l0 x12_1).f0), .int .i64 ((rd_T39 l0 x12_1).f1), .int .i64 ((rd_T39 l0 x12_1).f2.f0), .int .i64 ((rd_T39 l0 x12_1).f2.f1), .int .i64 0, .int .i64 0, .int .i64 0, .int .i64 0, .int .i64 0]) ?_ 4 _ rfl; (with_reducible repeat (first | refine blk_drewN ?_ _ | refine blk_drew ?_ | refine blk_alloc ?_ _)); refine blk_put (cs := #[.int .i64 ((rd_T39 l0 x12_1).f0), .int .i64 ((rd_T39 l0 x12_1).f1), .int .i64 ((rd_T39 l0 x12_1).f2.f0), .int .i64 0, .int .i64 0, .int .i64 0, .int .i64 0, .int .i64 0, .int .i64 0]) ?_ 3 _ rfl; (with_reducible repeat (first | refine blk_drewN ?_ _ | refine blk_drew ?_ | refine blk_alloc ?_ _)); refine blk_put (cs := #[.int .i64 ((rd_T39 l0 x12_1).f0), .int .i64 ((rd_T39 l0 x12_1).f1), .int .i64 0, .int .i64 0, .int .i64 0, .int .i64 0, .int .i64 0, .int .i64 0, .int .i64 0]) ?_ 2 _ rfl; (with_reducible repeat (first | refine blk_drewN ?_ _ | refine blk_drew ?_ | refine blk_alloc ?_ _)); refine blk_put (cs := #[.int .i64 ((rd_T39 l0 x12_1).f0), .int .i64 0, .int .i64 0, .int .i64 0, .int .i64 0, .int .i64 0, .int .i64 0, .int .i64 0, .int .i64 0]) ?_ 1 _ rfl; (with_reducible repeat (first | refine blk_drewN ?_ _ | refine blk_drew ?_ | refine blk_alloc ?_ _)); refine blk_put (cs := #[.int .i64 0, .int .i64 0, .int .i64 0, .int .i64 0, .int .i64 0, .int .i64 0, .int .i64 0, .int .i64 0, .int .i64 0]) ?_ 0 _ rfl; (with_reducible repeat (first | refine blk_drewN ?_ _ | refine blk_drew ?_ | refine blk_alloc ?_ _)); exact BK272.out) k_ hk)); (case aO => exact (by (with_reducible repeat (first | apply Kd.R_alloc | apply Kd.R_drewN | apply Kd.R_drew)); exact Kd.R_mono (Kd.R_far (p := ⟨gb272, 8, none⟩) (Kd.R_far (p := ⟨gb272, 7, none⟩) (Kd.R_far (p := ⟨gb272, 6, none⟩) (Kd.R_far (p := ⟨gb272, 5, none⟩) (Kd.R_far (p := ⟨gb272, 4, none⟩) (Kd.R_far (p := ⟨gb272, 3, none⟩) (Kd.R_far (p := ⟨gb272, 2, none⟩) (Kd.R_far (p := ⟨gb272, 1, none⟩) (Kd.R_far (p := ⟨gb272, 0, none⟩) (Kd.R_mono HO_7.out (fun k_ hk => (⟨hk, hk.2⟩ : _ ∧ k_ ≠ gb272))) (fun _ hk => hk.2) (.int .i64 ((rd_T39 l0 x12_1).f0))) (fun _ hk => hk.2) (.int .i64 ((rd_T39 l0 x12_1).f1))) (fun _ hk => hk.2) (.int .i64 ((rd_T39 l0 x12_1).f2.f0))) (fun _ hk => hk.2) (.int .i64 ((rd_T39 l0 x12_1).f2.f1))) (fun _ hk => hk.2) (.int .i64 ((rd_T39 l0 x12_1).f2.f2))) (fun _ hk => hk.2) (.int .i64 ((rd_T39 l0 x12_1).f2.f3.f0))) (fun _ hk => hk.2) (.int .i64 ((rd_T39 l0 x12_1).f2.f3.f1))) (fun _ hk => hk.2) (.int .i64 ((rd_T39 l0 x12_1).f2.f4))) (fun _ hk => hk.2) (.int .i64 ((rd_T39 l0 x12_1).f2.f5))) (fun _ hk => hk.1.2))); (case aS => exact (below_size (by repeat (first | (with_reducible first | exact HB.out | apply below_alloc | apply pw_below_drewN | apply below_drew1 | refine below_set ?_ GE272.out) | exact HB.out)))); (case aL => have := LMc9.out; omega); intro v274 w12 ho hb hg hat; rw [← Ny273.out] at ho; have n0_ := Aside0.mk (blk_grown (g := gb272) (o := .cells #[.int .i64 ((rd_T39 l0 x12_1).f0), .int .i64 ((rd_T39 l0 x12_1).f1), .int .i64 ((rd_T39 l0 x12_1).f2.f0), .int .i64 ((rd_T39 l0 x12_1).f2.f1), .int .i64 ((rd_T39 l0 x12_1).f2.f2), .int .i64 ((rd_T39 l0 x12_1).f2.f3.f0), .int .i64 ((rd_T39 l0 x12_1).f2.f3.f1), .int .i64 ((rd_T39 l0 x12_1).f2.f4), .int .i64 ((rd_T39 l0 x12_1).f2.f5)] 39 (0, 0)) (by (with_reducible repeat (first | refine blk_drewN ?_ _ | refine blk_drew ?_ | refine blk_alloc ?_ _)); refine blk_put (cs := #[.int .i64 ((rd_T39 l0 x12_1).f0), .int .i64 ((rd_T39 l0 x12_1).f1), .int .i64 ((rd_T39 l0 x12_1).f2.f0), .int .i64 ((rd_T39 l0 x12_1).f2.f1), .int .i64 ((rd_T39 l0 x12_1).f2.f2), .int .i64 ((rd_T39 l0 x12_1).f2.f3.f0), .int .i64 ((rd_T39 l0 x12_1).f2.f3.f1), .int .i64 ((rd_T39 l0 x12_1).f2.f4), .int .i64 0]) ?_ 8 _ rfl; (with_reducible repeat (first | refine blk_drewN ?_ _ | refine blk_drew ?_ | refine blk_alloc ?_ _)); refine blk_put (cs := #[.int .i64 ((rd_T39 l0 x12_1).f0), .int .i64 ((rd_T39 l0 x12_1).f1), .int .i64 ((rd_T39 l0 x12_1).f2.f0), .int .i64 ((rd_T39 l0 x12_1).f2.f1), .int .i64 ((rd_T39 l0 x12_1).f2.f2), .int .i64 ((rd_T39 l0 x12_1).f2.f3.f0), .int .i64 ((rd_T39 l0 x12_1).f2.f3.f1), .int .i64 0, .int .i64 0]) ?_ 7 _ rfl; (with_reducible repeat (first | refine blk_drewN ?_ _ | refine blk_drew ?_ | refine blk_alloc ?_ _)); refine blk_put (cs := #[.int .i64 ((rd_T39 l0 x12_1).f0), .int .i64 ((rd_T39 l0 x12_1).f1), .int .i64 ((rd_T39 l0 x12_1).f2.f0), .int .i64 ((rd_T39 l0 x12_1).f2.f1), .int .i64 ((rd_T39 l0 x12_1).f2.f2), .int .i64 ((rd_T39 l0 x12_1).f2.f3.f0), .int .i64 0, .int .i64 0, .int .i64 0]) ?_ 6 _ rfl; (with_reducible repeat (first | refine blk_drewN ?_ _ | refine blk_drew ?_ | refine blk_alloc ?_ _)); refine blk_put (cs := #[.int .i64 ((rd_T39 l0 x12_1).f0), .int .i64 ((rd_T39 l0 x12_1).f1), .int .i64 ((rd_T39 l0 x12_1).f2.f0), .int .i64 ((rd_T39 l0 x12_1).f2.f1), .int .i64 ((rd_T39 l0 x12_1).f2.f2), .int .i64 0, .int .i64 0, .int .i64 0, .int .i64 0]) ?_ 5 _ rfl; (with_reducible repeat (first | refine blk_drewN ?_ _ | refine blk_drew ?_ | refine blk_alloc ?_ _)); refine blk_put (cs := #[.int .i64 ((rd_T39 l0 x12_1).f0), .int .i64 ((rd_T39 l0 x12_1).f1), .int .i64 ((rd_T39 l0 x12_1).f2.f0), .int .i64 ((rd_T39 l0 x12_1).f2.f1), .int .i64 0, .int .i64 0, .int .i64 0, .int .i64 0, .int .i64 0]) ?_ 4 _ rfl; (with_reducible repeat (first | refine blk_drewN ?_ _ | refine blk_drew ?_ | refine blk_alloc ?_ _)); refine blk_put (cs := #[.int .i64 ((rd_T39 l0 x12_1).f0), .int .i64 ((rd_T39 l0 x12_1).f1), .int .i64 ((rd_T39 l0 x12_1).f2.f0), .int .i64 0, .int .i64 0, .int .i64 0, .int .i64 0, .int .i64 0, .int .i64 0]) ?_ 3 _ rfl; (with_reducible repeat (first | refine blk_drewN ?_ _ | refine blk_drew ?_ | refine blk_alloc ?_ _)); refine blk_put (cs := #[.int .i64 ((rd_T39 l0 x12_1).f0), .int .i64 ((rd_T39 l0 x12_1).f1), .int .i64 0, .int .i64 0, .int .i64 0, .int .i64 0, .int .i64 0, .int .i64 0, .int .i64 0]) ?_ 2 _ rfl; (with_reducible repeat (first | refine blk_drewN ?_ _ | refine blk_drew ?_ | refine blk_alloc ?_ _)); refine blk_put (cs := #[.int .i64 ((rd_T39 l0 x12_1).f0), .int .i64 0, .int .i64 0, .int .i64 0, .int .i64 0, .int .i64 0, .int .i64 0, .int .i64 0, .int .i64 0]) ?_ 1 _ rfl; (with_reducible repeat (first | refine blk_drewN ?_ _ | refine blk_drew ?_ | refine blk_alloc ?_ _)); refine blk_put (cs := #[.int .i64 0, .int .i64 0, .int .i64 0, .int .i64 0, .int .i64 0, .int .i64 0, .int .i64 0, .int .i64 0, .int .i64 0]) ?_ 0 _ rfl; (with_reducible repeat (first | refine blk_drewN ?_ _ | refine blk_drew ?_ | refine blk_alloc ?_ _)); exact BK272.out) hg (Kd.R_away HO_7.out (fun _ hk => hk.2))); have n1_ := Aside0.mk (hb); have n2_ := Aside0.mk (ho); clear BK272; clear HB; clear HO_7; have BK272 := n0_; have HB := n1_; have HO275 := n2_; clear n0_ n1_ n2_; clear ho hb hg hat))
         go_roundg k1
         case measure => have := HK1.out; omega
         case rel => exact ⟨(y273), (wrap64 (x12_1 + 1)), (by first | rfl | (simp; done) | (simp [*]; done)), H', ⟨by have := HK1.out; omega⟩, ⟨by (with_reducible repeat (first | apply Kd.R_alloc | apply Kd.R_drewN | apply Kd.R_drew)); exact Kd.R_mono HO275.out (fun _ hk => trivial)⟩, ⟨by repeat (first | (with_reducible first | exact HB.out | apply below_alloc | apply pw_below_drewN | apply below_drew1 | refine below_set ?_ GE272.out) | exact HB.out)⟩⟩
        ·rw [if_neg c9] at H
         exact absurd H (by simp)
       ·rw [if_neg c8] at H
        have c8b0 : decide (a2 < ((rd_T39 l0 x12_1).f1)) = false := decide_eq_false c8
        clear c8
        have H' := Aside0.mk H
        clear H
        have p271 : 0 ≤ (x12_1 : Int) := of_decide_eq_true (by first | (with_reducible assumption) | assumption)
        have q271 : x12_1 < (l0.length : Int) := of_decide_eq_true (by first | (with_reducible assumption) | assumption)
        obtain ⟨ad271, e271, hx271_0, hx271_1, hx271_2, hx271_3, hx271_4, hx271_5, hx271_6, hx271_7, hx271_8⟩ := at_T39 HR0.out x12_1 p271 q271
        cases e271
        replace hx271_0 := (HB.out.cell (World.block_lt_of_cell? w _ hx271_0)).trans hx271_0
        replace hx271_1 := (HB.out.cell (World.block_lt_of_cell? w _ hx271_1)).trans hx271_1
        replace hx271_2 := (HB.out.cell (World.block_lt_of_cell? w _ hx271_2)).trans hx271_2
        replace hx271_3 := (HB.out.cell (World.block_lt_of_cell? w _ hx271_3)).trans hx271_3
        replace hx271_4 := (HB.out.cell (World.block_lt_of_cell? w _ hx271_4)).trans hx271_4
        replace hx271_5 := (HB.out.cell (World.block_lt_of_cell? w _ hx271_5)).trans hx271_5
        replace hx271_6 := (HB.out.cell (World.block_lt_of_cell? w _ hx271_6)).trans hx271_6
        replace hx271_7 := (HB.out.cell (World.block_lt_of_cell? w _ hx271_7)).trans hx271_7
        replace hx271_8 := (HB.out.cell (World.block_lt_of_cell? w _ hx271_8)).trans hx271_8
        replace p271 := eq_true p271
        replace q271 := eq_true q271
        go_wp2_with (first | ((with_reducible refine gate_dst (N := 9) rfl ?_); refine box_event ?hg (N := 9) ?hd (cs := #[.int .i64 0, .int .i64 0, .int .i64 0, .int .i64 0, .int .i64 0, .int .i64 0, .int .i64 0, .int .i64 0, .int .i64 0]) (t := 39) ?hr ?_; (case hd => rfl); (case hg => rfl); (case hr => first | (go_simp; done) | (go_simp; rfl)); intro gb272 hg w13 hbox hb; have n0_ := Aside0.mk (Kd.R_below (Kd.R_elderB (by (with_reducible repeat (first | apply Kd.R_alloc | apply Kd.R_drewN | apply Kd.R_drew)); exact HO_7.out) gb272 (Nat.le_of_eq hg.symm)) hb); have n1_ := Aside0.mk (below_step (by repeat (first | (with_reducible first | exact HB.out | apply below_alloc | apply pw_below_drewN | apply below_drew1) | exact HB.out)) hb); have n2_ := Aside0.mk (hbox); have n3_ := Aside0.mk ((by rw [hg]; exact (below_size (by repeat (first | (with_reducible first | exact HB.out | apply below_alloc | apply pw_below_drewN | apply below_drew1) | exact HB.out))) : w.heap.size ≤ gb272)); have n4_ := Aside0.mk ((by rw [hg]; exact (below_size (by repeat (first | (with_reducible first | exact HB.out | apply below_alloc | apply pw_below_drewN | apply below_drew1) | exact HB.out))) : w.heap.size ≤ gb272)); clear HO_7; clear HB; have HO_7 := n0_; have HB := n1_; have BK272 := n2_; have GW272 := n3_; have GE272 := n4_; clear n0_ n1_ n2_ n3_ n4_; clear hb hbox hg; have hcz14_0 : w13.cell? ⟨gb272, 0, none⟩ = some (.int .i64 0) := (blk_cell BK272.out 0).trans rfl; have hcz14_1 : w13.cell? ⟨gb272, 1, none⟩ = some (.int .i64 0) := (blk_cell BK272.out 1).trans rfl; have hcz14_2 : w13.cell? ⟨gb272, 2, none⟩ = some (.int .i64 0) := (blk_cell BK272.out 2).trans rfl; have hcz14_3 : w13.cell? ⟨gb272, 3, none⟩ = some (.int .i64 0) := (blk_cell BK272.out 3).trans rfl; have hcz14_4 : w13.cell? ⟨gb272, 4, none⟩ = some (.int .i64 0) := (blk_cell BK272.out 4).trans rfl; have hcz14_5 : w13.cell? ⟨gb272, 5, none⟩ = some (.int .i64 0) := (blk_cell BK272.out 5).trans rfl; have hcz14_6 : w13.cell? ⟨gb272, 6, none⟩ = some (.int .i64 0) := (blk_cell BK272.out 6).trans rfl; have hcz14_7 : w13.cell? ⟨gb272, 7, none⟩ = some (.int .i64 0) := (blk_cell BK272.out 7).trans rfl; have hcz14_8 : w13.cell? ⟨gb272, 8, none⟩ = some (.int .i64 0) := (blk_cell BK272.out 8).trans rfl; have hfz14_0 := blk_frozen BK272.out 0; have hfz14_1 := blk_frozen BK272.out 1; have hfz14_2 := blk_frozen BK272.out 2; have hfz14_3 := blk_frozen BK272.out 3; have hfz14_4 := blk_frozen BK272.out 4; have hfz14_5 := blk_frozen BK272.out 5; have hfz14_6 := blk_frozen BK272.out 6; have hfz14_7 := blk_frozen BK272.out 7; have hfz14_8 := blk_frozen BK272.out 8))
        go_roundg k1
        case measure => have := HK1.out; omega
        case rel => exact ⟨(x7_1), (wrap64 (x12_1 + 1)), (by first | rfl | (simp; done) | (simp [*]; done)), H', ⟨by have := HK1.out; omega⟩, ⟨by (with_reducible repeat (first | apply Kd.R_alloc | apply Kd.R_drewN | apply Kd.R_drew)); exact Kd.R_mono (Kd.R_far (p := ⟨gb272, 8, none⟩) (Kd.R_far (p := ⟨gb272, 7, none⟩) (Kd.R_far (p := ⟨gb272, 6, none⟩) (Kd.R_far (p := ⟨gb272, 5, none⟩) (Kd.R_far (p := ⟨gb272, 4, none⟩) (Kd.R_far (p := ⟨gb272, 3, none⟩) (Kd.R_far (p := ⟨gb272, 2, none⟩) (Kd.R_far (p := ⟨gb272, 1, none⟩) (Kd.R_far (p := ⟨gb272, 0, none⟩) (Kd.R_mono HO_7.out (fun k_ hk => (⟨hk, hk.2⟩ : _ ∧ k_ ≠ gb272))) (fun _ hk => hk.2) (.int .i64 ((rd_T39 l0 x12_1).f0))) (fun _ hk => hk.2) (.int .i64 ((rd_T39 l0 x12_1).f1))) (fun _ hk => hk.2) (.int .i64 ((rd_T39 l0 x12_1).f2.f0))) (fun _ hk => hk.2) (.int .i64 ((rd_T39 l0 x12_1).f2.f1))) (fun _ hk => hk.2) (.int .i64 ((rd_T39 l0 x12_1).f2.f2))) (fun _ hk => hk.2) (.int .i64 ((rd_T39 l0 x12_1).f2.f3.f0))) (fun _ hk => hk.2) (.int .i64 ((rd_T39 l0 x12_1).f2.f3.f1))) (fun _ hk => hk.2) (.int .i64 ((rd_T39 l0 x12_1).f2.f4))) (fun _ hk => hk.2) (.int .i64 ((rd_T39 l0 x12_1).f2.f5))) (fun _ hk => trivial)⟩, ⟨by repeat (first | (with_reducible first | exact HB.out | apply below_alloc | apply pw_below_drewN | apply below_drew1 | refine below_set ?_ GE272.out) | exact HB.out)⟩⟩
      ·rw [if_neg c7] at H
       have c7b0 : (((rd_T39 l0 x12_1).f0) == a1) = false := beq_eq_false_iff_ne.mpr c7
       have c7b1 : (((rd_T39 l0 x12_1).f0) != a1) = true := bne_iff_ne.mpr c7
       by_cases c15 : x7_1.length < 1954687338268
       ·rw [if_pos c15] at H
        have LMc15 := Aside0.mk c15
        clear c15
        obtain ⟨y276, hy276⟩ : ∃ y_ : List (S39), y_ = (x7_1 ++ [(⟨(rd_T39 l0 x12_1).f0, (rd_T39 l0 x12_1).f1, (⟨(rd_T39 l0 x12_1).f2.f0, (rd_T39 l0 x12_1).f2.f1, (rd_T39 l0 x12_1).f2.f2, (⟨(rd_T39 l0 x12_1).f2.f3.f0, (rd_T39 l0 x12_1).f2.f3.f1⟩ : S35), (rd_T39 l0 x12_1).f2.f4, (rd_T39 l0 x12_1).f2.f5⟩ : S37)⟩ : S39)]) := ⟨_, rfl⟩
        replace H : (determinant_Discard.l0 k1 a1 a2 y276 l0 (l0.length : Int) (wrap64 (x12_1 + 1))) = some r := by first | (rw [hy276]; with_reducible exact H) | (have H2_ := (Option.bind_some _ _).symm.trans H; rw [hy276]; with_reducible exact H2_) | (have H2_ := (Option.bind_some _ _).symm.trans H; with_reducible exact H2_) | with_reducible exact H | (rw [hy276]; exact H) | exact H
        have Ny276 := Aside0.mk hy276
        clear hy276
        have H' := Aside0.mk H
        clear H
        have p271 : 0 ≤ (x12_1 : Int) := of_decide_eq_true (by first | (with_reducible assumption) | assumption)
        have q271 : x12_1 < (l0.length : Int) := of_decide_eq_true (by first | (with_reducible assumption) | assumption)
        obtain ⟨ad271, e271, hx271_0, hx271_1, hx271_2, hx271_3, hx271_4, hx271_5, hx271_6, hx271_7, hx271_8⟩ := at_T39 HR0.out x12_1 p271 q271
        cases e271
        replace hx271_0 := (HB.out.cell (World.block_lt_of_cell? w _ hx271_0)).trans hx271_0
        replace hx271_1 := (HB.out.cell (World.block_lt_of_cell? w _ hx271_1)).trans hx271_1
        replace hx271_2 := (HB.out.cell (World.block_lt_of_cell? w _ hx271_2)).trans hx271_2
        replace hx271_3 := (HB.out.cell (World.block_lt_of_cell? w _ hx271_3)).trans hx271_3
        replace hx271_4 := (HB.out.cell (World.block_lt_of_cell? w _ hx271_4)).trans hx271_4
        replace hx271_5 := (HB.out.cell (World.block_lt_of_cell? w _ hx271_5)).trans hx271_5
        replace hx271_6 := (HB.out.cell (World.block_lt_of_cell? w _ hx271_6)).trans hx271_6
        replace hx271_7 := (HB.out.cell (World.block_lt_of_cell? w _ hx271_7)).trans hx271_7
        replace hx271_8 := (HB.out.cell (World.block_lt_of_cell? w _ hx271_8)).trans hx271_8
        replace p271 := eq_true p271
        replace q271 := eq_true q271
        go_wp2_with (first | ((with_reducible refine gate_dst (N := 9) rfl ?_); refine box_event ?hg (N := 9) ?hd (cs := #[.int .i64 0, .int .i64 0, .int .i64 0, .int .i64 0, .int .i64 0, .int .i64 0, .int .i64 0, .int .i64 0, .int .i64 0]) (t := 39) ?hr ?_; (case hd => rfl); (case hg => rfl); (case hr => first | (go_simp; done) | (go_simp; rfl)); intro gb272 hg w16 hbox hb; have n0_ := Aside0.mk (Kd.R_below (Kd.R_elderB (by (with_reducible repeat (first | apply Kd.R_alloc | apply Kd.R_drewN | apply Kd.R_drew)); exact HO_7.out) gb272 (Nat.le_of_eq hg.symm)) hb); have n1_ := Aside0.mk (below_step (by repeat (first | (with_reducible first | exact HB.out | apply below_alloc | apply pw_below_drewN | apply below_drew1) | exact HB.out)) hb); have n2_ := Aside0.mk (hbox); have n3_ := Aside0.mk ((by rw [hg]; exact (below_size (by repeat (first | (with_reducible first | exact HB.out | apply below_alloc | apply pw_below_drewN | apply below_drew1) | exact HB.out))) : w.heap.size ≤ gb272)); have n4_ := Aside0.mk ((by rw [hg]; exact (below_size (by repeat (first | (with_reducible first | exact HB.out | apply below_alloc | apply pw_below_drewN | apply below_drew1) | exact HB.out))) : w.heap.size ≤ gb272)); clear HO_7; clear HB; have HO_7 := n0_; have HB := n1_; have BK272 := n2_; have GW272 := n3_; have GE272 := n4_; clear n0_ n1_ n2_ n3_ n4_; clear hb hbox hg; have hcz17_0 : w16.cell? ⟨gb272, 0, none⟩ = some (.int .i64 0) := (blk_cell BK272.out 0).trans rfl; have hcz17_1 : w16.cell? ⟨gb272, 1, none⟩ = some (.int .i64 0) := (blk_cell BK272.out 1).trans rfl; have hcz17_2 : w16.cell? ⟨gb272, 2, none⟩ = some (.int .i64 0) := (blk_cell BK272.out 2).trans rfl; have hcz17_3 : w16.cell? ⟨gb272, 3, none⟩ = some (.int .i64 0) := (blk_cell BK272.out 3).trans rfl; have hcz17_4 : w16.cell? ⟨gb272, 4, none⟩ = some (.int .i64 0) := (blk_cell BK272.out 4).trans rfl; have hcz17_5 : w16.cell? ⟨gb272, 5, none⟩ = some (.int .i64 0) := (blk_cell BK272.out 5).trans rfl; have hcz17_6 : w16.cell? ⟨gb272, 6, none⟩ = some (.int .i64 0) := (blk_cell BK272.out 6).trans rfl; have hcz17_7 : w16.cell? ⟨gb272, 7, none⟩ = some (.int .i64 0) := (blk_cell BK272.out 7).trans rfl; have hcz17_8 : w16.cell? ⟨gb272, 8, none⟩ = some (.int .i64 0) := (blk_cell BK272.out 8).trans rfl; have hfz17_0 := blk_frozen BK272.out 0; have hfz17_1 := blk_frozen BK272.out 1; have hfz17_2 := blk_frozen BK272.out 2; have hfz17_3 := blk_frozen BK272.out 3; have hfz17_4 := blk_frozen BK272.out 4; have hfz17_5 := blk_frozen BK272.out 5; have hfz17_6 := blk_frozen BK272.out 6; have hfz17_7 := blk_frozen BK272.out 7; have hfz17_8 := blk_frozen BK272.out 8) | ((with_reducible refine gate_builtin (b := .append) (xs := #[.tmp 26, .tmp 28]) rfl ?_); at_builtin; refine Kd.R_append k39 (w0 := w) w.heap.size rfl (.tmp 26) (.tmp 28) 24 39 (.agg #[(.int .i64 0), (.int .i64 0), (.int .i64 0), (.int .i64 0), (.int .i64 0), (.int .i64 0), (.int .i64 0), (.int .i64 0), (.int .i64 0)]) 72 rfl Try.underlying24 info39 rfl (by decide) (by omega) u7 x7_1 (⟨(rd_T39 l0 x12_1).f0, (rd_T39 l0 x12_1).f1, (⟨(rd_T39 l0 x12_1).f2.f0, (rd_T39 l0 x12_1).f2.f1, (rd_T39 l0 x12_1).f2.f2, (⟨(rd_T39 l0 x12_1).f2.f3.f0, (rd_T39 l0 x12_1).f2.f3.f1⟩ : S35), (rd_T39 l0 x12_1).f2.f4, (rd_T39 l0 x12_1).f2.f5⟩ : S37)⟩ : S39) [.int .i64 ((rd_T39 l0 x12_1).f0), .int .i64 ((rd_T39 l0 x12_1).f1), .int .i64 ((rd_T39 l0 x12_1).f2.f0), .int .i64 ((rd_T39 l0 x12_1).f2.f1), .int .i64 ((rd_T39 l0 x12_1).f2.f2), .int .i64 ((rd_T39 l0 x12_1).f2.f3.f0), .int .i64 ((rd_T39 l0 x12_1).f2.f3.f1), .int .i64 ((rd_T39 l0 x12_1).f2.f4), .int .i64 ((rd_T39 l0 x12_1).f2.f5)] (fun k_ => k_ ≠ gb272) (fun _ => False) rfl (by first | (go_simp; done) | (go_simp; rfl)) ?aP (fun _ hk => hk.elim) ?aF ?aO ?aB ?aS ?aL ?_; (case aP => exact k39_mkM _ _ _ (⟨(rd_T39 l0 x12_1).f0, (rd_T39 l0 x12_1).f1, (⟨(rd_T39 l0 x12_1).f2.f0, (rd_T39 l0 x12_1).f2.f1, (rd_T39 l0 x12_1).f2.f2, (⟨(rd_T39 l0 x12_1).f2.f3.f0, (rd_T39 l0 x12_1).f2.f3.f1⟩ : S35), (rd_T39 l0 x12_1).f2.f4, (rd_T39 l0 x12_1).f2.f5⟩ : S37)⟩ : S39)); (case aB => exact (by repeat (first | (with_reducible first | exact HB.out | apply below_alloc | apply pw_below_drewN | apply below_drew1 | refine below_set ?_ GE272.out) | exact HB.out))); (case aF => exact (fun k_ hk => Kd.freshB (g := gb272) (o := .cells #[.int .i64 ((rd_T39 l0 x12_1).f0), .int .i64 ((rd_T39 l0 x12_1).f1), .int .i64 ((rd_T39 l0 x12_1).f2.f0), .int .i64 ((rd_T39 l0 x12_1).f2.f1), .int .i64 ((rd_T39 l0 x12_1).f2.f2), .int .i64 ((rd_T39 l0 x12_1).f2.f3.f0), .int .i64 ((rd_T39 l0 x12_1).f2.f3.f1), .int .i64 ((rd_T39 l0 x12_1).f2.f4), .int .i64 ((rd_T39 l0 x12_1).f2.f5)] 39 (0, 0)) (by (with_reducible repeat (first | refine blk_drewN ?_ _ | refine blk_drew ?_ | refine blk_alloc ?_ _)); refine blk_put (cs := #[.int .i64 ((rd_T39 l0 x12_1).f0), .int .i64 ((rd_T39 l0 x12_1).f1), .int .i64 ((rd_T39 l0 x12_1).f2.f0), .int .i64 ((rd_T39 l0 x12_1).f2.f1), .int .i64 ((rd_T39 l0 x12_1).f2.f2), .int .i64 ((rd_T39 l0 x12_1).f2.f3.f0), .int .i64 ((rd_T39 l0 x12_1).f2.f3.f1), .int .i64 ((rd_T39 l0 x12_1).f2.f4), .int .i64 0]) ?_ 8 _ rfl; (with_reducible repeat (first | refine blk_drewN ?_ _ | refine blk_drew ?_ | refine blk_alloc ?_ _)); refine blk_put (cs := #[.int .i64 ((rd_T39 l0 x12_1).f0), .int .i64 ((rd_T39 l0 x12_1).f1), .int .i64 ((rd_T39 l0 x12_1).f2.f0), .int .i64 ((rd_T39 l0 x12_1).f2.f1), .int .i64 ((rd_T39 l0 x12_1).f2.f2), .int .i64 ((rd_T39 l0 x12_1).f2.f3.f0), .int .i64 ((rd_T39 l0 x12_1).f2.f3.f1), .int .i64 0, .int .i64 0]) ?_ 7 _ rfl; (with_reducible repeat (first | refine blk_drewN ?_ _ | refine blk_drew ?_ | refine blk_alloc ?_ _)); refine blk_put (cs := #[.int .i64 ((rd_T39 l0 x12_1).f0), .int .i64 ((rd_T39 l0 x12_1).f1), .int .i64 ((rd_T39 l0 x12_1).f2.f0), .int .i64 ((rd_T39 l0 x12_1).f2.f1), .int .i64 ((rd_T39 l0 x12_1).f2.f2), .int .i64 ((rd_T39 l0 x12_1).f2.f3.f0), .int .i64 0, .int .i64 0, .int .i64 0]) ?_ 6 _ rfl; (with_reducible repeat (first | refine blk_drewN ?_ _ | refine blk_drew ?_ | refine blk_alloc ?_ _)); refine blk_put (cs := #[.int .i64 ((rd_T39 l0 x12_1).f0), .int .i64 ((rd_T39 l0 x12_1).f1), .int .i64 ((rd_T39 l0 x12_1).f2.f0), .int .i64 ((rd_T39 l0 x12_1).f2.f1), .int .i64 ((rd_T39 l0 x12_1).f2.f2), .int .i64 0, .int .i64 0, .int .i64 0, .int .i64 0]) ?_ 5 _ rfl; (with_reducible repeat (first | refine blk_drewN ?_ _ | refine blk_drew ?_ | refine blk_alloc ?_ _)); refine blk_put (cs := #[.int .i64 ((rd_T39 l0 x12_1).f0), .int .i64 ((rd_T39 l0 x12_1).f1), .int .i64 ((rd_T39 l0 x12_1).f2.f0), .int .i64 ((rd_T39 l0 x12_1).f2.f1), .int .i64 0, .int .i64 0, .int .i64 0, .int .i64 0, .int .i64 0]) ?_ 4 _ rfl; (with_reducible repeat (first | refine blk_drewN ?_ _ | refine blk_drew ?_ | refine blk_alloc ?_ _)); refine blk_put (cs := #[.int .i64 ((rd_T39 l0 x12_1).f0), .int .i64 ((rd_T39 l0 x12_1).f1), .int .i64 ((rd_T39 l0 x12_1).f2.f0), .int .i64 0, .int .i64 0, .int .i64 0, .int .i64 0, .int .i64 0, .int .i64 0]) ?_ 3 _ rfl; (with_reducible repeat (first | refine blk_drewN ?_ _ | refine blk_drew ?_ | refine blk_alloc ?_ _)); refine blk_put (cs := #[.int .i64 ((rd_T39 l0 x12_1).f0), .int .i64 ((rd_T39 l0 x12_1).f1), .int .i64 0, .int .i64 0, .int .i64 0, .int .i64 0, .int .i64 0, .int .i64 0, .int .i64 0]) ?_ 2 _ rfl; (with_reducible repeat (first | refine blk_drewN ?_ _ | refine blk_drew ?_ | refine blk_alloc ?_ _)); refine blk_put (cs := #[.int .i64 ((rd_T39 l0 x12_1).f0), .int .i64 0, .int .i64 0, .int .i64 0, .int .i64 0, .int .i64 0, .int .i64 0, .int .i64 0, .int .i64 0]) ?_ 1 _ rfl; (with_reducible repeat (first | refine blk_drewN ?_ _ | refine blk_drew ?_ | refine blk_alloc ?_ _)); refine blk_put (cs := #[.int .i64 0, .int .i64 0, .int .i64 0, .int .i64 0, .int .i64 0, .int .i64 0, .int .i64 0, .int .i64 0, .int .i64 0]) ?_ 0 _ rfl; (with_reducible repeat (first | refine blk_drewN ?_ _ | refine blk_drew ?_ | refine blk_alloc ?_ _)); exact BK272.out) k_ hk)); (case aO => exact (by (with_reducible repeat (first | apply Kd.R_alloc | apply Kd.R_drewN | apply Kd.R_drew)); exact Kd.R_mono (Kd.R_far (p := ⟨gb272, 8, none⟩) (Kd.R_far (p := ⟨gb272, 7, none⟩) (Kd.R_far (p := ⟨gb272, 6, none⟩) (Kd.R_far (p := ⟨gb272, 5, none⟩) (Kd.R_far (p := ⟨gb272, 4, none⟩) (Kd.R_far (p := ⟨gb272, 3, none⟩) (Kd.R_far (p := ⟨gb272, 2, none⟩) (Kd.R_far (p := ⟨gb272, 1, none⟩) (Kd.R_far (p := ⟨gb272, 0, none⟩) (Kd.R_mono HO_7.out (fun k_ hk => (⟨hk, hk.2⟩ : _ ∧ k_ ≠ gb272))) (fun _ hk => hk.2) (.int .i64 ((rd_T39 l0 x12_1).f0))) (fun _ hk => hk.2) (.int .i64 ((rd_T39 l0 x12_1).f1))) (fun _ hk => hk.2) (.int .i64 ((rd_T39 l0 x12_1).f2.f0))) (fun _ hk => hk.2) (.int .i64 ((rd_T39 l0 x12_1).f2.f1))) (fun _ hk => hk.2) (.int .i64 ((rd_T39 l0 x12_1).f2.f2))) (fun _ hk => hk.2) (.int .i64 ((rd_T39 l0 x12_1).f2.f3.f0))) (fun _ hk => hk.2) (.int .i64 ((rd_T39 l0 x12_1).f2.f3.f1))) (fun _ hk => hk.2) (.int .i64 ((rd_T39 l0 x12_1).f2.f4))) (fun _ hk => hk.2) (.int .i64 ((rd_T39 l0 x12_1).f2.f5))) (fun _ hk => hk.1.2))); (case aS => exact (below_size (by repeat (first | (with_reducible first | exact HB.out | apply below_alloc | apply pw_below_drewN | apply below_drew1 | refine below_set ?_ GE272.out) | exact HB.out)))); (case aL => have := LMc15.out; omega); intro v277 w18 ho hb hg hat; rw [← Ny276.out] at ho; have n0_ := Aside0.mk (blk_grown (g := gb272) (o := .cells #[.int .i64 ((rd_T39 l0 x12_1).f0), .int .i64 ((rd_T39 l0 x12_1).f1), .int .i64 ((rd_T39 l0 x12_1).f2.f0), .int .i64 ((rd_T39 l0 x12_1).f2.f1), .int .i64 ((rd_T39 l0 x12_1).f2.f2), .int .i64 ((rd_T39 l0 x12_1).f2.f3.f0), .int .i64 ((rd_T39 l0 x12_1).f2.f3.f1), .int .i64 ((rd_T39 l0 x12_1).f2.f4), .int .i64 ((rd_T39 l0 x12_1).f2.f5)] 39 (0, 0)) (by (with_reducible repeat (first | refine blk_drewN ?_ _ | refine blk_drew ?_ | refine blk_alloc ?_ _)); refine blk_put (cs := #[.int .i64 ((rd_T39 l0 x12_1).f0), .int .i64 ((rd_T39 l0 x12_1).f1), .int .i64 ((rd_T39 l0 x12_1).f2.f0), .int .i64 ((rd_T39 l0 x12_1).f2.f1), .int .i64 ((rd_T39 l0 x12_1).f2.f2), .int .i64 ((rd_T39 l0 x12_1).f2.f3.f0), .int .i64 ((rd_T39 l0 x12_1).f2.f3.f1), .int .i64 ((rd_T39 l0 x12_1).f2.f4), .int .i64 0]) ?_ 8 _ rfl; (with_reducible repeat (first | refine blk_drewN ?_ _ | refine blk_drew ?_ | refine blk_alloc ?_ _)); refine blk_put (cs := #[.int .i64 ((rd_T39 l0 x12_1).f0), .int .i64 ((rd_T39 l0 x12_1).f1), .int .i64 ((rd_T39 l0 x12_1).f2.f0), .int .i64 ((rd_T39 l0 x12_1).f2.f1), .int .i64 ((rd_T39 l0 x12_1).f2.f2), .int .i64 ((rd_T39 l0 x12_1).f2.f3.f0), .int .i64 ((rd_T39 l0 x12_1).f2.f3.f1), .int .i64 0, .int .i64 0]) ?_ 7 _ rfl; (with_reducible repeat (first | refine blk_drewN ?_ _ | refine blk_drew ?_ | refine blk_alloc ?_ _)); refine blk_put (cs := #[.int .i64 ((rd_T39 l0 x12_1).f0), .int .i64 ((rd_T39 l0 x12_1).f1), .int .i64 ((rd_T39 l0 x12_1).f2.f0), .int .i64 ((rd_T39 l0 x12_1).f2.f1), .int .i64 ((rd_T39 l0 x12_1).f2.f2), .int .i64 ((rd_T39 l0 x12_1).f2.f3.f0), .int .i64 0, .int .i64 0, .int .i64 0]) ?_ 6 _ rfl; (with_reducible repeat (first | refine blk_drewN ?_ _ | refine blk_drew ?_ | refine blk_alloc ?_ _)); refine blk_put (cs := #[.int .i64 ((rd_T39 l0 x12_1).f0), .int .i64 ((rd_T39 l0 x12_1).f1), .int .i64 ((rd_T39 l0 x12_1).f2.f0), .int .i64 ((rd_T39 l0 x12_1).f2.f1), .int .i64 ((rd_T39 l0 x12_1).f2.f2), .int .i64 0, .int .i64 0, .int .i64 0, .int .i64 0]) ?_ 5 _ rfl; (with_reducible repeat (first | refine blk_drewN ?_ _ | refine blk_drew ?_ | refine blk_alloc ?_ _)); refine blk_put (cs := #[.int .i64 ((rd_T39 l0 x12_1).f0), .int .i64 ((rd_T39 l0 x12_1).f1), .int .i64 ((rd_T39 l0 x12_1).f2.f0), .int .i64 ((rd_T39 l0 x12_1).f2.f1), .int .i64 0, .int .i64 0, .int .i64 0, .int .i64 0, .int .i64 0]) ?_ 4 _ rfl; (with_reducible repeat (first | refine blk_drewN ?_ _ | refine blk_drew ?_ | refine blk_alloc ?_ _)); refine blk_put (cs := #[.int .i64 ((rd_T39 l0 x12_1).f0), .int .i64 ((rd_T39 l0 x12_1).f1), .int .i64 ((rd_T39 l0 x12_1).f2.f0), .int .i64 0, .int .i64 0, .int .i64 0, .int .i64 0, .int .i64 0, .int .i64 0]) ?_ 3 _ rfl; (with_reducible repeat (first | refine blk_drewN ?_ _ | refine blk_drew ?_ | refine blk_alloc ?_ _)); refine blk_put (cs := #[.int .i64 ((rd_T39 l0 x12_1).f0), .int .i64 ((rd_T39 l0 x12_1).f1), .int .i64 0, .int .i64 0, .int .i64 0, .int .i64 0, .int .i64 0, .int .i64 0, .int .i64 0]) ?_ 2 _ rfl; (with_reducible repeat (first | refine blk_drewN ?_ _ | refine blk_drew ?_ | refine blk_alloc ?_ _)); refine blk_put (cs := #[.int .i64 ((rd_T39 l0 x12_1).f0), .int .i64 0, .int .i64 0, .int .i64 0, .int .i64 0, .int .i64 0, .int .i64 0, .int .i64 0, .int .i64 0]) ?_ 1 _ rfl; (with_reducible repeat (first | refine blk_drewN ?_ _ | refine blk_drew ?_ | refine blk_alloc ?_ _)); refine blk_put (cs := #[.int .i64 0, .int .i64 0, .int .i64 0, .int .i64 0, .int .i64 0, .int .i64 0, .int .i64 0, .int .i64 0, .int .i64 0]) ?_ 0 _ rfl; (with_reducible repeat (first | refine blk_drewN ?_ _ | refine blk_drew ?_ | refine blk_alloc ?_ _)); exact BK272.out) hg (Kd.R_away HO_7.out (fun _ hk => hk.2))); have n1_ := Aside0.mk (hb); have n2_ := Aside0.mk (ho); clear BK272; clear HB; clear HO_7; have BK272 := n0_; have HB := n1_; have HO278 := n2_; clear n0_ n1_ n2_; clear ho hb hg hat))
        go_roundg k1
        case measure => have := HK1.out; omega
        case rel => exact ⟨(y276), (wrap64 (x12_1 + 1)), (by first | rfl | (simp; done) | (simp [*]; done)), H', ⟨by have := HK1.out; omega⟩, ⟨by (with_reducible repeat (first | apply Kd.R_alloc | apply Kd.R_drewN | apply Kd.R_drew)); exact Kd.R_mono HO278.out (fun _ hk => trivial)⟩, ⟨by repeat (first | (with_reducible first | exact HB.out | apply below_alloc | apply pw_below_drewN | apply below_drew1 | refine below_set ?_ GE272.out) | exact HB.out)⟩⟩
       ·rw [if_neg c15] at H
        exact absurd H (by simp)
     ·rw [if_neg c6] at H
      exact absurd H (by simp)
    ·rw [if_neg c5] at H
     exact absurd H (by simp)
   ·rw [if_neg c4] at H
    have c4b0 : decide (x12_1 < (l0.length : Int)) = false := decide_eq_false c4
    clear c4
    obtain rfl := Option.some.inj H
    go_wp2
    go_ret
    exact ⟨_, by first | rfl | (simp [errW_none, errW_some] <;> rfl) | (simp [*, errW_none, errW_some] <;> rfl), by (with_reducible repeat (first | apply Kd.R_alloc | apply Kd.R_drewN | apply Kd.R_drew)); exact HO_7.out, by repeat (first | (with_reducible first | exact HB.out | apply below_alloc | apply pw_below_drewN | apply below_drew1) | exact HB.out)⟩

end Go.Proofs.Ytjlpggpkbcgekaa.PDeterminantParts
