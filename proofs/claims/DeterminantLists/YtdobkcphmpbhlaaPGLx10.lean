-- Written by a program of this session (hprint.py) out of the translation and of hand-proved parts. Lean checks it.
import Derived.Test.YtdobkcphmpbhlaaPGLx0
import Derived.Test.YtdobkcphmpbhlaaPGLx9
namespace Go.Proofs.Ytdobkcphmpbhlaa.PGL
open Go.RowKit Go.Proofs.YtdobkcphmpbhlaaW.PrintWords Go.Proofs.YtdobkcphmpbhlaaW.PrintLast Go.Proofs.YtdobkcphmpbhlaaW.PrintMore
attribute [local go_sem] max2_int min2_int max_two min_two max_three min_three max_four min_four   -- for this text's walks alone
set_option linter.unusedVariables false
set_option linter.unusedSimpArgs false

/-! ### determinant_Merge: function 24 -/
mutual
def determinant_Merge.l0 : Nat → List (S28) → List (S28) → List (S28) → Int → Int → Option ((List (S28)))
 | 0, _, _, _, _, _ => none
 | k + 1, x1, x5, x16, x17, x18 => if x18 < x17 then (if 0 ≤ x18 then (if x18 < (x16.length : Int) then ((determinant_insert.f k x5 ((rd_T28 x16 x18).f0) ((rd_T28 x16 x18).f1) ((rd_T28 x16 x18).f2.f0) ((rd_T28 x16 x18).f2.f1) ((rd_T28 x16 x18).f2.f2) ((rd_T28 x16 x18).f2.f3.f0) ((rd_T28 x16 x18).f2.f3.f1) ((rd_T28 x16 x18).f2.f4) ((rd_T28 x16 x18).f2.f5)).bind fun t258 => (determinant_Merge.l0 k x1 t258 x16 x17 (wrap64 (x18 + 1)))) else (none)) else (none)) else (determinant_Merge.l1 k x5 x1 (x1.length : Int) 0)
def determinant_Merge.l1 : Nat → List (S28) → List (S28) → Int → Int → Option ((List (S28)))
 | 0, _, _, _, _ => none
 | k + 1, x5, x26, x27, x28 => if x28 < x27 then (if 0 ≤ x28 then (if x28 < (x26.length : Int) then ((determinant_insert.f k x5 ((rd_T28 x26 x28).f0) ((rd_T28 x26 x28).f1) ((rd_T28 x26 x28).f2.f0) ((rd_T28 x26 x28).f2.f1) ((rd_T28 x26 x28).f2.f2) ((rd_T28 x26 x28).f2.f3.f0) ((rd_T28 x26 x28).f2.f3.f1) ((rd_T28 x26 x28).f2.f4) ((rd_T28 x26 x28).f2.f5)).bind fun t263 => (determinant_Merge.l1 k t263 x26 x27 (wrap64 (x28 + 1)))) else (none)) else (none)) else (some x5)
end
def determinant_Merge.f (k : Nat) (l0 : List (S28)) (l1 : List (S28)) : Option ((List (S28))) := if 0 ≤ (wrap64 ((l0.length : Int) + (l1.length : Int))) then (if (wrap64 ((l0.length : Int) + (l1.length : Int)) : Int).toNat ≤ 3909374676536 then (determinant_Merge.l0 k l1 (([] : List (S28))) l0 (l0.length : Int) 0) else (none)) else (none)
theorem determinant_Merge.mono_l : ∀ k, (∀ y0 y1 y2 y3 y4, LeO (determinant_Merge.l0 k y0 y1 y2 y3 y4) (determinant_Merge.l0 (k + 1) y0 y1 y2 y3 y4)) ∧ (∀ y0 y1 y2 y3, LeO (determinant_Merge.l1 k y0 y1 y2 y3) (determinant_Merge.l1 (k + 1) y0 y1 y2 y3))
 | 0 => ⟨fun _ _ _ _ _ r h => by simp [determinant_Merge.l0] at h, fun _ _ _ _ r h => by simp [determinant_Merge.l1] at h⟩
 | k + 1 => by
  obtain ⟨ih0, ih1⟩ := determinant_Merge.mono_l k
  refine ⟨?_, ?_⟩
  ·intro y0 y1 y2 y3 y4
   unfold determinant_Merge.l0
   repeat' first
   | (with_reducible exact ih0 _ _ _ _ _)
   | (with_reducible exact ih1 _ _ _ _)
   | (with_reducible exact determinant_insert.mono _ _ _ _ _ _ _ _ _ _ _)
   | (with_reducible exact LeO.refl _)
   | (with_reducible exact LeO.none _)
   | (with_reducible refine LeO.ite ?_ ?_)
   | (with_reducible refine LeO.bind ?_ (fun _ => ?_))
   | exact ih0 _ _ _ _ _
   | exact ih1 _ _ _ _
   | exact determinant_insert.mono _ _ _ _ _ _ _ _ _ _ _
   | exact LeO.none _
   | refine LeO.ite ?_ ?_
   | refine LeO.bind ?_ (fun _ => ?_)
  ·intro y0 y1 y2 y3
   unfold determinant_Merge.l1
   repeat' first
   | (with_reducible exact ih0 _ _ _ _ _)
   | (with_reducible exact ih1 _ _ _ _)
   | (with_reducible exact determinant_insert.mono _ _ _ _ _ _ _ _ _ _ _)
   | (with_reducible exact LeO.refl _)
   | (with_reducible exact LeO.none _)
   | (with_reducible refine LeO.ite ?_ ?_)
   | (with_reducible refine LeO.bind ?_ (fun _ => ?_))
   | exact ih0 _ _ _ _ _
   | exact ih1 _ _ _ _
   | exact determinant_insert.mono _ _ _ _ _ _ _ _ _ _ _
   | exact LeO.none _
   | refine LeO.ite ?_ ?_
   | refine LeO.bind ?_ (fun _ => ?_)
theorem determinant_Merge.mono : ∀ a0 a1 k, LeO (determinant_Merge.f k a0 a1) (determinant_Merge.f (k + 1) a0 a1) := by
 intro a0 a1 k
 obtain ⟨ih0, ih1⟩ := determinant_Merge.mono_l k
 unfold determinant_Merge.f
 repeat' first
   | (with_reducible exact ih0 _ _ _ _ _)
   | (with_reducible exact ih1 _ _ _ _)
   | (with_reducible exact determinant_insert.mono _ _ _ _ _ _ _ _ _ _ _)
   | (with_reducible exact LeO.refl _)
   | (with_reducible exact LeO.none _)
   | (with_reducible refine LeO.ite ?_ ?_)
   | (with_reducible refine LeO.bind ?_ (fun _ => ?_))
   | exact ih0 _ _ _ _ _
   | exact ih1 _ _ _ _
   | exact determinant_insert.mono _ _ _ _ _ _ _ _ _ _ _
   | exact LeO.none _
   | refine LeO.ite ?_ ?_
   | refine LeO.bind ?_ (fun _ => ?_)
set_option maxHeartbeats 8000000 in
set_option maxRecDepth 100000 in
theorem determinant_Merge.calls (k : Nat) (A0 : Option Addr) (c0 : Nat) (l0 : List (S28)) (A1 : Option Addr) (c1 : Nat) (l1 : List (S28)) (r : List (S28)) (w : World) (hr0 : Kd.C k28 w A0 l0.length l0) (hc0 : l0.length ≤ c0) (hr1 : Kd.C k28 w A1 l1.length l1) (hc1 : l1.length ≤ c1) (h : determinant_Merge.f k l0 l1 = some r) :
  Calls Try.prog 24 #[.slice A0 l0.length c0, .slice A1 l1.length c1] w fun e w' => ∃ v0_ : Value, e = .returned (v0_) ∧ Kd.R k28 28 w' w.heap.size (fun _ => True) v0_ r ∧ Below w.heap.size w w' := by
 have hu28 := Try.underlying28
 have HR0 := Aside0.mk hr0
 have HC0 := Aside0.mk hc0
 clear hr0 hc0
 have HR1 := Aside0.mk hr1
 have HC1 := Aside0.mk hc1
 clear hr1 hc1
 have HB := Aside0.mk (Below.refl w.heap.size w)
 have H : (if 0 ≤ (wrap64 ((l0.length : Int) + (l1.length : Int))) then (if (wrap64 ((l0.length : Int) + (l1.length : Int)) : Int).toNat ≤ 3909374676536 then (determinant_Merge.l0 k l1 (([] : List (S28))) l0 (l0.length : Int) 0) else (none)) else (none)) = some r := h
 clear h
 obtain ⟨ji3, hji3⟩ : ∃ j_ : Int, (wrap64 ((l0.length : Int) + (l1.length : Int))) = j_ := ⟨_, rfl⟩
 replace H : (if 0 ≤ (ji3) then (if (ji3 : Int).toNat ≤ 3909374676536 then (determinant_Merge.l0 k l1 (([] : List (S28))) l0 (l0.length : Int) 0) else (none)) else (none)) = some r := by first | (rw [hji3] at H; exact H) | (simp only [hji3] at H ⊢; exact H)
 have hji3w : (IntKind.i64.wrap ((l0.length : Int) + (l1.length : Int))) = ji3 := (i64_w _).trans hji3
 by_cases c4 : 0 ≤ (ji3)
 ·(
 rw [if_pos c4] at H
 have c4b0 := eq_true c4
 have c4b1 : decide (0 ≤ (ji3)) = true := decide_eq_true c4
 clear c4
 by_cases c5 : (ji3 : Int).toNat ≤ 3909374676536
 ·(
 rw [if_pos c5] at H
 have c5b0 := eq_true c5
 have c5b1 : decide ((ji3 : Int).toNat ≤ 3909374676536) = true := decide_eq_true c5
 clear c5
 obtain ⟨y253, hy253⟩ : ∃ y_ : List (S28), y_ = (([] : List (S28))) := ⟨_, rfl⟩
 replace H : (determinant_Merge.l0 k l1 y253 l0 (l0.length : Int) 0) = some r := by first | (rw [hy253]; with_reducible exact H) | (have H2_ := (Option.bind_some _ _).symm.trans H; rw [hy253]; with_reducible exact H2_) | (have H2_ := (Option.bind_some _ _).symm.trans H; with_reducible exact H2_) | with_reducible exact H | (rw [hy253]; exact H) | exact H
 have Ny253 := Aside0.mk hy253
 clear hy253
 have H' := Aside0.mk H
 clear H
 go_enter Try.func24, Try.ntmps24
 go_wp2_with (first | ((with_reducible refine gate_dst (N := 15) rfl ?_); refine Kd.R_mk0 k28 _ 28 rfl (N := 15) rfl 22 _ _ rfl ji3 rfl rfl Try.underlying22 (.agg #[(.int .i64 0), (.int .i64 0), (.int .i64 0), (.int .i64 0), (.int .i64 0), (.int .i64 0), (.int .i64 0), (.int .i64 0), (.int .i64 0)]) 72 info28 rfl (by decide) (by omega) z28 (ok := fun _ => True) (okp := fun _ => True) (k28_mkM _ _ _ z28 ) (fun _ hk => hk) trivial (of_decide_eq_true (by first | (with_reducible assumption) | assumption)) (Nat.le_trans (Nat.mul_le_mul_right _ (of_decide_eq_true (by first | (with_reducible assumption) | assumption) : ji3.toNat ≤ 3909374676536)) (by omega)) (Below.refl _ _) (Nat.le_refl _) ?_; intro v254 w6 ho7 hb hg_ hnew_; clear hg_ hnew_; (first | rw [← Ny253.out] at ho7 | (simp only [Int.reduceToNat] at ho7; rw [← Ny253.out] at ho7)); have n0_ := Aside0.mk (Kd.R_lower ho7 (below_size (bq HB.out))); have n1_ := Aside0.mk (below_step (bq HB.out) hb); clear HB; have HO255 := n0_; have HB := n1_; clear n0_ n1_; clear hb ho7))
 go_loopg [5, 18] k (fun kq v5 v18 w' => ∃ (x5_1 : List (S28)) (x18_1 : Int), v18 = .int .i64 x18_1 ∧ Aside0 (determinant_Merge.l0 kq l1 x5_1 l0 (l0.length : Int) x18_1 = some r) ∧ Aside0 (kq ≤ k) ∧ Aside0 (Kd.R k28 28 w' w.heap.size (fun _ => True) v5 x5_1) ∧ Aside0 (Below w.heap.size w w'))
 case atStart => exact ⟨(y253), (0), (by first | rfl | (simp; done) | (simp [*]; done)), H', ⟨Nat.le_refl _⟩, ⟨rq HO255.out⟩, ⟨bq HB.out⟩⟩
 case round =>(
 clear H'
 try clear c1
 try clear c2
 try clear p2
 try clear c4
 try clear c4b0
 try clear c4b1
 try clear c5
 try clear c5b0
 try clear c5b1
 try clear p6
 obtain ⟨x5_1, x18_1, rfl, HA, HK1, HO_5, HB⟩ := hrel
 cases gk with
 | zero => exact absurd HA.out (by simp [determinant_Merge.l0])
 | succ k1 =>(
 have H := HA.out
 clear HA
 simp only [determinant_Merge.l0] at H
 by_cases c8 : x18_1 < (l0.length : Int)
 ·(
 rw [if_pos c8] at H
 have c8b0 : decide (x18_1 < (l0.length : Int)) = true := decide_eq_true c8
 clear c8
 by_cases c9 : 0 ≤ x18_1
 ·(
 rw [if_pos c9] at H
 have c9b0 : decide (0 ≤ x18_1) = true := decide_eq_true c9
 clear c9
 by_cases c10 : x18_1 < (l0.length : Int)
 ·(
 rw [if_pos c10] at H
 have c10b0 : decide (x18_1 < (l0.length : Int)) = true := decide_eq_true c10
 clear c10
 obtain ⟨t258, A11, H⟩ := bnd H
 have H' := Aside0.mk H
 clear H
 have p256 : 0 ≤ (x18_1 : Int) := of_decide_eq_true (by first | (with_reducible assumption) | assumption)
 have q256 : x18_1 < (l0.length : Int) := of_decide_eq_true (by first | (with_reducible assumption) | assumption)
 obtain ⟨ad256, e256, hx256_0, hx256_1, hx256_2, hx256_3, hx256_4, hx256_5, hx256_6, hx256_7, hx256_8⟩ := at_T28 HR0.out x18_1 p256 q256
 cases e256
 replace hx256_0 := hce HB hx256_0
 replace hx256_1 := hce HB hx256_1
 replace hx256_2 := hce HB hx256_2
 replace hx256_3 := hce HB hx256_3
 replace hx256_4 := hce HB hx256_4
 replace hx256_5 := hce HB hx256_5
 replace hx256_6 := hce HB hx256_6
 replace hx256_7 := hce HB hx256_7
 replace hx256_8 := hce HB hx256_8
 replace p256 := eq_true p256
 replace q256 := eq_true q256
 go_wp2_with (first | ((with_reducible refine gate_dst (N := 7) rfl ?_); refine box_event ?hg (N := 7) ?hd (cs := #[.int .i64 0, .int .i64 0, .int .i64 0, .int .i64 0, .int .i64 0, .int .i64 0, .int .i64 0, .int .i64 0, .int .i64 0]) (t := 28) ?hr ?_; (case hd => rfl); (case hg => rfl); (case hr => first | (go_simp; done) | (go_simp; rfl)); intro gb257 hg w12 hbox hb; have n0_ := Aside0.mk (Kd.R_below (Kd.R_elderB (rq HO_5.out) gb257 (Nat.le_of_eq hg.symm)) hb); have n1_ := Aside0.mk (below_step (bq HB.out) hb); have n2_ := Aside0.mk (hbox); have n3_ := Aside0.mk ((by rw [hg]; exact (below_size (bq HB.out)) : w.heap.size ≤ gb257)); have n4_ := Aside0.mk ((by rw [hg]; exact (below_size (bq HB.out)) : w.heap.size ≤ gb257)); clear HO_5; clear HB; have HO_5 := n0_; have HB := n1_; have BK257 := n2_; have GW257 := n3_; have GE257 := n4_; clear n0_ n1_ n2_ n3_ n4_; clear hb hbox hg; have hcz13_0 : w12.cell? ⟨gb257, 0, none⟩ = some (.int .i64 0) := bc BK257.out 0; have hcz13_1 : w12.cell? ⟨gb257, 1, none⟩ = some (.int .i64 0) := bc BK257.out 1; have hcz13_2 : w12.cell? ⟨gb257, 2, none⟩ = some (.int .i64 0) := bc BK257.out 2; have hcz13_3 : w12.cell? ⟨gb257, 3, none⟩ = some (.int .i64 0) := bc BK257.out 3; have hcz13_4 : w12.cell? ⟨gb257, 4, none⟩ = some (.int .i64 0) := bc BK257.out 4; have hcz13_5 : w12.cell? ⟨gb257, 5, none⟩ = some (.int .i64 0) := bc BK257.out 5; have hcz13_6 : w12.cell? ⟨gb257, 6, none⟩ = some (.int .i64 0) := bc BK257.out 6; have hcz13_7 : w12.cell? ⟨gb257, 7, none⟩ = some (.int .i64 0) := bc BK257.out 7; have hcz13_8 : w12.cell? ⟨gb257, 8, none⟩ = some (.int .i64 0) := bc BK257.out 8; have hfz13_0 := blk_frozen BK257.out 0; have hfz13_1 := blk_frozen BK257.out 1; have hfz13_2 := blk_frozen BK257.out 2; have hfz13_3 := blk_frozen BK257.out 3; have hfz13_4 := blk_frozen BK257.out 4; have hfz13_5 := blk_frozen BK257.out 5; have hfz13_6 := blk_frozen BK257.out 6; have hfz13_7 := blk_frozen BK257.out 7; have hfz13_8 := blk_frozen BK257.out 8) | ((with_reducible refine gate_store (t := 28) (p := 7) rfl ?_); refine store_event (t := 28) (p := 7) (v := ?vo_w14) (w1 := (((((((((w12.setCell ⟨gb257, 0, none⟩ (.int .i64 ((rd_T28 l0 x18_1).f0))).setCell ⟨gb257, 1, none⟩ (.int .i64 ((rd_T28 l0 x18_1).f1))).setCell ⟨gb257, 2, none⟩ (.int .i64 ((rd_T28 l0 x18_1).f2.f0))).setCell ⟨gb257, 3, none⟩ (.int .i64 ((rd_T28 l0 x18_1).f2.f1))).setCell ⟨gb257, 4, none⟩ (.int .i64 ((rd_T28 l0 x18_1).f2.f2))).setCell ⟨gb257, 5, none⟩ (.int .i64 ((rd_T28 l0 x18_1).f2.f3.f0))).setCell ⟨gb257, 6, none⟩ (.int .i64 ((rd_T28 l0 x18_1).f2.f3.f1))).setCell ⟨gb257, 7, none⟩ (.int .i64 ((rd_T28 l0 x18_1).f2.f4))).setCell ⟨gb257, 8, none⟩ (.int .i64 ((rd_T28 l0 x18_1).f2.f5)))) ?hg ?ho ?hn ?hr ?_; (case ho => rfl); (case hg => rfl); (case hn => rfl); (case hr => first | (go_simp; done) | (go_simp; rfl)); intro w14 hw; have n0_ : Aside0 (Kd.R k28 28 w14 w.heap.size (fun k_ => k_ ≠ gb257) u5 x5_1) := ⟨(by rw [hw]; exact (by (with_reducible repeat (first | apply Kd.R_alloc | apply Kd.R_drewN | apply Kd.R_drew)); exact Kd.R_mono (Kd.R_far (p := ⟨gb257, 8, none⟩) (Kd.R_far (p := ⟨gb257, 7, none⟩) (Kd.R_far (p := ⟨gb257, 6, none⟩) (Kd.R_far (p := ⟨gb257, 5, none⟩) (Kd.R_far (p := ⟨gb257, 4, none⟩) (Kd.R_far (p := ⟨gb257, 3, none⟩) (Kd.R_far (p := ⟨gb257, 2, none⟩) (Kd.R_far (p := ⟨gb257, 1, none⟩) (Kd.R_far (p := ⟨gb257, 0, none⟩) (Kd.R_mono HO_5.out (fun k_ hk => (⟨hk, hk.2⟩ : _ ∧ k_ ≠ gb257))) (fun _ hk => hk.2) (.int .i64 ((rd_T28 l0 x18_1).f0))) (fun _ hk => hk.2) (.int .i64 ((rd_T28 l0 x18_1).f1))) (fun _ hk => hk.2) (.int .i64 ((rd_T28 l0 x18_1).f2.f0))) (fun _ hk => hk.2) (.int .i64 ((rd_T28 l0 x18_1).f2.f1))) (fun _ hk => hk.2) (.int .i64 ((rd_T28 l0 x18_1).f2.f2))) (fun _ hk => hk.2) (.int .i64 ((rd_T28 l0 x18_1).f2.f3.f0))) (fun _ hk => hk.2) (.int .i64 ((rd_T28 l0 x18_1).f2.f3.f1))) (fun _ hk => hk.2) (.int .i64 ((rd_T28 l0 x18_1).f2.f4))) (fun _ hk => hk.2) (.int .i64 ((rd_T28 l0 x18_1).f2.f5))) (fun _ hk => hk.1.2)))⟩; have n1_ : Aside0 (w14.heap[gb257]? = some (.cells #[.int .i64 ((rd_T28 l0 x18_1).f0), .int .i64 ((rd_T28 l0 x18_1).f1), .int .i64 ((rd_T28 l0 x18_1).f2.f0), .int .i64 ((rd_T28 l0 x18_1).f2.f1), .int .i64 ((rd_T28 l0 x18_1).f2.f2), .int .i64 ((rd_T28 l0 x18_1).f2.f3.f0), .int .i64 ((rd_T28 l0 x18_1).f2.f3.f1), .int .i64 ((rd_T28 l0 x18_1).f2.f4), .int .i64 ((rd_T28 l0 x18_1).f2.f5)] 28 (0, 0))) := ⟨(by rw [hw]; exact (pu BK257.out))⟩; have n2_ : Aside0 (Below w.heap.size w w14) := ⟨(by rw [hw]; exact (bq1 HB.out GE257.out))⟩; clear hw; clear HO_5; clear BK257; clear HB; have HO_5 := n0_; have BK257 := n1_; have HB := n2_; clear n0_ n1_ n2_; have hcz15_0 : w14.cell? ⟨gb257, 0, none⟩ = some (.int .i64 ((rd_T28 l0 x18_1).f0)) := bc BK257.out 0; have hcz15_1 : w14.cell? ⟨gb257, 1, none⟩ = some (.int .i64 ((rd_T28 l0 x18_1).f1)) := bc BK257.out 1; have hcz15_2 : w14.cell? ⟨gb257, 2, none⟩ = some (.int .i64 ((rd_T28 l0 x18_1).f2.f0)) := bc BK257.out 2; have hcz15_3 : w14.cell? ⟨gb257, 3, none⟩ = some (.int .i64 ((rd_T28 l0 x18_1).f2.f1)) := bc BK257.out 3; have hcz15_4 : w14.cell? ⟨gb257, 4, none⟩ = some (.int .i64 ((rd_T28 l0 x18_1).f2.f2)) := bc BK257.out 4; have hcz15_5 : w14.cell? ⟨gb257, 5, none⟩ = some (.int .i64 ((rd_T28 l0 x18_1).f2.f3.f0)) := bc BK257.out 5; have hcz15_6 : w14.cell? ⟨gb257, 6, none⟩ = some (.int .i64 ((rd_T28 l0 x18_1).f2.f3.f1)) := bc BK257.out 6; have hcz15_7 : w14.cell? ⟨gb257, 7, none⟩ = some (.int .i64 ((rd_T28 l0 x18_1).f2.f4)) := bc BK257.out 7; have hcz15_8 : w14.cell? ⟨gb257, 8, none⟩ = some (.int .i64 ((rd_T28 l0 x18_1).f2.f5)) := bc BK257.out 8; have hfz15_0 := blk_frozen BK257.out 0; have hfz15_1 := blk_frozen BK257.out 1; have hfz15_2 := blk_frozen BK257.out 2; have hfz15_3 := blk_frozen BK257.out 3; have hfz15_4 := blk_frozen BK257.out 4; have hfz15_5 := blk_frozen BK257.out 5; have hfz15_6 := blk_frozen BK257.out 6; have hfz15_7 := blk_frozen BK257.out 7; have hfz15_8 := blk_frozen BK257.out 8; obtain ⟨Ao16, co16, eo16⟩ := Kd.R_slice HO_5.out; subst eo16) | ((with_reducible refine gate_callee (f := 27) rfl ?_); refine gl (some 24) Try.func27 #[.slice Ao16 x5_1.length co16, .agg #[.int .i64 ((rd_T28 l0 x18_1).f0), .int .i64 ((rd_T28 l0 x18_1).f1), .int .i64 ((rd_T28 l0 x18_1).f2.f0), .int .i64 ((rd_T28 l0 x18_1).f2.f1), .int .i64 ((rd_T28 l0 x18_1).f2.f2), .int .i64 ((rd_T28 l0 x18_1).f2.f3.f0), .int .i64 ((rd_T28 l0 x18_1).f2.f3.f1), .int .i64 ((rd_T28 l0 x18_1).f2.f4), .int .i64 ((rd_T28 l0 x18_1).f2.f5)]] ?_; (with_reducible refine (determinant_insert.calls k1 (fun k_ => some k_ = (.slice Ao16 x5_1.length co16 : Value).ownBlock) (.slice Ao16 x5_1.length co16) x5_1 ((rd_T28 l0 x18_1).f0) ((rd_T28 l0 x18_1).f1) ((rd_T28 l0 x18_1).f2.f0) ((rd_T28 l0 x18_1).f2.f1) ((rd_T28 l0 x18_1).f2.f2) ((rd_T28 l0 x18_1).f2.f3.f0) ((rd_T28 l0 x18_1).f2.f3.f1) ((rd_T28 l0 x18_1).f2.f4) ((rd_T28 l0 x18_1).f2.f5) t258 w _ ?side1 ?side2 A11.out).mono ?_); (case side1 => repeat (first | (with_reducible first | exact HB.out | apply below_alloc | apply pw_below_drewN | apply below_drew1 | refine below_set ?_ GE257.out) | exact HB.out)); (case side2 => exact Kd.R_tight rfl HO_5.out); rintro e w17 ⟨v259, rfl, ho0, hb, hkp⟩; refine ⟨_, rfl, ?_⟩; have n0_ := Aside0.mk (blk_kept (kq BK257.out) hkp (fun hs_ => (fun e_ => (Kd.R_away HO_5.out (fun _ hk => hk)) e_) hs_)); have n1_ := Aside0.mk (Kd.R_mono (ok' := fun k_ => k_ ≠ gb257) ho0 (fun k_ hk_ => Or.elim hk_ (fun hs_ => fun e_ => (Kd.R_away HO_5.out (fun _ hk => hk)) (by rw [← e_]; exact hs_)) (fun hn_ => (Kd.freshB (g := gb257) (o := .cells #[.int .i64 ((rd_T28 l0 x18_1).f0), .int .i64 ((rd_T28 l0 x18_1).f1), .int .i64 ((rd_T28 l0 x18_1).f2.f0), .int .i64 ((rd_T28 l0 x18_1).f2.f1), .int .i64 ((rd_T28 l0 x18_1).f2.f2), .int .i64 ((rd_T28 l0 x18_1).f2.f3.f0), .int .i64 ((rd_T28 l0 x18_1).f2.f3.f1), .int .i64 ((rd_T28 l0 x18_1).f2.f4), .int .i64 ((rd_T28 l0 x18_1).f2.f5)] 28 (0, 0)) (kq BK257.out) k_ hn_)))); have n2_ := Aside0.mk (hb); clear BK257; clear HB; clear HO_5; have BK257 := n0_; have HO260 := n1_; have HB := n2_; clear n0_ n1_ n2_; (try clear hb); (try clear hkp); (try clear ho0)))
 go_roundg k1
 case measure => have := HK1.out; omega
 case rel => exact ⟨(t258), (wrap64 (x18_1 + 1)), (by first | rfl | (simp; done) | (simp [*]; done)), H', ⟨by have := HK1.out; omega⟩, ⟨by (with_reducible repeat (first | apply Kd.R_alloc | apply Kd.R_drewN | apply Kd.R_drew)); exact Kd.R_mono HO260.out (fun _ hk => trivial)⟩, ⟨bq1 HB.out GE257.out⟩⟩)
 ·(
 rw [if_neg c10] at H
 exact absurd H (by simp)))
 ·(
 rw [if_neg c9] at H
 exact absurd H (by simp)))
 ·(
 rw [if_neg c8] at H
 have c8b0 : decide (x18_1 < (l0.length : Int)) = false := decide_eq_false c8
 clear c8
 have H' := Aside0.mk H
 clear H
 go_wp2
 go_loopg [5, 28] k1 (fun kq v5 v28 w' => ∃ (x5_2 : List (S28)) (x28_2 : Int), v28 = .int .i64 x28_2 ∧ Aside0 (determinant_Merge.l1 kq x5_2 l1 (l1.length : Int) x28_2 = some r) ∧ Aside0 (kq ≤ k1) ∧ Aside0 (Kd.R k28 28 w' w.heap.size (fun _ => True) v5 x5_2) ∧ Aside0 (Below w.heap.size w w'))
 case atStart => exact ⟨(x5_1), (0), (by first | rfl | (simp; done) | (simp [*]; done)), H', ⟨Nat.le_refl _⟩, ⟨rq HO_5.out⟩, ⟨bq HB.out⟩⟩
 case round =>(
 clear H'
 try clear c1
 try clear c2
 try clear p2
 try clear q2
 try clear hx2
 try clear c4
 try clear c4b0
 try clear c4b1
 try clear c5
 try clear c5b0
 try clear c5b1
 try clear p6
 try clear c8
 try clear c8b0
 try clear c9
 try clear c9b0
 try clear c10
 try clear c10b0
 try clear hcz13_0
 try clear hcz13_1
 try clear hcz13_2
 try clear hcz13_3
 try clear hcz13_4
 try clear hcz13_5
 try clear hcz13_6
 try clear hcz13_7
 try clear hcz13_8
 try clear hcz15_0
 try clear hcz15_1
 try clear hcz15_2
 try clear hcz15_3
 try clear hcz15_4
 try clear hcz15_5
 try clear hcz15_6
 try clear hcz15_7
 try clear hcz15_8
 try clear hfz13_0
 try clear hfz13_1
 try clear hfz13_2
 try clear hfz13_3
 try clear hfz13_4
 try clear hfz13_5
 try clear hfz13_6
 try clear hfz13_7
 try clear hfz13_8
 try clear hfz15_0
 try clear hfz15_1
 try clear hfz15_2
 try clear hfz15_3
 try clear hfz15_4
 try clear hfz15_5
 try clear hfz15_6
 try clear hfz15_7
 try clear hfz15_8
 try clear hx256_0
 try clear hx256_1
 try clear hx256_2
 try clear hx256_3
 try clear hx256_4
 try clear hx256_5
 try clear hx256_6
 try clear hx256_7
 try clear hx256_8
 try clear p2
 try clear p256
 try clear p6
 try clear q256
 obtain ⟨x5_2, x28_2, rfl, HA, HK2, HO_5, HB⟩ := hrel
 cases gk with
 | zero => exact absurd HA.out (by simp [determinant_Merge.l1])
 | succ k2 =>(
 have H := HA.out
 clear HA
 simp only [determinant_Merge.l1] at H
 by_cases c18 : x28_2 < (l1.length : Int)
 ·(
 rw [if_pos c18] at H
 have c18b0 : decide (x28_2 < (l1.length : Int)) = true := decide_eq_true c18
 clear c18
 by_cases c19 : 0 ≤ x28_2
 ·(
 rw [if_pos c19] at H
 have c19b0 : decide (0 ≤ x28_2) = true := decide_eq_true c19
 clear c19
 by_cases c20 : x28_2 < (l1.length : Int)
 ·(
 rw [if_pos c20] at H
 have c20b0 : decide (x28_2 < (l1.length : Int)) = true := decide_eq_true c20
 clear c20
 obtain ⟨t263, A21, H⟩ := bnd H
 have H' := Aside0.mk H
 clear H
 have p261 : 0 ≤ (x28_2 : Int) := of_decide_eq_true (by first | (with_reducible assumption) | assumption)
 have q261 : x28_2 < (l1.length : Int) := of_decide_eq_true (by first | (with_reducible assumption) | assumption)
 obtain ⟨ad261, e261, hx261_0, hx261_1, hx261_2, hx261_3, hx261_4, hx261_5, hx261_6, hx261_7, hx261_8⟩ := at_T28 HR1.out x28_2 p261 q261
 cases e261
 replace hx261_0 := hce HB hx261_0
 replace hx261_1 := hce HB hx261_1
 replace hx261_2 := hce HB hx261_2
 replace hx261_3 := hce HB hx261_3
 replace hx261_4 := hce HB hx261_4
 replace hx261_5 := hce HB hx261_5
 replace hx261_6 := hce HB hx261_6
 replace hx261_7 := hce HB hx261_7
 replace hx261_8 := hce HB hx261_8
 replace p261 := eq_true p261
 replace q261 := eq_true q261
 go_wp2_with (first | ((with_reducible refine gate_dst (N := 9) rfl ?_); refine box_event ?hg (N := 9) ?hd (cs := #[.int .i64 0, .int .i64 0, .int .i64 0, .int .i64 0, .int .i64 0, .int .i64 0, .int .i64 0, .int .i64 0, .int .i64 0]) (t := 28) ?hr ?_; (case hd => rfl); (case hg => rfl); (case hr => first | (go_simp; done) | (go_simp; rfl)); intro gb262 hg w22 hbox hb; have n0_ := Aside0.mk (Kd.R_below (Kd.R_elderB (rq HO_5.out) gb262 (Nat.le_of_eq hg.symm)) hb); have n1_ := Aside0.mk (below_step (bq HB.out) hb); have n2_ := Aside0.mk (hbox); have n3_ := Aside0.mk ((by rw [hg]; exact (below_size (bq HB.out)) : w.heap.size ≤ gb262)); have n4_ := Aside0.mk ((by rw [hg]; exact (below_size (bq HB.out)) : w.heap.size ≤ gb262)); clear HO_5; clear HB; have HO_5 := n0_; have HB := n1_; have BK262 := n2_; have GW262 := n3_; have GE262 := n4_; clear n0_ n1_ n2_ n3_ n4_; clear hb hbox hg; have hcz23_0 : w22.cell? ⟨gb262, 0, none⟩ = some (.int .i64 0) := bc BK262.out 0; have hcz23_1 : w22.cell? ⟨gb262, 1, none⟩ = some (.int .i64 0) := bc BK262.out 1; have hcz23_2 : w22.cell? ⟨gb262, 2, none⟩ = some (.int .i64 0) := bc BK262.out 2; have hcz23_3 : w22.cell? ⟨gb262, 3, none⟩ = some (.int .i64 0) := bc BK262.out 3; have hcz23_4 : w22.cell? ⟨gb262, 4, none⟩ = some (.int .i64 0) := bc BK262.out 4; have hcz23_5 : w22.cell? ⟨gb262, 5, none⟩ = some (.int .i64 0) := bc BK262.out 5; have hcz23_6 : w22.cell? ⟨gb262, 6, none⟩ = some (.int .i64 0) := bc BK262.out 6; have hcz23_7 : w22.cell? ⟨gb262, 7, none⟩ = some (.int .i64 0) := bc BK262.out 7; have hcz23_8 : w22.cell? ⟨gb262, 8, none⟩ = some (.int .i64 0) := bc BK262.out 8; have hfz23_0 := blk_frozen BK262.out 0; have hfz23_1 := blk_frozen BK262.out 1; have hfz23_2 := blk_frozen BK262.out 2; have hfz23_3 := blk_frozen BK262.out 3; have hfz23_4 := blk_frozen BK262.out 4; have hfz23_5 := blk_frozen BK262.out 5; have hfz23_6 := blk_frozen BK262.out 6; have hfz23_7 := blk_frozen BK262.out 7; have hfz23_8 := blk_frozen BK262.out 8) | ((with_reducible refine gate_store (t := 28) (p := 9) rfl ?_); refine store_event (t := 28) (p := 9) (v := ?vo_w24) (w1 := (((((((((w22.setCell ⟨gb262, 0, none⟩ (.int .i64 ((rd_T28 l1 x28_2).f0))).setCell ⟨gb262, 1, none⟩ (.int .i64 ((rd_T28 l1 x28_2).f1))).setCell ⟨gb262, 2, none⟩ (.int .i64 ((rd_T28 l1 x28_2).f2.f0))).setCell ⟨gb262, 3, none⟩ (.int .i64 ((rd_T28 l1 x28_2).f2.f1))).setCell ⟨gb262, 4, none⟩ (.int .i64 ((rd_T28 l1 x28_2).f2.f2))).setCell ⟨gb262, 5, none⟩ (.int .i64 ((rd_T28 l1 x28_2).f2.f3.f0))).setCell ⟨gb262, 6, none⟩ (.int .i64 ((rd_T28 l1 x28_2).f2.f3.f1))).setCell ⟨gb262, 7, none⟩ (.int .i64 ((rd_T28 l1 x28_2).f2.f4))).setCell ⟨gb262, 8, none⟩ (.int .i64 ((rd_T28 l1 x28_2).f2.f5)))) ?hg ?ho ?hn ?hr ?_; (case ho => rfl); (case hg => rfl); (case hn => rfl); (case hr => first | (go_simp; done) | (go_simp; rfl)); intro w24 hw; have n0_ : Aside0 (Kd.R k28 28 w24 w.heap.size (fun k_ => k_ ≠ gb262) u5 x5_2) := ⟨(by rw [hw]; exact (by (with_reducible repeat (first | apply Kd.R_alloc | apply Kd.R_drewN | apply Kd.R_drew)); exact Kd.R_mono (Kd.R_far (p := ⟨gb262, 8, none⟩) (Kd.R_far (p := ⟨gb262, 7, none⟩) (Kd.R_far (p := ⟨gb262, 6, none⟩) (Kd.R_far (p := ⟨gb262, 5, none⟩) (Kd.R_far (p := ⟨gb262, 4, none⟩) (Kd.R_far (p := ⟨gb262, 3, none⟩) (Kd.R_far (p := ⟨gb262, 2, none⟩) (Kd.R_far (p := ⟨gb262, 1, none⟩) (Kd.R_far (p := ⟨gb262, 0, none⟩) (Kd.R_mono HO_5.out (fun k_ hk => (⟨hk, hk.2⟩ : _ ∧ k_ ≠ gb262))) (fun _ hk => hk.2) (.int .i64 ((rd_T28 l1 x28_2).f0))) (fun _ hk => hk.2) (.int .i64 ((rd_T28 l1 x28_2).f1))) (fun _ hk => hk.2) (.int .i64 ((rd_T28 l1 x28_2).f2.f0))) (fun _ hk => hk.2) (.int .i64 ((rd_T28 l1 x28_2).f2.f1))) (fun _ hk => hk.2) (.int .i64 ((rd_T28 l1 x28_2).f2.f2))) (fun _ hk => hk.2) (.int .i64 ((rd_T28 l1 x28_2).f2.f3.f0))) (fun _ hk => hk.2) (.int .i64 ((rd_T28 l1 x28_2).f2.f3.f1))) (fun _ hk => hk.2) (.int .i64 ((rd_T28 l1 x28_2).f2.f4))) (fun _ hk => hk.2) (.int .i64 ((rd_T28 l1 x28_2).f2.f5))) (fun _ hk => hk.1.2)))⟩; have n1_ : Aside0 (w24.heap[gb262]? = some (.cells #[.int .i64 ((rd_T28 l1 x28_2).f0), .int .i64 ((rd_T28 l1 x28_2).f1), .int .i64 ((rd_T28 l1 x28_2).f2.f0), .int .i64 ((rd_T28 l1 x28_2).f2.f1), .int .i64 ((rd_T28 l1 x28_2).f2.f2), .int .i64 ((rd_T28 l1 x28_2).f2.f3.f0), .int .i64 ((rd_T28 l1 x28_2).f2.f3.f1), .int .i64 ((rd_T28 l1 x28_2).f2.f4), .int .i64 ((rd_T28 l1 x28_2).f2.f5)] 28 (0, 0))) := ⟨(by rw [hw]; exact (pu BK262.out))⟩; have n2_ : Aside0 (Below w.heap.size w w24) := ⟨(by rw [hw]; exact (bq1 HB.out GE262.out))⟩; clear hw; clear HO_5; clear BK262; clear HB; have HO_5 := n0_; have BK262 := n1_; have HB := n2_; clear n0_ n1_ n2_; have hcz25_0 : w24.cell? ⟨gb262, 0, none⟩ = some (.int .i64 ((rd_T28 l1 x28_2).f0)) := bc BK262.out 0; have hcz25_1 : w24.cell? ⟨gb262, 1, none⟩ = some (.int .i64 ((rd_T28 l1 x28_2).f1)) := bc BK262.out 1; have hcz25_2 : w24.cell? ⟨gb262, 2, none⟩ = some (.int .i64 ((rd_T28 l1 x28_2).f2.f0)) := bc BK262.out 2; have hcz25_3 : w24.cell? ⟨gb262, 3, none⟩ = some (.int .i64 ((rd_T28 l1 x28_2).f2.f1)) := bc BK262.out 3; have hcz25_4 : w24.cell? ⟨gb262, 4, none⟩ = some (.int .i64 ((rd_T28 l1 x28_2).f2.f2)) := bc BK262.out 4; have hcz25_5 : w24.cell? ⟨gb262, 5, none⟩ = some (.int .i64 ((rd_T28 l1 x28_2).f2.f3.f0)) := bc BK262.out 5; have hcz25_6 : w24.cell? ⟨gb262, 6, none⟩ = some (.int .i64 ((rd_T28 l1 x28_2).f2.f3.f1)) := bc BK262.out 6; have hcz25_7 : w24.cell? ⟨gb262, 7, none⟩ = some (.int .i64 ((rd_T28 l1 x28_2).f2.f4)) := bc BK262.out 7; have hcz25_8 : w24.cell? ⟨gb262, 8, none⟩ = some (.int .i64 ((rd_T28 l1 x28_2).f2.f5)) := bc BK262.out 8; have hfz25_0 := blk_frozen BK262.out 0; have hfz25_1 := blk_frozen BK262.out 1; have hfz25_2 := blk_frozen BK262.out 2; have hfz25_3 := blk_frozen BK262.out 3; have hfz25_4 := blk_frozen BK262.out 4; have hfz25_5 := blk_frozen BK262.out 5; have hfz25_6 := blk_frozen BK262.out 6; have hfz25_7 := blk_frozen BK262.out 7; have hfz25_8 := blk_frozen BK262.out 8; obtain ⟨Ao26, co26, eo26⟩ := Kd.R_slice HO_5.out; subst eo26) | ((with_reducible refine gate_callee (f := 27) rfl ?_); refine gl (some 34) Try.func27 #[.slice Ao26 x5_2.length co26, .agg #[.int .i64 ((rd_T28 l1 x28_2).f0), .int .i64 ((rd_T28 l1 x28_2).f1), .int .i64 ((rd_T28 l1 x28_2).f2.f0), .int .i64 ((rd_T28 l1 x28_2).f2.f1), .int .i64 ((rd_T28 l1 x28_2).f2.f2), .int .i64 ((rd_T28 l1 x28_2).f2.f3.f0), .int .i64 ((rd_T28 l1 x28_2).f2.f3.f1), .int .i64 ((rd_T28 l1 x28_2).f2.f4), .int .i64 ((rd_T28 l1 x28_2).f2.f5)]] ?_; (with_reducible refine (determinant_insert.calls k2 (fun k_ => some k_ = (.slice Ao26 x5_2.length co26 : Value).ownBlock) (.slice Ao26 x5_2.length co26) x5_2 ((rd_T28 l1 x28_2).f0) ((rd_T28 l1 x28_2).f1) ((rd_T28 l1 x28_2).f2.f0) ((rd_T28 l1 x28_2).f2.f1) ((rd_T28 l1 x28_2).f2.f2) ((rd_T28 l1 x28_2).f2.f3.f0) ((rd_T28 l1 x28_2).f2.f3.f1) ((rd_T28 l1 x28_2).f2.f4) ((rd_T28 l1 x28_2).f2.f5) t263 w _ ?side1 ?side2 A21.out).mono ?_); (case side1 => repeat (first | (with_reducible first | exact HB.out | apply below_alloc | apply pw_below_drewN | apply below_drew1 | refine below_set ?_ GE262.out) | exact HB.out)); (case side2 => exact Kd.R_tight rfl HO_5.out); rintro e w27 ⟨v264, rfl, ho0, hb, hkp⟩; refine ⟨_, rfl, ?_⟩; have n0_ := Aside0.mk (blk_kept (kq BK262.out) hkp (fun hs_ => (fun e_ => (Kd.R_away HO_5.out (fun _ hk => hk)) e_) hs_)); have n1_ := Aside0.mk (Kd.R_mono (ok' := fun k_ => k_ ≠ gb262) ho0 (fun k_ hk_ => Or.elim hk_ (fun hs_ => fun e_ => (Kd.R_away HO_5.out (fun _ hk => hk)) (by rw [← e_]; exact hs_)) (fun hn_ => (Kd.freshB (g := gb262) (o := .cells #[.int .i64 ((rd_T28 l1 x28_2).f0), .int .i64 ((rd_T28 l1 x28_2).f1), .int .i64 ((rd_T28 l1 x28_2).f2.f0), .int .i64 ((rd_T28 l1 x28_2).f2.f1), .int .i64 ((rd_T28 l1 x28_2).f2.f2), .int .i64 ((rd_T28 l1 x28_2).f2.f3.f0), .int .i64 ((rd_T28 l1 x28_2).f2.f3.f1), .int .i64 ((rd_T28 l1 x28_2).f2.f4), .int .i64 ((rd_T28 l1 x28_2).f2.f5)] 28 (0, 0)) (kq BK262.out) k_ hn_)))); have n2_ := Aside0.mk (hb); clear BK262; clear HB; clear HO_5; have BK262 := n0_; have HO265 := n1_; have HB := n2_; clear n0_ n1_ n2_; (try clear hb); (try clear hkp); (try clear ho0)))
 go_roundg k2
 case measure => have := HK1.out; have := HK2.out; omega
 case rel => exact ⟨(t263), (wrap64 (x28_2 + 1)), (by first | rfl | (simp; done) | (simp [*]; done)), H', ⟨by have := HK1.out; have := HK2.out; omega⟩, ⟨by (with_reducible repeat (first | apply Kd.R_alloc | apply Kd.R_drewN | apply Kd.R_drew)); exact Kd.R_mono HO265.out (fun _ hk => trivial)⟩, ⟨bq1 HB.out GE262.out⟩⟩)
 ·(
 rw [if_neg c20] at H
 exact absurd H (by simp)))
 ·(
 rw [if_neg c19] at H
 exact absurd H (by simp)))
 ·(
 rw [if_neg c18] at H
 have c18b0 : decide (x28_2 < (l1.length : Int)) = false := decide_eq_false c18
 clear c18
 obtain rfl := Option.some.inj H
 go_wp2
 go_ret
 exact ⟨_, by first | rfl | (simp [errW_none, errW_some] <;> rfl) | (simp only [← hji3]; first | rfl | (simp [errW_none, errW_some] <;> rfl)) | (simp [*, errW_none, errW_some] <;> rfl), rq HO_5.out, bq HB.out⟩)))))))
 ·(
 rw [if_neg c5] at H
 exact absurd H (by simp)))
 ·(
 rw [if_neg c4] at H
 exact absurd H (by simp))
/-! ### determinant_Add: function 11 -/
def determinant_Add.f (k : Nat) (l0 : List (S28)) (a1_0 : Int) (a1_1 : Int) (a1_2 : Int) (a1_3 : Int) (a1_4 : Int) (a1_5 : Int) (a1_6 : Int) (a1_7 : Int) (a1_8 : Int) : Option ((List (S28))) := (determinant_Merge.f k l0 (([(⟨a1_0, a1_1, (⟨a1_2, a1_3, a1_4, (⟨a1_5, a1_6⟩ : S24), a1_7, a1_8⟩ : S26)⟩ : S28)] : List (S28)))).bind fun t270 => (some t270)
theorem determinant_Add.mono : ∀ a0 a1 a2 a3 a4 a5 a6 a7 a8 a9 k, LeO (determinant_Add.f k a0 a1 a2 a3 a4 a5 a6 a7 a8 a9) (determinant_Add.f (k + 1) a0 a1 a2 a3 a4 a5 a6 a7 a8 a9) := by
 intro a0 a1 a2 a3 a4 a5 a6 a7 a8 a9 k
 unfold determinant_Add.f
 repeat' first
   | (with_reducible exact determinant_Merge.mono _ _ _)
   | (with_reducible exact LeO.refl _)
   | (with_reducible exact LeO.none _)
   | (with_reducible refine LeO.ite ?_ ?_)
   | (with_reducible refine LeO.bind ?_ (fun _ => ?_))
   | exact determinant_Merge.mono _ _ _
   | exact LeO.none _
   | refine LeO.ite ?_ ?_
   | refine LeO.bind ?_ (fun _ => ?_)
set_option maxHeartbeats 8000000 in
set_option maxRecDepth 100000 in
theorem determinant_Add.calls (k : Nat) (A0 : Option Addr) (c0 : Nat) (l0 : List (S28)) (a1_0 : Int) (a1_1 : Int) (a1_2 : Int) (a1_3 : Int) (a1_4 : Int) (a1_5 : Int) (a1_6 : Int) (a1_7 : Int) (a1_8 : Int) (r : List (S28)) (w : World) (hr0 : Kd.C k28 w A0 l0.length l0) (hc0 : l0.length ≤ c0) (h : determinant_Add.f k l0 a1_0 a1_1 a1_2 a1_3 a1_4 a1_5 a1_6 a1_7 a1_8 = some r) :
  Calls Try.prog 11 #[.slice A0 l0.length c0, .agg #[.int .i64 a1_0, .int .i64 a1_1, .int .i64 a1_2, .int .i64 a1_3, .int .i64 a1_4, .int .i64 a1_5, .int .i64 a1_6, .int .i64 a1_7, .int .i64 a1_8]] w fun e w' => ∃ v0_ : Value, e = .returned (v0_) ∧ Kd.R k28 28 w' w.heap.size (fun _ => True) v0_ r ∧ Below w.heap.size w w' := by
 have hu28 := Try.underlying28
 have HR0 := Aside0.mk hr0
 have HC0 := Aside0.mk hc0
 clear hr0 hc0
 have HB := Aside0.mk (Below.refl w.heap.size w)
 have H : ((determinant_Merge.f k l0 (([(⟨a1_0, a1_1, (⟨a1_2, a1_3, a1_4, (⟨a1_5, a1_6⟩ : S24), a1_7, a1_8⟩ : S26)⟩ : S28)] : List (S28)))).bind fun t270 => (some t270)) = some r := h
 clear h
 obtain ⟨y267, hy267⟩ : ∃ y_ : List (S28), y_ = (([(⟨a1_0, a1_1, (⟨a1_2, a1_3, a1_4, (⟨a1_5, a1_6⟩ : S24), a1_7, a1_8⟩ : S26)⟩ : S28)] : List (S28))) := ⟨_, rfl⟩
 replace H : ((determinant_Merge.f k l0 y267).bind fun t270 => (some t270)) = some r := by first | (rw [hy267]; with_reducible exact H) | (have H2_ := (Option.bind_some _ _).symm.trans H; rw [hy267]; with_reducible exact H2_) | (have H2_ := (Option.bind_some _ _).symm.trans H; with_reducible exact H2_) | with_reducible exact H | (rw [hy267]; exact H) | exact H
 have Ny267 := Aside0.mk hy267
 clear hy267
 obtain ⟨t270, A3, H⟩ := bnd H
 obtain rfl := Option.some.inj H
 go_enter Try.func11, Try.ntmps11
 go_wp2_with (first | ((with_reducible refine gate_dst (N := 3) rfl ?_); refine box_event ?hg (N := 3) ?hd (cs := #[.int .i64 a1_0, .int .i64 a1_1, .int .i64 a1_2, .int .i64 a1_3, .int .i64 a1_4, .int .i64 a1_5, .int .i64 a1_6, .int .i64 a1_7, .int .i64 a1_8]) (t := 28) ?hr ?_; (case hd => rfl); (case hg => rfl); (case hr => first | (go_simp; done) | (go_simp; rfl)); intro gb266 hg w4 hbox hb; have n0_ := Aside0.mk (below_step (bq HB.out) hb); have n1_ := Aside0.mk (hbox); have n2_ := Aside0.mk ((by rw [hg]; exact (below_size (bq HB.out)) : w.heap.size ≤ gb266)); have n3_ := Aside0.mk ((by rw [hg]; exact (below_size (bq HB.out)) : w.heap.size ≤ gb266)); clear HB; have HB := n0_; have BK266 := n1_; have GW266 := n2_; have GE266 := n3_; clear n0_ n1_ n2_ n3_; clear hb hbox hg; have hcz5_0 : w4.cell? ⟨gb266, 0, none⟩ = some (.int .i64 a1_0) := bc BK266.out 0; have hcz5_1 : w4.cell? ⟨gb266, 1, none⟩ = some (.int .i64 a1_1) := bc BK266.out 1; have hcz5_2 : w4.cell? ⟨gb266, 2, none⟩ = some (.int .i64 a1_2) := bc BK266.out 2; have hcz5_3 : w4.cell? ⟨gb266, 3, none⟩ = some (.int .i64 a1_3) := bc BK266.out 3; have hcz5_4 : w4.cell? ⟨gb266, 4, none⟩ = some (.int .i64 a1_4) := bc BK266.out 4; have hcz5_5 : w4.cell? ⟨gb266, 5, none⟩ = some (.int .i64 a1_5) := bc BK266.out 5; have hcz5_6 : w4.cell? ⟨gb266, 6, none⟩ = some (.int .i64 a1_6) := bc BK266.out 6; have hcz5_7 : w4.cell? ⟨gb266, 7, none⟩ = some (.int .i64 a1_7) := bc BK266.out 7; have hcz5_8 : w4.cell? ⟨gb266, 8, none⟩ = some (.int .i64 a1_8) := bc BK266.out 8; have hfz5_0 := blk_frozen BK266.out 0; have hfz5_1 := blk_frozen BK266.out 1; have hfz5_2 := blk_frozen BK266.out 2; have hfz5_3 := blk_frozen BK266.out 3; have hfz5_4 := blk_frozen BK266.out 4; have hfz5_5 := blk_frozen BK266.out 5; have hfz5_6 := blk_frozen BK266.out 6; have hfz5_7 := blk_frozen BK266.out 7; have hfz5_8 := blk_frozen BK266.out 8) | ((with_reducible refine gate_dst (N := 7) rfl ?_); refine Kd.R_lit k28 _ 28 ?hg (N := 7) ?hd (xs := ([(⟨a1_0, a1_1, (⟨a1_2, a1_3, a1_4, (⟨a1_5, a1_6⟩ : S24), a1_7, a1_8⟩ : S26)⟩ : S28)] : List (S28))) (inner := [.int .i64 a1_0, .int .i64 a1_1, .int .i64 a1_2, .int .i64 a1_3, .int .i64 a1_4, .int .i64 a1_5, .int .i64 a1_6, .int .i64 a1_7, .int .i64 a1_8]) (ok := fun _ => True) (okp := fun _ => True) ?hr ?hp (fun _ hk => hk) trivial (Below.refl _ _) (Nat.le_refl _) (by simp) ?_; (case hd => rfl); (case hg => rfl); (case hr => first | (go_simp; done) | (go_simp; rfl)); (case hp => exact (Reps.c9 (show Kd.M k28 _ _ _ (⟨a1_0, a1_1, (⟨a1_2, a1_3, a1_4, (⟨a1_5, a1_6⟩ : S24), a1_7, a1_8⟩ : S26)⟩ : S28) [.int .i64 a1_0, .int .i64 a1_1, .int .i64 a1_2, .int .i64 a1_3, .int .i64 a1_4, .int .i64 a1_5, .int .i64 a1_6, .int .i64 a1_7, .int .i64 a1_8] from (k28_mkM _ _ _ (⟨a1_0, a1_1, (⟨a1_2, a1_3, a1_4, (⟨a1_5, a1_6⟩ : S24), a1_7, a1_8⟩ : S26)⟩ : S28) )) (Reps.none _ _))); intro v268 w6 ho7 hb hg_ hnew_; clear hg_ hnew_; (first | rw [← Ny267.out] at ho7 | (simp only [Int.reduceToNat] at ho7; rw [← Ny267.out] at ho7)); have n0_ := Aside0.mk (Kd.R_lower (rnb ho7 BK266.out) (below_size (bq1 HB.out GE266.out))); have n1_ := Aside0.mk (bb BK266.out hb); have n2_ := Aside0.mk (below_step (bq1 HB.out GE266.out) hb); clear BK266; clear HB; have HO269 := n0_; have BK266 := n1_; have HB := n2_; clear n0_ n1_ n2_; clear hb ho7; obtain ⟨Ao8, co8, eo8⟩ := Kd.R_slice HO269.out; subst eo8) | ((with_reducible refine gate_callee (f := 24) rfl ?_); refine gl (some 8) Try.func24 #[.slice A0 l0.length c0, .slice Ao8 y267.length co8] ?_; (with_reducible refine (determinant_Merge.calls k _ _ l0 _ _ y267 t270 _ ?side1 ?side2 ?side3 ?side4 A3.out).mono ?_); (case side1 => exact crd (Kd.C_below HR0.out HB.out)); (case side2 => exact HC0.out); (case side3 => exact crd (Kd.R_reads' HO269.out).2.2); (case side4 => exact (Kd.R_reads' HO269.out).2.1); rintro e w9 ⟨v271, rfl, ho0, hb⟩; refine ⟨_, rfl, ?_⟩; have n0_ := Aside0.mk (Kd.R_elder' (rq HO269.out) (Kd.R_base ho0) hb); have n1_ := Aside0.mk (Kd.R_lower (rnb (Kd.R_new' ho0 (Kd.R_lt (rq HO269.out))) BK266.out) (below_size (bq1 HB.out GE266.out))); have n2_ := Aside0.mk (bb BK266.out hb); have n3_ := Aside0.mk (below_step (bq1 HB.out GE266.out) hb); clear HO269; clear BK266; clear HB; have HO269 := n0_; have HO272 := n1_; have BK266 := n2_; have HB := n3_; clear n0_ n1_ n2_ n3_; (try clear hb); (try clear hb2); (try clear hk); (try clear hi); (try clear ho0)))
 go_ret
 exact ⟨_, by first | rfl | (simp [errW_none, errW_some] <;> rfl) | (simp [*, errW_none, errW_some] <;> rfl), by (with_reducible repeat (first | apply Kd.R_alloc | apply Kd.R_drewN | apply Kd.R_drew)); exact Kd.R_mono HO272.out (fun _ hk => trivial), bq1 HB.out GE266.out⟩
/-! ### rollbacknetref27_less: function 30 -/
def rollbacknetref27_less.f (a0 : Int) (a1 : Int) : Option (Int) := if a0 < a1 then (some (-1)) else (if a0 > a1 then (some 1) else (some 0))
set_option maxHeartbeats 8000000 in
set_option maxRecDepth 100000 in
theorem rollbacknetref27_less.calls (a0 : Int) (a1 : Int) (r : Int) (w : World) (h : rollbacknetref27_less.f a0 a1 = some r) :
  Calls Try.prog 30 #[.int .i64 a0, .int .i64 a1] w fun e w' => e = .returned (.int .i64 r) ∧ Drawn0 w w' := by
 have H : (if a0 < a1 then (some (-1)) else (if a0 > a1 then (some 1) else (some 0))) = some r := h
 clear h
 by_cases c3 : a0 < a1
 ·(
 rw [if_pos c3] at H
 have c3b0 : decide (a0 < a1) = true := decide_eq_true c3
 clear c3
 obtain rfl := Option.some.inj H
 go_enter Try.func30, Try.ntmps30
 go_wp2
 go_ret
 exact ⟨by first | rfl | (simp; done) | (simp [*]; done), by repeat (first | exact Drawn0.refl _ | apply Drawn0.step)⟩)
 ·(
 rw [if_neg c3] at H
 have c3b0 : decide (a0 < a1) = false := decide_eq_false c3
 clear c3
 by_cases c4 : a0 > a1
 ·(
 rw [if_pos c4] at H
 have c4b0 : decide (a1 < a0) = true := decide_eq_true c4
 clear c4
 obtain rfl := Option.some.inj H
 go_enter Try.func30, Try.ntmps30
 go_wp2
 go_ret
 exact ⟨by first | rfl | (simp; done) | (simp [*]; done), by repeat (first | exact Drawn0.refl _ | apply Drawn0.step)⟩)
 ·(
 rw [if_neg c4] at H
 have c4b0 : decide (a1 < a0) = false := decide_eq_false c4
 clear c4
 obtain rfl := Option.some.inj H
 go_enter Try.func30, Try.ntmps30
 go_wp2
 go_ret
 exact ⟨by first | rfl | (simp; done) | (simp [*]; done), by repeat (first | exact Drawn0.refl _ | apply Drawn0.step)⟩))
/-! ### rollbacknetref27_Compare: function 28 -/
def rollbacknetref27_Compare.l0 : Nat → Int → Int → Int → Int → Int → Int → Int → Int → Int → Int → Int → Int → Int → Int → Int → Int → Int → Int → Int → Option (Int)
 | 0, _, _, _, _, _, _, _, _, _, _, _, _, _, _, _, _, _, _, _ => none
 | k + 1, x7, x276000, x276001, x276002, x276003, x276004, x276005, x276006, x276007, x276008, x277000, x277001, x277002, x277003, x277004, x277005, x277006, x277007, x277008 => if x7 < 9 then (if x7 = 0 then ((rollbacknetref27_less.f x276000 x277000).bind fun t277 => (if t277 = 0 then (rollbacknetref27_Compare.l0 k 1 x276000 x276001 x276002 x276003 x276004 x276005 x276006 x276007 x276008 x277000 x277001 x277002 x277003 x277004 x277005 x277006 x277007 x277008) else (some t277))) else (if x7 = 1 then ((rollbacknetref27_less.f x276001 x277001).bind fun t278 => (if t278 = 0 then (rollbacknetref27_Compare.l0 k 2 x276000 x276001 x276002 x276003 x276004 x276005 x276006 x276007 x276008 x277000 x277001 x277002 x277003 x277004 x277005 x277006 x277007 x277008) else (some t278))) else (if x7 = 2 then ((rollbacknetref27_less.f x276002 x277002).bind fun t279 => (if t279 = 0 then (rollbacknetref27_Compare.l0 k 3 x276000 x276001 x276002 x276003 x276004 x276005 x276006 x276007 x276008 x277000 x277001 x277002 x277003 x277004 x277005 x277006 x277007 x277008) else (some t279))) else (if x7 = 3 then ((rollbacknetref27_less.f x276003 x277003).bind fun t280 => (if t280 = 0 then (rollbacknetref27_Compare.l0 k 4 x276000 x276001 x276002 x276003 x276004 x276005 x276006 x276007 x276008 x277000 x277001 x277002 x277003 x277004 x277005 x277006 x277007 x277008) else (some t280))) else (if x7 = 4 then ((rollbacknetref27_less.f x276004 x277004).bind fun t281 => (if t281 = 0 then (rollbacknetref27_Compare.l0 k 5 x276000 x276001 x276002 x276003 x276004 x276005 x276006 x276007 x276008 x277000 x277001 x277002 x277003 x277004 x277005 x277006 x277007 x277008) else (some t281))) else (if x7 = 5 then ((rollbacknetref27_less.f x276005 x277005).bind fun t282 => (if t282 = 0 then (rollbacknetref27_Compare.l0 k 6 x276000 x276001 x276002 x276003 x276004 x276005 x276006 x276007 x276008 x277000 x277001 x277002 x277003 x277004 x277005 x277006 x277007 x277008) else (some t282))) else (if x7 = 6 then ((rollbacknetref27_less.f x276006 x277006).bind fun t283 => (if t283 = 0 then (rollbacknetref27_Compare.l0 k 7 x276000 x276001 x276002 x276003 x276004 x276005 x276006 x276007 x276008 x277000 x277001 x277002 x277003 x277004 x277005 x277006 x277007 x277008) else (some t283))) else (if x7 = 7 then ((rollbacknetref27_less.f x276007 x277007).bind fun t284 => (if t284 = 0 then (rollbacknetref27_Compare.l0 k 8 x276000 x276001 x276002 x276003 x276004 x276005 x276006 x276007 x276008 x277000 x277001 x277002 x277003 x277004 x277005 x277006 x277007 x277008) else (some t284))) else (if x7 = 8 then ((rollbacknetref27_less.f x276008 x277008).bind fun t285 => (if t285 = 0 then (rollbacknetref27_Compare.l0 k 9 x276000 x276001 x276002 x276003 x276004 x276005 x276006 x276007 x276008 x277000 x277001 x277002 x277003 x277004 x277005 x277006 x277007 x277008) else (some t285))) else (none)))))))))) else (some 0)
def rollbacknetref27_Compare.f (k : Nat) (a0_0 : Int) (a0_1 : Int) (a0_2 : Int) (a0_3 : Int) (a0_4 : Int) (a0_5 : Int) (a0_6 : Int) (a0_7 : Int) (a0_8 : Int) (a1_0 : Int) (a1_1 : Int) (a1_2 : Int) (a1_3 : Int) (a1_4 : Int) (a1_5 : Int) (a1_6 : Int) (a1_7 : Int) (a1_8 : Int) : Option (Int) := rollbacknetref27_Compare.l0 k 0 a0_0 a0_1 a0_3 a0_2 a0_4 a0_5 a0_6 a0_7 a0_8 a1_0 a1_1 a1_3 a1_2 a1_4 a1_5 a1_6 a1_7 a1_8
theorem rollbacknetref27_Compare.mono_l : ∀ k, (∀ y0 y1 y2 y3 y4 y5 y6 y7 y8 y9 y10 y11 y12 y13 y14 y15 y16 y17 y18, LeO (rollbacknetref27_Compare.l0 k y0 y1 y2 y3 y4 y5 y6 y7 y8 y9 y10 y11 y12 y13 y14 y15 y16 y17 y18) (rollbacknetref27_Compare.l0 (k + 1) y0 y1 y2 y3 y4 y5 y6 y7 y8 y9 y10 y11 y12 y13 y14 y15 y16 y17 y18))
 | 0 => fun _ _ _ _ _ _ _ _ _ _ _ _ _ _ _ _ _ _ _ r h => by simp [rollbacknetref27_Compare.l0] at h
 | k + 1 => by
  have ih0 := rollbacknetref27_Compare.mono_l k
  ·intro y0 y1 y2 y3 y4 y5 y6 y7 y8 y9 y10 y11 y12 y13 y14 y15 y16 y17 y18
   unfold rollbacknetref27_Compare.l0
   repeat' first
   | (with_reducible exact ih0 _ _ _ _ _ _ _ _ _ _ _ _ _ _ _ _ _ _ _)
   | (with_reducible exact LeO.refl _)
   | (with_reducible exact LeO.none _)
   | (with_reducible refine LeO.ite ?_ ?_)
   | (with_reducible refine LeO.bind ?_ (fun _ => ?_))
   | exact ih0 _ _ _ _ _ _ _ _ _ _ _ _ _ _ _ _ _ _ _
   | exact LeO.none _
   | refine LeO.ite ?_ ?_
   | refine LeO.bind ?_ (fun _ => ?_)
theorem rollbacknetref27_Compare.mono : ∀ a0 a1 a2 a3 a4 a5 a6 a7 a8 a9 a10 a11 a12 a13 a14 a15 a16 a17 k, LeO (rollbacknetref27_Compare.f k a0 a1 a2 a3 a4 a5 a6 a7 a8 a9 a10 a11 a12 a13 a14 a15 a16 a17) (rollbacknetref27_Compare.f (k + 1) a0 a1 a2 a3 a4 a5 a6 a7 a8 a9 a10 a11 a12 a13 a14 a15 a16 a17) := by
 intro a0 a1 a2 a3 a4 a5 a6 a7 a8 a9 a10 a11 a12 a13 a14 a15 a16 a17 k
 have ih0 := rollbacknetref27_Compare.mono_l k
 unfold rollbacknetref27_Compare.f
 repeat' first
   | (with_reducible exact ih0 _ _ _ _ _ _ _ _ _ _ _ _ _ _ _ _ _ _ _)
   | (with_reducible exact LeO.refl _)
   | (with_reducible exact LeO.none _)
   | (with_reducible refine LeO.ite ?_ ?_)
   | (with_reducible refine LeO.bind ?_ (fun _ => ?_))
   | exact ih0 _ _ _ _ _ _ _ _ _ _ _ _ _ _ _ _ _ _ _
   | exact LeO.none _
   | refine LeO.ite ?_ ?_
   | refine LeO.bind ?_ (fun _ => ?_)
theorem rollbacknetref27_Compare.l0_rd (k : Nat) (x : Int) (a0_0 a0_1 a0_3 a0_2 a0_4 a0_5 a0_6 a0_7 a0_8 a1_0 a1_1 a1_3 a1_2 a1_4 a1_5 a1_6 a1_7 a1_8 : Int) : rollbacknetref27_Compare.l0 (k + 1) x a0_0 a0_1 a0_3 a0_2 a0_4 a0_5 a0_6 a0_7 a0_8 a1_0 a1_1 a1_3 a1_2 a1_4 a1_5 a1_6 a1_7 a1_8 = if x < 9 then (if 0 ≤ x then ((rollbacknetref27_less.f (rd [a0_0, a0_1, a0_3, a0_2, a0_4, a0_5, a0_6, a0_7, a0_8] x) (rd [a1_0, a1_1, a1_3, a1_2, a1_4, a1_5, a1_6, a1_7, a1_8] x)).bind fun c => if c = 0 then rollbacknetref27_Compare.l0 k (x + 1) a0_0 a0_1 a0_3 a0_2 a0_4 a0_5 a0_6 a0_7 a0_8 a1_0 a1_1 a1_3 a1_2 a1_4 a1_5 a1_6 a1_7 a1_8 else some c) else none) else some 0 := by
 by_cases h9 : x < 9
 ·by_cases h0 : 0 ≤ x
  ·obtain ⟨m, rfl⟩ := Int.eq_ofNat_of_zero_le h0
   have hm : m < 9 := by omega
   have : m = 0 ∨ m = 1 ∨ m = 2 ∨ m = 3 ∨ m = 4 ∨ m = 5 ∨ m = 6 ∨ m = 7 ∨ m = 8 := by omega
   rcases this with rfl | rfl | rfl | rfl | rfl | rfl | rfl | rfl | rfl <;> simp [rollbacknetref27_Compare.l0, rd]
  ·simp only [rollbacknetref27_Compare.l0]
   rw [if_pos h9, if_pos h9, if_neg h0, if_neg (by omega), if_neg (by omega), if_neg (by omega), if_neg (by omega), if_neg (by omega), if_neg (by omega), if_neg (by omega), if_neg (by omega), if_neg (by omega)]
 ·simp only [rollbacknetref27_Compare.l0]
  rw [if_neg h9, if_neg h9]
theorem rollbacknetref27_Compare.arr9 {w : World} {g T : Nat} {a0 a1 a2 a3 a4 a5 a6 a7 a8 : Int} (h : w.heap[g]? = some (.cells #[.int .i64 a0, .int .i64 a1, .int .i64 a2, .int .i64 a3, .int .i64 a4, .int .i64 a5, .int .i64 a6, .int .i64 a7, .int .i64 a8] T (0, 0))) (x : Int) (h0 : 0 ≤ x) (h9 : x < 9) : w.cell? ⟨g, x.toNat, none⟩ = some (.int .i64 (rd [a0, a1, a2, a3, a4, a5, a6, a7, a8] x)) := by
 obtain ⟨m, rfl⟩ := Int.eq_ofNat_of_zero_le h0
 have : m = 0 ∨ m = 1 ∨ m = 2 ∨ m = 3 ∨ m = 4 ∨ m = 5 ∨ m = 6 ∨ m = 7 ∨ m = 8 := by omega
 rcases this with rfl | rfl | rfl | rfl | rfl | rfl | rfl | rfl | rfl <;> exact (blk_cell h _).trans rfl
set_option maxHeartbeats 8000000 in
set_option maxRecDepth 100000 in
theorem rollbacknetref27_Compare.calls (k : Nat) (a0_0 : Int) (a0_1 : Int) (a0_2 : Int) (a0_3 : Int) (a0_4 : Int) (a0_5 : Int) (a0_6 : Int) (a0_7 : Int) (a0_8 : Int) (a1_0 : Int) (a1_1 : Int) (a1_2 : Int) (a1_3 : Int) (a1_4 : Int) (a1_5 : Int) (a1_6 : Int) (a1_7 : Int) (a1_8 : Int) (r : Int) (w : World) (h : rollbacknetref27_Compare.f k a0_0 a0_1 a0_2 a0_3 a0_4 a0_5 a0_6 a0_7 a0_8 a1_0 a1_1 a1_2 a1_3 a1_4 a1_5 a1_6 a1_7 a1_8 = some r) :
  Calls Try.prog 28 #[.agg #[.int .i64 a0_0, .int .i64 a0_1, .int .i64 a0_2, .int .i64 a0_3, .int .i64 a0_4, .int .i64 a0_5, .int .i64 a0_6, .int .i64 a0_7, .int .i64 a0_8], .agg #[.int .i64 a1_0, .int .i64 a1_1, .int .i64 a1_2, .int .i64 a1_3, .int .i64 a1_4, .int .i64 a1_5, .int .i64 a1_6, .int .i64 a1_7, .int .i64 a1_8]] w fun e w' => e = .returned (.int .i64 r) ∧ Below w.heap.size w w' := by
 have hu28 := Try.underlying28
 have hu55 := Try.underlying55
 have HB := Aside0.mk (Below.refl w.heap.size w)
 have H : (rollbacknetref27_Compare.l0 k 0 a0_0 a0_1 a0_3 a0_2 a0_4 a0_5 a0_6 a0_7 a0_8 a1_0 a1_1 a1_3 a1_2 a1_4 a1_5 a1_6 a1_7 a1_8) = some r := h
 clear h
 have H' := Aside0.mk H
 clear H
 go_enter Try.func28, Try.ntmps28
 go_wp2_with (first | ((with_reducible refine gate_dst (N := 2) rfl ?_); refine box_event ?hg (N := 2) ?hd (cs := #[.int .i64 a0_0, .int .i64 a0_1, .int .i64 a0_2, .int .i64 a0_3, .int .i64 a0_4, .int .i64 a0_5, .int .i64 a0_6, .int .i64 a0_7, .int .i64 a0_8]) (t := 28) ?hr ?_; (case hd => rfl); (case hg => rfl); (case hr => first | (go_simp; done) | (go_simp; rfl)); intro gb273 hg w3 hbox hb; have n0_ := Aside0.mk (below_step (bq HB.out) hb); have n1_ := Aside0.mk (hbox); have n2_ := Aside0.mk ((by rw [hg]; exact (below_size (bq HB.out)) : w.heap.size ≤ gb273)); have n3_ := Aside0.mk ((by rw [hg]; exact (below_size (bq HB.out)) : w.heap.size ≤ gb273)); clear HB; have HB := n0_; have BK273 := n1_; have GW273 := n2_; have GE273 := n3_; clear n0_ n1_ n2_ n3_; clear hb hbox hg) | ((with_reducible refine gate_dst (N := 3) rfl ?_); refine box_event ?hg (N := 3) ?hd (cs := #[.int .i64 a1_0, .int .i64 a1_1, .int .i64 a1_2, .int .i64 a1_3, .int .i64 a1_4, .int .i64 a1_5, .int .i64 a1_6, .int .i64 a1_7, .int .i64 a1_8]) (t := 28) ?hr ?_; (case hd => rfl); (case hg => rfl); (case hr => first | (go_simp; done) | (go_simp; rfl)); intro gb274 hg w4 hbox hb; have n0_ := Aside0.mk (bb BK273.out hb); have n1_ := Aside0.mk (below_step (bq1 HB.out GE273.out) hb); have n2_ := Aside0.mk (hbox); have n3_ := Aside0.mk ((by rw [hg]; exact (below_size (bq1 HB.out GE273.out)) : w.heap.size ≤ gb274)); have n4_ := Aside0.mk ((by rw [hg]; exact (below_size (bq1 HB.out GE273.out)) : w.heap.size ≤ gb274)); have n5_ := Aside0.mk ((nlt hg BK273.out : gb273 ≠ gb274)); have n6_ := Aside0.mk ((by rw [hg]; exact Nat.ne_of_gt (blk_lt (g := gb273) (o := .cells #[.int .i64 a0_0, .int .i64 a0_1, .int .i64 a0_2, .int .i64 a0_3, .int .i64 a0_4, .int .i64 a0_5, .int .i64 a0_6, .int .i64 a0_7, .int .i64 a0_8] 28 (0, 0)) (kq BK273.out)) : gb274 ≠ gb273)); clear BK273; clear HB; have BK273 := n0_; have HB := n1_; have BK274 := n2_; have GW274 := n3_; have GE274 := n4_; have NB273_274 := n5_; have NB274_273 := n6_; clear n0_ n1_ n2_ n3_ n4_ n5_ n6_; clear hb hbox hg; have hnb5 := NB273_274.out; have hnc5 := NB274_273.out; have hcz6_0 : w4.cell? ⟨gb273, 0, none⟩ = some (.int .i64 a0_0) := bc BK273.out 0; have hcz6_1 : w4.cell? ⟨gb273, 1, none⟩ = some (.int .i64 a0_1) := bc BK273.out 1; have hcz6_2 : w4.cell? ⟨gb273, 2, none⟩ = some (.int .i64 a0_2) := bc BK273.out 2; have hcz6_3 : w4.cell? ⟨gb273, 3, none⟩ = some (.int .i64 a0_3) := bc BK273.out 3; have hcz6_4 : w4.cell? ⟨gb273, 4, none⟩ = some (.int .i64 a0_4) := bc BK273.out 4; have hcz6_5 : w4.cell? ⟨gb273, 5, none⟩ = some (.int .i64 a0_5) := bc BK273.out 5; have hcz6_6 : w4.cell? ⟨gb273, 6, none⟩ = some (.int .i64 a0_6) := bc BK273.out 6; have hcz6_7 : w4.cell? ⟨gb273, 7, none⟩ = some (.int .i64 a0_7) := bc BK273.out 7; have hcz6_8 : w4.cell? ⟨gb273, 8, none⟩ = some (.int .i64 a0_8) := bc BK273.out 8; have hfz6_0 := blk_frozen BK273.out 0; have hfz6_1 := blk_frozen BK273.out 1; have hfz6_2 := blk_frozen BK273.out 2; have hfz6_3 := blk_frozen BK273.out 3; have hfz6_4 := blk_frozen BK273.out 4; have hfz6_5 := blk_frozen BK273.out 5; have hfz6_6 := blk_frozen BK273.out 6; have hfz6_7 := blk_frozen BK273.out 7; have hfz6_8 := blk_frozen BK273.out 8) | ((with_reducible refine gate_dst (N := 5) rfl ?_); refine box_event ?hg (N := 5) ?hd (cs := #[.int .i64 0, .int .i64 0, .int .i64 0, .int .i64 0, .int .i64 0, .int .i64 0, .int .i64 0, .int .i64 0, .int .i64 0]) (t := 55) ?hr ?_; (case hd => rfl); (case hg => rfl); (case hr => first | (go_simp; done) | (go_simp; rfl)); intro gb275 hg w7 hbox hb; have n0_ := Aside0.mk (bb BK273.out hb); have n1_ := Aside0.mk (bb BK274.out hb); have n2_ := Aside0.mk (below_step (bq2 HB.out GE273.out GE274.out) hb); have n3_ := Aside0.mk (hbox); have n4_ := Aside0.mk ((by rw [hg]; exact (below_size (bq2 HB.out GE273.out GE274.out)) : w.heap.size ≤ gb275)); have n5_ := Aside0.mk ((by rw [hg]; exact (below_size (bq2 HB.out GE273.out GE274.out)) : w.heap.size ≤ gb275)); have n6_ := Aside0.mk ((nlt hg BK273.out : gb273 ≠ gb275)); have n7_ := Aside0.mk ((by rw [hg]; exact Nat.ne_of_gt (blk_lt (g := gb273) (o := .cells #[.int .i64 a0_0, .int .i64 a0_1, .int .i64 a0_2, .int .i64 a0_3, .int .i64 a0_4, .int .i64 a0_5, .int .i64 a0_6, .int .i64 a0_7, .int .i64 a0_8] 28 (0, 0)) (kq BK273.out)) : gb275 ≠ gb273)); have n8_ := Aside0.mk ((nlt hg BK274.out : gb274 ≠ gb275)); have n9_ := Aside0.mk ((by rw [hg]; exact Nat.ne_of_gt (blk_lt (g := gb274) (o := .cells #[.int .i64 a1_0, .int .i64 a1_1, .int .i64 a1_2, .int .i64 a1_3, .int .i64 a1_4, .int .i64 a1_5, .int .i64 a1_6, .int .i64 a1_7, .int .i64 a1_8] 28 (0, 0)) (kq BK274.out)) : gb275 ≠ gb274)); clear BK273; clear BK274; clear HB; have BK273 := n0_; have BK274 := n1_; have HB := n2_; have BK275 := n3_; have GW275 := n4_; have GE275 := n5_; have NB273_275 := n6_; have NB275_273 := n7_; have NB274_275 := n8_; have NB275_274 := n9_; clear n0_ n1_ n2_ n3_ n4_ n5_ n6_ n7_ n8_ n9_; clear hb hbox hg; have hnb8 := NB275_273.out; have hnc8 := NB273_275.out; have hnb9 := NB275_274.out; have hnc9 := NB274_275.out; have hcz10_0 : w7.cell? ⟨gb275, 0, none⟩ = some (.int .i64 0) := bc BK275.out 0; have hcz10_1 : w7.cell? ⟨gb275, 1, none⟩ = some (.int .i64 0) := bc BK275.out 1; have hcz10_2 : w7.cell? ⟨gb275, 2, none⟩ = some (.int .i64 0) := bc BK275.out 2; have hcz10_3 : w7.cell? ⟨gb275, 3, none⟩ = some (.int .i64 0) := bc BK275.out 3; have hcz10_4 : w7.cell? ⟨gb275, 4, none⟩ = some (.int .i64 0) := bc BK275.out 4; have hcz10_5 : w7.cell? ⟨gb275, 5, none⟩ = some (.int .i64 0) := bc BK275.out 5; have hcz10_6 : w7.cell? ⟨gb275, 6, none⟩ = some (.int .i64 0) := bc BK275.out 6; have hcz10_7 : w7.cell? ⟨gb275, 7, none⟩ = some (.int .i64 0) := bc BK275.out 7; have hcz10_8 : w7.cell? ⟨gb275, 8, none⟩ = some (.int .i64 0) := bc BK275.out 8; have hfz10_0 := blk_frozen BK275.out 0; have hfz10_1 := blk_frozen BK275.out 1; have hfz10_2 := blk_frozen BK275.out 2; have hfz10_3 := blk_frozen BK275.out 3; have hfz10_4 := blk_frozen BK275.out 4; have hfz10_5 := blk_frozen BK275.out 5; have hfz10_6 := blk_frozen BK275.out 6; have hfz10_7 := blk_frozen BK275.out 7; have hfz10_8 := blk_frozen BK275.out 8; have hcz11_0 : w7.cell? ⟨gb274, 0, none⟩ = some (.int .i64 a1_0) := bc BK274.out 0; have hcz11_1 : w7.cell? ⟨gb274, 1, none⟩ = some (.int .i64 a1_1) := bc BK274.out 1; have hcz11_2 : w7.cell? ⟨gb274, 2, none⟩ = some (.int .i64 a1_2) := bc BK274.out 2; have hcz11_3 : w7.cell? ⟨gb274, 3, none⟩ = some (.int .i64 a1_3) := bc BK274.out 3; have hcz11_4 : w7.cell? ⟨gb274, 4, none⟩ = some (.int .i64 a1_4) := bc BK274.out 4; have hcz11_5 : w7.cell? ⟨gb274, 5, none⟩ = some (.int .i64 a1_5) := bc BK274.out 5; have hcz11_6 : w7.cell? ⟨gb274, 6, none⟩ = some (.int .i64 a1_6) := bc BK274.out 6; have hcz11_7 : w7.cell? ⟨gb274, 7, none⟩ = some (.int .i64 a1_7) := bc BK274.out 7; have hcz11_8 : w7.cell? ⟨gb274, 8, none⟩ = some (.int .i64 a1_8) := bc BK274.out 8; have hfz11_0 := blk_frozen BK274.out 0; have hfz11_1 := blk_frozen BK274.out 1; have hfz11_2 := blk_frozen BK274.out 2; have hfz11_3 := blk_frozen BK274.out 3; have hfz11_4 := blk_frozen BK274.out 4; have hfz11_5 := blk_frozen BK274.out 5; have hfz11_6 := blk_frozen BK274.out 6; have hfz11_7 := blk_frozen BK274.out 7; have hfz11_8 := blk_frozen BK274.out 8) | ((with_reducible refine gate_dst (N := 6) rfl ?_); refine box_event ?hg (N := 6) ?hd (cs := #[.int .i64 0, .int .i64 0, .int .i64 0, .int .i64 0, .int .i64 0, .int .i64 0, .int .i64 0, .int .i64 0, .int .i64 0]) (t := 55) ?hr ?_; (case hd => rfl); (case hg => rfl); (case hr => first | (go_simp; done) | (go_simp; rfl)); intro gb276 hg w12 hbox hb; have n0_ := Aside0.mk (blk_below (g := gb273) (o := .cells #[.int .i64 a0_0, .int .i64 a0_1, .int .i64 a0_2, .int .i64 a0_3, .int .i64 a0_4, .int .i64 a0_5, .int .i64 a0_6, .int .i64 a0_7, .int .i64 a0_8] 28 (0, 0)) (by (with_reducible repeat (first | refine blk_drewN ?_ _ | refine blk_drew ?_ | refine blk_alloc ?_ _)); refine blk_far ?_ NB273_275.out _; (with_reducible repeat (first | refine blk_drewN ?_ _ | refine blk_drew ?_ | refine blk_alloc ?_ _)); refine blk_far ?_ NB273_275.out _; (with_reducible repeat (first | refine blk_drewN ?_ _ | refine blk_drew ?_ | refine blk_alloc ?_ _)); refine blk_far ?_ NB273_275.out _; (with_reducible repeat (first | refine blk_drewN ?_ _ | refine blk_drew ?_ | refine blk_alloc ?_ _)); refine blk_far ?_ NB273_275.out _; (with_reducible repeat (first | refine blk_drewN ?_ _ | refine blk_drew ?_ | refine blk_alloc ?_ _)); refine blk_far ?_ NB273_275.out _; (with_reducible repeat (first | refine blk_drewN ?_ _ | refine blk_drew ?_ | refine blk_alloc ?_ _)); refine blk_far ?_ NB273_275.out _; (with_reducible repeat (first | refine blk_drewN ?_ _ | refine blk_drew ?_ | refine blk_alloc ?_ _)); refine blk_far ?_ NB273_275.out _; (with_reducible repeat (first | refine blk_drewN ?_ _ | refine blk_drew ?_ | refine blk_alloc ?_ _)); refine blk_far ?_ NB273_275.out _; (with_reducible repeat (first | refine blk_drewN ?_ _ | refine blk_drew ?_ | refine blk_alloc ?_ _)); refine blk_far ?_ NB273_275.out _; (with_reducible repeat (first | refine blk_drewN ?_ _ | refine blk_drew ?_ | refine blk_alloc ?_ _)); exact BK273.out) hb); have n1_ := Aside0.mk (blk_below (g := gb274) (o := .cells #[.int .i64 a1_0, .int .i64 a1_1, .int .i64 a1_2, .int .i64 a1_3, .int .i64 a1_4, .int .i64 a1_5, .int .i64 a1_6, .int .i64 a1_7, .int .i64 a1_8] 28 (0, 0)) (by (with_reducible repeat (first | refine blk_drewN ?_ _ | refine blk_drew ?_ | refine blk_alloc ?_ _)); refine blk_far ?_ NB274_275.out _; (with_reducible repeat (first | refine blk_drewN ?_ _ | refine blk_drew ?_ | refine blk_alloc ?_ _)); refine blk_far ?_ NB274_275.out _; (with_reducible repeat (first | refine blk_drewN ?_ _ | refine blk_drew ?_ | refine blk_alloc ?_ _)); refine blk_far ?_ NB274_275.out _; (with_reducible repeat (first | refine blk_drewN ?_ _ | refine blk_drew ?_ | refine blk_alloc ?_ _)); refine blk_far ?_ NB274_275.out _; (with_reducible repeat (first | refine blk_drewN ?_ _ | refine blk_drew ?_ | refine blk_alloc ?_ _)); refine blk_far ?_ NB274_275.out _; (with_reducible repeat (first | refine blk_drewN ?_ _ | refine blk_drew ?_ | refine blk_alloc ?_ _)); refine blk_far ?_ NB274_275.out _; (with_reducible repeat (first | refine blk_drewN ?_ _ | refine blk_drew ?_ | refine blk_alloc ?_ _)); refine blk_far ?_ NB274_275.out _; (with_reducible repeat (first | refine blk_drewN ?_ _ | refine blk_drew ?_ | refine blk_alloc ?_ _)); refine blk_far ?_ NB274_275.out _; (with_reducible repeat (first | refine blk_drewN ?_ _ | refine blk_drew ?_ | refine blk_alloc ?_ _)); refine blk_far ?_ NB274_275.out _; (with_reducible repeat (first | refine blk_drewN ?_ _ | refine blk_drew ?_ | refine blk_alloc ?_ _)); exact BK274.out) hb); have n2_ := Aside0.mk (blk_below (g := gb275) (o := .cells #[.int .i64 a0_0, .int .i64 a0_1, .int .i64 a0_3, .int .i64 a0_2, .int .i64 a0_4, .int .i64 a0_5, .int .i64 a0_6, .int .i64 a0_7, .int .i64 a0_8] 55 (0, 0)) (pu BK275.out) hb); have n3_ := Aside0.mk (below_step (bq3 HB.out GE273.out GE274.out GE275.out) hb); have n4_ := Aside0.mk (hbox); have n5_ := Aside0.mk ((by rw [hg]; exact (below_size (bq3 HB.out GE273.out GE274.out GE275.out)) : w.heap.size ≤ gb276)); have n6_ := Aside0.mk ((by rw [hg]; exact (below_size (bq3 HB.out GE273.out GE274.out GE275.out)) : w.heap.size ≤ gb276)); have n7_ := Aside0.mk ((by rw [hg]; exact Nat.ne_of_lt (blk_lt (g := gb273) (o := .cells #[.int .i64 a0_0, .int .i64 a0_1, .int .i64 a0_2, .int .i64 a0_3, .int .i64 a0_4, .int .i64 a0_5, .int .i64 a0_6, .int .i64 a0_7, .int .i64 a0_8] 28 (0, 0)) (by (with_reducible repeat (first | refine blk_drewN ?_ _ | refine blk_drew ?_ | refine blk_alloc ?_ _)); refine blk_far ?_ NB273_275.out _; (with_reducible repeat (first | refine blk_drewN ?_ _ | refine blk_drew ?_ | refine blk_alloc ?_ _)); refine blk_far ?_ NB273_275.out _; (with_reducible repeat (first | refine blk_drewN ?_ _ | refine blk_drew ?_ | refine blk_alloc ?_ _)); refine blk_far ?_ NB273_275.out _; (with_reducible repeat (first | refine blk_drewN ?_ _ | refine blk_drew ?_ | refine blk_alloc ?_ _)); refine blk_far ?_ NB273_275.out _; (with_reducible repeat (first | refine blk_drewN ?_ _ | refine blk_drew ?_ | refine blk_alloc ?_ _)); refine blk_far ?_ NB273_275.out _; (with_reducible repeat (first | refine blk_drewN ?_ _ | refine blk_drew ?_ | refine blk_alloc ?_ _)); refine blk_far ?_ NB273_275.out _; (with_reducible repeat (first | refine blk_drewN ?_ _ | refine blk_drew ?_ | refine blk_alloc ?_ _)); refine blk_far ?_ NB273_275.out _; (with_reducible repeat (first | refine blk_drewN ?_ _ | refine blk_drew ?_ | refine blk_alloc ?_ _)); refine blk_far ?_ NB273_275.out _; (with_reducible repeat (first | refine blk_drewN ?_ _ | refine blk_drew ?_ | refine blk_alloc ?_ _)); refine blk_far ?_ NB273_275.out _; (with_reducible repeat (first | refine blk_drewN ?_ _ | refine blk_drew ?_ | refine blk_alloc ?_ _)); exact BK273.out)) : gb273 ≠ gb276)); have n8_ := Aside0.mk ((by rw [hg]; exact Nat.ne_of_gt (blk_lt (g := gb273) (o := .cells #[.int .i64 a0_0, .int .i64 a0_1, .int .i64 a0_2, .int .i64 a0_3, .int .i64 a0_4, .int .i64 a0_5, .int .i64 a0_6, .int .i64 a0_7, .int .i64 a0_8] 28 (0, 0)) (by (with_reducible repeat (first | refine blk_drewN ?_ _ | refine blk_drew ?_ | refine blk_alloc ?_ _)); refine blk_far ?_ NB273_275.out _; (with_reducible repeat (first | refine blk_drewN ?_ _ | refine blk_drew ?_ | refine blk_alloc ?_ _)); refine blk_far ?_ NB273_275.out _; (with_reducible repeat (first | refine blk_drewN ?_ _ | refine blk_drew ?_ | refine blk_alloc ?_ _)); refine blk_far ?_ NB273_275.out _; (with_reducible repeat (first | refine blk_drewN ?_ _ | refine blk_drew ?_ | refine blk_alloc ?_ _)); refine blk_far ?_ NB273_275.out _; (with_reducible repeat (first | refine blk_drewN ?_ _ | refine blk_drew ?_ | refine blk_alloc ?_ _)); refine blk_far ?_ NB273_275.out _; (with_reducible repeat (first | refine blk_drewN ?_ _ | refine blk_drew ?_ | refine blk_alloc ?_ _)); refine blk_far ?_ NB273_275.out _; (with_reducible repeat (first | refine blk_drewN ?_ _ | refine blk_drew ?_ | refine blk_alloc ?_ _)); refine blk_far ?_ NB273_275.out _; (with_reducible repeat (first | refine blk_drewN ?_ _ | refine blk_drew ?_ | refine blk_alloc ?_ _)); refine blk_far ?_ NB273_275.out _; (with_reducible repeat (first | refine blk_drewN ?_ _ | refine blk_drew ?_ | refine blk_alloc ?_ _)); refine blk_far ?_ NB273_275.out _; (with_reducible repeat (first | refine blk_drewN ?_ _ | refine blk_drew ?_ | refine blk_alloc ?_ _)); exact BK273.out)) : gb276 ≠ gb273)); have n9_ := Aside0.mk ((by rw [hg]; exact Nat.ne_of_lt (blk_lt (g := gb274) (o := .cells #[.int .i64 a1_0, .int .i64 a1_1, .int .i64 a1_2, .int .i64 a1_3, .int .i64 a1_4, .int .i64 a1_5, .int .i64 a1_6, .int .i64 a1_7, .int .i64 a1_8] 28 (0, 0)) (by (with_reducible repeat (first | refine blk_drewN ?_ _ | refine blk_drew ?_ | refine blk_alloc ?_ _)); refine blk_far ?_ NB274_275.out _; (with_reducible repeat (first | refine blk_drewN ?_ _ | refine blk_drew ?_ | refine blk_alloc ?_ _)); refine blk_far ?_ NB274_275.out _; (with_reducible repeat (first | refine blk_drewN ?_ _ | refine blk_drew ?_ | refine blk_alloc ?_ _)); refine blk_far ?_ NB274_275.out _; (with_reducible repeat (first | refine blk_drewN ?_ _ | refine blk_drew ?_ | refine blk_alloc ?_ _)); refine blk_far ?_ NB274_275.out _; (with_reducible repeat (first | refine blk_drewN ?_ _ | refine blk_drew ?_ | refine blk_alloc ?_ _)); refine blk_far ?_ NB274_275.out _; (with_reducible repeat (first | refine blk_drewN ?_ _ | refine blk_drew ?_ | refine blk_alloc ?_ _)); refine blk_far ?_ NB274_275.out _; (with_reducible repeat (first | refine blk_drewN ?_ _ | refine blk_drew ?_ | refine blk_alloc ?_ _)); refine blk_far ?_ NB274_275.out _; (with_reducible repeat (first | refine blk_drewN ?_ _ | refine blk_drew ?_ | refine blk_alloc ?_ _)); refine blk_far ?_ NB274_275.out _; (with_reducible repeat (first | refine blk_drewN ?_ _ | refine blk_drew ?_ | refine blk_alloc ?_ _)); refine blk_far ?_ NB274_275.out _; (with_reducible repeat (first | refine blk_drewN ?_ _ | refine blk_drew ?_ | refine blk_alloc ?_ _)); exact BK274.out)) : gb274 ≠ gb276)); have n10_ := Aside0.mk ((by rw [hg]; exact Nat.ne_of_gt (blk_lt (g := gb274) (o := .cells #[.int .i64 a1_0, .int .i64 a1_1, .int .i64 a1_2, .int .i64 a1_3, .int .i64 a1_4, .int .i64 a1_5, .int .i64 a1_6, .int .i64 a1_7, .int .i64 a1_8] 28 (0, 0)) (by (with_reducible repeat (first | refine blk_drewN ?_ _ | refine blk_drew ?_ | refine blk_alloc ?_ _)); refine blk_far ?_ NB274_275.out _; (with_reducible repeat (first | refine blk_drewN ?_ _ | refine blk_drew ?_ | refine blk_alloc ?_ _)); refine blk_far ?_ NB274_275.out _; (with_reducible repeat (first | refine blk_drewN ?_ _ | refine blk_drew ?_ | refine blk_alloc ?_ _)); refine blk_far ?_ NB274_275.out _; (with_reducible repeat (first | refine blk_drewN ?_ _ | refine blk_drew ?_ | refine blk_alloc ?_ _)); refine blk_far ?_ NB274_275.out _; (with_reducible repeat (first | refine blk_drewN ?_ _ | refine blk_drew ?_ | refine blk_alloc ?_ _)); refine blk_far ?_ NB274_275.out _; (with_reducible repeat (first | refine blk_drewN ?_ _ | refine blk_drew ?_ | refine blk_alloc ?_ _)); refine blk_far ?_ NB274_275.out _; (with_reducible repeat (first | refine blk_drewN ?_ _ | refine blk_drew ?_ | refine blk_alloc ?_ _)); refine blk_far ?_ NB274_275.out _; (with_reducible repeat (first | refine blk_drewN ?_ _ | refine blk_drew ?_ | refine blk_alloc ?_ _)); refine blk_far ?_ NB274_275.out _; (with_reducible repeat (first | refine blk_drewN ?_ _ | refine blk_drew ?_ | refine blk_alloc ?_ _)); refine blk_far ?_ NB274_275.out _; (with_reducible repeat (first | refine blk_drewN ?_ _ | refine blk_drew ?_ | refine blk_alloc ?_ _)); exact BK274.out)) : gb276 ≠ gb274)); have n11_ := Aside0.mk ((by rw [hg]; exact Nat.ne_of_lt (blk_lt (g := gb275) (o := .cells #[.int .i64 a0_0, .int .i64 a0_1, .int .i64 a0_3, .int .i64 a0_2, .int .i64 a0_4, .int .i64 a0_5, .int .i64 a0_6, .int .i64 a0_7, .int .i64 a0_8] 55 (0, 0)) (pu BK275.out)) : gb275 ≠ gb276)); have n12_ := Aside0.mk ((by rw [hg]; exact Nat.ne_of_gt (blk_lt (g := gb275) (o := .cells #[.int .i64 a0_0, .int .i64 a0_1, .int .i64 a0_3, .int .i64 a0_2, .int .i64 a0_4, .int .i64 a0_5, .int .i64 a0_6, .int .i64 a0_7, .int .i64 a0_8] 55 (0, 0)) (pu BK275.out)) : gb276 ≠ gb275)); clear BK273; clear BK274; clear BK275; clear HB; have BK273 := n0_; have BK274 := n1_; have BK275 := n2_; have HB := n3_; have BK276 := n4_; have GW276 := n5_; have GE276 := n6_; have NB273_276 := n7_; have NB276_273 := n8_; have NB274_276 := n9_; have NB276_274 := n10_; have NB275_276 := n11_; have NB276_275 := n12_; clear n0_ n1_ n2_ n3_ n4_ n5_ n6_ n7_ n8_ n9_ n10_ n11_ n12_; clear hb hbox hg; have hnb13 := NB276_273.out; have hnc13 := NB273_276.out; have hnb14 := NB276_274.out; have hnc14 := NB274_276.out; have hnb15 := NB276_275.out; have hnc15 := NB275_276.out; have hcz16_0 : w12.cell? ⟨gb276, 0, none⟩ = some (.int .i64 0) := bc BK276.out 0; have hcz16_1 : w12.cell? ⟨gb276, 1, none⟩ = some (.int .i64 0) := bc BK276.out 1; have hcz16_2 : w12.cell? ⟨gb276, 2, none⟩ = some (.int .i64 0) := bc BK276.out 2; have hcz16_3 : w12.cell? ⟨gb276, 3, none⟩ = some (.int .i64 0) := bc BK276.out 3; have hcz16_4 : w12.cell? ⟨gb276, 4, none⟩ = some (.int .i64 0) := bc BK276.out 4; have hcz16_5 : w12.cell? ⟨gb276, 5, none⟩ = some (.int .i64 0) := bc BK276.out 5; have hcz16_6 : w12.cell? ⟨gb276, 6, none⟩ = some (.int .i64 0) := bc BK276.out 6; have hcz16_7 : w12.cell? ⟨gb276, 7, none⟩ = some (.int .i64 0) := bc BK276.out 7; have hcz16_8 : w12.cell? ⟨gb276, 8, none⟩ = some (.int .i64 0) := bc BK276.out 8; have hfz16_0 := blk_frozen BK276.out 0; have hfz16_1 := blk_frozen BK276.out 1; have hfz16_2 := blk_frozen BK276.out 2; have hfz16_3 := blk_frozen BK276.out 3; have hfz16_4 := blk_frozen BK276.out 4; have hfz16_5 := blk_frozen BK276.out 5; have hfz16_6 := blk_frozen BK276.out 6; have hfz16_7 := blk_frozen BK276.out 7; have hfz16_8 := blk_frozen BK276.out 8))
 go_loopg [7] k (fun kq v7 w' => ∃ (x7_1 : Int), v7 = .int .i64 x7_1 ∧ Aside0 (rollbacknetref27_Compare.l0 kq x7_1 a0_0 a0_1 a0_3 a0_2 a0_4 a0_5 a0_6 a0_7 a0_8 a1_0 a1_1 a1_3 a1_2 a1_4 a1_5 a1_6 a1_7 a1_8 = some r) ∧ Aside0 (kq ≤ k) ∧ Aside0 (w'.heap[gb273]? = some (.cells #[.int .i64 a0_0, .int .i64 a0_1, .int .i64 a0_2, .int .i64 a0_3, .int .i64 a0_4, .int .i64 a0_5, .int .i64 a0_6, .int .i64 a0_7, .int .i64 a0_8] 28 (0, 0))) ∧ Aside0 (w'.heap[gb274]? = some (.cells #[.int .i64 a1_0, .int .i64 a1_1, .int .i64 a1_2, .int .i64 a1_3, .int .i64 a1_4, .int .i64 a1_5, .int .i64 a1_6, .int .i64 a1_7, .int .i64 a1_8] 28 (0, 0))) ∧ Aside0 (w'.heap[gb275]? = some (.cells #[.int .i64 a0_0, .int .i64 a0_1, .int .i64 a0_3, .int .i64 a0_2, .int .i64 a0_4, .int .i64 a0_5, .int .i64 a0_6, .int .i64 a0_7, .int .i64 a0_8] 55 (0, 0))) ∧ Aside0 (w'.heap[gb276]? = some (.cells #[.int .i64 a1_0, .int .i64 a1_1, .int .i64 a1_3, .int .i64 a1_2, .int .i64 a1_4, .int .i64 a1_5, .int .i64 a1_6, .int .i64 a1_7, .int .i64 a1_8] 55 (0, 0))) ∧ Aside0 (Below w.heap.size w w'))
 case atStart => exact ⟨(0), (by first | rfl | (simp; done) | (simp [*]; done)), H', ⟨Nat.le_refl _⟩, ⟨by (with_reducible repeat (first | refine blk_drewN ?_ _ | refine blk_drew ?_ | refine blk_alloc ?_ _)); refine blk_far ?_ NB273_276.out _; (with_reducible repeat (first | refine blk_drewN ?_ _ | refine blk_drew ?_ | refine blk_alloc ?_ _)); refine blk_far ?_ NB273_276.out _; (with_reducible repeat (first | refine blk_drewN ?_ _ | refine blk_drew ?_ | refine blk_alloc ?_ _)); refine blk_far ?_ NB273_276.out _; (with_reducible repeat (first | refine blk_drewN ?_ _ | refine blk_drew ?_ | refine blk_alloc ?_ _)); refine blk_far ?_ NB273_276.out _; (with_reducible repeat (first | refine blk_drewN ?_ _ | refine blk_drew ?_ | refine blk_alloc ?_ _)); refine blk_far ?_ NB273_276.out _; (with_reducible repeat (first | refine blk_drewN ?_ _ | refine blk_drew ?_ | refine blk_alloc ?_ _)); refine blk_far ?_ NB273_276.out _; (with_reducible repeat (first | refine blk_drewN ?_ _ | refine blk_drew ?_ | refine blk_alloc ?_ _)); refine blk_far ?_ NB273_276.out _; (with_reducible repeat (first | refine blk_drewN ?_ _ | refine blk_drew ?_ | refine blk_alloc ?_ _)); refine blk_far ?_ NB273_276.out _; (with_reducible repeat (first | refine blk_drewN ?_ _ | refine blk_drew ?_ | refine blk_alloc ?_ _)); refine blk_far ?_ NB273_276.out _; (with_reducible repeat (first | refine blk_drewN ?_ _ | refine blk_drew ?_ | refine blk_alloc ?_ _)); exact BK273.out⟩, ⟨by (with_reducible repeat (first | refine blk_drewN ?_ _ | refine blk_drew ?_ | refine blk_alloc ?_ _)); refine blk_far ?_ NB274_276.out _; (with_reducible repeat (first | refine blk_drewN ?_ _ | refine blk_drew ?_ | refine blk_alloc ?_ _)); refine blk_far ?_ NB274_276.out _; (with_reducible repeat (first | refine blk_drewN ?_ _ | refine blk_drew ?_ | refine blk_alloc ?_ _)); refine blk_far ?_ NB274_276.out _; (with_reducible repeat (first | refine blk_drewN ?_ _ | refine blk_drew ?_ | refine blk_alloc ?_ _)); refine blk_far ?_ NB274_276.out _; (with_reducible repeat (first | refine blk_drewN ?_ _ | refine blk_drew ?_ | refine blk_alloc ?_ _)); refine blk_far ?_ NB274_276.out _; (with_reducible repeat (first | refine blk_drewN ?_ _ | refine blk_drew ?_ | refine blk_alloc ?_ _)); refine blk_far ?_ NB274_276.out _; (with_reducible repeat (first | refine blk_drewN ?_ _ | refine blk_drew ?_ | refine blk_alloc ?_ _)); refine blk_far ?_ NB274_276.out _; (with_reducible repeat (first | refine blk_drewN ?_ _ | refine blk_drew ?_ | refine blk_alloc ?_ _)); refine blk_far ?_ NB274_276.out _; (with_reducible repeat (first | refine blk_drewN ?_ _ | refine blk_drew ?_ | refine blk_alloc ?_ _)); refine blk_far ?_ NB274_276.out _; (with_reducible repeat (first | refine blk_drewN ?_ _ | refine blk_drew ?_ | refine blk_alloc ?_ _)); exact BK274.out⟩, ⟨by (with_reducible repeat (first | refine blk_drewN ?_ _ | refine blk_drew ?_ | refine blk_alloc ?_ _)); refine blk_far ?_ NB275_276.out _; (with_reducible repeat (first | refine blk_drewN ?_ _ | refine blk_drew ?_ | refine blk_alloc ?_ _)); refine blk_far ?_ NB275_276.out _; (with_reducible repeat (first | refine blk_drewN ?_ _ | refine blk_drew ?_ | refine blk_alloc ?_ _)); refine blk_far ?_ NB275_276.out _; (with_reducible repeat (first | refine blk_drewN ?_ _ | refine blk_drew ?_ | refine blk_alloc ?_ _)); refine blk_far ?_ NB275_276.out _; (with_reducible repeat (first | refine blk_drewN ?_ _ | refine blk_drew ?_ | refine blk_alloc ?_ _)); refine blk_far ?_ NB275_276.out _; (with_reducible repeat (first | refine blk_drewN ?_ _ | refine blk_drew ?_ | refine blk_alloc ?_ _)); refine blk_far ?_ NB275_276.out _; (with_reducible repeat (first | refine blk_drewN ?_ _ | refine blk_drew ?_ | refine blk_alloc ?_ _)); refine blk_far ?_ NB275_276.out _; (with_reducible repeat (first | refine blk_drewN ?_ _ | refine blk_drew ?_ | refine blk_alloc ?_ _)); refine blk_far ?_ NB275_276.out _; (with_reducible repeat (first | refine blk_drewN ?_ _ | refine blk_drew ?_ | refine blk_alloc ?_ _)); refine blk_far ?_ NB275_276.out _; (with_reducible repeat (first | refine blk_drewN ?_ _ | refine blk_drew ?_ | refine blk_alloc ?_ _)); exact BK275.out⟩, ⟨pu BK276.out⟩, ⟨bq4 HB.out GE273.out GE274.out GE275.out GE276.out⟩⟩
 case round =>(
 clear H'
 obtain ⟨x, rfl, HA, HK1, BK273, BK274, BK275, BK276, HB⟩ := hrel
 cases gk with
 | zero => exact absurd HA.out (by simp [rollbacknetref27_Compare.l0])
 | succ k1 =>(
 have H := (rollbacknetref27_Compare.l0_rd k1 x a0_0 a0_1 a0_3 a0_2 a0_4 a0_5 a0_6 a0_7 a0_8 a1_0 a1_1 a1_3 a1_2 a1_4 a1_5 a1_6 a1_7 a1_8).symm.trans HA.out
 clear HA
 by_cases h9 : x < 9
 ·(
 rw [if_pos h9] at H
 by_cases h0 : 0 ≤ x
 ·(
 rw [if_pos h0] at H
 have hx := rollbacknetref27_Compare.arr9 BK275.out x h0 h9
 have hy := rollbacknetref27_Compare.arr9 BK276.out x h0 h9
 generalize rd [a0_0, a0_1, a0_3, a0_2, a0_4, a0_5, a0_6, a0_7, a0_8] x = u at hx H
 generalize rd [a1_0, a1_1, a1_3, a1_2, a1_4, a1_5, a1_6, a1_7, a1_8] x = v at hy H
 obtain ⟨c, A0, H⟩ := Option.bind_eq_some_iff.mp H
 have AL := Aside0.mk A0
 clear A0
 by_cases hc : c = 0
 ·(
 rw [if_pos hc] at H
 have hcb0 : (c == 0) = true := beq_iff_eq.mpr hc
 have hcb1 : (c != 0) = false := bne_eq_false_iff_eq.mpr hc
 clear hc
 have HH := Aside0.mk H
 clear H
 go_wp2_with (first | (go_at_call 30; (with_reducible refine (rollbacknetref27_less.calls u v c _ AL.out).mono ?_); rintro e w' ⟨rfl, ⟨nd, rfl⟩⟩; (try first | exact ⟨rfl, _, World.drewN_drewN _ _ _⟩ | exact ⟨rfl, _, Eq.trans (World.drewN_drewN _ _ _) (congrArg (World.drewN _) (Nat.add_assoc _ _ _))⟩)))
 repeat (go_quiet (first | (go_at_call 30; (with_reducible refine (rollbacknetref27_less.calls u v c _ AL.out).mono ?_); rintro e w' ⟨rfl, ⟨nd, rfl⟩⟩; (try first | exact ⟨rfl, _, World.drewN_drewN _ _ _⟩ | exact ⟨rfl, _, Eq.trans (World.drewN_drewN _ _ _) (congrArg (World.drewN _) (Nat.add_assoc _ _ _))⟩))); try go_wp2_with (first | (go_at_call 30; (with_reducible refine (rollbacknetref27_less.calls u v c _ AL.out).mono ?_); rintro e w' ⟨rfl, ⟨nd, rfl⟩⟩; (try first | exact ⟨rfl, _, World.drewN_drewN _ _ _⟩ | exact ⟨rfl, _, Eq.trans (World.drewN_drewN _ _ _) (congrArg (World.drewN _) (Nat.add_assoc _ _ _))⟩))))
 go_roundg k1
 case measure => have := HK1.out; omega
 case rel => exact ⟨x + 1, (by first | rfl | (simp; done) | (simp [*]; done)), HH, ⟨by have := HK1.out; omega⟩, ⟨kq BK273.out⟩, ⟨kq BK274.out⟩, ⟨kq BK275.out⟩, ⟨kq BK276.out⟩, ⟨bq HB.out⟩⟩)
 ·(
 rw [if_neg hc] at H
 have hcb0 : (c == 0) = false := beq_eq_false_iff_ne.mpr hc
 have hcb1 : (c != 0) = true := bne_iff_ne.mpr hc
 clear hc
 obtain rfl := Option.some.inj H
 go_wp2_with (first | (go_at_call 30; (with_reducible refine (rollbacknetref27_less.calls u v c _ AL.out).mono ?_); rintro e w' ⟨rfl, ⟨nd, rfl⟩⟩; (try first | exact ⟨rfl, _, World.drewN_drewN _ _ _⟩ | exact ⟨rfl, _, Eq.trans (World.drewN_drewN _ _ _) (congrArg (World.drewN _) (Nat.add_assoc _ _ _))⟩)))
 repeat (go_quiet (first | (go_at_call 30; (with_reducible refine (rollbacknetref27_less.calls u v c _ AL.out).mono ?_); rintro e w' ⟨rfl, ⟨nd, rfl⟩⟩; (try first | exact ⟨rfl, _, World.drewN_drewN _ _ _⟩ | exact ⟨rfl, _, Eq.trans (World.drewN_drewN _ _ _) (congrArg (World.drewN _) (Nat.add_assoc _ _ _))⟩))); try go_wp2_with (first | (go_at_call 30; (with_reducible refine (rollbacknetref27_less.calls u v c _ AL.out).mono ?_); rintro e w' ⟨rfl, ⟨nd, rfl⟩⟩; (try first | exact ⟨rfl, _, World.drewN_drewN _ _ _⟩ | exact ⟨rfl, _, Eq.trans (World.drewN_drewN _ _ _) (congrArg (World.drewN _) (Nat.add_assoc _ _ _))⟩))))
 go_ret
 exact ⟨rfl, bq HB.out⟩))
 ·(
 rw [if_neg h0] at H
 exact absurd H (by simp)))
 ·(
 rw [if_neg h9] at H
 obtain rfl := Option.some.inj H
 go_wp2
 go_ret
 exact ⟨rfl, bq HB.out⟩)))
end Go.Proofs.Ytdobkcphmpbhlaa.PGL
