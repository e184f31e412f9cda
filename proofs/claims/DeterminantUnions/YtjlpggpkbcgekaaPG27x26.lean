-- Written by a program of this session (hprint.py) out of the translation and of hand-proved parts. Lean checks it.
import Derived.Test.YtjlpggpkbcgekaaPG27x0
import Derived.Test.YtjlpggpkbcgekaaPG27x1
namespace Go.Proofs.Ytjlpggpkbcgekaa.PG27
open Go.RowKit Go.Proofs.YtjlpggpkbcgekaaW.PrintWords Go.Proofs.YtjlpggpkbcgekaaW.PrintLast Go.Proofs.YtjlpggpkbcgekaaW.PrintMore
attribute [local go_sem] max2_int min2_int max_two min_two max_three min_three max_four min_four   -- for this text's walks alone
set_option linter.unusedVariables false
set_option linter.unusedSimpArgs false

attribute [local go_sem high] eqA39
/-! ### determinant_Has: function 29 -/
def determinant_Has.l0 : Nat → List (S39) → Int → Int → Int → Int → Int → Int → Int → Int → Int → Int → Int → Option (Bool)
 | 0, _, _, _, _, _, _, _, _, _, _, _, _ => none
 | k + 1, x7, x8, x9, x482000, x482001, x482002, x482003, x482004, x482005, x482006, x482007, x482008 => if x9 < x8 then (if 0 ≤ x9 then (if x9 < (x7.length : Int) then (if (((rd_T39 x7 x9).f0) == x482000 && (((rd_T39 x7 x9).f1) == x482001 && ((((rd_T39 x7 x9).f2.f0) == x482002 && (((rd_T39 x7 x9).f2.f1) == x482003 && (((rd_T39 x7 x9).f2.f2) == x482004 && ((((rd_T39 x7 x9).f2.f3.f0) == x482005 && (((rd_T39 x7 x9).f2.f3.f1) == x482006)) && (((rd_T39 x7 x9).f2.f4) == x482007 && (((rd_T39 x7 x9).f2.f5) == x482008))))))))) = true then (some true) else (determinant_Has.l0 k x7 x8 (wrap64 (x9 + 1)) x482000 x482001 x482002 x482003 x482004 x482005 x482006 x482007 x482008)) else (none)) else (none)) else (some false)
def determinant_Has.f (k : Nat) (l0 : List (S39)) (a1_0 : Int) (a1_1 : Int) (a1_2 : Int) (a1_3 : Int) (a1_4 : Int) (a1_5 : Int) (a1_6 : Int) (a1_7 : Int) (a1_8 : Int) : Option (Bool) := determinant_Has.l0 k l0 (l0.length : Int) 0 a1_0 a1_1 a1_2 a1_3 a1_4 a1_5 a1_6 a1_7 a1_8
theorem determinant_Has.mono_l : ∀ k, (∀ y0 y1 y2 y3 y4 y5 y6 y7 y8 y9 y10 y11, LeO (determinant_Has.l0 k y0 y1 y2 y3 y4 y5 y6 y7 y8 y9 y10 y11) (determinant_Has.l0 (k + 1) y0 y1 y2 y3 y4 y5 y6 y7 y8 y9 y10 y11))
 | 0 => fun _ _ _ _ _ _ _ _ _ _ _ _ r h => by simp [determinant_Has.l0] at h
 | k + 1 => by
  have ih0 := determinant_Has.mono_l k
  ·intro y0 y1 y2 y3 y4 y5 y6 y7 y8 y9 y10 y11
   unfold determinant_Has.l0
   repeat' first
   | (with_reducible exact ih0 _ _ _ _ _ _ _ _ _ _ _ _)
   | (with_reducible exact LeO.refl _)
   | (with_reducible exact LeO.none _)
   | (with_reducible refine LeO.ite ?_ ?_)
   | (with_reducible refine LeO.bind ?_ (fun _ => ?_))
   | exact ih0 _ _ _ _ _ _ _ _ _ _ _ _
   | exact LeO.none _
   | refine LeO.ite ?_ ?_
   | refine LeO.bind ?_ (fun _ => ?_)
theorem determinant_Has.mono : ∀ a0 a1 a2 a3 a4 a5 a6 a7 a8 a9 k, LeO (determinant_Has.f k a0 a1 a2 a3 a4 a5 a6 a7 a8 a9) (determinant_Has.f (k + 1) a0 a1 a2 a3 a4 a5 a6 a7 a8 a9) := by
 intro a0 a1 a2 a3 a4 a5 a6 a7 a8 a9 k
 have ih0 := determinant_Has.mono_l k
 unfold determinant_Has.f
 repeat' first
   | (with_reducible exact ih0 _ _ _ _ _ _ _ _ _ _ _ _)
   | (with_reducible exact LeO.refl _)
   | (with_reducible exact LeO.none _)
   | (with_reducible refine LeO.ite ?_ ?_)
   | (with_reducible refine LeO.bind ?_ (fun _ => ?_))
   | exact ih0 _ _ _ _ _ _ _ _ _ _ _ _
   | exact LeO.none _
   | refine LeO.ite ?_ ?_
   | refine LeO.bind ?_ (fun _ => ?_)
set_option maxHeartbeats 8000000 in
set_option maxRecDepth 100000 in
theorem determinant_Has.calls (k : Nat) (A0 : Option Addr) (c0 : Nat) (l0 : List (S39)) (a1_0 : Int) (a1_1 : Int) (a1_2 : Int) (a1_3 : Int) (a1_4 : Int) (a1_5 : Int) (a1_6 : Int) (a1_7 : Int) (a1_8 : Int) (r : Bool) (w : World) (hr0 : Kd.C k39 w A0 l0.length l0) (hc0 : l0.length ≤ c0) (h : determinant_Has.f k l0 a1_0 a1_1 a1_2 a1_3 a1_4 a1_5 a1_6 a1_7 a1_8 = some r) :
  Calls Try.prog 29 #[.slice A0 l0.length c0, .agg #[.int .i64 a1_0, .int .i64 a1_1, .int .i64 a1_2, .int .i64 a1_3, .int .i64 a1_4, .int .i64 a1_5, .int .i64 a1_6, .int .i64 a1_7, .int .i64 a1_8]] w fun e w' => e = .returned (.bool r) ∧ Below w.heap.size w w' := by
 have hu39 := Try.underlying39
 have HR0 := Aside0.mk hr0
 have HC0 := Aside0.mk hc0
 clear hr0 hc0
 have HB := Aside0.mk (Below.refl w.heap.size w)
 have H : (determinant_Has.l0 k l0 (l0.length : Int) 0 a1_0 a1_1 a1_2 a1_3 a1_4 a1_5 a1_6 a1_7 a1_8) = some r := h
 clear h
 have H' := Aside0.mk H
 clear H
 go_enter Try.func29, Try.ntmps29
 go_wp2_with (first | ((with_reducible refine gate_dst (N := 3) rfl ?_); refine box_event ?hg (N := 3) ?hd (cs := #[.int .i64 a1_0, .int .i64 a1_1, .int .i64 a1_2, .int .i64 a1_3, .int .i64 a1_4, .int .i64 a1_5, .int .i64 a1_6, .int .i64 a1_7, .int .i64 a1_8]) (t := 39) ?hr ?_; (case hd => rfl); (case hg => rfl); (case hr => first | (go_simp; done) | (go_simp; rfl)); intro gb481 hg w3 hbox hb; have n0_ := Aside0.mk (below_step (bq HB.out) hb); have n1_ := Aside0.mk (hbox); have n2_ := Aside0.mk ((by rw [hg]; exact (below_size (bq HB.out)) : w.heap.size ≤ gb481)); have n3_ := Aside0.mk ((by rw [hg]; exact (below_size (bq HB.out)) : w.heap.size ≤ gb481)); clear HB; have HB := n0_; have BK481 := n1_; have GW481 := n2_; have GE481 := n3_; clear n0_ n1_ n2_ n3_; clear hb hbox hg))
 go_loopg [9] k (fun kq v9 w' => ∃ (x9_1 : Int), v9 = .int .i64 x9_1 ∧ Aside0 (determinant_Has.l0 kq l0 (l0.length : Int) x9_1 a1_0 a1_1 a1_2 a1_3 a1_4 a1_5 a1_6 a1_7 a1_8 = some r) ∧ Aside0 (kq ≤ k) ∧ Aside0 (w'.heap[gb481]? = some (.cells #[.int .i64 a1_0, .int .i64 a1_1, .int .i64 a1_2, .int .i64 a1_3, .int .i64 a1_4, .int .i64 a1_5, .int .i64 a1_6, .int .i64 a1_7, .int .i64 a1_8] 39 (0, 0))) ∧ Aside0 (Below w.heap.size w w'))
 case atStart => exact ⟨(0), (by first | rfl | (simp; done) | (simp [*]; done)), H', ⟨Nat.le_refl _⟩, ⟨kq BK481.out⟩, ⟨bq1 HB.out GE481.out⟩⟩
 case round =>
  clear H'
  try clear c2
  try clear p2
  obtain ⟨x9_1, rfl, HA, HK1, BK481, HB⟩ := hrel
  cases gk with
  | zero => exact absurd HA.out (by simp [determinant_Has.l0])
  | succ k1 =>
   have H := HA.out
   clear HA
   simp only [determinant_Has.l0] at H
   by_cases c4 : x9_1 < (l0.length : Int)
   ·rw [if_pos c4] at H
    have c4b0 : decide (x9_1 < (l0.length : Int)) = true := decide_eq_true c4
    clear c4
    by_cases c5 : 0 ≤ x9_1
    ·rw [if_pos c5] at H
     have c5b0 : decide (0 ≤ x9_1) = true := decide_eq_true c5
     clear c5
     by_cases c6 : x9_1 < (l0.length : Int)
     ·rw [if_pos c6] at H
      have c6b0 : decide (x9_1 < (l0.length : Int)) = true := decide_eq_true c6
      clear c6
      by_cases c7 : (((rd_T39 l0 x9_1).f0) == a1_0 && (((rd_T39 l0 x9_1).f1) == a1_1 && ((((rd_T39 l0 x9_1).f2.f0) == a1_2 && (((rd_T39 l0 x9_1).f2.f1) == a1_3 && (((rd_T39 l0 x9_1).f2.f2) == a1_4 && ((((rd_T39 l0 x9_1).f2.f3.f0) == a1_5 && (((rd_T39 l0 x9_1).f2.f3.f1) == a1_6)) && (((rd_T39 l0 x9_1).f2.f4) == a1_7 && (((rd_T39 l0 x9_1).f2.f5) == a1_8))))))))) = true
      ·rw [if_pos c7] at H
       have c7b0 : (((rd_T39 l0 x9_1).f0) == a1_0 && (((rd_T39 l0 x9_1).f1) == a1_1 && ((((rd_T39 l0 x9_1).f2.f0) == a1_2 && (((rd_T39 l0 x9_1).f2.f1) == a1_3 && (((rd_T39 l0 x9_1).f2.f2) == a1_4 && ((((rd_T39 l0 x9_1).f2.f3.f0) == a1_5 && (((rd_T39 l0 x9_1).f2.f3.f1) == a1_6)) && (((rd_T39 l0 x9_1).f2.f4) == a1_7 && (((rd_T39 l0 x9_1).f2.f5) == a1_8))))))))) = true := c7
       (try (have c7b1 : decide (((rd_T39 l0 x9_1).f0) = a1_0 && (((rd_T39 l0 x9_1).f1) == a1_1 && ((((rd_T39 l0 x9_1).f2.f0) == a1_2 && (((rd_T39 l0 x9_1).f2.f1) == a1_3 && (((rd_T39 l0 x9_1).f2.f2) == a1_4 && ((((rd_T39 l0 x9_1).f2.f3.f0) == a1_5 && (((rd_T39 l0 x9_1).f2.f3.f1) == a1_6)) && (((rd_T39 l0 x9_1).f2.f4) == a1_7 && (((rd_T39 l0 x9_1).f2.f5) == a1_8))))))))) = true := by simpa using c7))
       (try (have c7b2 : (((rd_T39 l0 x9_1).f0) == a1_0 && (((rd_T39 l0 x9_1).f1) == a1_1 && ((((rd_T39 l0 x9_1).f2.f0) == a1_2 && (((rd_T39 l0 x9_1).f2.f1) == a1_3 && (((rd_T39 l0 x9_1).f2.f2) == a1_4 && ((((rd_T39 l0 x9_1).f2.f3.f0) == a1_5 && (((rd_T39 l0 x9_1).f2.f3.f1) == a1_6)) && (((rd_T39 l0 x9_1).f2.f4) == a1_7 && (((rd_T39 l0 x9_1).f2.f5) == a1_8))))))))) = true := by simpa using c7))
       clear c7
       obtain rfl := Option.some.inj H
       have p482 : 0 ≤ (x9_1 : Int) := of_decide_eq_true (by first | (with_reducible assumption) | assumption)
       have q482 : x9_1 < (l0.length : Int) := of_decide_eq_true (by first | (with_reducible assumption) | assumption)
       obtain ⟨ad482, e482, hx482_0, hx482_1, hx482_2, hx482_3, hx482_4, hx482_5, hx482_6, hx482_7, hx482_8⟩ := at_T39 HR0.out x9_1 p482 q482
       cases e482
       replace hx482_0 := (HB.out.cell (World.block_lt_of_cell? w _ hx482_0)).trans hx482_0
       replace hx482_1 := (HB.out.cell (World.block_lt_of_cell? w _ hx482_1)).trans hx482_1
       replace hx482_2 := (HB.out.cell (World.block_lt_of_cell? w _ hx482_2)).trans hx482_2
       replace hx482_3 := (HB.out.cell (World.block_lt_of_cell? w _ hx482_3)).trans hx482_3
       replace hx482_4 := (HB.out.cell (World.block_lt_of_cell? w _ hx482_4)).trans hx482_4
       replace hx482_5 := (HB.out.cell (World.block_lt_of_cell? w _ hx482_5)).trans hx482_5
       replace hx482_6 := (HB.out.cell (World.block_lt_of_cell? w _ hx482_6)).trans hx482_6
       replace hx482_7 := (HB.out.cell (World.block_lt_of_cell? w _ hx482_7)).trans hx482_7
       replace hx482_8 := (HB.out.cell (World.block_lt_of_cell? w _ hx482_8)).trans hx482_8
       replace p482 := eq_true p482
       replace q482 := eq_true q482
       go_wp2_with (first | ((with_reducible refine gate_dst (N := 6) rfl ?_); refine box_event ?hg (N := 6) ?hd (cs := #[.int .i64 0, .int .i64 0, .int .i64 0, .int .i64 0, .int .i64 0, .int .i64 0, .int .i64 0, .int .i64 0, .int .i64 0]) (t := 39) ?hr ?_; (case hd => rfl); (case hg => rfl); (case hr => first | (go_simp; done) | (go_simp; rfl)); intro gb483 hg w8 hbox hb; have n0_ := Aside0.mk (blk_below (g := gb481) (o := .cells #[.int .i64 a1_0, .int .i64 a1_1, .int .i64 a1_2, .int .i64 a1_3, .int .i64 a1_4, .int .i64 a1_5, .int .i64 a1_6, .int .i64 a1_7, .int .i64 a1_8] 39 (0, 0)) (kq BK481.out) hb); have n1_ := Aside0.mk (below_step (bq1 HB.out GE481.out) hb); have n2_ := Aside0.mk (hbox); have n3_ := Aside0.mk ((by rw [hg]; exact (below_size (bq1 HB.out GE481.out)) : w.heap.size ≤ gb483)); have n4_ := Aside0.mk ((by rw [hg]; exact (below_size (bq1 HB.out GE481.out)) : w.heap.size ≤ gb483)); have n5_ := Aside0.mk ((by rw [hg]; exact Nat.ne_of_lt (blk_lt (g := gb481) (o := .cells #[.int .i64 a1_0, .int .i64 a1_1, .int .i64 a1_2, .int .i64 a1_3, .int .i64 a1_4, .int .i64 a1_5, .int .i64 a1_6, .int .i64 a1_7, .int .i64 a1_8] 39 (0, 0)) (kq BK481.out)) : gb481 ≠ gb483)); have n6_ := Aside0.mk ((by rw [hg]; exact Nat.ne_of_gt (blk_lt (g := gb481) (o := .cells #[.int .i64 a1_0, .int .i64 a1_1, .int .i64 a1_2, .int .i64 a1_3, .int .i64 a1_4, .int .i64 a1_5, .int .i64 a1_6, .int .i64 a1_7, .int .i64 a1_8] 39 (0, 0)) (kq BK481.out)) : gb483 ≠ gb481)); clear BK481; clear HB; have BK481 := n0_; have HB := n1_; have BK483 := n2_; have GW483 := n3_; have GE483 := n4_; have NB481_483 := n5_; have NB483_481 := n6_; clear n0_ n1_ n2_ n3_ n4_ n5_ n6_; clear hb hbox hg; have hnb9 := NB483_481.out; have hnc9 := NB481_483.out; have hcz10_0 : w8.cell? ⟨gb483, 0, none⟩ = some (.int .i64 0) := (blk_cell BK483.out 0).trans rfl; have hcz10_1 : w8.cell? ⟨gb483, 1, none⟩ = some (.int .i64 0) := (blk_cell BK483.out 1).trans rfl; have hcz10_2 : w8.cell? ⟨gb483, 2, none⟩ = some (.int .i64 0) := (blk_cell BK483.out 2).trans rfl; have hcz10_3 : w8.cell? ⟨gb483, 3, none⟩ = some (.int .i64 0) := (blk_cell BK483.out 3).trans rfl; have hcz10_4 : w8.cell? ⟨gb483, 4, none⟩ = some (.int .i64 0) := (blk_cell BK483.out 4).trans rfl; have hcz10_5 : w8.cell? ⟨gb483, 5, none⟩ = some (.int .i64 0) := (blk_cell BK483.out 5).trans rfl; have hcz10_6 : w8.cell? ⟨gb483, 6, none⟩ = some (.int .i64 0) := (blk_cell BK483.out 6).trans rfl; have hcz10_7 : w8.cell? ⟨gb483, 7, none⟩ = some (.int .i64 0) := (blk_cell BK483.out 7).trans rfl; have hcz10_8 : w8.cell? ⟨gb483, 8, none⟩ = some (.int .i64 0) := (blk_cell BK483.out 8).trans rfl; have hfz10_0 := blk_frozen BK483.out 0; have hfz10_1 := blk_frozen BK483.out 1; have hfz10_2 := blk_frozen BK483.out 2; have hfz10_3 := blk_frozen BK483.out 3; have hfz10_4 := blk_frozen BK483.out 4; have hfz10_5 := blk_frozen BK483.out 5; have hfz10_6 := blk_frozen BK483.out 6; have hfz10_7 := blk_frozen BK483.out 7; have hfz10_8 := blk_frozen BK483.out 8; have hcz11_0 : w8.cell? ⟨gb481, 0, none⟩ = some (.int .i64 a1_0) := (blk_cell BK481.out 0).trans rfl; have hcz11_1 : w8.cell? ⟨gb481, 1, none⟩ = some (.int .i64 a1_1) := (blk_cell BK481.out 1).trans rfl; have hcz11_2 : w8.cell? ⟨gb481, 2, none⟩ = some (.int .i64 a1_2) := (blk_cell BK481.out 2).trans rfl; have hcz11_3 : w8.cell? ⟨gb481, 3, none⟩ = some (.int .i64 a1_3) := (blk_cell BK481.out 3).trans rfl; have hcz11_4 : w8.cell? ⟨gb481, 4, none⟩ = some (.int .i64 a1_4) := (blk_cell BK481.out 4).trans rfl; have hcz11_5 : w8.cell? ⟨gb481, 5, none⟩ = some (.int .i64 a1_5) := (blk_cell BK481.out 5).trans rfl; have hcz11_6 : w8.cell? ⟨gb481, 6, none⟩ = some (.int .i64 a1_6) := (blk_cell BK481.out 6).trans rfl; have hcz11_7 : w8.cell? ⟨gb481, 7, none⟩ = some (.int .i64 a1_7) := (blk_cell BK481.out 7).trans rfl; have hcz11_8 : w8.cell? ⟨gb481, 8, none⟩ = some (.int .i64 a1_8) := (blk_cell BK481.out 8).trans rfl; have hfz11_0 := blk_frozen BK481.out 0; have hfz11_1 := blk_frozen BK481.out 1; have hfz11_2 := blk_frozen BK481.out 2; have hfz11_3 := blk_frozen BK481.out 3; have hfz11_4 := blk_frozen BK481.out 4; have hfz11_5 := blk_frozen BK481.out 5; have hfz11_6 := blk_frozen BK481.out 6; have hfz11_7 := blk_frozen BK481.out 7; have hfz11_8 := blk_frozen BK481.out 8))
       go_ret
       exact ⟨by first | rfl | (simp [errW_none, errW_some] <;> rfl) | (simp [*, errW_none, errW_some] <;> rfl), bq2 HB.out GE481.out GE483.out⟩
      ·rw [if_neg c7] at H
       have c7b0 : (((rd_T39 l0 x9_1).f0) == a1_0 && (((rd_T39 l0 x9_1).f1) == a1_1 && ((((rd_T39 l0 x9_1).f2.f0) == a1_2 && (((rd_T39 l0 x9_1).f2.f1) == a1_3 && (((rd_T39 l0 x9_1).f2.f2) == a1_4 && ((((rd_T39 l0 x9_1).f2.f3.f0) == a1_5 && (((rd_T39 l0 x9_1).f2.f3.f1) == a1_6)) && (((rd_T39 l0 x9_1).f2.f4) == a1_7 && (((rd_T39 l0 x9_1).f2.f5) == a1_8))))))))) = false := by simpa using c7
       (try (have c7b1 : decide (((rd_T39 l0 x9_1).f0) = a1_0 && (((rd_T39 l0 x9_1).f1) == a1_1 && ((((rd_T39 l0 x9_1).f2.f0) == a1_2 && (((rd_T39 l0 x9_1).f2.f1) == a1_3 && (((rd_T39 l0 x9_1).f2.f2) == a1_4 && ((((rd_T39 l0 x9_1).f2.f3.f0) == a1_5 && (((rd_T39 l0 x9_1).f2.f3.f1) == a1_6)) && (((rd_T39 l0 x9_1).f2.f4) == a1_7 && (((rd_T39 l0 x9_1).f2.f5) == a1_8))))))))) = false := by simpa using c7))
       (try (have c7b2 : (((rd_T39 l0 x9_1).f0) == a1_0 && (((rd_T39 l0 x9_1).f1) == a1_1 && ((((rd_T39 l0 x9_1).f2.f0) == a1_2 && (((rd_T39 l0 x9_1).f2.f1) == a1_3 && (((rd_T39 l0 x9_1).f2.f2) == a1_4 && ((((rd_T39 l0 x9_1).f2.f3.f0) == a1_5 && (((rd_T39 l0 x9_1).f2.f3.f1) == a1_6)) && (((rd_T39 l0 x9_1).f2.f4) == a1_7 && (((rd_T39 l0 x9_1).f2.f5) == a1_8))))))))) = false := by simpa using c7))
       (try (have c7b3 : ¬ (((rd_T39 l0 x9_1).f0) = a1_0 && (((rd_T39 l0 x9_1).f1) == a1_1 && ((((rd_T39 l0 x9_1).f2.f0) == a1_2 && (((rd_T39 l0 x9_1).f2.f1) == a1_3 && (((rd_T39 l0 x9_1).f2.f2) == a1_4 && ((((rd_T39 l0 x9_1).f2.f3.f0) == a1_5 && (((rd_T39 l0 x9_1).f2.f3.f1) == a1_6)) && (((rd_T39 l0 x9_1).f2.f4) == a1_7 && (((rd_T39 l0 x9_1).f2.f5) == a1_8))))))))) := by simpa using c7))
       clear c7
       have H' := Aside0.mk H
       clear H
       have p482 : 0 ≤ (x9_1 : Int) := of_decide_eq_true (by first | (with_reducible assumption) | assumption)
       have q482 : x9_1 < (l0.length : Int) := of_decide_eq_true (by first | (with_reducible assumption) | assumption)
       obtain ⟨ad482, e482, hx482_0, hx482_1, hx482_2, hx482_3, hx482_4, hx482_5, hx482_6, hx482_7, hx482_8⟩ := at_T39 HR0.out x9_1 p482 q482
       cases e482
       replace hx482_0 := (HB.out.cell (World.block_lt_of_cell? w _ hx482_0)).trans hx482_0
       replace hx482_1 := (HB.out.cell (World.block_lt_of_cell? w _ hx482_1)).trans hx482_1
       replace hx482_2 := (HB.out.cell (World.block_lt_of_cell? w _ hx482_2)).trans hx482_2
       replace hx482_3 := (HB.out.cell (World.block_lt_of_cell? w _ hx482_3)).trans hx482_3
       replace hx482_4 := (HB.out.cell (World.block_lt_of_cell? w _ hx482_4)).trans hx482_4
       replace hx482_5 := (HB.out.cell (World.block_lt_of_cell? w _ hx482_5)).trans hx482_5
       replace hx482_6 := (HB.out.cell (World.block_lt_of_cell? w _ hx482_6)).trans hx482_6
       replace hx482_7 := (HB.out.cell (World.block_lt_of_cell? w _ hx482_7)).trans hx482_7
       replace hx482_8 := (HB.out.cell (World.block_lt_of_cell? w _ hx482_8)).trans hx482_8
       replace p482 := eq_true p482
       replace q482 := eq_true q482
       go_wp2_with (first | ((with_reducible refine gate_dst (N := 6) rfl ?_); refine box_event ?hg (N := 6) ?hd (cs := #[.int .i64 0, .int .i64 0, .int .i64 0, .int .i64 0, .int .i64 0, .int .i64 0, .int .i64 0, .int .i64 0, .int .i64 0]) (t := 39) ?hr ?_; (case hd => rfl); (case hg => rfl); (case hr => first | (go_simp; done) | (go_simp; rfl)); intro gb483 hg w12 hbox hb; have n0_ := Aside0.mk (blk_below (g := gb481) (o := .cells #[.int .i64 a1_0, .int .i64 a1_1, .int .i64 a1_2, .int .i64 a1_3, .int .i64 a1_4, .int .i64 a1_5, .int .i64 a1_6, .int .i64 a1_7, .int .i64 a1_8] 39 (0, 0)) (kq BK481.out) hb); have n1_ := Aside0.mk (below_step (bq1 HB.out GE481.out) hb); have n2_ := Aside0.mk (hbox); have n3_ := Aside0.mk ((by rw [hg]; exact (below_size (bq1 HB.out GE481.out)) : w.heap.size ≤ gb483)); have n4_ := Aside0.mk ((by rw [hg]; exact (below_size (bq1 HB.out GE481.out)) : w.heap.size ≤ gb483)); have n5_ := Aside0.mk ((by rw [hg]; exact Nat.ne_of_lt (blk_lt (g := gb481) (o := .cells #[.int .i64 a1_0, .int .i64 a1_1, .int .i64 a1_2, .int .i64 a1_3, .int .i64 a1_4, .int .i64 a1_5, .int .i64 a1_6, .int .i64 a1_7, .int .i64 a1_8] 39 (0, 0)) (kq BK481.out)) : gb481 ≠ gb483)); have n6_ := Aside0.mk ((by rw [hg]; exact Nat.ne_of_gt (blk_lt (g := gb481) (o := .cells #[.int .i64 a1_0, .int .i64 a1_1, .int .i64 a1_2, .int .i64 a1_3, .int .i64 a1_4, .int .i64 a1_5, .int .i64 a1_6, .int .i64 a1_7, .int .i64 a1_8] 39 (0, 0)) (kq BK481.out)) : gb483 ≠ gb481)); clear BK481; clear HB; have BK481 := n0_; have HB := n1_; have BK483 := n2_; have GW483 := n3_; have GE483 := n4_; have NB481_483 := n5_; have NB483_481 := n6_; clear n0_ n1_ n2_ n3_ n4_ n5_ n6_; clear hb hbox hg; have hnb13 := NB483_481.out; have hnc13 := NB481_483.out; have hcz14_0 : w12.cell? ⟨gb483, 0, none⟩ = some (.int .i64 0) := (blk_cell BK483.out 0).trans rfl; have hcz14_1 : w12.cell? ⟨gb483, 1, none⟩ = some (.int .i64 0) := (blk_cell BK483.out 1).trans rfl; have hcz14_2 : w12.cell? ⟨gb483, 2, none⟩ = some (.int .i64 0) := (blk_cell BK483.out 2).trans rfl; have hcz14_3 : w12.cell? ⟨gb483, 3, none⟩ = some (.int .i64 0) := (blk_cell BK483.out 3).trans rfl; have hcz14_4 : w12.cell? ⟨gb483, 4, none⟩ = some (.int .i64 0) := (blk_cell BK483.out 4).trans rfl; have hcz14_5 : w12.cell? ⟨gb483, 5, none⟩ = some (.int .i64 0) := (blk_cell BK483.out 5).trans rfl; have hcz14_6 : w12.cell? ⟨gb483, 6, none⟩ = some (.int .i64 0) := (blk_cell BK483.out 6).trans rfl; have hcz14_7 : w12.cell? ⟨gb483, 7, none⟩ = some (.int .i64 0) := (blk_cell BK483.out 7).trans rfl; have hcz14_8 : w12.cell? ⟨gb483, 8, none⟩ = some (.int .i64 0) := (blk_cell BK483.out 8).trans rfl; have hfz14_0 := blk_frozen BK483.out 0; have hfz14_1 := blk_frozen BK483.out 1; have hfz14_2 := blk_frozen BK483.out 2; have hfz14_3 := blk_frozen BK483.out 3; have hfz14_4 := blk_frozen BK483.out 4; have hfz14_5 := blk_frozen BK483.out 5; have hfz14_6 := blk_frozen BK483.out 6; have hfz14_7 := blk_frozen BK483.out 7; have hfz14_8 := blk_frozen BK483.out 8; have hcz15_0 : w12.cell? ⟨gb481, 0, none⟩ = some (.int .i64 a1_0) := (blk_cell BK481.out 0).trans rfl; have hcz15_1 : w12.cell? ⟨gb481, 1, none⟩ = some (.int .i64 a1_1) := (blk_cell BK481.out 1).trans rfl; have hcz15_2 : w12.cell? ⟨gb481, 2, none⟩ = some (.int .i64 a1_2) := (blk_cell BK481.out 2).trans rfl; have hcz15_3 : w12.cell? ⟨gb481, 3, none⟩ = some (.int .i64 a1_3) := (blk_cell BK481.out 3).trans rfl; have hcz15_4 : w12.cell? ⟨gb481, 4, none⟩ = some (.int .i64 a1_4) := (blk_cell BK481.out 4).trans rfl; have hcz15_5 : w12.cell? ⟨gb481, 5, none⟩ = some (.int .i64 a1_5) := (blk_cell BK481.out 5).trans rfl; have hcz15_6 : w12.cell? ⟨gb481, 6, none⟩ = some (.int .i64 a1_6) := (blk_cell BK481.out 6).trans rfl; have hcz15_7 : w12.cell? ⟨gb481, 7, none⟩ = some (.int .i64 a1_7) := (blk_cell BK481.out 7).trans rfl; have hcz15_8 : w12.cell? ⟨gb481, 8, none⟩ = some (.int .i64 a1_8) := (blk_cell BK481.out 8).trans rfl; have hfz15_0 := blk_frozen BK481.out 0; have hfz15_1 := blk_frozen BK481.out 1; have hfz15_2 := blk_frozen BK481.out 2; have hfz15_3 := blk_frozen BK481.out 3; have hfz15_4 := blk_frozen BK481.out 4; have hfz15_5 := blk_frozen BK481.out 5; have hfz15_6 := blk_frozen BK481.out 6; have hfz15_7 := blk_frozen BK481.out 7; have hfz15_8 := blk_frozen BK481.out 8))
       go_roundg k1
       case measure => have := HK1.out; omega
       case rel => exact ⟨(wrap64 (x9_1 + 1)), (by first | rfl | (simp; done) | (simp [*]; done)), H', ⟨by have := HK1.out; omega⟩, ⟨by (with_reducible repeat (first | refine blk_drewN ?_ _ | refine blk_drew ?_ | refine blk_alloc ?_ _)); refine blk_far ?_ NB481_483.out _; (with_reducible repeat (first | refine blk_drewN ?_ _ | refine blk_drew ?_ | refine blk_alloc ?_ _)); refine blk_far ?_ NB481_483.out _; (with_reducible repeat (first | refine blk_drewN ?_ _ | refine blk_drew ?_ | refine blk_alloc ?_ _)); refine blk_far ?_ NB481_483.out _; (with_reducible repeat (first | refine blk_drewN ?_ _ | refine blk_drew ?_ | refine blk_alloc ?_ _)); refine blk_far ?_ NB481_483.out _; (with_reducible repeat (first | refine blk_drewN ?_ _ | refine blk_drew ?_ | refine blk_alloc ?_ _)); refine blk_far ?_ NB481_483.out _; (with_reducible repeat (first | refine blk_drewN ?_ _ | refine blk_drew ?_ | refine blk_alloc ?_ _)); refine blk_far ?_ NB481_483.out _; (with_reducible repeat (first | refine blk_drewN ?_ _ | refine blk_drew ?_ | refine blk_alloc ?_ _)); refine blk_far ?_ NB481_483.out _; (with_reducible repeat (first | refine blk_drewN ?_ _ | refine blk_drew ?_ | refine blk_alloc ?_ _)); refine blk_far ?_ NB481_483.out _; (with_reducible repeat (first | refine blk_drewN ?_ _ | refine blk_drew ?_ | refine blk_alloc ?_ _)); refine blk_far ?_ NB481_483.out _; (with_reducible repeat (first | refine blk_drewN ?_ _ | refine blk_drew ?_ | refine blk_alloc ?_ _)); exact BK481.out⟩, ⟨bq2 HB.out GE481.out GE483.out⟩⟩
     ·rw [if_neg c6] at H
      exact absurd H (by simp)
    ·rw [if_neg c5] at H
     exact absurd H (by simp)
   ·rw [if_neg c4] at H
    have c4b0 : decide (x9_1 < (l0.length : Int)) = false := decide_eq_false c4
    clear c4
    obtain rfl := Option.some.inj H
    go_wp2
    go_ret
    exact ⟨by first | rfl | (simp [errW_none, errW_some] <;> rfl) | (simp [*, errW_none, errW_some] <;> rfl), bq1 HB.out GE481.out⟩

end Go.Proofs.Ytjlpggpkbcgekaa.PG27
