-- Written by a program of this session (hprint.py) out of the translation and of hand-proved parts. Lean checks it.
import Derived.Test.YtjlpggpkbcgekaaPG27x0
import Derived.Test.YtjlpggpkbcgekaaPG27x1
namespace Go.Proofs.Ytjlpggpkbcgekaa.PG27
open Go.RowKit Go.Proofs.YtjlpggpkbcgekaaW.PrintWords Go.Proofs.YtjlpggpkbcgekaaW.PrintLast Go.Proofs.YtjlpggpkbcgekaaW.PrintMore
attribute [local go_sem] max2_int min2_int max_two min_two max_three min_three max_four min_four   -- for this text's walks alone
set_option linter.unusedVariables false
set_option linter.unusedSimpArgs false

attribute [local go_sem high] eqA39
/-! ### rollbacknetref27_Has: function 35 -/
def rollbacknetref27_Has.l0 : Nat → List (S39) → Int → Int → Int → Int → Int → Int → Int → Int → Int → Int → Option (Bool)
 | 0, _, _, _, _, _, _, _, _, _, _, _ => none
 | k + 1, x0, x5, x547000, x547001, x547002, x547003, x547004, x547005, x547006, x547007, x547008 => if x5 < (x0.length : Int) then (if 0 ≤ x5 then (if (((rd_T39 x0 x5).f0) == x547000 && (((rd_T39 x0 x5).f1) == x547001 && ((((rd_T39 x0 x5).f2.f0) == x547002 && (((rd_T39 x0 x5).f2.f1) == x547003 && (((rd_T39 x0 x5).f2.f2) == x547004 && ((((rd_T39 x0 x5).f2.f3.f0) == x547005 && (((rd_T39 x0 x5).f2.f3.f1) == x547006)) && (((rd_T39 x0 x5).f2.f4) == x547007 && (((rd_T39 x0 x5).f2.f5) == x547008))))))))) = true then (some true) else (rollbacknetref27_Has.l0 k x0 (wrap64 (x5 + 1)) x547000 x547001 x547002 x547003 x547004 x547005 x547006 x547007 x547008)) else (none)) else (some false)
def rollbacknetref27_Has.f (k : Nat) (l0 : List (S39)) (a1_0 : Int) (a1_1 : Int) (a1_2 : Int) (a1_3 : Int) (a1_4 : Int) (a1_5 : Int) (a1_6 : Int) (a1_7 : Int) (a1_8 : Int) : Option (Bool) := rollbacknetref27_Has.l0 k l0 0 a1_0 a1_1 a1_2 a1_3 a1_4 a1_5 a1_6 a1_7 a1_8
theorem rollbacknetref27_Has.mono_l : ∀ k, (∀ y0 y1 y2 y3 y4 y5 y6 y7 y8 y9 y10, LeO (rollbacknetref27_Has.l0 k y0 y1 y2 y3 y4 y5 y6 y7 y8 y9 y10) (rollbacknetref27_Has.l0 (k + 1) y0 y1 y2 y3 y4 y5 y6 y7 y8 y9 y10))
 | 0 => fun _ _ _ _ _ _ _ _ _ _ _ r h => by simp [rollbacknetref27_Has.l0] at h
 | k + 1 => by
  have ih0 := rollbacknetref27_Has.mono_l k
  ·intro y0 y1 y2 y3 y4 y5 y6 y7 y8 y9 y10
   unfold rollbacknetref27_Has.l0
   repeat' first
   | (with_reducible exact ih0 _ _ _ _ _ _ _ _ _ _ _)
   | (with_reducible exact LeO.refl _)
   | (with_reducible exact LeO.none _)
   | (with_reducible refine LeO.ite ?_ ?_)
   | (with_reducible refine LeO.bind ?_ (fun _ => ?_))
   | exact ih0 _ _ _ _ _ _ _ _ _ _ _
   | exact LeO.none _
   | refine LeO.ite ?_ ?_
   | refine LeO.bind ?_ (fun _ => ?_)
theorem rollbacknetref27_Has.mono : ∀ a0 a1 a2 a3 a4 a5 a6 a7 a8 a9 k, LeO (rollbacknetref27_Has.f k a0 a1 a2 a3 a4 a5 a6 a7 a8 a9) (rollbacknetref27_Has.f (k + 1) a0 a1 a2 a3 a4 a5 a6 a7 a8 a9) := by
 intro a0 a1 a2 a3 a4 a5 a6 a7 a8 a9 k
 have ih0 := rollbacknetref27_Has.mono_l k
 unfold rollbacknetref27_Has.f
 repeat' first
   | (with_reducible exact ih0 _ _ _ _ _ _ _ _ _ _ _)
   | (with_reducible exact LeO.refl _)
   | (with_reducible exact LeO.none _)
   | (with_reducible refine LeO.ite ?_ ?_)
   | (with_reducible refine LeO.bind ?_ (fun _ => ?_))
   | exact ih0 _ _ _ _ _ _ _ _ _ _ _
   | exact LeO.none _
   | refine LeO.ite ?_ ?_
   | refine LeO.bind ?_ (fun _ => ?_)
set_option maxHeartbeats 8000000 in
set_option maxRecDepth 100000 in
theorem rollbacknetref27_Has.calls (k : Nat) (A0 : Option Addr) (c0 : Nat) (l0 : List (S39)) (a1_0 : Int) (a1_1 : Int) (a1_2 : Int) (a1_3 : Int) (a1_4 : Int) (a1_5 : Int) (a1_6 : Int) (a1_7 : Int) (a1_8 : Int) (r : Bool) (w : World) (hr0 : Kd.C k39 w A0 l0.length l0) (hc0 : l0.length ≤ c0) (h : rollbacknetref27_Has.f k l0 a1_0 a1_1 a1_2 a1_3 a1_4 a1_5 a1_6 a1_7 a1_8 = some r) :
  Calls Try.prog 35 #[.slice A0 l0.length c0, .agg #[.int .i64 a1_0, .int .i64 a1_1, .int .i64 a1_2, .int .i64 a1_3, .int .i64 a1_4, .int .i64 a1_5, .int .i64 a1_6, .int .i64 a1_7, .int .i64 a1_8]] w fun e w' => e = .returned (.bool r) ∧ Below w.heap.size w w' := by
 have hu39 := Try.underlying39
 have HR0 := Aside0.mk hr0
 have HC0 := Aside0.mk hc0
 clear hr0 hc0
 have HB := Aside0.mk (Below.refl w.heap.size w)
 have H : (rollbacknetref27_Has.l0 k l0 0 a1_0 a1_1 a1_2 a1_3 a1_4 a1_5 a1_6 a1_7 a1_8) = some r := h
 clear h
 have H' := Aside0.mk H
 clear H
 go_enter Try.func35, Try.ntmps35
 go_wp2_with (first | ((with_reducible refine gate_dst (N := 3) rfl ?_); refine box_event ?hg (N := 3) ?hd (cs := #[.int .i64 a1_0, .int .i64 a1_1, .int .i64 a1_2, .int .i64 a1_3, .int .i64 a1_4, .int .i64 a1_5, .int .i64 a1_6, .int .i64 a1_7, .int .i64 a1_8]) (t := 39) ?hr ?_; (case hd => rfl); (case hg => rfl); (case hr => first | (go_simp; done) | (go_simp; rfl)); intro gb546 hg w3 hbox hb; have n0_ := Aside0.mk (below_step (bq HB.out) hb); have n1_ := Aside0.mk (hbox); have n2_ := Aside0.mk ((by rw [hg]; exact (below_size (bq HB.out)) : w.heap.size ≤ gb546)); have n3_ := Aside0.mk ((by rw [hg]; exact (below_size (bq HB.out)) : w.heap.size ≤ gb546)); clear HB; have HB := n0_; have BK546 := n1_; have GW546 := n2_; have GE546 := n3_; clear n0_ n1_ n2_ n3_; clear hb hbox hg))
 repeat (go_quiet (first | ((with_reducible refine gate_dst (N := 3) rfl ?_); refine box_event ?hg (N := 3) ?hd (cs := #[.int .i64 a1_0, .int .i64 a1_1, .int .i64 a1_2, .int .i64 a1_3, .int .i64 a1_4, .int .i64 a1_5, .int .i64 a1_6, .int .i64 a1_7, .int .i64 a1_8]) (t := 39) ?hr ?_; (case hd => rfl); (case hg => rfl); (case hr => first | (go_simp; done) | (go_simp; rfl)); intro gb546 hg w3 hbox hb; have n0_ := Aside0.mk (below_step (bq HB.out) hb); have n1_ := Aside0.mk (hbox); have n2_ := Aside0.mk ((by rw [hg]; exact (below_size (bq HB.out)) : w.heap.size ≤ gb546)); have n3_ := Aside0.mk ((by rw [hg]; exact (below_size (bq HB.out)) : w.heap.size ≤ gb546)); clear HB; have HB := n0_; have BK546 := n1_; have GW546 := n2_; have GE546 := n3_; clear n0_ n1_ n2_ n3_; clear hb hbox hg)); try go_wp2_with (first | ((with_reducible refine gate_dst (N := 3) rfl ?_); refine box_event ?hg (N := 3) ?hd (cs := #[.int .i64 a1_0, .int .i64 a1_1, .int .i64 a1_2, .int .i64 a1_3, .int .i64 a1_4, .int .i64 a1_5, .int .i64 a1_6, .int .i64 a1_7, .int .i64 a1_8]) (t := 39) ?hr ?_; (case hd => rfl); (case hg => rfl); (case hr => first | (go_simp; done) | (go_simp; rfl)); intro gb546 hg w3 hbox hb; have n0_ := Aside0.mk (below_step (bq HB.out) hb); have n1_ := Aside0.mk (hbox); have n2_ := Aside0.mk ((by rw [hg]; exact (below_size (bq HB.out)) : w.heap.size ≤ gb546)); have n3_ := Aside0.mk ((by rw [hg]; exact (below_size (bq HB.out)) : w.heap.size ≤ gb546)); clear HB; have HB := n0_; have BK546 := n1_; have GW546 := n2_; have GE546 := n3_; clear n0_ n1_ n2_ n3_; clear hb hbox hg)))
 go_loopg [5] k (fun kq v5 w' => ∃ (x5_1 : Int), v5 = .int .i64 x5_1 ∧ Aside0 (rollbacknetref27_Has.l0 kq l0 x5_1 a1_0 a1_1 a1_2 a1_3 a1_4 a1_5 a1_6 a1_7 a1_8 = some r) ∧ Aside0 (kq ≤ k) ∧ Aside0 (w'.heap[gb546]? = some (.cells #[.int .i64 a1_0, .int .i64 a1_1, .int .i64 a1_2, .int .i64 a1_3, .int .i64 a1_4, .int .i64 a1_5, .int .i64 a1_6, .int .i64 a1_7, .int .i64 a1_8] 39 (0, 0))) ∧ Aside0 (Below w.heap.size w w'))
 case atStart => exact ⟨(0), (by first | rfl | (simp; done) | (simp [*]; done)), H', ⟨Nat.le_refl _⟩, ⟨kq BK546.out⟩, ⟨bq1 HB.out GE546.out⟩⟩
 case round =>
  clear H'
  try clear p2
  try clear c3
  obtain ⟨x5_1, rfl, HA, HK1, BK546, HB⟩ := hrel
  cases gk with
  | zero => exact absurd HA.out (by simp [rollbacknetref27_Has.l0])
  | succ k1 =>
   have H := HA.out
   clear HA
   simp only [rollbacknetref27_Has.l0] at H
   by_cases c4 : x5_1 < (l0.length : Int)
   ·rw [if_pos c4] at H
    have c4b0 : decide (x5_1 < (l0.length : Int)) = true := decide_eq_true c4
    clear c4
    by_cases c5 : 0 ≤ x5_1
    ·rw [if_pos c5] at H
     have c5b0 : decide (0 ≤ x5_1) = true := decide_eq_true c5
     clear c5
     by_cases c6 : (((rd_T39 l0 x5_1).f0) == a1_0 && (((rd_T39 l0 x5_1).f1) == a1_1 && ((((rd_T39 l0 x5_1).f2.f0) == a1_2 && (((rd_T39 l0 x5_1).f2.f1) == a1_3 && (((rd_T39 l0 x5_1).f2.f2) == a1_4 && ((((rd_T39 l0 x5_1).f2.f3.f0) == a1_5 && (((rd_T39 l0 x5_1).f2.f3.f1) == a1_6)) && (((rd_T39 l0 x5_1).f2.f4) == a1_7 && (((rd_T39 l0 x5_1).f2.f5) == a1_8))))))))) = true
     ·rw [if_pos c6] at H
      have c6b0 : (((rd_T39 l0 x5_1).f0) == a1_0 && (((rd_T39 l0 x5_1).f1) == a1_1 && ((((rd_T39 l0 x5_1).f2.f0) == a1_2 && (((rd_T39 l0 x5_1).f2.f1) == a1_3 && (((rd_T39 l0 x5_1).f2.f2) == a1_4 && ((((rd_T39 l0 x5_1).f2.f3.f0) == a1_5 && (((rd_T39 l0 x5_1).f2.f3.f1) == a1_6)) && (((rd_T39 l0 x5_1).f2.f4) == a1_7 && (((rd_T39 l0 x5_1).f2.f5) == a1_8))))))))) = true := c6
      (try (have c6b1 : decide (((rd_T39 l0 x5_1).f0) = a1_0 && (((rd_T39 l0 x5_1).f1) == a1_1 && ((((rd_T39 l0 x5_1).f2.f0) == a1_2 && (((rd_T39 l0 x5_1).f2.f1) == a1_3 && (((rd_T39 l0 x5_1).f2.f2) == a1_4 && ((((rd_T39 l0 x5_1).f2.f3.f0) == a1_5 && (((rd_T39 l0 x5_1).f2.f3.f1) == a1_6)) && (((rd_T39 l0 x5_1).f2.f4) == a1_7 && (((rd_T39 l0 x5_1).f2.f5) == a1_8))))))))) = true := by simpa using c6))
      (try (have c6b2 : (((rd_T39 l0 x5_1).f0) == a1_0 && (((rd_T39 l0 x5_1).f1) == a1_1 && ((((rd_T39 l0 x5_1).f2.f0) == a1_2 && (((rd_T39 l0 x5_1).f2.f1) == a1_3 && (((rd_T39 l0 x5_1).f2.f2) == a1_4 && ((((rd_T39 l0 x5_1).f2.f3.f0) == a1_5 && (((rd_T39 l0 x5_1).f2.f3.f1) == a1_6)) && (((rd_T39 l0 x5_1).f2.f4) == a1_7 && (((rd_T39 l0 x5_1).f2.f5) == a1_8))))))))) = true := by simpa using c6))
      clear c6
      obtain rfl := Option.some.inj H
      have p547 : 0 ≤ (x5_1 : Int) := of_decide_eq_true (by first | (with_reducible assumption) | assumption)
      have q547 : x5_1 < (l0.length : Int) := of_decide_eq_true (by first | (with_reducible assumption) | assumption)
      obtain ⟨ad547, e547, hx547_0, hx547_1, hx547_2, hx547_3, hx547_4, hx547_5, hx547_6, hx547_7, hx547_8⟩ := at_T39 HR0.out x5_1 p547 q547
      cases e547
      replace hx547_0 := (HB.out.cell (World.block_lt_of_cell? w _ hx547_0)).trans hx547_0
      replace hx547_1 := (HB.out.cell (World.block_lt_of_cell? w _ hx547_1)).trans hx547_1
      replace hx547_2 := (HB.out.cell (World.block_lt_of_cell? w _ hx547_2)).trans hx547_2
      replace hx547_3 := (HB.out.cell (World.block_lt_of_cell? w _ hx547_3)).trans hx547_3
      replace hx547_4 := (HB.out.cell (World.block_lt_of_cell? w _ hx547_4)).trans hx547_4
      replace hx547_5 := (HB.out.cell (World.block_lt_of_cell? w _ hx547_5)).trans hx547_5
      replace hx547_6 := (HB.out.cell (World.block_lt_of_cell? w _ hx547_6)).trans hx547_6
      replace hx547_7 := (HB.out.cell (World.block_lt_of_cell? w _ hx547_7)).trans hx547_7
      replace hx547_8 := (HB.out.cell (World.block_lt_of_cell? w _ hx547_8)).trans hx547_8
      replace p547 := eq_true p547
      replace q547 := eq_true q547
      have hcz7_0 : wr.cell? ⟨gb546, 0, none⟩ = some (.int .i64 a1_0) := (blk_cell BK546.out 0).trans rfl
      have hcz7_1 : wr.cell? ⟨gb546, 1, none⟩ = some (.int .i64 a1_1) := (blk_cell BK546.out 1).trans rfl
      have hcz7_2 : wr.cell? ⟨gb546, 2, none⟩ = some (.int .i64 a1_2) := (blk_cell BK546.out 2).trans rfl
      have hcz7_3 : wr.cell? ⟨gb546, 3, none⟩ = some (.int .i64 a1_3) := (blk_cell BK546.out 3).trans rfl
      have hcz7_4 : wr.cell? ⟨gb546, 4, none⟩ = some (.int .i64 a1_4) := (blk_cell BK546.out 4).trans rfl
      have hcz7_5 : wr.cell? ⟨gb546, 5, none⟩ = some (.int .i64 a1_5) := (blk_cell BK546.out 5).trans rfl
      have hcz7_6 : wr.cell? ⟨gb546, 6, none⟩ = some (.int .i64 a1_6) := (blk_cell BK546.out 6).trans rfl
      have hcz7_7 : wr.cell? ⟨gb546, 7, none⟩ = some (.int .i64 a1_7) := (blk_cell BK546.out 7).trans rfl
      have hcz7_8 : wr.cell? ⟨gb546, 8, none⟩ = some (.int .i64 a1_8) := (blk_cell BK546.out 8).trans rfl
      have hfz7_0 := blk_frozen BK546.out 0
      have hfz7_1 := blk_frozen BK546.out 1
      have hfz7_2 := blk_frozen BK546.out 2
      have hfz7_3 := blk_frozen BK546.out 3
      have hfz7_4 := blk_frozen BK546.out 4
      have hfz7_5 := blk_frozen BK546.out 5
      have hfz7_6 := blk_frozen BK546.out 6
      have hfz7_7 := blk_frozen BK546.out 7
      have hfz7_8 := blk_frozen BK546.out 8
      go_wp2
      repeat (go_quiet (fail); try go_wp2)
      go_ret
      exact ⟨by first | rfl | (simp [errW_none, errW_some] <;> rfl) | (simp [*, errW_none, errW_some] <;> rfl), bq1 HB.out GE546.out⟩
     ·rw [if_neg c6] at H
      have c6b0 : (((rd_T39 l0 x5_1).f0) == a1_0 && (((rd_T39 l0 x5_1).f1) == a1_1 && ((((rd_T39 l0 x5_1).f2.f0) == a1_2 && (((rd_T39 l0 x5_1).f2.f1) == a1_3 && (((rd_T39 l0 x5_1).f2.f2) == a1_4 && ((((rd_T39 l0 x5_1).f2.f3.f0) == a1_5 && (((rd_T39 l0 x5_1).f2.f3.f1) == a1_6)) && (((rd_T39 l0 x5_1).f2.f4) == a1_7 && (((rd_T39 l0 x5_1).f2.f5) == a1_8))))))))) = false := by simpa using c6
      (try (have c6b1 : decide (((rd_T39 l0 x5_1).f0) = a1_0 && (((rd_T39 l0 x5_1).f1) == a1_1 && ((((rd_T39 l0 x5_1).f2.f0) == a1_2 && (((rd_T39 l0 x5_1).f2.f1) == a1_3 && (((rd_T39 l0 x5_1).f2.f2) == a1_4 && ((((rd_T39 l0 x5_1).f2.f3.f0) == a1_5 && (((rd_T39 l0 x5_1).f2.f3.f1) == a1_6)) && (((rd_T39 l0 x5_1).f2.f4) == a1_7 && (((rd_T39 l0 x5_1).f2.f5) == a1_8))))))))) = false := by simpa using c6))
      (try (have c6b2 : (((rd_T39 l0 x5_1).f0) == a1_0 && (((rd_T39 l0 x5_1).f1) == a1_1 && ((((rd_T39 l0 x5_1).f2.f0) == a1_2 && (((rd_T39 l0 x5_1).f2.f1) == a1_3 && (((rd_T39 l0 x5_1).f2.f2) == a1_4 && ((((rd_T39 l0 x5_1).f2.f3.f0) == a1_5 && (((rd_T39 l0 x5_1).f2.f3.f1) == a1_6)) && (((rd_T39 l0 x5_1).f2.f4) == a1_7 && (((rd_T39 l0 x5_1).f2.f5) == a1_8))))))))) = false := by simpa using c6))
      (try (have c6b3 : ¬ (((rd_T39 l0 x5_1).f0) = a1_0 && (((rd_T39 l0 x5_1).f1) == a1_1 && ((((rd_T39 l0 x5_1).f2.f0) == a1_2 && (((rd_T39 l0 x5_1).f2.f1) == a1_3 && (((rd_T39 l0 x5_1).f2.f2) == a1_4 && ((((rd_T39 l0 x5_1).f2.f3.f0) == a1_5 && (((rd_T39 l0 x5_1).f2.f3.f1) == a1_6)) && (((rd_T39 l0 x5_1).f2.f4) == a1_7 && (((rd_T39 l0 x5_1).f2.f5) == a1_8))))))))) := by simpa using c6))
      clear c6
      have H' := Aside0.mk H
      clear H
      have p547 : 0 ≤ (x5_1 : Int) := of_decide_eq_true (by first | (with_reducible assumption) | assumption)
      have q547 : x5_1 < (l0.length : Int) := of_decide_eq_true (by first | (with_reducible assumption) | assumption)
      obtain ⟨ad547, e547, hx547_0, hx547_1, hx547_2, hx547_3, hx547_4, hx547_5, hx547_6, hx547_7, hx547_8⟩ := at_T39 HR0.out x5_1 p547 q547
      cases e547
      replace hx547_0 := (HB.out.cell (World.block_lt_of_cell? w _ hx547_0)).trans hx547_0
      replace hx547_1 := (HB.out.cell (World.block_lt_of_cell? w _ hx547_1)).trans hx547_1
      replace hx547_2 := (HB.out.cell (World.block_lt_of_cell? w _ hx547_2)).trans hx547_2
      replace hx547_3 := (HB.out.cell (World.block_lt_of_cell? w _ hx547_3)).trans hx547_3
      replace hx547_4 := (HB.out.cell (World.block_lt_of_cell? w _ hx547_4)).trans hx547_4
      replace hx547_5 := (HB.out.cell (World.block_lt_of_cell? w _ hx547_5)).trans hx547_5
      replace hx547_6 := (HB.out.cell (World.block_lt_of_cell? w _ hx547_6)).trans hx547_6
      replace hx547_7 := (HB.out.cell (World.block_lt_of_cell? w _ hx547_7)).trans hx547_7
      replace hx547_8 := (HB.out.cell (World.block_lt_of_cell? w _ hx547_8)).trans hx547_8
      replace p547 := eq_true p547
      replace q547 := eq_true q547
      have hcz8_0 : wr.cell? ⟨gb546, 0, none⟩ = some (.int .i64 a1_0) := (blk_cell BK546.out 0).trans rfl
      have hcz8_1 : wr.cell? ⟨gb546, 1, none⟩ = some (.int .i64 a1_1) := (blk_cell BK546.out 1).trans rfl
      have hcz8_2 : wr.cell? ⟨gb546, 2, none⟩ = some (.int .i64 a1_2) := (blk_cell BK546.out 2).trans rfl
      have hcz8_3 : wr.cell? ⟨gb546, 3, none⟩ = some (.int .i64 a1_3) := (blk_cell BK546.out 3).trans rfl
      have hcz8_4 : wr.cell? ⟨gb546, 4, none⟩ = some (.int .i64 a1_4) := (blk_cell BK546.out 4).trans rfl
      have hcz8_5 : wr.cell? ⟨gb546, 5, none⟩ = some (.int .i64 a1_5) := (blk_cell BK546.out 5).trans rfl
      have hcz8_6 : wr.cell? ⟨gb546, 6, none⟩ = some (.int .i64 a1_6) := (blk_cell BK546.out 6).trans rfl
      have hcz8_7 : wr.cell? ⟨gb546, 7, none⟩ = some (.int .i64 a1_7) := (blk_cell BK546.out 7).trans rfl
      have hcz8_8 : wr.cell? ⟨gb546, 8, none⟩ = some (.int .i64 a1_8) := (blk_cell BK546.out 8).trans rfl
      have hfz8_0 := blk_frozen BK546.out 0
      have hfz8_1 := blk_frozen BK546.out 1
      have hfz8_2 := blk_frozen BK546.out 2
      have hfz8_3 := blk_frozen BK546.out 3
      have hfz8_4 := blk_frozen BK546.out 4
      have hfz8_5 := blk_frozen BK546.out 5
      have hfz8_6 := blk_frozen BK546.out 6
      have hfz8_7 := blk_frozen BK546.out 7
      have hfz8_8 := blk_frozen BK546.out 8
      go_wp2
      repeat (go_quiet (fail); try go_wp2)
      go_roundg k1
      case measure => have := HK1.out; omega
      case rel => exact ⟨(wrap64 (x5_1 + 1)), (by first | rfl | (simp; done) | (simp [*]; done)), H', ⟨by have := HK1.out; omega⟩, ⟨kq BK546.out⟩, ⟨bq1 HB.out GE546.out⟩⟩
    ·rw [if_neg c5] at H
     exact absurd H (by simp)
   ·rw [if_neg c4] at H
    have c4b0 : decide (x5_1 < (l0.length : Int)) = false := decide_eq_false c4
    clear c4
    obtain rfl := Option.some.inj H
    go_wp2
    repeat (go_quiet (fail); try go_wp2)
    go_ret
    exact ⟨by first | rfl | (simp [errW_none, errW_some] <;> rfl) | (simp [*, errW_none, errW_some] <;> rfl), bq1 HB.out GE546.out⟩

end Go.Proofs.Ytjlpggpkbcgekaa.PG27
