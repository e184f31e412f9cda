-- Written by a program of this session (hprint.py) out of the translation and of hand-proved parts. Lean checks it.
import Derived.Test.YtjlpggpkbcgekaaPG27x0
import Derived.Test.YtjlpggpkbcgekaaPG27x21
namespace Go.Proofs.Ytjlpggpkbcgekaa.PG27
open Go.RowKit Go.Proofs.YtjlpggpkbcgekaaW.PrintWords Go.Proofs.YtjlpggpkbcgekaaW.PrintLast Go.Proofs.YtjlpggpkbcgekaaW.PrintMore
attribute [local go_sem] max2_int min2_int max_two min_two max_three min_three max_four min_four   -- for this text's walks alone
set_option linter.unusedVariables false
set_option linter.unusedSimpArgs false

/-! ### determinant_Add: function 30 -/
def determinant_Add.f (k : Nat) (l0 : List (S39)) (a1_0 : Int) (a1_1 : Int) (a1_2 : Int) (a1_3 : Int) (a1_4 : Int) (a1_5 : Int) (a1_6 : Int) (a1_7 : Int) (a1_8 : Int) : Option ((List (S39))) := (determinant_Merge.f k l0 (([(⟨a1_0, a1_1, (⟨a1_2, a1_3, a1_4, (⟨a1_5, a1_6⟩ : S35), a1_7, a1_8⟩ : S37)⟩ : S39)] : List (S39)))).bind fun t488 => (some t488)
theorem determinant_Add.mono : ∀ a0 a1 a2 a3 a4 a5 a6 a7 a8 a9 k, LeO (determinant_Add.f k a0 a1 a2 a3 a4 a5 a6 a7 a8 a9) (determinant_Add.f (k + 1) a0 a1 a2 a3 a4 a5 a6 a7 a8 a9) := by
 intro a0 a1 a2 a3 a4 a5 a6 a7 a8 a9 k
 unfold determinant_Add.f
 repeat' first
   | (with_reducible exact determinant_Merge.mono _ _ _)
   | (with_reducible exact LeO.refl _)
   | (with_reducible exact LeO.none _)
   | (with_reducible refine LeO.ite ?_ ?_)
   | (with_reducible refine LeO.bind ?_ (fun _ => ?_))
   | exact determinant_Merge.mono _ _ _
   | exact LeO.none _
   | refine LeO.ite ?_ ?_
   | refine LeO.bind ?_ (fun _ => ?_)
set_option maxHeartbeats 8000000 in
set_option maxRecDepth 100000 in
theorem determinant_Add.calls (k : Nat) (A0 : Option Addr) (c0 : Nat) (l0 : List (S39)) (a1_0 : Int) (a1_1 : Int) (a1_2 : Int) (a1_3 : Int) (a1_4 : Int) (a1_5 : Int) (a1_6 : Int) (a1_7 : Int) (a1_8 : Int) (r : List (S39)) (w : World) (hr0 : Kd.C k39 w A0 l0.length l0) (hc0 : l0.length ≤ c0) (h : determinant_Add.f k l0 a1_0 a1_1 a1_2 a1_3 a1_4 a1_5 a1_6 a1_7 a1_8 = some r) :
  Calls Try.prog 30 #[.slice A0 l0.length c0, .agg #[.int .i64 a1_0, .int .i64 a1_1, .int .i64 a1_2, .int .i64 a1_3, .int .i64 a1_4, .int .i64 a1_5, .int .i64 a1_6, .int .i64 a1_7, .int .i64 a1_8]] w fun e w' => ∃ v0_ : Value, e = .returned (v0_) ∧ Kd.R k39 39 w' w.heap.size (fun _ => True) v0_ r ∧ Below w.heap.size w w' := by
 have hu39 := Try.underlying39
 have HR0 := Aside0.mk hr0
 have HC0 := Aside0.mk hc0
 clear hr0 hc0
 have HB := Aside0.mk (Below.refl w.heap.size w)
 have H : ((determinant_Merge.f k l0 (([(⟨a1_0, a1_1, (⟨a1_2, a1_3, a1_4, (⟨a1_5, a1_6⟩ : S35), a1_7, a1_8⟩ : S37)⟩ : S39)] : List (S39)))).bind fun t488 => (some t488)) = some r := h
 clear h
 obtain ⟨y485, hy485⟩ : ∃ y_ : List (S39), y_ = (([(⟨a1_0, a1_1, (⟨a1_2, a1_3, a1_4, (⟨a1_5, a1_6⟩ : S35), a1_7, a1_8⟩ : S37)⟩ : S39)] : List (S39))) := ⟨_, rfl⟩
 replace H : ((determinant_Merge.f k l0 y485).bind fun t488 => (some t488)) = some r := by first | (rw [hy485]; with_reducible exact H) | (have H2_ := (Option.bind_some _ _).symm.trans H; rw [hy485]; with_reducible exact H2_) | (have H2_ := (Option.bind_some _ _).symm.trans H; with_reducible exact H2_) | with_reducible exact H | (rw [hy485]; exact H) | exact H
 have Ny485 := Aside0.mk hy485
 clear hy485
 replace H := Option.bind_eq_some_iff.mp H
 obtain ⟨t488, A30, H⟩ := H
 replace H : (some t488) = some r := H
 have A3 := Aside0.mk A30
 clear A30
 obtain rfl := Option.some.inj H
 go_enter Try.func30, Try.ntmps30
 go_wp2_with (first | ((with_reducible refine gate_dst (N := 3) rfl ?_); refine box_event ?hg (N := 3) ?hd (cs := #[.int .i64 a1_0, .int .i64 a1_1, .int .i64 a1_2, .int .i64 a1_3, .int .i64 a1_4, .int .i64 a1_5, .int .i64 a1_6, .int .i64 a1_7, .int .i64 a1_8]) (t := 39) ?hr ?_; (case hd => rfl); (case hg => rfl); (case hr => first | (go_simp; done) | (go_simp; rfl)); intro gb484 hg w4 hbox hb; have n0_ := Aside0.mk (below_step (bq HB.out) hb); have n1_ := Aside0.mk (hbox); have n2_ := Aside0.mk ((by rw [hg]; exact (below_size (bq HB.out)) : w.heap.size ≤ gb484)); have n3_ := Aside0.mk ((by rw [hg]; exact (below_size (bq HB.out)) : w.heap.size ≤ gb484)); clear HB; have HB := n0_; have BK484 := n1_; have GW484 := n2_; have GE484 := n3_; clear n0_ n1_ n2_ n3_; clear hb hbox hg; have hcz5_0 : w4.cell? ⟨gb484, 0, none⟩ = some (.int .i64 a1_0) := (blk_cell BK484.out 0).trans rfl; have hcz5_1 : w4.cell? ⟨gb484, 1, none⟩ = some (.int .i64 a1_1) := (blk_cell BK484.out 1).trans rfl; have hcz5_2 : w4.cell? ⟨gb484, 2, none⟩ = some (.int .i64 a1_2) := (blk_cell BK484.out 2).trans rfl; have hcz5_3 : w4.cell? ⟨gb484, 3, none⟩ = some (.int .i64 a1_3) := (blk_cell BK484.out 3).trans rfl; have hcz5_4 : w4.cell? ⟨gb484, 4, none⟩ = some (.int .i64 a1_4) := (blk_cell BK484.out 4).trans rfl; have hcz5_5 : w4.cell? ⟨gb484, 5, none⟩ = some (.int .i64 a1_5) := (blk_cell BK484.out 5).trans rfl; have hcz5_6 : w4.cell? ⟨gb484, 6, none⟩ = some (.int .i64 a1_6) := (blk_cell BK484.out 6).trans rfl; have hcz5_7 : w4.cell? ⟨gb484, 7, none⟩ = some (.int .i64 a1_7) := (blk_cell BK484.out 7).trans rfl; have hcz5_8 : w4.cell? ⟨gb484, 8, none⟩ = some (.int .i64 a1_8) := (blk_cell BK484.out 8).trans rfl; have hfz5_0 := blk_frozen BK484.out 0; have hfz5_1 := blk_frozen BK484.out 1; have hfz5_2 := blk_frozen BK484.out 2; have hfz5_3 := blk_frozen BK484.out 3; have hfz5_4 := blk_frozen BK484.out 4; have hfz5_5 := blk_frozen BK484.out 5; have hfz5_6 := blk_frozen BK484.out 6; have hfz5_7 := blk_frozen BK484.out 7; have hfz5_8 := blk_frozen BK484.out 8) | ((with_reducible refine gate_dst (N := 7) rfl ?_); refine Kd.R_lit k39 _ 39 ?hg (N := 7) ?hd (xs := ([(⟨a1_0, a1_1, (⟨a1_2, a1_3, a1_4, (⟨a1_5, a1_6⟩ : S35), a1_7, a1_8⟩ : S37)⟩ : S39)] : List (S39))) (inner := [.int .i64 a1_0, .int .i64 a1_1, .int .i64 a1_2, .int .i64 a1_3, .int .i64 a1_4, .int .i64 a1_5, .int .i64 a1_6, .int .i64 a1_7, .int .i64 a1_8]) (ok := fun _ => True) (okp := fun _ => True) ?hr ?hp (fun _ hk => hk) trivial (Below.refl _ _) (Nat.le_refl _) (by simp) ?_; (case hd => rfl); (case hg => rfl); (case hr => first | (go_simp; done) | (go_simp; rfl)); (case hp => exact (Reps.c9 (show Kd.M k39 _ _ _ (⟨a1_0, a1_1, (⟨a1_2, a1_3, a1_4, (⟨a1_5, a1_6⟩ : S35), a1_7, a1_8⟩ : S37)⟩ : S39) [.int .i64 a1_0, .int .i64 a1_1, .int .i64 a1_2, .int .i64 a1_3, .int .i64 a1_4, .int .i64 a1_5, .int .i64 a1_6, .int .i64 a1_7, .int .i64 a1_8] from (k39_mkM _ _ _ (⟨a1_0, a1_1, (⟨a1_2, a1_3, a1_4, (⟨a1_5, a1_6⟩ : S35), a1_7, a1_8⟩ : S37)⟩ : S39) )) (Reps.none _ _))); intro v486 w6 ho7 hb hg_ hnew_; clear hg_ hnew_; (first | rw [← Ny485.out] at ho7 | (simp only [Int.reduceToNat] at ho7; rw [← Ny485.out] at ho7)); have n0_ := Aside0.mk (Kd.R_lower (Kd.R_newB ho7 (g := gb484) (o := .cells #[.int .i64 a1_0, .int .i64 a1_1, .int .i64 a1_2, .int .i64 a1_3, .int .i64 a1_4, .int .i64 a1_5, .int .i64 a1_6, .int .i64 a1_7, .int .i64 a1_8] 39 (0, 0)) (kq BK484.out)) (below_size (bq1 HB.out GE484.out))); have n1_ := Aside0.mk (blk_below (g := gb484) (o := .cells #[.int .i64 a1_0, .int .i64 a1_1, .int .i64 a1_2, .int .i64 a1_3, .int .i64 a1_4, .int .i64 a1_5, .int .i64 a1_6, .int .i64 a1_7, .int .i64 a1_8] 39 (0, 0)) (kq BK484.out) hb); have n2_ := Aside0.mk (below_step (bq1 HB.out GE484.out) hb); clear BK484; clear HB; have HO487 := n0_; have BK484 := n1_; have HB := n2_; clear n0_ n1_ n2_; clear hb ho7; obtain ⟨Ao8, co8, eo8⟩ := Kd.R_slice HO487.out; subst eo8) | ((with_reducible refine gate_callee (f := 25) rfl ?_); refine goesL_ (some 8) rfl rfl Try.func25 (by kernel_rfl) rfl #[.slice A0 l0.length c0, .slice Ao8 y485.length co8] rfl (by (try simp only [List.map_toArray, List.map_cons, List.map_nil]); first | done | rfl | (simp only [List.length_drop, List.length_take]; rfl)) ?_; (with_reducible refine (determinant_Merge.calls k _ _ l0 _ _ y485 t488 _ ?side1 ?side2 ?side3 ?side4 A3.out).mono ?_); (case side1 => repeat (first | exact (Kd.C_below HR0.out HB.out) | (with_reducible refine Kd.C_alloc ?_ _) | (with_reducible refine Kd.C_drewN ?_ _) | (with_reducible refine Kd.C_drew ?_))); (case side2 => exact HC0.out); (case side3 => repeat (first | exact (Kd.R_reads' HO487.out).2.2 | (with_reducible refine Kd.C_alloc ?_ _) | (with_reducible refine Kd.C_drewN ?_ _) | (with_reducible refine Kd.C_drew ?_))); (case side4 => exact (Kd.R_reads' HO487.out).2.1); rintro e w9 ⟨v489, rfl, ho0, hb⟩; refine ⟨_, rfl, ?_⟩; have n0_ := Aside0.mk (Kd.R_elder' (rq HO487.out) (Kd.R_base ho0) hb); have n1_ := Aside0.mk (Kd.R_lower (Kd.R_newB (Kd.R_new' ho0 (Kd.R_lt (rq HO487.out))) (g := gb484) (o := .cells #[.int .i64 a1_0, .int .i64 a1_1, .int .i64 a1_2, .int .i64 a1_3, .int .i64 a1_4, .int .i64 a1_5, .int .i64 a1_6, .int .i64 a1_7, .int .i64 a1_8] 39 (0, 0)) (kq BK484.out)) (below_size (bq1 HB.out GE484.out))); have n2_ := Aside0.mk (blk_below (g := gb484) (o := .cells #[.int .i64 a1_0, .int .i64 a1_1, .int .i64 a1_2, .int .i64 a1_3, .int .i64 a1_4, .int .i64 a1_5, .int .i64 a1_6, .int .i64 a1_7, .int .i64 a1_8] 39 (0, 0)) (kq BK484.out) hb); have n3_ := Aside0.mk (below_step (bq1 HB.out GE484.out) hb); clear HO487; clear BK484; clear HB; have HO487 := n0_; have HO490 := n1_; have BK484 := n2_; have HB := n3_; clear n0_ n1_ n2_ n3_; (try clear hb); (try clear hb2); (try clear hk); (try clear hi); (try clear ho0)))
 go_ret
 exact ⟨_, by first | rfl | (simp [errW_none, errW_some] <;> rfl) | (simp [*, errW_none, errW_some] <;> rfl), by (with_reducible repeat (first | apply Kd.R_alloc | apply Kd.R_drewN | apply Kd.R_drew)); exact Kd.R_mono HO490.out (fun _ hk => trivial), bq1 HB.out GE484.out⟩

end Go.Proofs.Ytjlpggpkbcgekaa.PG27
