-- Written by a program of this session (hprint.py) out of the translation and of hand-proved parts. Lean checks it.
import Derived.Test.YtjlpggpkbcgekaaPG27x0
import Derived.Test.YtjlpggpkbcgekaaPG27x8
import Derived.Test.YtjlpggpkbcgekaaPG27x13
import Derived.Test.YtjlpggpkbcgekaaPG27x14
import Derived.Test.YtjlpggpkbcgekaaPG27x15
import Derived.Test.YtjlpggpkbcgekaaPG27x17
import Derived.Test.YtjlpggpkbcgekaaPG27x18
namespace Go.Proofs.Ytjlpggpkbcgekaa.PG27
open Go.RowKit Go.Proofs.YtjlpggpkbcgekaaW.PrintWords Go.Proofs.YtjlpggpkbcgekaaW.PrintLast Go.Proofs.YtjlpggpkbcgekaaW.PrintMore
attribute [local go_sem] max2_int min2_int max_two min_two max_three min_three max_four min_four   -- for this text's walks alone
set_option linter.unusedVariables false
set_option linter.unusedSimpArgs false

/-! ### rollbacknetlaw27_scene: function 13 -/
mutual
def rollbacknetlaw27_scene.l0 : Nat → Int → List (S37) → List Int → Int → List Int → Int → Option (Int × (List (S37)) × List Int × (List (S39)))
 | 0, _, _, _, _, _, _ => none
 | k + 1, x7, x8, x9, x10, x308000, x308001 => if x10 ≤ (x8.length : Int) then ((rollbacknetmake_Codes_Next.f x308000 x308001 4).bind fun bt314 => (if bt314.1 = 1 then (if x9.length < 17592186044416 then (rollbacknetlaw27_scene.l0 k x7 x8 (x9 ++ [x10]) (wrap64 (x10 + 1)) x308000 bt314.2) else (none)) else (rollbacknetlaw27_scene.l0 k x7 x8 x9 (wrap64 (x10 + 1)) x308000 bt314.2))) else ((rollbacknetmake_Codes_Next.f x308000 x308001 6).bind fun bt319 => (if bt319.1 = 5 then ((rollbacknetmake_Codes_Int.f x308000 bt319.2).bind fun bt321 => (if x9.length < 17592186044416 then (rollbacknetlaw27_scene.j1 k x7 x8 (x9 ++ [bt321.1]) x308000 bt321.2) else (none))) else (rollbacknetlaw27_scene.j1 k x7 x8 x9 x308000 bt319.2)))
def rollbacknetlaw27_scene.j1 : Nat → Int → List (S37) → List Int → List Int → Int → Option (Int × (List (S37)) × List Int × (List (S39)))
 | 0, _, _, _, _, _ => none
 | k + 1, x7, x8, x9, x308000, x308001 => (rollbacknetref27_Lineage.f k x7 x8).bind fun t326 => (rollbacknetlaw27_scene.l1 k x7 x8 x9 ([] : List (S39)) t326 0 x308000 x308001)
def rollbacknetlaw27_scene.l1 : Nat → Int → List (S37) → List Int → List (S39) → List (S39) → Int → List Int → Int → Option (Int × (List (S37)) × List Int × (List (S39)))
 | 0, _, _, _, _, _, _, _, _ => none
 | k + 1, x7, x8, x9, x11, x12, x13, x308000, x308001 => if x13 < (x12.length : Int) then ((rollbacknetmake_Codes_Next.f x308000 x308001 4).bind fun bt336 => (if bt336.1 > 0 then (if 0 ≤ x13 then (if x11.length < 1954687338268 then (rollbacknetlaw27_scene.l1 k x7 x8 x9 (x11 ++ [(⟨(rd_T39 x12 x13).f0, (rd_T39 x12 x13).f1, (⟨(rd_T39 x12 x13).f2.f0, (rd_T39 x12 x13).f2.f1, (rd_T39 x12 x13).f2.f2, (⟨(rd_T39 x12 x13).f2.f3.f0, (rd_T39 x12 x13).f2.f3.f1⟩ : S35), (rd_T39 x12 x13).f2.f4, (rd_T39 x12 x13).f2.f5⟩ : S37)⟩ : S39)]) x12 (wrap64 (x13 + 1)) x308000 bt336.2) else (none)) else (none)) else (if 0 ≤ x13 then ((rollbacknetmake_Codes_Next.f x308000 bt336.2 10).bind fun bt343 => ((rollbacknetmake_Codes_Next.f x308000 bt343.2 3).bind fun bt345 => ((rollbacknetlaw27_near.f ((rd_T39 x12 x13).f0) ((rd_T39 x12 x13).f1) ((rd_T39 x12 x13).f2.f0) ((rd_T39 x12 x13).f2.f1) ((rd_T39 x12 x13).f2.f2) ((rd_T39 x12 x13).f2.f3.f0) ((rd_T39 x12 x13).f2.f3.f1) ((rd_T39 x12 x13).f2.f4) ((rd_T39 x12 x13).f2.f5) bt343.1 bt345.1).bind fun bt347 => (if x11.length < 1954687338268 then (rollbacknetlaw27_scene.l1 k x7 x8 x9 (x11 ++ [(⟨bt347.1, bt347.2.1, (⟨bt347.2.2.1, bt347.2.2.2.1, bt347.2.2.2.2.1, (⟨bt347.2.2.2.2.2.1, bt347.2.2.2.2.2.2.1⟩ : S35), bt347.2.2.2.2.2.2.2.1, bt347.2.2.2.2.2.2.2.2⟩ : S37)⟩ : S39)]) x12 (wrap64 (x13 + 1)) x308000 bt345.2) else (none))))) else (none)))) else ((rollbacknetmake_Codes_Dets.f k x308000 x308001 3).bind fun bt329 => (if x11.length + bt329.1.length < 1954687338268 then (some (x7, x8, x9, (x11 ++ bt329.1))) else (none)))
end
def rollbacknetlaw27_scene.f (k : Nat) (l0 : List Int) : Option (Int × (List (S37)) × List Int × (List (S39))) := (rollbacknetmake_New.f l0 250).bind fun bt305 => ((rollbacknetmake_Codes_Next.f bt305.1 bt305.2 3).bind fun bt308 => ((rollbacknetmake_Codes_Events.f k bt305.1 bt308.2 12).bind fun bt310 => (rollbacknetlaw27_scene.l0 k bt308.1 bt310.1 ([] : List Int) 0 bt305.1 bt310.2)))
theorem rollbacknetlaw27_scene.mono_l : ∀ k, (∀ y0 y1 y2 y3 y4 y5, LeO (rollbacknetlaw27_scene.l0 k y0 y1 y2 y3 y4 y5) (rollbacknetlaw27_scene.l0 (k + 1) y0 y1 y2 y3 y4 y5)) ∧ (∀ y0 y1 y2 y3 y4, LeO (rollbacknetlaw27_scene.j1 k y0 y1 y2 y3 y4) (rollbacknetlaw27_scene.j1 (k + 1) y0 y1 y2 y3 y4)) ∧ (∀ y0 y1 y2 y3 y4 y5 y6 y7, LeO (rollbacknetlaw27_scene.l1 k y0 y1 y2 y3 y4 y5 y6 y7) (rollbacknetlaw27_scene.l1 (k + 1) y0 y1 y2 y3 y4 y5 y6 y7))
 | 0 => ⟨fun _ _ _ _ _ _ r h => by simp [rollbacknetlaw27_scene.l0] at h, fun _ _ _ _ _ r h => by simp [rollbacknetlaw27_scene.j1] at h, fun _ _ _ _ _ _ _ _ r h => by simp [rollbacknetlaw27_scene.l1] at h⟩
 | k + 1 => by
  obtain ⟨ih0, ih1, ih2⟩ := rollbacknetlaw27_scene.mono_l k
  refine ⟨?_, ?_, ?_⟩
  ·intro y0 y1 y2 y3 y4 y5
   unfold rollbacknetlaw27_scene.l0
   repeat' first
   | (with_reducible exact ih0 _ _ _ _ _ _)
   | (with_reducible exact ih1 _ _ _ _ _)
   | (with_reducible exact ih2 _ _ _ _ _ _ _ _)
   | (with_reducible exact rollbacknetmake_Codes_Dets.mono _ _ _ _)
   | (with_reducible exact rollbacknetmake_Codes_Events.mono _ _ _ _)
   | (with_reducible exact rollbacknetref27_Lineage.mono _ _ _)
   | (with_reducible exact LeO.refl _)
   | (with_reducible exact LeO.none _)
   | (with_reducible refine LeO.ite ?_ ?_)
   | (with_reducible refine LeO.bind ?_ (fun _ => ?_))
   | exact ih0 _ _ _ _ _ _
   | exact ih1 _ _ _ _ _
   | exact ih2 _ _ _ _ _ _ _ _
   | exact rollbacknetmake_Codes_Dets.mono _ _ _ _
   | exact rollbacknetmake_Codes_Events.mono _ _ _ _
   | exact rollbacknetref27_Lineage.mono _ _ _
   | exact LeO.none _
   | refine LeO.ite ?_ ?_
   | refine LeO.bind ?_ (fun _ => ?_)
  ·intro y0 y1 y2 y3 y4
   unfold rollbacknetlaw27_scene.j1
   repeat' first
   | (with_reducible exact ih0 _ _ _ _ _ _)
   | (with_reducible exact ih1 _ _ _ _ _)
   | (with_reducible exact ih2 _ _ _ _ _ _ _ _)
   | (with_reducible exact rollbacknetmake_Codes_Dets.mono _ _ _ _)
   | (with_reducible exact rollbacknetmake_Codes_Events.mono _ _ _ _)
   | (with_reducible exact rollbacknetref27_Lineage.mono _ _ _)
   | (with_reducible exact LeO.refl _)
   | (with_reducible exact LeO.none _)
   | (with_reducible refine LeO.ite ?_ ?_)
   | (with_reducible refine LeO.bind ?_ (fun _ => ?_))
   | exact ih0 _ _ _ _ _ _
   | exact ih1 _ _ _ _ _
   | exact ih2 _ _ _ _ _ _ _ _
   | exact rollbacknetmake_Codes_Dets.mono _ _ _ _
   | exact rollbacknetmake_Codes_Events.mono _ _ _ _
   | exact rollbacknetref27_Lineage.mono _ _ _
   | exact LeO.none _
   | refine LeO.ite ?_ ?_
   | refine LeO.bind ?_ (fun _ => ?_)
  ·intro y0 y1 y2 y3 y4 y5 y6 y7
   unfold rollbacknetlaw27_scene.l1
   repeat' first
   | (with_reducible exact ih0 _ _ _ _ _ _)
   | (with_reducible exact ih1 _ _ _ _ _)
   | (with_reducible exact ih2 _ _ _ _ _ _ _ _)
   | (with_reducible exact rollbacknetmake_Codes_Dets.mono _ _ _ _)
   | (with_reducible exact rollbacknetmake_Codes_Events.mono _ _ _ _)
   | (with_reducible exact rollbacknetref27_Lineage.mono _ _ _)
   | (with_reducible exact LeO.refl _)
   | (with_reducible exact LeO.none _)
   | (with_reducible refine LeO.ite ?_ ?_)
   | (with_reducible refine LeO.bind ?_ (fun _ => ?_))
   | exact ih0 _ _ _ _ _ _
   | exact ih1 _ _ _ _ _
   | exact ih2 _ _ _ _ _ _ _ _
   | exact rollbacknetmake_Codes_Dets.mono _ _ _ _
   | exact rollbacknetmake_Codes_Events.mono _ _ _ _
   | exact rollbacknetref27_Lineage.mono _ _ _
   | exact LeO.none _
   | refine LeO.ite ?_ ?_
   | refine LeO.bind ?_ (fun _ => ?_)
theorem rollbacknetlaw27_scene.mono : ∀ a0 k, LeO (rollbacknetlaw27_scene.f k a0) (rollbacknetlaw27_scene.f (k + 1) a0) := by
 intro a0 k
 obtain ⟨ih0, ih1, ih2⟩ := rollbacknetlaw27_scene.mono_l k
 unfold rollbacknetlaw27_scene.f
 repeat' first
   | (with_reducible exact ih0 _ _ _ _ _ _)
   | (with_reducible exact ih1 _ _ _ _ _)
   | (with_reducible exact ih2 _ _ _ _ _ _ _ _)
   | (with_reducible exact rollbacknetmake_Codes_Dets.mono _ _ _ _)
   | (with_reducible exact rollbacknetmake_Codes_Events.mono _ _ _ _)
   | (with_reducible exact rollbacknetref27_Lineage.mono _ _ _)
   | (with_reducible exact LeO.refl _)
   | (with_reducible exact LeO.none _)
   | (with_reducible refine LeO.ite ?_ ?_)
   | (with_reducible refine LeO.bind ?_ (fun _ => ?_))
   | exact ih0 _ _ _ _ _ _
   | exact ih1 _ _ _ _ _
   | exact ih2 _ _ _ _ _ _ _ _
   | exact rollbacknetmake_Codes_Dets.mono _ _ _ _
   | exact rollbacknetmake_Codes_Events.mono _ _ _ _
   | exact rollbacknetref27_Lineage.mono _ _ _
   | exact LeO.none _
   | refine LeO.ite ?_ ?_
   | refine LeO.bind ?_ (fun _ => ?_)
def rollbacknetlaw27_scene.T18 : Bool × List (List Nat × List Nat) := (true, [([], []), ([], []), ([], []), ([1, 2], [1, 2]), ([3], [3]), ([], []), ([5], [5]), ([], []), ([7, 6], [7]), ([4, 6, 8, 8], [4, 6, 8]), ([9], [9]), ([0, 10, 9], [0, 10]), ([11, 11, 0, 1, 2, 3, 4, 5, 6, 7, 8, 9, 10, 11], [0, 11])])
def rollbacknetlaw27_scene.B18 : List Nat := [0, 0, 0, 6, 14, 0, 32, 0, 224, 510, 1022, 2047, 4095]
theorem rollbacknetlaw27_scene.tab18 : rtab .any (opsOf Try.f13 18) = rollbacknetlaw27_scene.T18 := by kernel_rfl
theorem rollbacknetlaw27_scene.bits18 : waitsOk rollbacknetlaw27_scene.T18.2 rollbacknetlaw27_scene.B18 = true := by kernel_rfl
set_option maxHeartbeats 8000000 in
set_option maxRecDepth 100000 in
theorem rollbacknetlaw27_scene.calls (k : Nat) (A0 : Option Addr) (c0 : Nat) (l0 : List Int) (r1 : Int) (r2 : List (S37)) (r3 : List Int) (r4 : List (S39)) (w : World) (hr0 : Kd.C (Kd.int .u8) w A0 l0.length l0) (hc0 : l0.length ≤ c0) (h : rollbacknetlaw27_scene.f k l0 = some (r1, r2, r3, r4)) :
  Calls Try.prog 13 #[.slice A0 l0.length c0] w fun e w' => ∃ v1_ v2_ v3_ : Value, e = .returned (.tuple #[.int .i64 r1, v1_, v2_, v3_]) ∧ Kd.R k37 37 w' w.heap.size (fun _ => True) v1_ r2 ∧ Kd.R (Kd.int .i64) 3 w' w.heap.size (fun _ => True) v2_ r3 ∧ Kd.R k39 39 w' w.heap.size (fun _ => True) v3_ r4 ∧ Below w.heap.size w w' := by
 have hu39 := Try.underlying39
 have HR0 := Aside0.mk hr0
 have HC0 := Aside0.mk hc0
 clear hr0 hc0
 have HB := Aside0.mk (Below.refl w.heap.size w)
 have H : ((rollbacknetmake_New.f l0 250).bind fun bt305 => ((rollbacknetmake_Codes_Next.f bt305.1 bt305.2 3).bind fun bt308 => ((rollbacknetmake_Codes_Events.f k bt305.1 bt308.2 12).bind fun bt310 => (rollbacknetlaw27_scene.l0 k bt308.1 bt310.1 ([] : List Int) 0 bt305.1 bt310.2)))) = some (r1, r2, r3, r4) := h
 clear h
 replace H := Option.bind_eq_some_iff.mp H
 obtain ⟨⟨t305, t306⟩, A20, H⟩ := H
 replace H : ((rollbacknetmake_Codes_Next.f t305 t306 3).bind fun bt308 => ((rollbacknetmake_Codes_Events.f k t305 bt308.2 12).bind fun bt310 => (rollbacknetlaw27_scene.l0 k bt308.1 bt310.1 ([] : List Int) 0 t305 bt310.2))) = some (r1, r2, r3, r4) := H
 have A2 := Aside0.mk A20
 clear A20
 replace H := Option.bind_eq_some_iff.mp H
 obtain ⟨⟨t308, t309⟩, A30, H⟩ := H
 replace H : ((rollbacknetmake_Codes_Events.f k t305 t309 12).bind fun bt310 => (rollbacknetlaw27_scene.l0 k t308 bt310.1 ([] : List Int) 0 t305 bt310.2)) = some (r1, r2, r3, r4) := H
 have A3 := Aside0.mk A30
 clear A30
 replace H := Option.bind_eq_some_iff.mp H
 obtain ⟨⟨t310, t313⟩, A40, H⟩ := H
 replace H : (rollbacknetlaw27_scene.l0 k t308 t310 ([] : List Int) 0 t305 t313) = some (r1, r2, r3, r4) := H
 have A4 := Aside0.mk A40
 clear A40
 have H' := Aside0.mk H
 clear H
 go_enter Try.func13, Try.ntmps13
 go_wp2_with (first | ((with_reducible refine gate_callee (f := 23) rfl ?_); refine goesL_ (some 15) rfl rfl Try.func23 (by kernel_rfl) rfl #[.slice A0 l0.length c0, .int .i64 250] rfl (by (try simp only [List.map_toArray, List.map_cons, List.map_nil]); first | done | rfl | (simp only [List.length_drop, List.length_take]; rfl)) ?_; (with_reducible refine (rollbacknetmake_New.calls _ _ l0 250 t305 t306 w _ ?side1 ?side2 ?side3 A2.out).mono ?_); (case side1 => repeat (first | (with_reducible first | exact HB.out | apply below_alloc | apply pw_below_drewN | apply below_drew1) | exact HB.out)); (case side2 => exact HR0.out); (case side3 => exact HC0.out); rintro e w5 ⟨g307, rfl, hi, hb, hb2⟩; refine ⟨_, rfl, ?_⟩; have n0_ := Aside0.mk (hb); have n1_ := Aside0.mk (hi); clear HB; have HB := n0_; have HI307 := n1_; clear n0_ n1_; (try clear hb); (try clear hb2); (try clear hk); (try clear hi)) | ((with_reducible refine gate_callee (f := 33) rfl ?_); refine goesL_ (some 17) rfl rfl Try.func33 (by kernel_rfl) rfl #[.pointer (some ⟨g307, 0, none⟩), .int .i64 3] rfl (by (try simp only [List.map_toArray, List.map_cons, List.map_nil]); first | done | rfl | (simp only [List.length_drop, List.length_take]; rfl)) ?_; (with_reducible refine (rollbacknetmake_Codes_Next.calls g307 t305 t306 3 t308 t309 w _ ?side1 ?side2 A3.out).mono ?_); (case side1 => repeat (first | (with_reducible first | exact HI307.out | apply IsS66.alloc | apply IsS66.drewN | apply IsS66.drew | apply IsS66.set_1) | exact HI307.out)); (case side2 => repeat (first | (with_reducible first | exact HB.out | apply below_alloc | apply pw_below_drewN | apply below_drew1 | refine below_set ?_ (IsS66.ge HI307.out)) | exact HB.out)); rintro e w6 ⟨rfl, hi, hb, hk⟩; refine ⟨_, rfl, ?_⟩; have n0_ := Aside0.mk (hb); have n1_ := Aside0.mk (hi); clear HB; clear HI307; have HB := n0_; have HI307 := n1_; clear n0_ n1_; (try clear hb); (try clear hb2); (try clear hk); (try clear hi)) | ((with_reducible refine gate_callee (f := 38) rfl ?_); refine goesL_ (some 19) rfl rfl Try.func38 (by kernel_rfl) rfl #[.pointer (some ⟨g307, 0, none⟩), .int .i64 12] rfl (by (try simp only [List.map_toArray, List.map_cons, List.map_nil]); first | done | rfl | (simp only [List.length_drop, List.length_take]; rfl)) ?_; (with_reducible refine (rollbacknetmake_Codes_Events.calls k g307 t305 t309 12 t310 t313 w _ ?side1 ?side2 A4.out).mono ?_); (case side1 => repeat (first | (with_reducible first | exact HI307.out | apply IsS66.alloc | apply IsS66.drewN | apply IsS66.drew | apply IsS66.set_1) | exact HI307.out)); (case side2 => repeat (first | (with_reducible first | exact HB.out | apply below_alloc | apply pw_below_drewN | apply below_drew1 | refine below_set ?_ (IsS66.ge HI307.out)) | exact HB.out)); rintro e w7 ⟨v311, rfl, ho0, hi, hb, hk⟩; refine ⟨_, rfl, ?_⟩; have n0_ := Aside0.mk (Kd.R_lower ho0 (below_size (bq1 HB.out (IsS66.ge HI307.out)))); have n1_ := Aside0.mk (hb); have n2_ := Aside0.mk (hi); clear HB; clear HI307; have HO312 := n0_; have HB := n1_; have HI307 := n2_; clear n0_ n1_ n2_; (try clear hb); (try clear hb2); (try clear hk); (try clear hi); (try clear ho0)))
 go_loopg [9, 10] k (fun kq v9 v10 w' => ∃ (x9_1 : List Int) (x10_1 : Int) (x308001_1 : Int), v10 = .int .i64 x10_1 ∧ Aside0 (rollbacknetlaw27_scene.l0 kq t308 t310 x9_1 x10_1 t305 x308001_1 = some (r1, r2, r3, r4)) ∧ Aside0 (kq ≤ k) ∧ Aside0 (Kd.R k37 37 w' w.heap.size (fun _ => True) v311 t310) ∧ Aside0 (Kd.R (Kd.int .i64) 3 w' w.heap.size (fun _ => True) v9 x9_1) ∧ Aside0 (IsS66 w w' g307 t305 x308001_1) ∧ Aside0 (Below w.heap.size w w'))
 case atStart => exact ⟨(([] : List Int)), (0), (t313), (by first | rfl | (simp; done) | (simp [*]; done)), H', ⟨Nat.le_refl _⟩, ⟨rq HO312.out⟩, ⟨by first | exact Kd.R_nil _ _ _ _ _ | exact Kd.N_nil _ _ _ _ _ | exact Kd.V_nil _ _ _ _ _ | exact Kd.Q_nil _ _ _ _ _ | exact Kd.S_nil _ _ _ _ _⟩, ⟨by repeat (first | (with_reducible first | exact HI307.out | apply IsS66.alloc | apply IsS66.drewN | apply IsS66.drew | apply IsS66.set_1) | exact HI307.out)⟩, ⟨bq1 HB.out (IsS66.ge HI307.out)⟩⟩
 case round =>
  clear H'
  try clear c1
  try clear c2
  try clear p2
  try clear c3
  obtain ⟨x9_1, x10_1, x308001_1, rfl, HA, HK1, HO_8, HO_9, HI307, HB⟩ := hrel
  cases gk with
  | zero => exact absurd HA.out (by simp [rollbacknetlaw27_scene.l0])
  | succ k1 =>
   have H := HA.out
   clear HA
   simp only [rollbacknetlaw27_scene.l0] at H
   by_cases c8 : x10_1 ≤ (t310.length : Int)
   ·rw [if_pos c8] at H
    have c8b0 : decide (x10_1 ≤ (t310.length : Int)) = true := decide_eq_true c8
    clear c8
    replace H := Option.bind_eq_some_iff.mp H
    obtain ⟨⟨t314, t315⟩, A90, H⟩ := H
    replace H : (if t314 = 1 then (if x9_1.length < 17592186044416 then (rollbacknetlaw27_scene.l0 k1 t308 t310 (x9_1 ++ [x10_1]) (wrap64 (x10_1 + 1)) t305 t315) else (none)) else (rollbacknetlaw27_scene.l0 k1 t308 t310 x9_1 (wrap64 (x10_1 + 1)) t305 t315)) = some (r1, r2, r3, r4) := H
    have A9 := Aside0.mk A90
    clear A90
    by_cases c10 : t314 = 1
    ·rw [if_pos c10] at H
     have c10b0 : (t314 == 1) = true := beq_iff_eq.mpr c10
     have c10b1 : (t314 != 1) = false := bne_eq_false_iff_eq.mpr c10
     clear c10
     by_cases c11 : x9_1.length < 17592186044416
     ·rw [if_pos c11] at H
      have LMc11 := Aside0.mk c11
      clear c11
      obtain ⟨y316, hy316⟩ : ∃ y_ : List Int, y_ = (x9_1 ++ [x10_1]) := ⟨_, rfl⟩
      replace H : (rollbacknetlaw27_scene.l0 k1 t308 t310 y316 (wrap64 (x10_1 + 1)) t305 t315) = some (r1, r2, r3, r4) := by first | (rw [hy316]; with_reducible exact H) | (have H2_ := (Option.bind_some _ _).symm.trans H; rw [hy316]; with_reducible exact H2_) | (have H2_ := (Option.bind_some _ _).symm.trans H; with_reducible exact H2_) | with_reducible exact H | (rw [hy316]; exact H) | exact H
      have Ny316 := Aside0.mk hy316
      clear hy316
      have H' := Aside0.mk H
      clear H
      obtain ⟨Ao12, co12, eo12⟩ := Kd.R_slice HO_8.out
      subst eo12
      go_wp2_with (first | ((with_reducible refine gate_callee (f := 33) rfl ?_); refine goesL_ (some 27) rfl rfl Try.func33 (by kernel_rfl) rfl #[.pointer (some ⟨g307, 0, none⟩), .int .i64 4] rfl (by (try simp only [List.map_toArray, List.map_cons, List.map_nil]); first | done | rfl | (simp only [List.length_drop, List.length_take]; rfl)) ?_; (with_reducible refine (rollbacknetmake_Codes_Next.calls g307 t305 x308001_1 4 t314 t315 w _ ?side1 ?side2 A9.out).mono ?_); (case side1 => repeat (first | (with_reducible first | exact HI307.out | apply IsS66.alloc | apply IsS66.drewN | apply IsS66.drew | apply IsS66.set_1) | exact HI307.out)); (case side2 => repeat (first | (with_reducible first | exact HB.out | apply below_alloc | apply pw_below_drewN | apply below_drew1 | refine below_set ?_ (IsS66.ge HI307.out)) | exact HB.out)); rintro e w13 ⟨rfl, hi, hb, hk⟩; refine ⟨_, rfl, ?_⟩; have n0_ := Aside0.mk (Kd.R_mono (Kd.R_keep (IsS66.apart (show IsS66 w _ g307 t305 x308001_1 from by repeat (first | (with_reducible first | exact HI307.out | apply IsS66.alloc | apply IsS66.drewN | apply IsS66.drew | apply IsS66.set_1) | exact HI307.out)) (rq HO_8.out) (by decide)) hk (fun _ h => h.2)) (fun _ h => h.1)); have n1_ := Aside0.mk (Kd.R_mono (Kd.R_keep (IsS66.apart (show IsS66 w _ g307 t305 x308001_1 from by repeat (first | (with_reducible first | exact HI307.out | apply IsS66.alloc | apply IsS66.drewN | apply IsS66.drew | apply IsS66.set_1) | exact HI307.out)) (rq HO_9.out) (by decide)) hk (fun _ h => h.2)) (fun _ h => h.1)); have n2_ := Aside0.mk (hb); have n3_ := Aside0.mk (hi); clear HO_8; clear HO_9; clear HB; clear HI307; have HO_8 := n0_; have HO_9 := n1_; have HB := n2_; have HI307 := n3_; clear n0_ n1_ n2_ n3_; (try clear hb); (try clear hb2); (try clear hk); (try clear hi)) | ((with_reducible refine gate_builtin (b := .append) (xs := #[.tmp 29, .tmp 31]) rfl ?_); at_builtin; refine Kd.R_append (Kd.int .i64) (w0 := w) w.heap.size rfl (.tmp 29) (.tmp 31) 23 3 (.int .i64 0) 8 rfl Try.underlying23 info3 rfl (by decide) (by omega) u9 x9_1 x10_1 [.int .i64 x10_1] (fun _ => True) (fun _ => False) rfl rfl ?aP (fun _ hk => hk.elim) ?aF ?aO ?aB ?aS ?aL ?_; (case aP => exact rfl); (case aB => exact (bq1 HB.out (IsS66.ge HI307.out))); (case aF => exact (fun _ _ => trivial)); (case aO => exact (rq HO_9.out)); (case aS => exact (below_size (bq1 HB.out (IsS66.ge HI307.out)))); (case aL => have := LMc11.out; omega); intro v317 w14 ho hb hg hat; rw [← Ny316.out] at ho; have n0_ := Aside0.mk (Kd.R_over' (rq HO_8.out) (Kd.R_typed (rq HO_9.out)) (by decide) hg); have n1_ := Aside0.mk (IsS66.grown (by repeat (first | (with_reducible first | exact HI307.out | apply IsS66.alloc | apply IsS66.drewN | apply IsS66.drew | apply IsS66.set_1) | exact HI307.out)) hg (IsS66.own_ne HI307.out HO_9.out (by decide))); have n2_ := Aside0.mk (hb); have n3_ := Aside0.mk (ho); clear HO_8; clear HI307; clear HB; clear HO_9; have HO_8 := n0_; have HI307 := n1_; have HB := n2_; have HO318 := n3_; clear n0_ n1_ n2_ n3_; clear ho hb hg hat))
      go_roundg k1
      case measure => have := HK1.out; omega
      case rel => exact ⟨(y316), (wrap64 (x10_1 + 1)), (t315), (by first | rfl | (simp; done) | (simp [*]; done)), H', ⟨by have := HK1.out; omega⟩, ⟨rq HO_8.out⟩, ⟨rq HO318.out⟩, ⟨by repeat (first | (with_reducible first | exact HI307.out | apply IsS66.alloc | apply IsS66.drewN | apply IsS66.drew | apply IsS66.set_1) | exact HI307.out)⟩, ⟨bq1 HB.out (IsS66.ge HI307.out)⟩⟩
     ·rw [if_neg c11] at H
      exact absurd H (by simp)
    ·rw [if_neg c10] at H
     have c10b0 : (t314 == 1) = false := beq_eq_false_iff_ne.mpr c10
     have c10b1 : (t314 != 1) = true := bne_iff_ne.mpr c10
     have H' := Aside0.mk H
     clear H
     obtain ⟨Ao15, co15, eo15⟩ := Kd.R_slice HO_8.out
     subst eo15
     go_wp2_with (first | ((with_reducible refine gate_callee (f := 33) rfl ?_); refine goesL_ (some 27) rfl rfl Try.func33 (by kernel_rfl) rfl #[.pointer (some ⟨g307, 0, none⟩), .int .i64 4] rfl (by (try simp only [List.map_toArray, List.map_cons, List.map_nil]); first | done | rfl | (simp only [List.length_drop, List.length_take]; rfl)) ?_; (with_reducible refine (rollbacknetmake_Codes_Next.calls g307 t305 x308001_1 4 t314 t315 w _ ?side1 ?side2 A9.out).mono ?_); (case side1 => repeat (first | (with_reducible first | exact HI307.out | apply IsS66.alloc | apply IsS66.drewN | apply IsS66.drew | apply IsS66.set_1) | exact HI307.out)); (case side2 => repeat (first | (with_reducible first | exact HB.out | apply below_alloc | apply pw_below_drewN | apply below_drew1 | refine below_set ?_ (IsS66.ge HI307.out)) | exact HB.out)); rintro e w16 ⟨rfl, hi, hb, hk⟩; refine ⟨_, rfl, ?_⟩; have n0_ := Aside0.mk (Kd.R_mono (Kd.R_keep (IsS66.apart (show IsS66 w _ g307 t305 x308001_1 from by repeat (first | (with_reducible first | exact HI307.out | apply IsS66.alloc | apply IsS66.drewN | apply IsS66.drew | apply IsS66.set_1) | exact HI307.out)) (rq HO_8.out) (by decide)) hk (fun _ h => h.2)) (fun _ h => h.1)); have n1_ := Aside0.mk (Kd.R_mono (Kd.R_keep (IsS66.apart (show IsS66 w _ g307 t305 x308001_1 from by repeat (first | (with_reducible first | exact HI307.out | apply IsS66.alloc | apply IsS66.drewN | apply IsS66.drew | apply IsS66.set_1) | exact HI307.out)) (rq HO_9.out) (by decide)) hk (fun _ h => h.2)) (fun _ h => h.1)); have n2_ := Aside0.mk (hb); have n3_ := Aside0.mk (hi); clear HO_8; clear HO_9; clear HB; clear HI307; have HO_8 := n0_; have HO_9 := n1_; have HB := n2_; have HI307 := n3_; clear n0_ n1_ n2_ n3_; (try clear hb); (try clear hb2); (try clear hk); (try clear hi)))
     go_roundg k1
     case measure => have := HK1.out; omega
     case rel => exact ⟨(x9_1), (wrap64 (x10_1 + 1)), (t315), (by first | rfl | (simp; done) | (simp [*]; done)), H', ⟨by have := HK1.out; omega⟩, ⟨rq HO_8.out⟩, ⟨rq HO_9.out⟩, ⟨by repeat (first | (with_reducible first | exact HI307.out | apply IsS66.alloc | apply IsS66.drewN | apply IsS66.drew | apply IsS66.set_1) | exact HI307.out)⟩, ⟨bq1 HB.out (IsS66.ge HI307.out)⟩⟩
   ·rw [if_neg c8] at H
    have c8b0 : decide (x10_1 ≤ (t310.length : Int)) = false := decide_eq_false c8
    clear c8
    replace H := Option.bind_eq_some_iff.mp H
    obtain ⟨⟨t319, t320⟩, A170, H⟩ := H
    replace H : (if t319 = 5 then ((rollbacknetmake_Codes_Int.f t305 t320).bind fun bt321 => (if x9_1.length < 17592186044416 then (rollbacknetlaw27_scene.j1 k1 t308 t310 (x9_1 ++ [bt321.1]) t305 bt321.2) else (none))) else (rollbacknetlaw27_scene.j1 k1 t308 t310 x9_1 t305 t320)) = some (r1, r2, r3, r4) := H
    have A17 := Aside0.mk A170
    clear A170
    have HC18 := Aside0.mk H
    clear H
    obtain ⟨Ao19, co19, eo19⟩ := Kd.R_slice HO_8.out
    subst eo19
    go_upto_if 35 with (first | ((with_reducible refine gate_callee (f := 33) rfl ?_); refine goesL_ (some 34) rfl rfl Try.func33 (by kernel_rfl) rfl #[.pointer (some ⟨g307, 0, none⟩), .int .i64 6] rfl (by (try simp only [List.map_toArray, List.map_cons, List.map_nil]); first | done | rfl | (simp only [List.length_drop, List.length_take]; rfl)) ?_; (with_reducible refine (rollbacknetmake_Codes_Next.calls g307 t305 x308001_1 6 t319 t320 w _ ?side1 ?side2 A17.out).mono ?_); (case side1 => repeat (first | (with_reducible first | exact HI307.out | apply IsS66.alloc | apply IsS66.drewN | apply IsS66.drew | apply IsS66.set_1) | exact HI307.out)); (case side2 => repeat (first | (with_reducible first | exact HB.out | apply below_alloc | apply pw_below_drewN | apply below_drew1 | refine below_set ?_ (IsS66.ge HI307.out)) | exact HB.out)); rintro e w20 ⟨rfl, hi, hb, hk⟩; refine ⟨_, rfl, ?_⟩; have n0_ := Aside0.mk (Kd.R_mono (Kd.R_keep (IsS66.apart (show IsS66 w _ g307 t305 x308001_1 from by repeat (first | (with_reducible first | exact HI307.out | apply IsS66.alloc | apply IsS66.drewN | apply IsS66.drew | apply IsS66.set_1) | exact HI307.out)) (rq HO_8.out) (by decide)) hk (fun _ h => h.2)) (fun _ h => h.1)); have n1_ := Aside0.mk (Kd.R_mono (Kd.R_keep (IsS66.apart (show IsS66 w _ g307 t305 x308001_1 from by repeat (first | (with_reducible first | exact HI307.out | apply IsS66.alloc | apply IsS66.drewN | apply IsS66.drew | apply IsS66.set_1) | exact HI307.out)) (rq HO_9.out) (by decide)) hk (fun _ h => h.2)) (fun _ h => h.1)); have n2_ := Aside0.mk (hb); have n3_ := Aside0.mk (hi); clear HO_8; clear HO_9; clear HB; clear HI307; have HO_8 := n0_; have HO_9 := n1_; have HB := n2_; have HI307 := n3_; clear n0_ n1_ n2_ n3_; (try clear hb); (try clear hb2); (try clear hk); (try clear hi)))
    (try simp only [Act.put, List.setIfInBounds_toArray, List.set_cons_zero, List.set_cons_succ])
    go_cut [9] (fun v9 wc => ∃ (kq : Nat) (x9_17 : List Int) (x308001_17 : Int), Aside0 (rollbacknetlaw27_scene.j1 kq t308 t310 x9_17 t305 x308001_17 = some (r1, r2, r3, r4)) ∧ Aside0 (kq ≤ k1) ∧ Aside0 (Kd.R k37 37 wc w.heap.size (fun _ => True) (.slice Ao19 t310.length co19) t310) ∧ Aside0 (Kd.R (Kd.int .i64) 3 wc w.heap.size (fun _ => True) v9 x9_17) ∧ Aside0 (IsS66 w wc g307 t305 x308001_17) ∧ Aside0 (Below w.heap.size w wc))
    case first =>
     have H := HC18.out
     clear HC18
     by_cases c21 : t319 = 5
     ·rw [if_pos c21] at H
      have c21b0 : (t319 == 5) = true := beq_iff_eq.mpr c21
      have c21b1 : (t319 != 5) = false := bne_eq_false_iff_eq.mpr c21
      clear c21
      (first | rw [c21b0] | (simp only [i64_w, i32_w]; rw [c21b0]) | skip)
      replace H := Option.bind_eq_some_iff.mp H
      obtain ⟨⟨t321, t322⟩, A220, H⟩ := H
      replace H : (if x9_1.length < 17592186044416 then (rollbacknetlaw27_scene.j1 k1 t308 t310 (x9_1 ++ [t321]) t305 t322) else (none)) = some (r1, r2, r3, r4) := H
      have A22 := Aside0.mk A220
      clear A220
      by_cases c23 : x9_1.length < 17592186044416
      ·rw [if_pos c23] at H
       have LMc23 := Aside0.mk c23
       clear c23
       obtain ⟨y323, hy323⟩ : ∃ y_ : List Int, y_ = (x9_1 ++ [t321]) := ⟨_, rfl⟩
       replace H : (rollbacknetlaw27_scene.j1 k1 t308 t310 y323 t305 t322) = some (r1, r2, r3, r4) := by first | (rw [hy323]; with_reducible exact H) | (have H2_ := (Option.bind_some _ _).symm.trans H; rw [hy323]; with_reducible exact H2_) | (have H2_ := (Option.bind_some _ _).symm.trans H; with_reducible exact H2_) | with_reducible exact H | (rw [hy323]; exact H) | exact H
       have Ny323 := Aside0.mk hy323
       clear hy323
       have H' := Aside0.mk H
       clear H
       go_wp2_with (first | ((with_reducible refine gate_callee (f := 39) rfl ?_); refine goesL_ (some 38) rfl rfl Try.func39 (by kernel_rfl) rfl #[.pointer (some ⟨g307, 0, none⟩)] rfl (by (try simp only [List.map_toArray, List.map_cons, List.map_nil]); first | done | rfl | (simp only [List.length_drop, List.length_take]; rfl)) ?_; (with_reducible refine (rollbacknetmake_Codes_Int.calls g307 t305 t320 t321 t322 w _ ?side1 ?side2 A22.out).mono ?_); (case side1 => repeat (first | (with_reducible first | exact HI307.out | apply IsS66.alloc | apply IsS66.drewN | apply IsS66.drew | apply IsS66.set_1) | exact HI307.out)); (case side2 => repeat (first | (with_reducible first | exact HB.out | apply below_alloc | apply pw_below_drewN | apply below_drew1 | refine below_set ?_ (IsS66.ge HI307.out)) | exact HB.out)); rintro e w24 ⟨rfl, hi, hb, hk⟩; refine ⟨_, rfl, ?_⟩; have n0_ := Aside0.mk (Kd.R_mono (Kd.R_keep (IsS66.apart (show IsS66 w _ g307 t305 t320 from by repeat (first | (with_reducible first | exact HI307.out | apply IsS66.alloc | apply IsS66.drewN | apply IsS66.drew | apply IsS66.set_1) | exact HI307.out)) (rq HO_8.out) (by decide)) hk (fun _ h => h.2)) (fun _ h => h.1)); have n1_ := Aside0.mk (Kd.R_mono (Kd.R_keep (IsS66.apart (show IsS66 w _ g307 t305 t320 from by repeat (first | (with_reducible first | exact HI307.out | apply IsS66.alloc | apply IsS66.drewN | apply IsS66.drew | apply IsS66.set_1) | exact HI307.out)) (rq HO_9.out) (by decide)) hk (fun _ h => h.2)) (fun _ h => h.1)); have n2_ := Aside0.mk (hb); have n3_ := Aside0.mk (hi); clear HO_8; clear HO_9; clear HB; clear HI307; have HO_8 := n0_; have HO_9 := n1_; have HB := n2_; have HI307 := n3_; clear n0_ n1_ n2_ n3_; (try clear hb); (try clear hb2); (try clear hk); (try clear hi)) | ((with_reducible refine gate_builtin (b := .append) (xs := #[.tmp 36, .tmp 39]) rfl ?_); at_builtin; refine Kd.R_append (Kd.int .i64) (w0 := w) w.heap.size rfl (.tmp 36) (.tmp 39) 23 3 (.int .i64 0) 8 rfl Try.underlying23 info3 rfl (by decide) (by omega) u9 x9_1 t321 [.int .i64 t321] (fun _ => True) (fun _ => False) rfl rfl ?aP (fun _ hk => hk.elim) ?aF ?aO ?aB ?aS ?aL ?_; (case aP => exact rfl); (case aB => exact (bq1 HB.out (IsS66.ge HI307.out))); (case aF => exact (fun _ _ => trivial)); (case aO => exact (rq HO_9.out)); (case aS => exact (below_size (bq1 HB.out (IsS66.ge HI307.out)))); (case aL => have := LMc23.out; omega); intro v324 w25 ho hb hg hat; rw [← Ny323.out] at ho; have n0_ := Aside0.mk (Kd.R_over' (rq HO_8.out) (Kd.R_typed (rq HO_9.out)) (by decide) hg); have n1_ := Aside0.mk (IsS66.grown (by repeat (first | (with_reducible first | exact HI307.out | apply IsS66.alloc | apply IsS66.drewN | apply IsS66.drew | apply IsS66.set_1) | exact HI307.out)) hg (IsS66.own_ne HI307.out HO_9.out (by decide))); have n2_ := Aside0.mk (hb); have n3_ := Aside0.mk (ho); clear HO_8; clear HI307; clear HB; clear HO_9; have HO_8 := n0_; have HI307 := n1_; have HB := n2_; have HO325 := n3_; clear n0_ n1_ n2_ n3_; clear ho hb hg hat))
       go_meet
       case rel => exact ⟨_, (y323), (t322), H', ⟨by have := HK1.out; first | omega | exact Nat.le_refl _⟩, ⟨rq HO_8.out⟩, ⟨rq HO325.out⟩, ⟨by repeat (first | (with_reducible first | exact HI307.out | apply IsS66.alloc | apply IsS66.drewN | apply IsS66.drew | apply IsS66.set_1) | exact HI307.out)⟩, ⟨bq1 HB.out (IsS66.ge HI307.out)⟩⟩
      ·rw [if_neg c23] at H
       exact absurd H (by simp)
     ·rw [if_neg c21] at H
      have c21b0 : (t319 == 5) = false := beq_eq_false_iff_ne.mpr c21
      have c21b1 : (t319 != 5) = true := bne_iff_ne.mpr c21
      (first | rw [c21b0] | (simp only [i64_w, i32_w]; rw [c21b0]) | skip)
      have H' := Aside0.mk H
      clear H
      go_wp2
      go_meet
      case rel => exact ⟨_, (x9_1), (t320), H', ⟨by have := HK1.out; first | omega | exact Nat.le_refl _⟩, ⟨rq HO_8.out⟩, ⟨rq HO_9.out⟩, ⟨by repeat (first | (with_reducible first | exact HI307.out | apply IsS66.alloc | apply IsS66.drewN | apply IsS66.drew | apply IsS66.set_1) | exact HI307.out)⟩, ⟨bq1 HB.out (IsS66.ge HI307.out)⟩⟩
    case rest =>
     clear HC18
     try clear c1
     try clear c2
     try clear p2
     try clear c3
     try clear p6
     try clear c8
     try clear c8b0
     try clear c10
     try clear c10b0
     try clear c10b1
     try clear c11
     try clear c13
     try clear c21
     try clear c21b0
     try clear c21b1
     try clear c23
     try clear p2
     obtain ⟨kq, x9_17, x308001_17, HA, HJ17, HO_8, HO_9, HI307, HB⟩ := hcut
     cases kq with
     | zero => exact absurd HA.out (by simp [rollbacknetlaw27_scene.j1])
     | succ kj17 =>
      have H := HA.out
      clear HA
      simp only [rollbacknetlaw27_scene.j1] at H
      replace H := Option.bind_eq_some_iff.mp H
      obtain ⟨t326, A260, H⟩ := H
      replace H : (rollbacknetlaw27_scene.l1 kj17 t308 t310 x9_17 ([] : List (S39)) t326 0 t305 x308001_17) = some (r1, r2, r3, r4) := H
      have A26 := Aside0.mk A260
      clear A260
      have H' := Aside0.mk H
      clear H
      go_wp2_with (first | ((with_reducible refine gate_callee (f := 16) rfl ?_); refine goesL_ (some 43) rfl rfl Try.func16 (by kernel_rfl) rfl #[.int .i64 t308, .slice Ao19 t310.length co19] rfl (by (try simp only [List.map_toArray, List.map_cons, List.map_nil]); first | done | rfl | (simp only [List.length_drop, List.length_take]; rfl)) ?_; (with_reducible refine (rollbacknetref27_Lineage.calls kj17 t308 _ _ t310 t326 _ ?side1 ?side2 A26.out).mono ?_); (case side1 => repeat (first | exact (Kd.R_reads' HO_8.out).2.2 | (with_reducible refine Kd.C_alloc ?_ _) | (with_reducible refine Kd.C_drewN ?_ _) | (with_reducible refine Kd.C_drew ?_))); (case side2 => exact (Kd.R_reads' HO_8.out).2.1); rintro e w27 ⟨v327, rfl, ho0, hb⟩; refine ⟨_, rfl, ?_⟩; have n0_ := Aside0.mk (Kd.R_below (rq HO_8.out) hb); have n1_ := Aside0.mk (Kd.R_below (rq HO_9.out) hb); have n2_ := Aside0.mk (Kd.R_lower ho0 (below_size (bq1 HB.out (IsS66.ge HI307.out)))); have n3_ := Aside0.mk (IsS66.below (by repeat (first | (with_reducible first | exact HI307.out | apply IsS66.alloc | apply IsS66.drewN | apply IsS66.drew | apply IsS66.set_1) | exact HI307.out)) hb); have n4_ := Aside0.mk (below_step (bq1 HB.out (IsS66.ge HI307.out)) hb); clear HO_8; clear HO_9; clear HI307; clear HB; have HO_8 := n0_; have HO_9 := n1_; have HO328 := n2_; have HI307 := n3_; have HB := n4_; clear n0_ n1_ n2_ n3_ n4_; (try clear hb); (try clear hb2); (try clear hk); (try clear hi); (try clear ho0)))
      go_loopg [11, 13] kj17 (fun kq v11 v13 w' => ∃ (x11_3 : List (S39)) (x13_3 : Int) (x308001_3 : Int), v13 = .int .i64 x13_3 ∧ Aside0 (rollbacknetlaw27_scene.l1 kq t308 t310 x9_17 x11_3 t326 x13_3 t305 x308001_3 = some (r1, r2, r3, r4)) ∧ Aside0 (kq ≤ kj17) ∧ Aside0 (Kd.R k37 37 w' w.heap.size (fun _ => True) (.slice Ao19 t310.length co19) t310) ∧ Aside0 (Kd.R (Kd.int .i64) 3 w' w.heap.size (fun _ => True) u9 x9_17) ∧ Aside0 (Kd.R k39 39 w' w.heap.size (fun k_ => some k_ ≠ (v327 : Value).ownBlock) v11 x11_3) ∧ Aside0 (Kd.R k39 39 w' w.heap.size (fun k_ => some k_ ≠ (v11 : Value).ownBlock) v327 t326) ∧ Aside0 (IsS66 w w' g307 t305 x308001_3) ∧ Aside0 (Below w.heap.size w w'))
      case atStart => exact ⟨(([] : List (S39))), (0), (x308001_17), (by first | rfl | (simp; done) | (simp [*]; done)), H', ⟨Nat.le_refl _⟩, ⟨rq HO_8.out⟩, ⟨rq HO_9.out⟩, ⟨by first | exact Kd.R_nil _ _ _ _ _ | exact Kd.N_nil _ _ _ _ _ | exact Kd.V_nil _ _ _ _ _ | exact Kd.Q_nil _ _ _ _ _ | exact Kd.S_nil _ _ _ _ _⟩, ⟨by (with_reducible repeat (first | apply Kd.R_alloc | apply Kd.R_drewN | apply Kd.R_drew)); exact Kd.R_mono HO328.out (fun _ hk => (by simp [Value.ownBlock]))⟩, ⟨by repeat (first | (with_reducible first | exact HI307.out | apply IsS66.alloc | apply IsS66.drewN | apply IsS66.drew | apply IsS66.set_1) | exact HI307.out)⟩, ⟨bq1 HB.out (IsS66.ge HI307.out)⟩⟩
      case round =>
       clear H'
       try clear c1
       try clear c2
       try clear p2
       try clear c3
       try clear p6
       try clear c8
       try clear c8b0
       try clear c10
       try clear c10b0
       try clear c10b1
       try clear c11
       try clear c13
       try clear c16
       try clear c21
       try clear c21b0
       try clear c21b1
       try clear c23
       try clear p2
       try clear p6
       obtain ⟨x11_3, x13_3, x308001_3, rfl, HA, HK3, HO_8, HO_9, HO_11, HO_12, HI307, HB⟩ := hrel
       cases gk with
       | zero => exact absurd HA.out (by simp [rollbacknetlaw27_scene.l1])
       | succ k3 =>
        have H := HA.out
        clear HA
        simp only [rollbacknetlaw27_scene.l1] at H
        by_cases c28 : x13_3 < (t326.length : Int)
        ·rw [if_pos c28] at H
         have c28b0 : decide (x13_3 < (t326.length : Int)) = true := decide_eq_true c28
         clear c28
         replace H := Option.bind_eq_some_iff.mp H
         obtain ⟨⟨t336, t337⟩, A290, H⟩ := H
         replace H : (if t336 > 0 then (if 0 ≤ x13_3 then (if x11_3.length < 1954687338268 then (rollbacknetlaw27_scene.l1 k3 t308 t310 x9_17 (x11_3 ++ [(⟨(rd_T39 t326 x13_3).f0, (rd_T39 t326 x13_3).f1, (⟨(rd_T39 t326 x13_3).f2.f0, (rd_T39 t326 x13_3).f2.f1, (rd_T39 t326 x13_3).f2.f2, (⟨(rd_T39 t326 x13_3).f2.f3.f0, (rd_T39 t326 x13_3).f2.f3.f1⟩ : S35), (rd_T39 t326 x13_3).f2.f4, (rd_T39 t326 x13_3).f2.f5⟩ : S37)⟩ : S39)]) t326 (wrap64 (x13_3 + 1)) t305 t337) else (none)) else (none)) else (if 0 ≤ x13_3 then ((rollbacknetmake_Codes_Next.f t305 t337 10).bind fun bt343 => ((rollbacknetmake_Codes_Next.f t305 bt343.2 3).bind fun bt345 => ((rollbacknetlaw27_near.f ((rd_T39 t326 x13_3).f0) ((rd_T39 t326 x13_3).f1) ((rd_T39 t326 x13_3).f2.f0) ((rd_T39 t326 x13_3).f2.f1) ((rd_T39 t326 x13_3).f2.f2) ((rd_T39 t326 x13_3).f2.f3.f0) ((rd_T39 t326 x13_3).f2.f3.f1) ((rd_T39 t326 x13_3).f2.f4) ((rd_T39 t326 x13_3).f2.f5) bt343.1 bt345.1).bind fun bt347 => (if x11_3.length < 1954687338268 then (rollbacknetlaw27_scene.l1 k3 t308 t310 x9_17 (x11_3 ++ [(⟨bt347.1, bt347.2.1, (⟨bt347.2.2.1, bt347.2.2.2.1, bt347.2.2.2.2.1, (⟨bt347.2.2.2.2.2.1, bt347.2.2.2.2.2.2.1⟩ : S35), bt347.2.2.2.2.2.2.2.1, bt347.2.2.2.2.2.2.2.2⟩ : S37)⟩ : S39)]) t326 (wrap64 (x13_3 + 1)) t305 bt345.2) else (none))))) else (none))) = some (r1, r2, r3, r4) := H
         have A29 := Aside0.mk A290
         clear A290
         by_cases c30 : t336 > 0
         ·rw [if_pos c30] at H
          have c30b0 : decide (0 < t336) = true := decide_eq_true c30
          clear c30
          by_cases c31 : 0 ≤ x13_3
          ·rw [if_pos c31] at H
           have c31b0 : decide (0 ≤ x13_3) = true := decide_eq_true c31
           clear c31
           by_cases c32 : x11_3.length < 1954687338268
           ·rw [if_pos c32] at H
            have LMc32 := Aside0.mk c32
            clear c32
            obtain ⟨y339, hy339⟩ : ∃ y_ : List (S39), y_ = (x11_3 ++ [(⟨(rd_T39 t326 x13_3).f0, (rd_T39 t326 x13_3).f1, (⟨(rd_T39 t326 x13_3).f2.f0, (rd_T39 t326 x13_3).f2.f1, (rd_T39 t326 x13_3).f2.f2, (⟨(rd_T39 t326 x13_3).f2.f3.f0, (rd_T39 t326 x13_3).f2.f3.f1⟩ : S35), (rd_T39 t326 x13_3).f2.f4, (rd_T39 t326 x13_3).f2.f5⟩ : S37)⟩ : S39)]) := ⟨_, rfl⟩
            replace H : (rollbacknetlaw27_scene.l1 k3 t308 t310 x9_17 y339 t326 (wrap64 (x13_3 + 1)) t305 t337) = some (r1, r2, r3, r4) := by first | (rw [hy339]; with_reducible exact H) | (have H2_ := (Option.bind_some _ _).symm.trans H; rw [hy339]; with_reducible exact H2_) | (have H2_ := (Option.bind_some _ _).symm.trans H; with_reducible exact H2_) | with_reducible exact H | (rw [hy339]; exact H) | exact H
            have Ny339 := Aside0.mk hy339
            clear hy339
            have H' := Aside0.mk H
            clear H
            obtain ⟨Ao33, co33, eo33⟩ := Kd.R_slice HO_12.out
            subst eo33
            go_wp2_with (first | ((with_reducible refine gate_callee (f := 33) rfl ?_); refine goesL_ (some 51) rfl rfl Try.func33 (by kernel_rfl) rfl #[.pointer (some ⟨g307, 0, none⟩), .int .i64 4] rfl (by (try simp only [List.map_toArray, List.map_cons, List.map_nil]); first | done | rfl | (simp only [List.length_drop, List.length_take]; rfl)) ?_; (with_reducible refine (rollbacknetmake_Codes_Next.calls g307 t305 x308001_3 4 t336 t337 w _ ?side1 ?side2 A29.out).mono ?_); (case side1 => repeat (first | (with_reducible first | exact HI307.out | apply IsS66.alloc | apply IsS66.drewN | apply IsS66.drew | apply IsS66.set_1) | exact HI307.out)); (case side2 => repeat (first | (with_reducible first | exact HB.out | apply below_alloc | apply pw_below_drewN | apply below_drew1 | refine below_set ?_ (IsS66.ge HI307.out)) | exact HB.out)); rintro e w34 ⟨rfl, hi, hb, hk⟩; refine ⟨_, rfl, ?_⟩; have n0_ := Aside0.mk (Kd.R_mono (Kd.R_keep (IsS66.apart (show IsS66 w _ g307 t305 x308001_3 from by repeat (first | (with_reducible first | exact HI307.out | apply IsS66.alloc | apply IsS66.drewN | apply IsS66.drew | apply IsS66.set_1) | exact HI307.out)) (rq HO_8.out) (by decide)) hk (fun _ h => h.2)) (fun _ h => h.1)); have n1_ := Aside0.mk (Kd.R_mono (Kd.R_keep (IsS66.apart (show IsS66 w _ g307 t305 x308001_3 from by repeat (first | (with_reducible first | exact HI307.out | apply IsS66.alloc | apply IsS66.drewN | apply IsS66.drew | apply IsS66.set_1) | exact HI307.out)) (rq HO_9.out) (by decide)) hk (fun _ h => h.2)) (fun _ h => h.1)); have n2_ := Aside0.mk (Kd.R_mono (Kd.R_keep (IsS66.apart (show IsS66 w _ g307 t305 x308001_3 from by repeat (first | (with_reducible first | exact HI307.out | apply IsS66.alloc | apply IsS66.drewN | apply IsS66.drew | apply IsS66.set_1) | exact HI307.out)) (rq HO_11.out) (by decide)) hk (fun _ h => h.2)) (fun _ h => h.1)); have n3_ := Aside0.mk (Kd.R_mono (Kd.R_keep (IsS66.apart (show IsS66 w _ g307 t305 x308001_3 from by repeat (first | (with_reducible first | exact HI307.out | apply IsS66.alloc | apply IsS66.drewN | apply IsS66.drew | apply IsS66.set_1) | exact HI307.out)) (rq HO_12.out) (by decide)) hk (fun _ h => h.2)) (fun _ h => h.1)); have n4_ := Aside0.mk (hb); have n5_ := Aside0.mk (hi); clear HO_8; clear HO_9; clear HO_11; clear HO_12; clear HB; clear HI307; have HO_8 := n0_; have HO_9 := n1_; have HO_11 := n2_; have HO_12 := n3_; have HB := n4_; have HI307 := n5_; clear n0_ n1_ n2_ n3_ n4_ n5_; (try clear hb); (try clear hb2); (try clear hk); (try clear hi); have p338 : 0 ≤ (x13_3 : Int) := of_decide_eq_true (by first | (with_reducible assumption) | assumption); have q338 : x13_3 < (t326.length : Int) := of_decide_eq_true (by first | (with_reducible assumption) | assumption); obtain ⟨ad338, e338, hx338_0, hx338_1, hx338_2, hx338_3, hx338_4, hx338_5, hx338_6, hx338_7, hx338_8⟩ := at_T39 (Kd.R_reads' HO_12.out).2.2 x13_3 p338 q338; cases e338; replace p338 := eq_true p338; replace q338 := eq_true q338) | ((with_reducible refine gate_builtin (b := .append) (xs := #[.tmp 53, .tmp 58]) rfl ?_); at_builtin; refine Kd.R_append k39 (w0 := w) w.heap.size rfl (.tmp 53) (.tmp 58) 24 39 (.agg #[(.int .i64 0), (.int .i64 0), (.int .i64 0), (.int .i64 0), (.int .i64 0), (.int .i64 0), (.int .i64 0), (.int .i64 0), (.int .i64 0)]) 72 rfl Try.underlying24 info39 rfl (by decide) (by omega) u11 x11_3 (⟨(rd_T39 t326 x13_3).f0, (rd_T39 t326 x13_3).f1, (⟨(rd_T39 t326 x13_3).f2.f0, (rd_T39 t326 x13_3).f2.f1, (rd_T39 t326 x13_3).f2.f2, (⟨(rd_T39 t326 x13_3).f2.f3.f0, (rd_T39 t326 x13_3).f2.f3.f1⟩ : S35), (rd_T39 t326 x13_3).f2.f4, (rd_T39 t326 x13_3).f2.f5⟩ : S37)⟩ : S39) [.int .i64 ((rd_T39 t326 x13_3).f0), .int .i64 ((rd_T39 t326 x13_3).f1), .int .i64 ((rd_T39 t326 x13_3).f2.f0), .int .i64 ((rd_T39 t326 x13_3).f2.f1), .int .i64 ((rd_T39 t326 x13_3).f2.f2), .int .i64 ((rd_T39 t326 x13_3).f2.f3.f0), .int .i64 ((rd_T39 t326 x13_3).f2.f3.f1), .int .i64 ((rd_T39 t326 x13_3).f2.f4), .int .i64 ((rd_T39 t326 x13_3).f2.f5)] (fun k_ => some k_ ≠ (.slice (some ad338) t326.length co33 : Value).ownBlock) (fun _ => False) rfl rfl ?aP (fun _ hk => hk.elim) ?aF ?aO ?aB ?aS ?aL ?_; (case aP => exact k39_mkM _ _ _ (⟨(rd_T39 t326 x13_3).f0, (rd_T39 t326 x13_3).f1, (⟨(rd_T39 t326 x13_3).f2.f0, (rd_T39 t326 x13_3).f2.f1, (rd_T39 t326 x13_3).f2.f2, (⟨(rd_T39 t326 x13_3).f2.f3.f0, (rd_T39 t326 x13_3).f2.f3.f1⟩ : S35), (rd_T39 t326 x13_3).f2.f4, (rd_T39 t326 x13_3).f2.f5⟩ : S37)⟩ : S39)); (case aB => exact (bq1 HB.out (IsS66.ge HI307.out))); (case aF => exact (fun k_ hk => Kd.fresh' (Kd.R_lt (rq HO_12.out)) k_ hk)); (case aO => exact (rq HO_11.out)); (case aS => exact (below_size (bq1 HB.out (IsS66.ge HI307.out)))); (case aL => have := LMc32.out; omega); intro v340 w35 ho hb hg hat; rw [← Ny339.out] at ho; have n0_ := Aside0.mk (Kd.R_over' (rq HO_8.out) (Kd.R_typed (rq HO_11.out)) (by decide) hg); have n1_ := Aside0.mk (Kd.R_over' (rq HO_9.out) (Kd.R_typed (rq HO_11.out)) (by decide) hg); have n2_ := Aside0.mk (Kd.R_after (ok := (fun _ => True)) (by (with_reducible repeat (first | apply Kd.R_alloc | apply Kd.R_drewN | apply Kd.R_drew)); exact Kd.R_mono HO_12.out (fun _ hk => ⟨trivial, hk⟩)) hg hat); have n3_ := Aside0.mk (IsS66.grown (by repeat (first | (with_reducible first | exact HI307.out | apply IsS66.alloc | apply IsS66.drewN | apply IsS66.drew | apply IsS66.set_1) | exact HI307.out)) hg (IsS66.own_ne HI307.out HO_11.out (by decide))); have n4_ := Aside0.mk (hb); have n5_ := Aside0.mk (ho); clear HO_8; clear HO_9; clear HO_12; clear HI307; clear HB; clear HO_11; have HO_8 := n0_; have HO_9 := n1_; have HO_12 := n2_; have HI307 := n3_; have HB := n4_; have HO341 := n5_; clear n0_ n1_ n2_ n3_ n4_ n5_; clear ho hb hg hat))
            go_roundg k3
            case measure => have := HK1.out; have := HJ17.out; have := HK3.out; omega
            case rel => exact ⟨(y339), (wrap64 (x13_3 + 1)), (t337), (by first | rfl | (simp; done) | (simp [*]; done)), H', ⟨by have := HK1.out; have := HJ17.out; have := HK3.out; omega⟩, ⟨rq HO_8.out⟩, ⟨rq HO_9.out⟩, ⟨rq HO341.out⟩, ⟨by (with_reducible repeat (first | apply Kd.R_alloc | apply Kd.R_drewN | apply Kd.R_drew)); exact Kd.R_mono HO_12.out (fun _ hk => hk.2)⟩, ⟨by repeat (first | (with_reducible first | exact HI307.out | apply IsS66.alloc | apply IsS66.drewN | apply IsS66.drew | apply IsS66.set_1) | exact HI307.out)⟩, ⟨bq1 HB.out (IsS66.ge HI307.out)⟩⟩
           ·rw [if_neg c32] at H
            exact absurd H (by simp)
          ·rw [if_neg c31] at H
           exact absurd H (by simp)
         ·rw [if_neg c30] at H
          have c30b0 : decide (0 < t336) = false := decide_eq_false c30
          clear c30
          by_cases c36 : 0 ≤ x13_3
          ·rw [if_pos c36] at H
           have c36b0 : decide (0 ≤ x13_3) = true := decide_eq_true c36
           clear c36
           replace H := Option.bind_eq_some_iff.mp H
           obtain ⟨⟨t343, t344⟩, A370, H⟩ := H
           replace H : ((rollbacknetmake_Codes_Next.f t305 t344 3).bind fun bt345 => ((rollbacknetlaw27_near.f ((rd_T39 t326 x13_3).f0) ((rd_T39 t326 x13_3).f1) ((rd_T39 t326 x13_3).f2.f0) ((rd_T39 t326 x13_3).f2.f1) ((rd_T39 t326 x13_3).f2.f2) ((rd_T39 t326 x13_3).f2.f3.f0) ((rd_T39 t326 x13_3).f2.f3.f1) ((rd_T39 t326 x13_3).f2.f4) ((rd_T39 t326 x13_3).f2.f5) t343 bt345.1).bind fun bt347 => (if x11_3.length < 1954687338268 then (rollbacknetlaw27_scene.l1 k3 t308 t310 x9_17 (x11_3 ++ [(⟨bt347.1, bt347.2.1, (⟨bt347.2.2.1, bt347.2.2.2.1, bt347.2.2.2.2.1, (⟨bt347.2.2.2.2.2.1, bt347.2.2.2.2.2.2.1⟩ : S35), bt347.2.2.2.2.2.2.2.1, bt347.2.2.2.2.2.2.2.2⟩ : S37)⟩ : S39)]) t326 (wrap64 (x13_3 + 1)) t305 bt345.2) else (none)))) = some (r1, r2, r3, r4) := H
           have A37 := Aside0.mk A370
           clear A370
           replace H := Option.bind_eq_some_iff.mp H
           obtain ⟨⟨t345, t346⟩, A380, H⟩ := H
           replace H : ((rollbacknetlaw27_near.f ((rd_T39 t326 x13_3).f0) ((rd_T39 t326 x13_3).f1) ((rd_T39 t326 x13_3).f2.f0) ((rd_T39 t326 x13_3).f2.f1) ((rd_T39 t326 x13_3).f2.f2) ((rd_T39 t326 x13_3).f2.f3.f0) ((rd_T39 t326 x13_3).f2.f3.f1) ((rd_T39 t326 x13_3).f2.f4) ((rd_T39 t326 x13_3).f2.f5) t343 t345).bind fun bt347 => (if x11_3.length < 1954687338268 then (rollbacknetlaw27_scene.l1 k3 t308 t310 x9_17 (x11_3 ++ [(⟨bt347.1, bt347.2.1, (⟨bt347.2.2.1, bt347.2.2.2.1, bt347.2.2.2.2.1, (⟨bt347.2.2.2.2.2.1, bt347.2.2.2.2.2.2.1⟩ : S35), bt347.2.2.2.2.2.2.2.1, bt347.2.2.2.2.2.2.2.2⟩ : S37)⟩ : S39)]) t326 (wrap64 (x13_3 + 1)) t305 t346) else (none))) = some (r1, r2, r3, r4) := H
           have A38 := Aside0.mk A380
           clear A380
           replace H := Option.bind_eq_some_iff.mp H
           obtain ⟨⟨t347, t348, t349, t350, t351, t352, t353, t354, t355⟩, A390, H⟩ := H
           replace H : (if x11_3.length < 1954687338268 then (rollbacknetlaw27_scene.l1 k3 t308 t310 x9_17 (x11_3 ++ [(⟨t347, t348, (⟨t349, t350, t351, (⟨t352, t353⟩ : S35), t354, t355⟩ : S37)⟩ : S39)]) t326 (wrap64 (x13_3 + 1)) t305 t346) else (none)) = some (r1, r2, r3, r4) := H
           have A39 := Aside0.mk A390
           clear A390
           by_cases c40 : x11_3.length < 1954687338268
           ·rw [if_pos c40] at H
            have LMc40 := Aside0.mk c40
            clear c40
            obtain ⟨y356, hy356⟩ : ∃ y_ : List (S39), y_ = (x11_3 ++ [(⟨t347, t348, (⟨t349, t350, t351, (⟨t352, t353⟩ : S35), t354, t355⟩ : S37)⟩ : S39)]) := ⟨_, rfl⟩
            replace H : (rollbacknetlaw27_scene.l1 k3 t308 t310 x9_17 y356 t326 (wrap64 (x13_3 + 1)) t305 t346) = some (r1, r2, r3, r4) := by first | (rw [hy356]; with_reducible exact H) | (have H2_ := (Option.bind_some _ _).symm.trans H; rw [hy356]; with_reducible exact H2_) | (have H2_ := (Option.bind_some _ _).symm.trans H; with_reducible exact H2_) | with_reducible exact H | (rw [hy356]; exact H) | exact H
            have Ny356 := Aside0.mk hy356
            clear hy356
            have H' := Aside0.mk H
            clear H
            obtain ⟨Ao41, co41, eo41⟩ := Kd.R_slice HO_12.out
            subst eo41
            try go_wp2_with (first | ((with_reducible refine gate_callee (f := 33) rfl ?_); refine goesL_ (some 51) rfl rfl Try.func33 (by kernel_rfl) rfl #[.pointer (some ⟨g307, 0, none⟩), .int .i64 4] rfl (by (try simp only [List.map_toArray, List.map_cons, List.map_nil]); first | done | rfl | (simp only [List.length_drop, List.length_take]; rfl)) ?_; (with_reducible refine (rollbacknetmake_Codes_Next.calls g307 t305 x308001_3 4 t336 t337 w _ ?side1 ?side2 A29.out).mono ?_); (case side1 => repeat (first | (with_reducible first | exact HI307.out | apply IsS66.alloc | apply IsS66.drewN | apply IsS66.drew | apply IsS66.set_1) | exact HI307.out)); (case side2 => repeat (first | (with_reducible first | exact HB.out | apply below_alloc | apply pw_below_drewN | apply below_drew1 | refine below_set ?_ (IsS66.ge HI307.out)) | exact HB.out)); rintro e w42 ⟨rfl, hi, hb, hk⟩; refine ⟨_, rfl, ?_⟩; have n0_ := Aside0.mk (Kd.R_mono (Kd.R_keep (IsS66.apart (show IsS66 w _ g307 t305 x308001_3 from by repeat (first | (with_reducible first | exact HI307.out | apply IsS66.alloc | apply IsS66.drewN | apply IsS66.drew | apply IsS66.set_1) | exact HI307.out)) (rq HO_8.out) (by decide)) hk (fun _ h => h.2)) (fun _ h => h.1)); have n1_ := Aside0.mk (Kd.R_mono (Kd.R_keep (IsS66.apart (show IsS66 w _ g307 t305 x308001_3 from by repeat (first | (with_reducible first | exact HI307.out | apply IsS66.alloc | apply IsS66.drewN | apply IsS66.drew | apply IsS66.set_1) | exact HI307.out)) (rq HO_9.out) (by decide)) hk (fun _ h => h.2)) (fun _ h => h.1)); have n2_ := Aside0.mk (Kd.R_mono (Kd.R_keep (IsS66.apart (show IsS66 w _ g307 t305 x308001_3 from by repeat (first | (with_reducible first | exact HI307.out | apply IsS66.alloc | apply IsS66.drewN | apply IsS66.drew | apply IsS66.set_1) | exact HI307.out)) (rq HO_11.out) (by decide)) hk (fun _ h => h.2)) (fun _ h => h.1)); have n3_ := Aside0.mk (Kd.R_mono (Kd.R_keep (IsS66.apart (show IsS66 w _ g307 t305 x308001_3 from by repeat (first | (with_reducible first | exact HI307.out | apply IsS66.alloc | apply IsS66.drewN | apply IsS66.drew | apply IsS66.set_1) | exact HI307.out)) (rq HO_12.out) (by decide)) hk (fun _ h => h.2)) (fun _ h => h.1)); have n4_ := Aside0.mk (hb); have n5_ := Aside0.mk (hi); clear HO_8; clear HO_9; clear HO_11; clear HO_12; clear HB; clear HI307; have HO_8 := n0_; have HO_9 := n1_; have HO_11 := n2_; have HO_12 := n3_; have HB := n4_; have HI307 := n5_; clear n0_ n1_ n2_ n3_ n4_ n5_; (try clear hb); (try clear hb2); (try clear hk); (try clear hi)))
            have n0_ := Aside0.mk (Kd.R_drew HO_8.out)
            have n1_ := Aside0.mk (Kd.R_drew HO_9.out)
            have n2_ := Aside0.mk (Kd.R_drew HO_11.out)
            have n3_ := Aside0.mk (Kd.R_drew HO_12.out)
            have n4_ := Aside0.mk (IsS66.drew HI307.out)
            have n5_ := Aside0.mk (below_drew1 HB.out)
            clear HO_8
            clear HO_9
            clear HO_11
            clear HO_12
            clear HI307
            clear HB
            have HO_8 := n0_
            have HO_9 := n1_
            have HO_11 := n2_
            have HO_12 := n3_
            have HI307 := n4_
            have HB := n5_
            clear n0_ n1_ n2_ n3_ n4_ n5_
            have p342 : 0 ≤ (x13_3 : Int) := of_decide_eq_true (by first | (with_reducible assumption) | assumption)
            have q342 : x13_3 < (t326.length : Int) := of_decide_eq_true (by first | (with_reducible assumption) | assumption)
            obtain ⟨ad342, e342, hx342_0, hx342_1, hx342_2, hx342_3, hx342_4, hx342_5, hx342_6, hx342_7, hx342_8⟩ := at_T39 (Kd.R_reads' HO_12.out).2.2 x13_3 p342 q342
            cases e342
            replace p342 := eq_true p342
            replace q342 := eq_true q342
            refine start_ (n := 13) (S := fun w' => w'.cell? (ad342.add ((x13_3).toNat * 9)) = some (.int .i64 ((rd_T39 t326 x13_3).f0)) ∧ w'.cell? ⟨(ad342.add ((x13_3).toNat * 9)).block, (ad342.add ((x13_3).toNat * 9)).off + 1, none⟩ = some (.int .i64 ((rd_T39 t326 x13_3).f1)) ∧ w'.cell? ⟨(ad342.add ((x13_3).toNat * 9)).block, (ad342.add ((x13_3).toNat * 9)).off + 2, none⟩ = some (.int .i64 ((rd_T39 t326 x13_3).f2.f0)) ∧ w'.cell? ⟨(ad342.add ((x13_3).toNat * 9)).block, (ad342.add ((x13_3).toNat * 9)).off + 3, none⟩ = some (.int .i64 ((rd_T39 t326 x13_3).f2.f1)) ∧ w'.cell? ⟨(ad342.add ((x13_3).toNat * 9)).block, (ad342.add ((x13_3).toNat * 9)).off + 4, none⟩ = some (.int .i64 ((rd_T39 t326 x13_3).f2.f2)) ∧ w'.cell? ⟨(ad342.add ((x13_3).toNat * 9)).block, (ad342.add ((x13_3).toNat * 9)).off + 5, none⟩ = some (.int .i64 ((rd_T39 t326 x13_3).f2.f3.f0)) ∧ w'.cell? ⟨(ad342.add ((x13_3).toNat * 9)).block, (ad342.add ((x13_3).toNat * 9)).off + 6, none⟩ = some (.int .i64 ((rd_T39 t326 x13_3).f2.f3.f1)) ∧ w'.cell? ⟨(ad342.add ((x13_3).toNat * 9)).block, (ad342.add ((x13_3).toNat * 9)).off + 7, none⟩ = some (.int .i64 ((rd_T39 t326 x13_3).f2.f4)) ∧ w'.cell? ⟨(ad342.add ((x13_3).toNat * 9)).block, (ad342.add ((x13_3).toNat * 9)).off + 8, none⟩ = some (.int .i64 ((rd_T39 t326 x13_3).f2.f5))) (ds := [10, 11]) #[false, false, false, false, false, false, false, false, false, false, false, false, false] (by kernel_rfl) rfl rfl ⟨hx342_0, hx342_1, hx342_2, hx342_3, hx342_4, hx342_5, hx342_6, hx342_7, hx342_8⟩ (fun hHeld => ?_); refine with_tabW rollbacknetlaw27_scene.tab18 rollbacknetlaw27_scene.bits18 (fun HT_ HW_ => ?_)
            generalize w42.drew = w43 at HO_8 HO_9 HO_11 HO_12 HI307 HB hx342_0 hx342_1 hx342_2 hx342_3 hx342_4 hx342_5 hx342_6 hx342_7 hx342_8 hHeld ⊢
            refine pure_ (i := 0) (N := some 60) (v := ?_) (a' := ?_) #[true, false, false, false, false, false, false, false, false, false, false, false, false] rfl rfl (any_of HT_.out (by kernel_rfl)) (fun _ _ _ h => h) (Or.inl ⟨by rfl, ?_⟩) ?_ ?_
            rotate_left
            ·intro w'
             go_simp
             with_reducible rfl
            rotate_left
            ·simp only [Act.put, List.setIfInBounds_toArray, List.set_cons_zero, List.set_cons_succ, i64_w, i32_w]
             rfl
            refine pure_ (i := 1) (N := some 61) (v := ?_) (a' := ?_) #[true, true, false, false, false, false, false, false, false, false, false, false, false] rfl rfl (any_of HT_.out (by kernel_rfl)) (fun _ _ _ h => h) (Or.inl ⟨by rfl, ?_⟩) ?_ ?_
            rotate_left
            ·intro w'
             go_simp
             with_reducible rfl
            rotate_left
            ·simp only [Act.put, List.setIfInBounds_toArray, List.set_cons_zero, List.set_cons_succ, i64_w, i32_w]
             rfl
            refine pure_ (i := 2) (N := some 62) (v := ?_) (a' := ?_) #[true, true, true, false, false, false, false, false, false, false, false, false, false] rfl rfl (any_of HT_.out (by kernel_rfl)) (fun _ _ _ h => h) (Or.inl ⟨by rfl, ?_⟩) ?_ ?_
            rotate_left
            ·intro w'
             go_simp
             with_reducible rfl
            rotate_left
            ·simp only [Act.put, List.setIfInBounds_toArray, List.set_cons_zero, List.set_cons_succ, i64_w, i32_w]
             rfl
            refine pure_ (i := 3) (N := some 63) (v := ?_) (a' := ?_) #[true, true, true, true, false, false, false, false, false, false, false, false, false] rfl rfl (any_of HT_.out (by kernel_rfl)) (fun _ _ _ h => h) (Or.inl ⟨by rfl, ?_⟩) ?_ ?_
            rotate_left
            ·intro w'
             go_simp
             with_reducible rfl
            rotate_left
            ·simp only [Act.put, List.setIfInBounds_toArray, List.set_cons_zero, List.set_cons_succ, i64_w, i32_w]
             rfl
            refine pure_ (i := 5) (N := some 65) (v := ?_) (a' := ?_) #[true, true, true, true, false, true, false, false, false, false, false, false, false] rfl rfl (any_of HT_.out (by kernel_rfl)) (fun _ _ _ h => h) (Or.inl ⟨by rfl, ?_⟩) ?_ ?_
            rotate_left
            ·intro w'
             go_simp
             with_reducible rfl
            rotate_left
            ·simp only [Act.put, List.setIfInBounds_toArray, List.set_cons_zero, List.set_cons_succ, i64_w, i32_w]
             rfl
            refine pure_ (i := 7) (N := some 67) (v := ?_) (a' := ?_) #[true, true, true, true, false, true, false, true, false, false, false, false, false] rfl rfl (any_of HT_.out (by kernel_rfl)) (fun _ _ _ h => h) (Or.inl ⟨by rfl, ?_⟩) ?_ ?_
            rotate_left
            ·intro w'
             go_simp
             with_reducible rfl
            rotate_left
            ·simp only [Act.put, List.setIfInBounds_toArray, List.set_cons_zero, List.set_cons_succ, i64_w, i32_w]
             rfl
            refine take_ (i := 4) (N := some 64) (v := ?_) (a' := ?_) #[true, true, true, true, true, true, false, true, false, false, false, false, false] rfl rfl (take_ofW HT_.out HW_.out (by kernel_rfl)) (fun _ _ _ h => h) (Or.inl ⟨by rfl, ?_⟩) hHeld ?_ ?_
            rotate_left
            ·rintro w' ⟨s0, s1, s2, s3, s4, s5, s6, s7, s8⟩
             go_simp
             with_reducible rfl
            rotate_left
            ·simp only [Act.put, List.setIfInBounds_toArray, List.set_cons_zero, List.set_cons_succ, i64_w, i32_w]
             rfl
            refine one_ (i := 6) (N := some 66) #[true, true, true, true, true, true, true, true, false, false, false, false, false] rfl rfl (one_of HT_.out (by kernel_rfl)) (by decide) (fun K hK => ?_)
            refine goes_ Try.func33 (by kernel_rfl) rfl #[.pointer (some ⟨g307, 0, none⟩), .int .i64 10] (by first | rfl | (refine wanted_on rfl rfl rfl ?_; first | assumption | (simp [*]; done))) rfl rfl (by (try simp only [List.map_toArray, List.map_cons, List.map_nil]); first | done | rfl | (simp only [List.length_drop, List.length_take]; rfl)) ?_
            with_reducible refine (rollbacknetmake_Codes_Next.calls g307 t305 t337 10 t343 t344 w _ ?side1 ?side2 A37.out).mono ?_
            (case side1 => repeat (first | (with_reducible first | exact HI307.out | apply IsS66.alloc | apply IsS66.drewN | apply IsS66.drew | apply IsS66.set_1) | exact HI307.out))
            (case side2 => repeat (first | (with_reducible first | exact HB.out | apply below_alloc | apply pw_below_drewN | apply below_drew1 | refine below_set ?_ (IsS66.ge HI307.out)) | exact HB.out))
            rintro e w44 ⟨rfl, hi, hb, hk⟩
            have HS0_ := keep_cell hk (hHeld.1) (by first | (rw [add_block]; exact Kd.own_blk (IsS66.own_ne HI307.out HO_12.out (by decide))) | (show (Addr.add _ _).block ≠ _; rw [add_block]; exact Kd.own_blk (IsS66.own_ne HI307.out HO_12.out (by decide))) | exact Kd.own_blk (IsS66.own_ne HI307.out HO_12.out (by decide)))
            have HS1_ := keep_cell hk (hHeld.2.1) (by first | (rw [add_block]; exact Kd.own_blk (IsS66.own_ne HI307.out HO_12.out (by decide))) | (show (Addr.add _ _).block ≠ _; rw [add_block]; exact Kd.own_blk (IsS66.own_ne HI307.out HO_12.out (by decide))) | exact Kd.own_blk (IsS66.own_ne HI307.out HO_12.out (by decide)))
            have HS2_ := keep_cell hk (hHeld.2.2.1) (by first | (rw [add_block]; exact Kd.own_blk (IsS66.own_ne HI307.out HO_12.out (by decide))) | (show (Addr.add _ _).block ≠ _; rw [add_block]; exact Kd.own_blk (IsS66.own_ne HI307.out HO_12.out (by decide))) | exact Kd.own_blk (IsS66.own_ne HI307.out HO_12.out (by decide)))
            have HS3_ := keep_cell hk (hHeld.2.2.2.1) (by first | (rw [add_block]; exact Kd.own_blk (IsS66.own_ne HI307.out HO_12.out (by decide))) | (show (Addr.add _ _).block ≠ _; rw [add_block]; exact Kd.own_blk (IsS66.own_ne HI307.out HO_12.out (by decide))) | exact Kd.own_blk (IsS66.own_ne HI307.out HO_12.out (by decide)))
            have HS4_ := keep_cell hk (hHeld.2.2.2.2.1) (by first | (rw [add_block]; exact Kd.own_blk (IsS66.own_ne HI307.out HO_12.out (by decide))) | (show (Addr.add _ _).block ≠ _; rw [add_block]; exact Kd.own_blk (IsS66.own_ne HI307.out HO_12.out (by decide))) | exact Kd.own_blk (IsS66.own_ne HI307.out HO_12.out (by decide)))
            have HS5_ := keep_cell hk (hHeld.2.2.2.2.2.1) (by first | (rw [add_block]; exact Kd.own_blk (IsS66.own_ne HI307.out HO_12.out (by decide))) | (show (Addr.add _ _).block ≠ _; rw [add_block]; exact Kd.own_blk (IsS66.own_ne HI307.out HO_12.out (by decide))) | exact Kd.own_blk (IsS66.own_ne HI307.out HO_12.out (by decide)))
            have HS6_ := keep_cell hk (hHeld.2.2.2.2.2.2.1) (by first | (rw [add_block]; exact Kd.own_blk (IsS66.own_ne HI307.out HO_12.out (by decide))) | (show (Addr.add _ _).block ≠ _; rw [add_block]; exact Kd.own_blk (IsS66.own_ne HI307.out HO_12.out (by decide))) | exact Kd.own_blk (IsS66.own_ne HI307.out HO_12.out (by decide)))
            have HS7_ := keep_cell hk (hHeld.2.2.2.2.2.2.2.1) (by first | (rw [add_block]; exact Kd.own_blk (IsS66.own_ne HI307.out HO_12.out (by decide))) | (show (Addr.add _ _).block ≠ _; rw [add_block]; exact Kd.own_blk (IsS66.own_ne HI307.out HO_12.out (by decide))) | exact Kd.own_blk (IsS66.own_ne HI307.out HO_12.out (by decide)))
            have HS8_ := keep_cell hk (hHeld.2.2.2.2.2.2.2.2) (by first | (rw [add_block]; exact Kd.own_blk (IsS66.own_ne HI307.out HO_12.out (by decide))) | (show (Addr.add _ _).block ≠ _; rw [add_block]; exact Kd.own_blk (IsS66.own_ne HI307.out HO_12.out (by decide))) | exact Kd.own_blk (IsS66.own_ne HI307.out HO_12.out (by decide)))
            refine ⟨_, rfl, ?_⟩
            have n0_ := Aside0.mk (Kd.R_mono (Kd.R_keep (IsS66.apart (show IsS66 w _ g307 t305 t337 from by repeat (first | (with_reducible first | exact HI307.out | apply IsS66.alloc | apply IsS66.drewN | apply IsS66.drew | apply IsS66.set_1) | exact HI307.out)) (rq HO_8.out) (by decide)) hk (fun _ h => h.2)) (fun _ h => h.1))
            have n1_ := Aside0.mk (Kd.R_mono (Kd.R_keep (IsS66.apart (show IsS66 w _ g307 t305 t337 from by repeat (first | (with_reducible first | exact HI307.out | apply IsS66.alloc | apply IsS66.drewN | apply IsS66.drew | apply IsS66.set_1) | exact HI307.out)) (rq HO_9.out) (by decide)) hk (fun _ h => h.2)) (fun _ h => h.1))
            have n2_ := Aside0.mk (Kd.R_mono (Kd.R_keep (IsS66.apart (show IsS66 w _ g307 t305 t337 from by repeat (first | (with_reducible first | exact HI307.out | apply IsS66.alloc | apply IsS66.drewN | apply IsS66.drew | apply IsS66.set_1) | exact HI307.out)) (rq HO_11.out) (by decide)) hk (fun _ h => h.2)) (fun _ h => h.1))
            have n3_ := Aside0.mk (Kd.R_mono (Kd.R_keep (IsS66.apart (show IsS66 w _ g307 t305 t337 from by repeat (first | (with_reducible first | exact HI307.out | apply IsS66.alloc | apply IsS66.drewN | apply IsS66.drew | apply IsS66.set_1) | exact HI307.out)) (rq HO_12.out) (by decide)) hk (fun _ h => h.2)) (fun _ h => h.1))
            have n4_ := Aside0.mk (hb)
            have n5_ := Aside0.mk (hi)
            clear HO_8
            clear HO_9
            clear HO_11
            clear HO_12
            clear HB
            clear HI307
            have HO_8 := n0_
            have HO_9 := n1_
            have HO_11 := n2_
            have HO_12 := n3_
            have HB := n4_
            have HI307 := n5_
            clear n0_ n1_ n2_ n3_ n4_ n5_
            (try clear hb)
            (try clear hb2)
            (try clear hk)
            (try clear hi)
            refine hK.out _ _ ⟨HS0_, HS1_, HS2_, HS3_, HS4_, HS5_, HS6_, HS7_, HS8_⟩ (fun hHeld => ?_)
            clear hK K
            refine norm_ (a' := ?_) ?_ ?_
            rotate_left
            ·show Act.put _ (some 66) _ = _
             simp only [Act.put, List.setIfInBounds_toArray, List.set_cons_zero, List.set_cons_succ, i64_w, i32_w]
             rfl
            refine one_ (i := 8) (N := some 68) #[true, true, true, true, true, true, true, true, true, false, false, false, false] rfl rfl (one_of HT_.out (by kernel_rfl)) (by decide) (fun K hK => ?_)
            refine goes_ Try.func33 (by kernel_rfl) rfl #[.pointer (some ⟨g307, 0, none⟩), .int .i64 3] (by first | rfl | (refine wanted_on rfl rfl rfl ?_; first | assumption | (simp [*]; done))) rfl rfl (by (try simp only [List.map_toArray, List.map_cons, List.map_nil]); first | done | rfl | (simp only [List.length_drop, List.length_take]; rfl)) ?_
            with_reducible refine (rollbacknetmake_Codes_Next.calls g307 t305 t344 3 t345 t346 w _ ?side1 ?side2 A38.out).mono ?_
            (case side1 => repeat (first | (with_reducible first | exact HI307.out | apply IsS66.alloc | apply IsS66.drewN | apply IsS66.drew | apply IsS66.set_1) | exact HI307.out))
            (case side2 => repeat (first | (with_reducible first | exact HB.out | apply below_alloc | apply pw_below_drewN | apply below_drew1 | refine below_set ?_ (IsS66.ge HI307.out)) | exact HB.out))
            rintro e w45 ⟨rfl, hi, hb, hk⟩
            have HS0_ := keep_cell hk (hHeld.1) (by first | (rw [add_block]; exact Kd.own_blk (IsS66.own_ne HI307.out HO_12.out (by decide))) | (show (Addr.add _ _).block ≠ _; rw [add_block]; exact Kd.own_blk (IsS66.own_ne HI307.out HO_12.out (by decide))) | exact Kd.own_blk (IsS66.own_ne HI307.out HO_12.out (by decide)))
            have HS1_ := keep_cell hk (hHeld.2.1) (by first | (rw [add_block]; exact Kd.own_blk (IsS66.own_ne HI307.out HO_12.out (by decide))) | (show (Addr.add _ _).block ≠ _; rw [add_block]; exact Kd.own_blk (IsS66.own_ne HI307.out HO_12.out (by decide))) | exact Kd.own_blk (IsS66.own_ne HI307.out HO_12.out (by decide)))
            have HS2_ := keep_cell hk (hHeld.2.2.1) (by first | (rw [add_block]; exact Kd.own_blk (IsS66.own_ne HI307.out HO_12.out (by decide))) | (show (Addr.add _ _).block ≠ _; rw [add_block]; exact Kd.own_blk (IsS66.own_ne HI307.out HO_12.out (by decide))) | exact Kd.own_blk (IsS66.own_ne HI307.out HO_12.out (by decide)))
            have HS3_ := keep_cell hk (hHeld.2.2.2.1) (by first | (rw [add_block]; exact Kd.own_blk (IsS66.own_ne HI307.out HO_12.out (by decide))) | (show (Addr.add _ _).block ≠ _; rw [add_block]; exact Kd.own_blk (IsS66.own_ne HI307.out HO_12.out (by decide))) | exact Kd.own_blk (IsS66.own_ne HI307.out HO_12.out (by decide)))
            have HS4_ := keep_cell hk (hHeld.2.2.2.2.1) (by first | (rw [add_block]; exact Kd.own_blk (IsS66.own_ne HI307.out HO_12.out (by decide))) | (show (Addr.add _ _).block ≠ _; rw [add_block]; exact Kd.own_blk (IsS66.own_ne HI307.out HO_12.out (by decide))) | exact Kd.own_blk (IsS66.own_ne HI307.out HO_12.out (by decide)))
            have HS5_ := keep_cell hk (hHeld.2.2.2.2.2.1) (by first | (rw [add_block]; exact Kd.own_blk (IsS66.own_ne HI307.out HO_12.out (by decide))) | (show (Addr.add _ _).block ≠ _; rw [add_block]; exact Kd.own_blk (IsS66.own_ne HI307.out HO_12.out (by decide))) | exact Kd.own_blk (IsS66.own_ne HI307.out HO_12.out (by decide)))
            have HS6_ := keep_cell hk (hHeld.2.2.2.2.2.2.1) (by first | (rw [add_block]; exact Kd.own_blk (IsS66.own_ne HI307.out HO_12.out (by decide))) | (show (Addr.add _ _).block ≠ _; rw [add_block]; exact Kd.own_blk (IsS66.own_ne HI307.out HO_12.out (by decide))) | exact Kd.own_blk (IsS66.own_ne HI307.out HO_12.out (by decide)))
            have HS7_ := keep_cell hk (hHeld.2.2.2.2.2.2.2.1) (by first | (rw [add_block]; exact Kd.own_blk (IsS66.own_ne HI307.out HO_12.out (by decide))) | (show (Addr.add _ _).block ≠ _; rw [add_block]; exact Kd.own_blk (IsS66.own_ne HI307.out HO_12.out (by decide))) | exact Kd.own_blk (IsS66.own_ne HI307.out HO_12.out (by decide)))
            have HS8_ := keep_cell hk (hHeld.2.2.2.2.2.2.2.2) (by first | (rw [add_block]; exact Kd.own_blk (IsS66.own_ne HI307.out HO_12.out (by decide))) | (show (Addr.add _ _).block ≠ _; rw [add_block]; exact Kd.own_blk (IsS66.own_ne HI307.out HO_12.out (by decide))) | exact Kd.own_blk (IsS66.own_ne HI307.out HO_12.out (by decide)))
            refine ⟨_, rfl, ?_⟩
            have n0_ := Aside0.mk (Kd.R_mono (Kd.R_keep (IsS66.apart (show IsS66 w _ g307 t305 t344 from by repeat (first | (with_reducible first | exact HI307.out | apply IsS66.alloc | apply IsS66.drewN | apply IsS66.drew | apply IsS66.set_1) | exact HI307.out)) (rq HO_8.out) (by decide)) hk (fun _ h => h.2)) (fun _ h => h.1))
            have n1_ := Aside0.mk (Kd.R_mono (Kd.R_keep (IsS66.apart (show IsS66 w _ g307 t305 t344 from by repeat (first | (with_reducible first | exact HI307.out | apply IsS66.alloc | apply IsS66.drewN | apply IsS66.drew | apply IsS66.set_1) | exact HI307.out)) (rq HO_9.out) (by decide)) hk (fun _ h => h.2)) (fun _ h => h.1))
            have n2_ := Aside0.mk (Kd.R_mono (Kd.R_keep (IsS66.apart (show IsS66 w _ g307 t305 t344 from by repeat (first | (with_reducible first | exact HI307.out | apply IsS66.alloc | apply IsS66.drewN | apply IsS66.drew | apply IsS66.set_1) | exact HI307.out)) (rq HO_11.out) (by decide)) hk (fun _ h => h.2)) (fun _ h => h.1))
            have n3_ := Aside0.mk (Kd.R_mono (Kd.R_keep (IsS66.apart (show IsS66 w _ g307 t305 t344 from by repeat (first | (with_reducible first | exact HI307.out | apply IsS66.alloc | apply IsS66.drewN | apply IsS66.drew | apply IsS66.set_1) | exact HI307.out)) (rq HO_12.out) (by decide)) hk (fun _ h => h.2)) (fun _ h => h.1))
            have n4_ := Aside0.mk (hb)
            have n5_ := Aside0.mk (hi)
            clear HO_8
            clear HO_9
            clear HO_11
            clear HO_12
            clear HB
            clear HI307
            have HO_8 := n0_
            have HO_9 := n1_
            have HO_11 := n2_
            have HO_12 := n3_
            have HB := n4_
            have HI307 := n5_
            clear n0_ n1_ n2_ n3_ n4_ n5_
            (try clear hb)
            (try clear hb2)
            (try clear hk)
            (try clear hi)
            refine hK.out _ _ ⟨HS0_, HS1_, HS2_, HS3_, HS4_, HS5_, HS6_, HS7_, HS8_⟩ (fun hHeld => ?_)
            clear hK K
            refine norm_ (a' := ?_) ?_ ?_
            rotate_left
            ·show Act.put _ (some 68) _ = _
             simp only [Act.put, List.setIfInBounds_toArray, List.set_cons_zero, List.set_cons_succ, i64_w, i32_w]
             rfl
            refine one_ (i := 9) (N := some 69) #[true, true, true, true, true, true, true, true, true, true, false, false, false] rfl rfl (one_of HT_.out (by kernel_rfl)) (by decide) (fun K hK => ?_)
            refine goes_ Try.func20 (by kernel_rfl) rfl #[.agg #[.int .i64 ((rd_T39 t326 x13_3).f0), .int .i64 ((rd_T39 t326 x13_3).f1), .int .i64 ((rd_T39 t326 x13_3).f2.f0), .int .i64 ((rd_T39 t326 x13_3).f2.f1), .int .i64 ((rd_T39 t326 x13_3).f2.f2), .int .i64 ((rd_T39 t326 x13_3).f2.f3.f0), .int .i64 ((rd_T39 t326 x13_3).f2.f3.f1), .int .i64 ((rd_T39 t326 x13_3).f2.f4), .int .i64 ((rd_T39 t326 x13_3).f2.f5)], .int .i64 t343, .int .i64 t345] (by first | rfl | (refine wanted_on rfl rfl rfl ?_; first | assumption | (simp [*]; done))) rfl rfl (by (try simp only [List.map_toArray, List.map_cons, List.map_nil]); first | done | rfl | (simp only [List.length_drop, List.length_take]; rfl)) ?_
            with_reducible refine (rollbacknetlaw27_near.calls ((rd_T39 t326 x13_3).f0) ((rd_T39 t326 x13_3).f1) ((rd_T39 t326 x13_3).f2.f0) ((rd_T39 t326 x13_3).f2.f1) ((rd_T39 t326 x13_3).f2.f2) ((rd_T39 t326 x13_3).f2.f3.f0) ((rd_T39 t326 x13_3).f2.f3.f1) ((rd_T39 t326 x13_3).f2.f4) ((rd_T39 t326 x13_3).f2.f5) t343 t345 t347 t348 t349 t350 t351 t352 t353 t354 t355 _ A39.out).mono ?_
            rintro e w46 ⟨rfl, hb⟩
            have HS0_ := (hb.cell (World.block_lt_of_cell? _ _ (hHeld.1))).trans (hHeld.1)
            have HS1_ := (hb.cell (World.block_lt_of_cell? _ _ (hHeld.2.1))).trans (hHeld.2.1)
            have HS2_ := (hb.cell (World.block_lt_of_cell? _ _ (hHeld.2.2.1))).trans (hHeld.2.2.1)
            have HS3_ := (hb.cell (World.block_lt_of_cell? _ _ (hHeld.2.2.2.1))).trans (hHeld.2.2.2.1)
            have HS4_ := (hb.cell (World.block_lt_of_cell? _ _ (hHeld.2.2.2.2.1))).trans (hHeld.2.2.2.2.1)
            have HS5_ := (hb.cell (World.block_lt_of_cell? _ _ (hHeld.2.2.2.2.2.1))).trans (hHeld.2.2.2.2.2.1)
            have HS6_ := (hb.cell (World.block_lt_of_cell? _ _ (hHeld.2.2.2.2.2.2.1))).trans (hHeld.2.2.2.2.2.2.1)
            have HS7_ := (hb.cell (World.block_lt_of_cell? _ _ (hHeld.2.2.2.2.2.2.2.1))).trans (hHeld.2.2.2.2.2.2.2.1)
            have HS8_ := (hb.cell (World.block_lt_of_cell? _ _ (hHeld.2.2.2.2.2.2.2.2))).trans (hHeld.2.2.2.2.2.2.2.2)
            refine ⟨_, rfl, ?_⟩
            have n0_ := Aside0.mk (Kd.R_below (rq HO_8.out) hb)
            have n1_ := Aside0.mk (Kd.R_below (rq HO_9.out) hb)
            have n2_ := Aside0.mk (Kd.R_below (rq HO_11.out) hb)
            have n3_ := Aside0.mk (Kd.R_below (rq HO_12.out) hb)
            have n4_ := Aside0.mk (IsS66.below (by repeat (first | (with_reducible first | exact HI307.out | apply IsS66.alloc | apply IsS66.drewN | apply IsS66.drew | apply IsS66.set_1) | exact HI307.out)) hb)
            have n5_ := Aside0.mk (below_step (bq1 HB.out (IsS66.ge HI307.out)) hb)
            clear HO_8
            clear HO_9
            clear HO_11
            clear HO_12
            clear HI307
            clear HB
            have HO_8 := n0_
            have HO_9 := n1_
            have HO_11 := n2_
            have HO_12 := n3_
            have HI307 := n4_
            have HB := n5_
            clear n0_ n1_ n2_ n3_ n4_ n5_
            (try clear hb)
            (try clear hb2)
            (try clear hk)
            (try clear hi)
            refine hK.out _ _ ⟨HS0_, HS1_, HS2_, HS3_, HS4_, HS5_, HS6_, HS7_, HS8_⟩ (fun hHeld => ?_)
            clear hK K
            refine norm_ (a' := ?_) ?_ ?_
            rotate_left
            ·show Act.put _ (some 69) _ = _
             simp only [Act.put, List.setIfInBounds_toArray, List.set_cons_zero, List.set_cons_succ, i64_w, i32_w]
             rfl
            refine last_ (i := 10) (N := some 70) #[true, true, true, true, true, true, true, true, true, true, true, false, false] rfl rfl (one_of HT_.out (by kernel_rfl)) (by decide) (fun K hK => ?_)
            refine value_ (w1 := ?_) (v := ?_) (by rfl) rfl ?_ ?_
            rotate_left 2
            ·go_simp
             constructor
             ·rfl
             ·rfl
            refine hK.out _ _ ?_
            clear hK K
            refine norm_ (a' := ?_) ?_ ?_
            rotate_left
            ·show Act.put _ (some 70) _ = _
             simp only [Act.put, List.setIfInBounds_toArray, List.set_cons_zero, List.set_cons_succ, i64_w, i32_w]
             rfl
            refine last_ (i := 11) (N := some 71) #[true, true, true, true, true, true, true, true, true, true, true, true, false] rfl rfl (one_of HT_.out (by kernel_rfl)) (by decide) (fun K hK => ?_)
            refine Kd.R_append_step k39 (w0 := w) w.heap.size (by rfl) (.tmp 60) (.tmp 70) 24 39 (.agg #[(.int .i64 0), (.int .i64 0), (.int .i64 0), (.int .i64 0), (.int .i64 0), (.int .i64 0), (.int .i64 0), (.int .i64 0), (.int .i64 0)]) 72 rfl Try.underlying24 info39 rfl (by decide) (by omega) u11 x11_3 (⟨t347, t348, (⟨t349, t350, t351, (⟨t352, t353⟩ : S35), t354, t355⟩ : S37)⟩ : S39) [.int .i64 t347, .int .i64 t348, .int .i64 t349, .int .i64 t350, .int .i64 t351, .int .i64 t352, .int .i64 t353, .int .i64 t354, .int .i64 t355] (fun k_ => some k_ ≠ (.slice (some ad342) t326.length co41 : Value).ownBlock) (fun _ => False) rfl rfl ?aP (fun _ hk => hk.elim) ?aF ?aO ?aB ?aS ?aL ?_
            (case aP => exact k39_mkM _ _ _ (⟨t347, t348, (⟨t349, t350, t351, (⟨t352, t353⟩ : S35), t354, t355⟩ : S37)⟩ : S39))
            (case aB => exact (bq1 HB.out (IsS66.ge HI307.out)))
            (case aF => exact (fun k_ hk => Kd.fresh' (Kd.R_lt (rq HO_12.out)) k_ hk))
            (case aO => exact (rq HO_11.out))
            (case aS => exact (below_size (bq1 HB.out (IsS66.ge HI307.out))))
            (case aL => have := LMc40.out; omega)
            intro v357 w47 ho hb hg hat
            rw [← Ny356.out] at ho
            have n0_ := Aside0.mk (Kd.R_over' (rq HO_8.out) (Kd.R_typed (rq HO_11.out)) (by decide) hg)
            have n1_ := Aside0.mk (Kd.R_over' (rq HO_9.out) (Kd.R_typed (rq HO_11.out)) (by decide) hg)
            have n2_ := Aside0.mk (Kd.R_after (ok := (fun _ => True)) (by (with_reducible repeat (first | apply Kd.R_alloc | apply Kd.R_drewN | apply Kd.R_drew)); exact Kd.R_mono HO_12.out (fun _ hk => ⟨trivial, hk⟩)) hg hat)
            have n3_ := Aside0.mk (IsS66.grown (by repeat (first | (with_reducible first | exact HI307.out | apply IsS66.alloc | apply IsS66.drewN | apply IsS66.drew | apply IsS66.set_1) | exact HI307.out)) hg (IsS66.own_ne HI307.out HO_11.out (by decide)))
            have n4_ := Aside0.mk (hb)
            have n5_ := Aside0.mk (ho)
            clear HO_8
            clear HO_9
            clear HO_12
            clear HI307
            clear HB
            clear HO_11
            have HO_8 := n0_
            have HO_9 := n1_
            have HO_12 := n2_
            have HI307 := n3_
            have HB := n4_
            have HO358 := n5_
            clear n0_ n1_ n2_ n3_ n4_ n5_
            clear ho hb hg hat
            refine hK.out _ _ ?_
            clear hK K
            refine norm_ (a' := ?_) ?_ ?_
            rotate_left
            ·show Act.put _ (some 71) _ = _
             simp only [Act.put, List.setIfInBounds_toArray, List.set_cons_zero, List.set_cons_succ, i64_w, i32_w]
             rfl
            refine pure_ (i := 12) (N := some 11) (v := ?_) (a' := ?_) #[true, true, true, true, true, true, true, true, true, true, true, true, true] rfl rfl (any_of HT_.out (by kernel_rfl)) (fun _ _ _ h => h) (Or.inl ⟨by rfl, ?_⟩) ?_ ?_
            rotate_left
            ·intro w'
             go_simp
             with_reducible rfl
            rotate_left
            ·simp only [Act.put, List.setIfInBounds_toArray, List.set_cons_zero, List.set_cons_succ, i64_w, i32_w]
             rfl
            refine done_ (done_of HT_.out (by kernel_rfl)) ?_
            try go_wp2
            go_roundg k3
            case measure => have := HK1.out; have := HJ17.out; have := HK3.out; omega
            case rel => exact ⟨(y356), (wrap64 (x13_3 + 1)), (t346), (by first | rfl | (simp; done) | (simp [*]; done)), H', ⟨by have := HK1.out; have := HJ17.out; have := HK3.out; omega⟩, ⟨rq HO_8.out⟩, ⟨rq HO_9.out⟩, ⟨rq HO358.out⟩, ⟨by (with_reducible repeat (first | apply Kd.R_alloc | apply Kd.R_drewN | apply Kd.R_drew)); exact Kd.R_mono HO_12.out (fun _ hk => hk.2)⟩, ⟨by repeat (first | (with_reducible first | exact HI307.out | apply IsS66.alloc | apply IsS66.drewN | apply IsS66.drew | apply IsS66.set_1) | exact HI307.out)⟩, ⟨bq1 HB.out (IsS66.ge HI307.out)⟩⟩
           ·rw [if_neg c40] at H
            exact absurd H (by simp)
          ·rw [if_neg c36] at H
           exact absurd H (by simp)
        ·rw [if_neg c28] at H
         have c28b0 : decide (x13_3 < (t326.length : Int)) = false := decide_eq_false c28
         clear c28
         replace H := Option.bind_eq_some_iff.mp H
         obtain ⟨⟨t329, t332⟩, A480, H⟩ := H
         replace H : (if x11_3.length + t329.length < 1954687338268 then (some (t308, t310, x9_17, (x11_3 ++ t329))) else (none)) = some (r1, r2, r3, r4) := H
         have A48 := Aside0.mk A480
         clear A480
         by_cases c49 : x11_3.length + t329.length < 1954687338268
         ·rw [if_pos c49] at H
          have LMc49 := Aside0.mk c49
          clear c49
          obtain ⟨y333, hy333⟩ : ∃ y_ : List (S39), y_ = (x11_3 ++ t329) := ⟨_, rfl⟩
          replace H : (some (t308, t310, x9_17, y333)) = some (r1, r2, r3, r4) := by first | (rw [hy333]; with_reducible exact H) | (have H2_ := (Option.bind_some _ _).symm.trans H; rw [hy333]; with_reducible exact H2_) | (have H2_ := (Option.bind_some _ _).symm.trans H; with_reducible exact H2_) | with_reducible exact H | (rw [hy333]; exact H) | exact H
          have Ny333 := Aside0.mk hy333
          clear hy333
          simp only [Option.some.injEq, Prod.mk.injEq] at H
          obtain ⟨rfl, rfl, rfl, rfl⟩ := H
          obtain ⟨Ao50, co50, eo50⟩ := Kd.R_slice HO_12.out
          subst eo50
          go_wp2_with (first | ((with_reducible refine gate_callee (f := 24) rfl ?_); refine goesL_ (some 77) rfl rfl Try.func24 (by kernel_rfl) rfl #[.pointer (some ⟨g307, 0, none⟩), .int .i64 3] rfl (by (try simp only [List.map_toArray, List.map_cons, List.map_nil]); first | done | rfl | (simp only [List.length_drop, List.length_take]; rfl)) ?_; (with_reducible refine (rollbacknetmake_Codes_Dets.calls k3 g307 t305 x308001_3 3 t329 t332 w _ ?side1 ?side2 A48.out).mono ?_); (case side1 => repeat (first | (with_reducible first | exact HI307.out | apply IsS66.alloc | apply IsS66.drewN | apply IsS66.drew | apply IsS66.set_1) | exact HI307.out)); (case side2 => repeat (first | (with_reducible first | exact HB.out | apply below_alloc | apply pw_below_drewN | apply below_drew1 | refine below_set ?_ (IsS66.ge HI307.out)) | exact HB.out)); rintro e w51 ⟨v330, rfl, ho0, hi, hb, hk⟩; refine ⟨_, rfl, ?_⟩; have n0_ := Aside0.mk (Kd.R_mono (Kd.R_keep (IsS66.apart (show IsS66 w _ g307 t305 x308001_3 from by repeat (first | (with_reducible first | exact HI307.out | apply IsS66.alloc | apply IsS66.drewN | apply IsS66.drew | apply IsS66.set_1) | exact HI307.out)) (rq HO_8.out) (by decide)) hk (fun _ h => h.2)) (fun _ h => h.1)); have n1_ := Aside0.mk (Kd.R_mono (Kd.R_keep (IsS66.apart (show IsS66 w _ g307 t305 x308001_3 from by repeat (first | (with_reducible first | exact HI307.out | apply IsS66.alloc | apply IsS66.drewN | apply IsS66.drew | apply IsS66.set_1) | exact HI307.out)) (rq HO_9.out) (by decide)) hk (fun _ h => h.2)) (fun _ h => h.1)); have n2_ := Aside0.mk (Kd.R_mono (Kd.R_told (Kd.R_oldK (IsS66.apart (show IsS66 w _ g307 t305 x308001_3 from by repeat (first | (with_reducible first | exact HI307.out | apply IsS66.alloc | apply IsS66.drewN | apply IsS66.drew | apply IsS66.set_1) | exact HI307.out)) (rq HO_11.out) (by decide)) hk) (Kd.R_base ho0)) (fun _ h_ => h_.1)); have n3_ := Aside0.mk (Kd.R_mono (Kd.R_told (Kd.R_oldK (IsS66.apart (show IsS66 w _ g307 t305 x308001_3 from by repeat (first | (with_reducible first | exact HI307.out | apply IsS66.alloc | apply IsS66.drewN | apply IsS66.drew | apply IsS66.set_1) | exact HI307.out)) (rq HO_12.out) (by decide)) hk) (Kd.R_base ho0)) (fun _ h_ => h_.1)); have n4_ := Aside0.mk (Kd.R_lower (Kd.R_new' (Kd.R_new' ho0 (Kd.R_lt (rq HO_11.out))) (Kd.R_lt (rq HO_12.out))) (below_size (bq1 HB.out (IsS66.ge HI307.out)))); have n5_ := Aside0.mk (hb); have n6_ := Aside0.mk (hi); clear HO_8; clear HO_9; clear HO_11; clear HO_12; clear HB; clear HI307; have HO_8 := n0_; have HO_9 := n1_; have HO_11 := n2_; have HO_12 := n3_; have HO331 := n4_; have HB := n5_; have HI307 := n6_; clear n0_ n1_ n2_ n3_ n4_ n5_ n6_; (try clear hb); (try clear hb2); (try clear hk); (try clear hi); (try clear ho0); obtain ⟨Ao53, co53, eo53⟩ := Kd.R_slice HO331.out; subst eo53) | ((with_reducible refine gate_builtin (b := .append) (xs := #[.tmp 75, .tmp 77]) rfl ?_); at_builtin; refine Kd.R_append_rows k39 (w0 := w) w.heap.size rfl (.tmp 75) (.tmp 77) 24 39 (.agg #[(.int .i64 0), (.int .i64 0), (.int .i64 0), (.int .i64 0), (.int .i64 0), (.int .i64 0), (.int .i64 0), (.int .i64 0), (.int .i64 0)]) 72 rfl Try.underlying24 info39 rfl (by decide) (by omega) u11 x11_3 t329 _ _ _ (fun k_ => some k_ ≠ (.slice Ao50 t326.length co50 : Value).ownBlock ∧ some k_ ≠ (.slice Ao53 t329.length co53 : Value).ownBlock) (fun _ => False) rfl rfl ?aO ?aR (fun _ _ h => h) (fun _ h => h.elim) ?aF ?aB ?aS ?aL ?_; (case aR => repeat (first | exact (Kd.R_reads' HO331.out).2.2 | (with_reducible refine Kd.C_alloc ?_ _) | (with_reducible refine Kd.C_drewN ?_ _) | (with_reducible refine Kd.C_drew ?_))); (case aB => exact (bq1 HB.out (IsS66.ge HI307.out))); (case aF => exact (fun k_ hk => ⟨Kd.fresh' (Kd.R_lt (rq HO_12.out)) k_ hk, Kd.fresh' (Kd.R_lt (rq HO331.out)) k_ hk⟩)); (case aO => exact (rq HO_11.out)); (case aS => exact (below_size (bq1 HB.out (IsS66.ge HI307.out)))); (case aL => have := LMc49.out; omega); intro v334 w52 ho hb hg hat; rw [← Ny333.out] at ho; have n0_ := Aside0.mk (Kd.R_over' (rq HO_8.out) (Kd.R_typed (rq HO_11.out)) (by decide) hg); have n1_ := Aside0.mk (Kd.R_over' (rq HO_9.out) (Kd.R_typed (rq HO_11.out)) (by decide) hg); have n2_ := Aside0.mk (Kd.R_after (ok := (fun k_ => some k_ ≠ (.slice Ao53 t329.length co53 : Value).ownBlock)) (by (with_reducible repeat (first | apply Kd.R_alloc | apply Kd.R_drewN | apply Kd.R_drew)); exact Kd.R_mono HO_12.out (fun _ hk => ⟨hk.2, hk.1⟩)) hg hat); have n3_ := Aside0.mk (IsS66.grown (by repeat (first | (with_reducible first | exact HI307.out | apply IsS66.alloc | apply IsS66.drewN | apply IsS66.drew | apply IsS66.set_1) | exact HI307.out)) hg (IsS66.own_ne HI307.out HO_11.out (by decide))); have n4_ := Aside0.mk (Kd.R_after (ok := (fun k_ => some k_ ≠ (.slice Ao50 t326.length co50 : Value).ownBlock)) (by (with_reducible repeat (first | apply Kd.R_alloc | apply Kd.R_drewN | apply Kd.R_drew)); exact Kd.R_mono HO331.out (fun _ hk => ⟨hk.2, hk.1.2⟩)) hg hat); have n5_ := Aside0.mk (hb); have n6_ := Aside0.mk (ho); clear HO_8; clear HO_9; clear HO_12; clear HI307; clear HO331; clear HB; clear HO_11; have HO_8 := n0_; have HO_9 := n1_; have HO_12 := n2_; have HI307 := n3_; have HO331 := n4_; have HB := n5_; have HO335 := n6_; clear n0_ n1_ n2_ n3_ n4_ n5_ n6_; clear ho hb hg hat))
          refine bodyPost_ret (results_list (rs := [.tmp 2, .tmp 3, .tmp 4, .tmp 5]) rfl (by simp) (.tmp (.tmp (.tmp (.tmp .nil))))) rfl ?_
          exact ⟨_, _, _, by first | rfl | (simp [errW_none, errW_some] <;> rfl) | (simp [*, errW_none, errW_some] <;> rfl), rq HO_8.out, rq HO_9.out, by (with_reducible repeat (first | apply Kd.R_alloc | apply Kd.R_drewN | apply Kd.R_drew)); exact Kd.R_mono HO335.out (fun _ hk => trivial), bq1 HB.out (IsS66.ge HI307.out)⟩
         ·rw [if_neg c49] at H
          exact absurd H (by simp)

end Go.Proofs.Ytjlpggpkbcgekaa.PG27
