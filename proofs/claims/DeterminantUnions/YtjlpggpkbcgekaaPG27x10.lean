-- Written by a program of this session (hprint.py) out of the translation and of hand-proved parts. Lean checks it.
import Derived.Test.YtjlpggpkbcgekaaPG27x0
import Derived.Test.YtjlpggpkbcgekaaPG27x9
namespace Go.Proofs.Ytjlpggpkbcgekaa.PG27
open Go.RowKit Go.Proofs.YtjlpggpkbcgekaaW.PrintWords Go.Proofs.YtjlpggpkbcgekaaW.PrintLast Go.Proofs.YtjlpggpkbcgekaaW.PrintMore
attribute [local go_sem] max2_int min2_int max_two min_two max_three min_three max_four min_four   -- for this text's walks alone
set_option linter.unusedVariables false
set_option linter.unusedSimpArgs false

/-! ### determinant_Compare: function 21 -/
def determinant_Compare.l0 : Nat → Int → Int → Int → Int → Int → Int → Int → Int → Int → Int → Int → Int → Int → Int → Int → Int → Int → Int → Int → Option (Int)
 | 0, _, _, _, _, _, _, _, _, _, _, _, _, _, _, _, _, _, _, _ => none
 | k + 1, x12, x171000, x171001, x171002, x171003, x171004, x171005, x171006, x171007, x171008, x172000, x172001, x172002, x172003, x172004, x172005, x172006, x172007, x172008 => if x12 < 9 then (if x12 = 0 then (if x171000 < x172000 then (some (-1)) else (if x171000 > x172000 then (some 1) else (determinant_Compare.l0 k 1 x171000 x171001 x171002 x171003 x171004 x171005 x171006 x171007 x171008 x172000 x172001 x172002 x172003 x172004 x172005 x172006 x172007 x172008))) else (if x12 = 1 then (if x171001 < x172001 then (some (-1)) else (if x171001 > x172001 then (some 1) else (determinant_Compare.l0 k 2 x171000 x171001 x171002 x171003 x171004 x171005 x171006 x171007 x171008 x172000 x172001 x172002 x172003 x172004 x172005 x172006 x172007 x172008))) else (if x12 = 2 then (if x171002 < x172002 then (some (-1)) else (if x171002 > x172002 then (some 1) else (determinant_Compare.l0 k 3 x171000 x171001 x171002 x171003 x171004 x171005 x171006 x171007 x171008 x172000 x172001 x172002 x172003 x172004 x172005 x172006 x172007 x172008))) else (if x12 = 3 then (if x171003 < x172003 then (some (-1)) else (if x171003 > x172003 then (some 1) else (determinant_Compare.l0 k 4 x171000 x171001 x171002 x171003 x171004 x171005 x171006 x171007 x171008 x172000 x172001 x172002 x172003 x172004 x172005 x172006 x172007 x172008))) else (if x12 = 4 then (if x171004 < x172004 then (some (-1)) else (if x171004 > x172004 then (some 1) else (determinant_Compare.l0 k 5 x171000 x171001 x171002 x171003 x171004 x171005 x171006 x171007 x171008 x172000 x172001 x172002 x172003 x172004 x172005 x172006 x172007 x172008))) else (if x12 = 5 then (if x171005 < x172005 then (some (-1)) else (if x171005 > x172005 then (some 1) else (determinant_Compare.l0 k 6 x171000 x171001 x171002 x171003 x171004 x171005 x171006 x171007 x171008 x172000 x172001 x172002 x172003 x172004 x172005 x172006 x172007 x172008))) else (if x12 = 6 then (if x171006 < x172006 then (some (-1)) else (if x171006 > x172006 then (some 1) else (determinant_Compare.l0 k 7 x171000 x171001 x171002 x171003 x171004 x171005 x171006 x171007 x171008 x172000 x172001 x172002 x172003 x172004 x172005 x172006 x172007 x172008))) else (if x12 = 7 then (if x171007 < x172007 then (some (-1)) else (if x171007 > x172007 then (some 1) else (determinant_Compare.l0 k 8 x171000 x171001 x171002 x171003 x171004 x171005 x171006 x171007 x171008 x172000 x172001 x172002 x172003 x172004 x172005 x172006 x172007 x172008))) else (if x12 = 8 then (if x171008 < x172008 then (some (-1)) else (if x171008 > x172008 then (some 1) else (determinant_Compare.l0 k 9 x171000 x171001 x171002 x171003 x171004 x171005 x171006 x171007 x171008 x172000 x172001 x172002 x172003 x172004 x172005 x172006 x172007 x172008))) else (none)))))))))) else (some 0)
def determinant_Compare.f (k : Nat) (a0_0 : Int) (a0_1 : Int) (a0_2 : Int) (a0_3 : Int) (a0_4 : Int) (a0_5 : Int) (a0_6 : Int) (a0_7 : Int) (a0_8 : Int) (a1_0 : Int) (a1_1 : Int) (a1_2 : Int) (a1_3 : Int) (a1_4 : Int) (a1_5 : Int) (a1_6 : Int) (a1_7 : Int) (a1_8 : Int) : Option (Int) := (determinant_fields.f a0_0 a0_1 a0_2 a0_3 a0_4 a0_5 a0_6 a0_7 a0_8).bind fun bt152 => ((determinant_fields.f a1_0 a1_1 a1_2 a1_3 a1_4 a1_5 a1_6 a1_7 a1_8).bind fun bt161 => (determinant_Compare.l0 k 0 bt152.1 bt152.2.1 bt152.2.2.1 bt152.2.2.2.1 bt152.2.2.2.2.1 bt152.2.2.2.2.2.1 bt152.2.2.2.2.2.2.1 bt152.2.2.2.2.2.2.2.1 bt152.2.2.2.2.2.2.2.2 bt161.1 bt161.2.1 bt161.2.2.1 bt161.2.2.2.1 bt161.2.2.2.2.1 bt161.2.2.2.2.2.1 bt161.2.2.2.2.2.2.1 bt161.2.2.2.2.2.2.2.1 bt161.2.2.2.2.2.2.2.2))
theorem determinant_Compare.mono_l : ∀ k, (∀ y0 y1 y2 y3 y4 y5 y6 y7 y8 y9 y10 y11 y12 y13 y14 y15 y16 y17 y18, LeO (determinant_Compare.l0 k y0 y1 y2 y3 y4 y5 y6 y7 y8 y9 y10 y11 y12 y13 y14 y15 y16 y17 y18) (determinant_Compare.l0 (k + 1) y0 y1 y2 y3 y4 y5 y6 y7 y8 y9 y10 y11 y12 y13 y14 y15 y16 y17 y18))
 | 0 => fun _ _ _ _ _ _ _ _ _ _ _ _ _ _ _ _ _ _ _ r h => by simp [determinant_Compare.l0] at h
 | k + 1 => by
  have ih0 := determinant_Compare.mono_l k
  ·intro y0 y1 y2 y3 y4 y5 y6 y7 y8 y9 y10 y11 y12 y13 y14 y15 y16 y17 y18
   unfold determinant_Compare.l0
   repeat' first
   | (with_reducible exact ih0 _ _ _ _ _ _ _ _ _ _ _ _ _ _ _ _ _ _ _)
   | (with_reducible exact LeO.refl _)
   | (with_reducible exact LeO.none _)
   | (with_reducible refine LeO.ite ?_ ?_)
   | (with_reducible refine LeO.bind ?_ (fun _ => ?_))
   | exact ih0 _ _ _ _ _ _ _ _ _ _ _ _ _ _ _ _ _ _ _
   | exact LeO.none _
   | refine LeO.ite ?_ ?_
   | refine LeO.bind ?_ (fun _ => ?_)
theorem determinant_Compare.mono : ∀ a0 a1 a2 a3 a4 a5 a6 a7 a8 a9 a10 a11 a12 a13 a14 a15 a16 a17 k, LeO (determinant_Compare.f k a0 a1 a2 a3 a4 a5 a6 a7 a8 a9 a10 a11 a12 a13 a14 a15 a16 a17) (determinant_Compare.f (k + 1) a0 a1 a2 a3 a4 a5 a6 a7 a8 a9 a10 a11 a12 a13 a14 a15 a16 a17) := by
 intro a0 a1 a2 a3 a4 a5 a6 a7 a8 a9 a10 a11 a12 a13 a14 a15 a16 a17 k
 have ih0 := determinant_Compare.mono_l k
 unfold determinant_Compare.f
 repeat' first
   | (with_reducible exact ih0 _ _ _ _ _ _ _ _ _ _ _ _ _ _ _ _ _ _ _)
   | (with_reducible exact LeO.refl _)
   | (with_reducible exact LeO.none _)
   | (with_reducible refine LeO.ite ?_ ?_)
   | (with_reducible refine LeO.bind ?_ (fun _ => ?_))
   | exact ih0 _ _ _ _ _ _ _ _ _ _ _ _ _ _ _ _ _ _ _
   | exact LeO.none _
   | refine LeO.ite ?_ ?_
   | refine LeO.bind ?_ (fun _ => ?_)
def determinant_Compare.T1 : Bool × List (List Nat × List Nat) := (true, [([], []), ([0], [0]), ([], []), ([2, 1], [2]), ([], []), ([], []), ([4, 1, 3, 0, 1, 4, 5], [1, 4]), ([5, 3, 6, 0, 1, 2, 3, 4, 5, 6], [3, 5])])
def determinant_Compare.B1 : List Nat := [0, 1, 0, 7, 0, 0, 63, 127]
theorem determinant_Compare.tab1 : rtab .any (opsOf Try.f21 1) = determinant_Compare.T1 := by kernel_rfl
theorem determinant_Compare.bits1 : waitsOk determinant_Compare.T1.2 determinant_Compare.B1 = true := by kernel_rfl
def determinant_Compare.T5 : Bool × List (List Nat × List Nat) := (true, [([], []), ([0], [0]), ([1], [1]), ([], []), ([3], [3]), ([4], [4]), ([2, 5], [2, 5]), ([6], [6])])
def determinant_Compare.B5 : List Nat := [0, 1, 3, 0, 8, 24, 63, 127]
theorem determinant_Compare.tab5 : rtab .any (opsOf Try.f21 5) = determinant_Compare.T5 := by kernel_rfl
theorem determinant_Compare.bits5 : waitsOk determinant_Compare.T5.2 determinant_Compare.B5 = true := by kernel_rfl
def determinant_Compare.T7 : Bool × List (List Nat × List Nat) := (true, [([], []), ([0], [0]), ([1], [1]), ([], []), ([3], [3]), ([4], [4]), ([2, 5], [2, 5]), ([6], [6])])
def determinant_Compare.B7 : List Nat := [0, 1, 3, 0, 8, 24, 63, 127]
theorem determinant_Compare.tab7 : rtab .any (opsOf Try.f21 7) = determinant_Compare.T7 := by kernel_rfl
theorem determinant_Compare.bits7 : waitsOk determinant_Compare.T7.2 determinant_Compare.B7 = true := by kernel_rfl
theorem determinant_Compare.l0_rd (k : Nat) (x : Int) (t152 t153 t154 t155 t156 t157 t158 t159 t160 t161 t162 t163 t164 t165 t166 t167 t168 t169 : Int) : determinant_Compare.l0 (k + 1) x t152 t153 t154 t155 t156 t157 t158 t159 t160 t161 t162 t163 t164 t165 t166 t167 t168 t169 = if x < 9 then (if 0 ≤ x then (if rd [t152, t153, t154, t155, t156, t157, t158, t159, t160] x < rd [t161, t162, t163, t164, t165, t166, t167, t168, t169] x then some (-1) else if rd [t152, t153, t154, t155, t156, t157, t158, t159, t160] x > rd [t161, t162, t163, t164, t165, t166, t167, t168, t169] x then some 1 else determinant_Compare.l0 k (x + 1) t152 t153 t154 t155 t156 t157 t158 t159 t160 t161 t162 t163 t164 t165 t166 t167 t168 t169) else none) else some 0 := by
 by_cases h9 : x < 9
 ·by_cases h0 : 0 ≤ x
  ·obtain ⟨m, rfl⟩ := Int.eq_ofNat_of_zero_le h0
   have hm : m < 9 := by omega
   have : m = 0 ∨ m = 1 ∨ m = 2 ∨ m = 3 ∨ m = 4 ∨ m = 5 ∨ m = 6 ∨ m = 7 ∨ m = 8 := by omega
   rcases this with rfl | rfl | rfl | rfl | rfl | rfl | rfl | rfl | rfl <;> simp [determinant_Compare.l0, rd]
  ·simp only [determinant_Compare.l0]
   rw [if_pos h9, if_pos h9, if_neg h0, if_neg (by omega), if_neg (by omega), if_neg (by omega), if_neg (by omega), if_neg (by omega), if_neg (by omega), if_neg (by omega), if_neg (by omega), if_neg (by omega)]
 ·simp only [determinant_Compare.l0]
  rw [if_neg h9, if_neg h9]
theorem determinant_Compare.arr9 {w : World} {g T : Nat} {a0 a1 a2 a3 a4 a5 a6 a7 a8 : Int} (h : w.heap[g]? = some (.cells #[.int .i64 a0, .int .i64 a1, .int .i64 a2, .int .i64 a3, .int .i64 a4, .int .i64 a5, .int .i64 a6, .int .i64 a7, .int .i64 a8] T (0, 0))) (x : Int) (h0 : 0 ≤ x) (h9 : x < 9) : w.cell? ⟨g, x.toNat, none⟩ = some (.int .i64 (rd [a0, a1, a2, a3, a4, a5, a6, a7, a8] x)) := by
 obtain ⟨m, rfl⟩ := Int.eq_ofNat_of_zero_le h0
 have : m = 0 ∨ m = 1 ∨ m = 2 ∨ m = 3 ∨ m = 4 ∨ m = 5 ∨ m = 6 ∨ m = 7 ∨ m = 8 := by omega
 rcases this with rfl | rfl | rfl | rfl | rfl | rfl | rfl | rfl | rfl <;> exact (blk_cell h _).trans rfl
theorem determinant_Compare.far9 {w : World} {g g' T : Nat} {cs : Array Value} (v0 v1 v2 v3 v4 v5 v6 v7 v8 : Value) (h : w.heap[g']? = some (.cells cs T (0, 0))) (hn : g' ≠ g) : (((((((((w.setCell ⟨g, 0, none⟩ v0).setCell ⟨g, 1, none⟩ v1).setCell ⟨g, 2, none⟩ v2).setCell ⟨g, 3, none⟩ v3).setCell ⟨g, 4, none⟩ v4).setCell ⟨g, 5, none⟩ v5).setCell ⟨g, 6, none⟩ v6).setCell ⟨g, 7, none⟩ v7).setCell ⟨g, 8, none⟩ v8).heap[g']? = some (.cells cs T (0, 0)) :=
 blk_far (blk_far (blk_far (blk_far (blk_far (blk_far (blk_far (blk_far (blk_far (h) (by exact hn) _) (by exact hn) _) (by exact hn) _) (by exact hn) _) (by exact hn) _) (by exact hn) _) (by exact hn) _) (by exact hn) _) (by exact hn) _
theorem determinant_Compare.put9 {w : World} {g T : Nat} {c0 c1 c2 c3 c4 c5 c6 c7 c8 : Value} (v0 v1 v2 v3 v4 v5 v6 v7 v8 : Value) (h : w.heap[g]? = some (.cells #[c0, c1, c2, c3, c4, c5, c6, c7, c8] T (0, 0))) : (((((((((w.setCell ⟨g, 0, none⟩ v0).setCell ⟨g, 1, none⟩ v1).setCell ⟨g, 2, none⟩ v2).setCell ⟨g, 3, none⟩ v3).setCell ⟨g, 4, none⟩ v4).setCell ⟨g, 5, none⟩ v5).setCell ⟨g, 6, none⟩ v6).setCell ⟨g, 7, none⟩ v7).setCell ⟨g, 8, none⟩ v8).heap[g]? = some (.cells #[v0, v1, v2, v3, v4, v5, v6, v7, v8] T (0, 0)) :=
 blk_put (cs := #[v0, v1, v2, v3, v4, v5, v6, v7, c8]) (blk_put (cs := #[v0, v1, v2, v3, v4, v5, v6, c7, c8]) (blk_put (cs := #[v0, v1, v2, v3, v4, v5, c6, c7, c8]) (blk_put (cs := #[v0, v1, v2, v3, v4, c5, c6, c7, c8]) (blk_put (cs := #[v0, v1, v2, v3, c4, c5, c6, c7, c8]) (blk_put (cs := #[v0, v1, v2, c3, c4, c5, c6, c7, c8]) (blk_put (cs := #[v0, v1, c2, c3, c4, c5, c6, c7, c8]) (blk_put (cs := #[v0, c1, c2, c3, c4, c5, c6, c7, c8]) (blk_put (cs := #[c0, c1, c2, c3, c4, c5, c6, c7, c8]) (h) 0 _ rfl) 1 _ rfl) 2 _ rfl) 3 _ rfl) 4 _ rfl) 5 _ rfl) 6 _ rfl) 7 _ rfl) 8 _ rfl
theorem determinant_Compare.below9 {w w1 : World} {g : Nat} (v0 v1 v2 v3 v4 v5 v6 v7 v8 : Value) (h : Below w.heap.size w w1) (hg : w.heap.size ≤ g) : Below w.heap.size w (((((((((w1.setCell ⟨g, 0, none⟩ v0).setCell ⟨g, 1, none⟩ v1).setCell ⟨g, 2, none⟩ v2).setCell ⟨g, 3, none⟩ v3).setCell ⟨g, 4, none⟩ v4).setCell ⟨g, 5, none⟩ v5).setCell ⟨g, 6, none⟩ v6).setCell ⟨g, 7, none⟩ v7).setCell ⟨g, 8, none⟩ v8) :=
 below_set (below_set (below_set (below_set (below_set (below_set (below_set (below_set (below_set (h) hg) hg) hg) hg) hg) hg) hg) hg) hg
theorem determinant_Compare.held9 {w : World} {g h T U : Nat} {c0 c1 c2 c3 c4 c5 c6 c7 c8 v0 v1 v2 v3 v4 v5 v6 v7 v8 : Value} (h1 : w.heap[g]? = some (.cells #[c0, c1, c2, c3, c4, c5, c6, c7, c8] T (0, 0))) (h2 : w.heap[h]? = some (.cells #[v0, v1, v2, v3, v4, v5, v6, v7, v8] U (0, 0))) : w.cell? ⟨g, 0, none⟩ = some c0 ∧ w.cell? ⟨g, 1, none⟩ = some c1 ∧ w.cell? ⟨g, 2, none⟩ = some c2 ∧ w.cell? ⟨g, 3, none⟩ = some c3 ∧ w.cell? ⟨g, 4, none⟩ = some c4 ∧ w.cell? ⟨g, 5, none⟩ = some c5 ∧ w.cell? ⟨g, 6, none⟩ = some c6 ∧ w.cell? ⟨g, 7, none⟩ = some c7 ∧ w.cell? ⟨g, 8, none⟩ = some c8 ∧ w.cell? ⟨h, 0, none⟩ = some v0 ∧ w.cell? ⟨h, 1, none⟩ = some v1 ∧ w.cell? ⟨h, 2, none⟩ = some v2 ∧ w.cell? ⟨h, 3, none⟩ = some v3 ∧ w.cell? ⟨h, 4, none⟩ = some v4 ∧ w.cell? ⟨h, 5, none⟩ = some v5 ∧ w.cell? ⟨h, 6, none⟩ = some v6 ∧ w.cell? ⟨h, 7, none⟩ = some v7 ∧ w.cell? ⟨h, 8, none⟩ = some v8 :=
 ⟨(blk_cell h1 0).trans rfl, (blk_cell h1 1).trans rfl, (blk_cell h1 2).trans rfl, (blk_cell h1 3).trans rfl, (blk_cell h1 4).trans rfl, (blk_cell h1 5).trans rfl, (blk_cell h1 6).trans rfl, (blk_cell h1 7).trans rfl, (blk_cell h1 8).trans rfl, (blk_cell h2 0).trans rfl, (blk_cell h2 1).trans rfl, (blk_cell h2 2).trans rfl, (blk_cell h2 3).trans rfl, (blk_cell h2 4).trans rfl, (blk_cell h2 5).trans rfl, (blk_cell h2 6).trans rfl, (blk_cell h2 7).trans rfl, (blk_cell h2 8).trans rfl⟩
abbrev determinant_Compare.S18 (g h : Nat) (c0 c1 c2 c3 c4 c5 c6 c7 c8 v0 v1 v2 v3 v4 v5 v6 v7 v8 : Value) (w : World) : Prop := w.cell? ⟨g, 0, none⟩ = some c0 ∧ w.cell? ⟨g, 1, none⟩ = some c1 ∧ w.cell? ⟨g, 2, none⟩ = some c2 ∧ w.cell? ⟨g, 3, none⟩ = some c3 ∧ w.cell? ⟨g, 4, none⟩ = some c4 ∧ w.cell? ⟨g, 5, none⟩ = some c5 ∧ w.cell? ⟨g, 6, none⟩ = some c6 ∧ w.cell? ⟨g, 7, none⟩ = some c7 ∧ w.cell? ⟨g, 8, none⟩ = some c8 ∧ w.cell? ⟨h, 0, none⟩ = some v0 ∧ w.cell? ⟨h, 1, none⟩ = some v1 ∧ w.cell? ⟨h, 2, none⟩ = some v2 ∧ w.cell? ⟨h, 3, none⟩ = some v3 ∧ w.cell? ⟨h, 4, none⟩ = some v4 ∧ w.cell? ⟨h, 5, none⟩ = some v5 ∧ w.cell? ⟨h, 6, none⟩ = some v6 ∧ w.cell? ⟨h, 7, none⟩ = some v7 ∧ w.cell? ⟨h, 8, none⟩ = some v8
set_option maxHeartbeats 8000000 in
set_option maxRecDepth 100000 in
theorem determinant_Compare.calls (k : Nat) (a0_0 : Int) (a0_1 : Int) (a0_2 : Int) (a0_3 : Int) (a0_4 : Int) (a0_5 : Int) (a0_6 : Int) (a0_7 : Int) (a0_8 : Int) (a1_0 : Int) (a1_1 : Int) (a1_2 : Int) (a1_3 : Int) (a1_4 : Int) (a1_5 : Int) (a1_6 : Int) (a1_7 : Int) (a1_8 : Int) (r : Int) (w : World) (h : determinant_Compare.f k a0_0 a0_1 a0_2 a0_3 a0_4 a0_5 a0_6 a0_7 a0_8 a1_0 a1_1 a1_2 a1_3 a1_4 a1_5 a1_6 a1_7 a1_8 = some r) :
  Calls Try.prog 21 #[.agg #[.int .i64 a0_0, .int .i64 a0_1, .int .i64 a0_2, .int .i64 a0_3, .int .i64 a0_4, .int .i64 a0_5, .int .i64 a0_6, .int .i64 a0_7, .int .i64 a0_8], .agg #[.int .i64 a1_0, .int .i64 a1_1, .int .i64 a1_2, .int .i64 a1_3, .int .i64 a1_4, .int .i64 a1_5, .int .i64 a1_6, .int .i64 a1_7, .int .i64 a1_8]] w fun e w' => e = .returned (.int .i64 r) ∧ Below w.heap.size w w' := by
 have hu39 := Try.underlying39
 have hu63 := Try.underlying63
 have HB := Aside0.mk (Below.refl w.heap.size w)
 have H : ((determinant_fields.f a0_0 a0_1 a0_2 a0_3 a0_4 a0_5 a0_6 a0_7 a0_8).bind fun bt152 => ((determinant_fields.f a1_0 a1_1 a1_2 a1_3 a1_4 a1_5 a1_6 a1_7 a1_8).bind fun bt161 => (determinant_Compare.l0 k 0 bt152.1 bt152.2.1 bt152.2.2.1 bt152.2.2.2.1 bt152.2.2.2.2.1 bt152.2.2.2.2.2.1 bt152.2.2.2.2.2.2.1 bt152.2.2.2.2.2.2.2.1 bt152.2.2.2.2.2.2.2.2 bt161.1 bt161.2.1 bt161.2.2.1 bt161.2.2.2.1 bt161.2.2.2.2.1 bt161.2.2.2.2.2.1 bt161.2.2.2.2.2.2.1 bt161.2.2.2.2.2.2.2.1 bt161.2.2.2.2.2.2.2.2))) = some r := h
 clear h
 replace H := Option.bind_eq_some_iff.mp H
 obtain ⟨⟨t152, t153, t154, t155, t156, t157, t158, t159, t160⟩, A30, H⟩ := H
 replace H : ((determinant_fields.f a1_0 a1_1 a1_2 a1_3 a1_4 a1_5 a1_6 a1_7 a1_8).bind fun bt161 => (determinant_Compare.l0 k 0 t152 t153 t154 t155 t156 t157 t158 t159 t160 bt161.1 bt161.2.1 bt161.2.2.1 bt161.2.2.2.1 bt161.2.2.2.2.1 bt161.2.2.2.2.2.1 bt161.2.2.2.2.2.2.1 bt161.2.2.2.2.2.2.2.1 bt161.2.2.2.2.2.2.2.2)) = some r := H
 have A3 := Aside0.mk A30
 clear A30
 replace H := Option.bind_eq_some_iff.mp H
 obtain ⟨⟨t161, t162, t163, t164, t165, t166, t167, t168, t169⟩, A40, H⟩ := H
 replace H : (determinant_Compare.l0 k 0 t152 t153 t154 t155 t156 t157 t158 t159 t160 t161 t162 t163 t164 t165 t166 t167 t168 t169) = some r := H
 have A4 := Aside0.mk A40
 clear A40
 have H' := Aside0.mk H
 clear H
 go_enter Try.func21, Try.ntmps21
 try go_wp2_with (first | ((with_reducible refine gate_dst (N := 2) rfl ?_); refine box_event ?hg (N := 2) ?hd (cs := #[.int .i64 a0_0, .int .i64 a0_1, .int .i64 a0_2, .int .i64 a0_3, .int .i64 a0_4, .int .i64 a0_5, .int .i64 a0_6, .int .i64 a0_7, .int .i64 a0_8]) (t := 39) ?hr ?_; (case hd => rfl); (case hg => rfl); (case hr => first | (go_simp; done) | (go_simp; rfl)); intro gb150 hg w5 hbox hb; have n0_ := Aside0.mk (below_step (bq HB.out) hb); have n1_ := Aside0.mk (hbox); have n2_ := Aside0.mk ((by rw [hg]; exact (below_size (bq HB.out)) : w.heap.size ≤ gb150)); have n3_ := Aside0.mk ((by rw [hg]; exact (below_size (bq HB.out)) : w.heap.size ≤ gb150)); clear HB; have HB := n0_; have BK150 := n1_; have GW150 := n2_; have GE150 := n3_; clear n0_ n1_ n2_ n3_; clear hb hbox hg) | ((with_reducible refine gate_dst (N := 3) rfl ?_); refine box_event ?hg (N := 3) ?hd (cs := #[.int .i64 a1_0, .int .i64 a1_1, .int .i64 a1_2, .int .i64 a1_3, .int .i64 a1_4, .int .i64 a1_5, .int .i64 a1_6, .int .i64 a1_7, .int .i64 a1_8]) (t := 39) ?hr ?_; (case hd => rfl); (case hg => rfl); (case hr => first | (go_simp; done) | (go_simp; rfl)); intro gb151 hg w6 hbox hb; have n0_ := Aside0.mk (blk_below (g := gb150) (o := .cells #[.int .i64 a0_0, .int .i64 a0_1, .int .i64 a0_2, .int .i64 a0_3, .int .i64 a0_4, .int .i64 a0_5, .int .i64 a0_6, .int .i64 a0_7, .int .i64 a0_8] 39 (0, 0)) (kq BK150.out) hb); have n1_ := Aside0.mk (below_step (bq1 HB.out GE150.out) hb); have n2_ := Aside0.mk (hbox); have n3_ := Aside0.mk ((by rw [hg]; exact (below_size (bq1 HB.out GE150.out)) : w.heap.size ≤ gb151)); have n4_ := Aside0.mk ((by rw [hg]; exact (below_size (bq1 HB.out GE150.out)) : w.heap.size ≤ gb151)); have n5_ := Aside0.mk ((by rw [hg]; exact Nat.ne_of_lt (blk_lt (g := gb150) (o := .cells #[.int .i64 a0_0, .int .i64 a0_1, .int .i64 a0_2, .int .i64 a0_3, .int .i64 a0_4, .int .i64 a0_5, .int .i64 a0_6, .int .i64 a0_7, .int .i64 a0_8] 39 (0, 0)) (kq BK150.out)) : gb150 ≠ gb151)); have n6_ := Aside0.mk ((by rw [hg]; exact Nat.ne_of_gt (blk_lt (g := gb150) (o := .cells #[.int .i64 a0_0, .int .i64 a0_1, .int .i64 a0_2, .int .i64 a0_3, .int .i64 a0_4, .int .i64 a0_5, .int .i64 a0_6, .int .i64 a0_7, .int .i64 a0_8] 39 (0, 0)) (kq BK150.out)) : gb151 ≠ gb150)); clear BK150; clear HB; have BK150 := n0_; have HB := n1_; have BK151 := n2_; have GW151 := n3_; have GE151 := n4_; have NB150_151 := n5_; have NB151_150 := n6_; clear n0_ n1_ n2_ n3_ n4_ n5_ n6_; clear hb hbox hg))
 have n0_ := Aside0.mk (blk_drew BK150.out)
 have n1_ := Aside0.mk (blk_drew BK151.out)
 have n2_ := Aside0.mk (below_drew1 HB.out)
 clear BK150
 clear BK151
 clear HB
 have BK150 := n0_
 have BK151 := n1_
 have HB := n2_
 clear n0_ n1_ n2_
 refine start_ (n := 8) (S := fun w' => w'.cell? ⟨gb150, 0, none⟩ = some (.int .i64 a0_0) ∧ w'.cell? ⟨gb150, 1, none⟩ = some (.int .i64 a0_1) ∧ w'.cell? ⟨gb150, 2, none⟩ = some (.int .i64 a0_2) ∧ w'.cell? ⟨gb150, 3, none⟩ = some (.int .i64 a0_3) ∧ w'.cell? ⟨gb150, 4, none⟩ = some (.int .i64 a0_4) ∧ w'.cell? ⟨gb150, 5, none⟩ = some (.int .i64 a0_5) ∧ w'.cell? ⟨gb150, 6, none⟩ = some (.int .i64 a0_6) ∧ w'.cell? ⟨gb150, 7, none⟩ = some (.int .i64 a0_7) ∧ w'.cell? ⟨gb150, 8, none⟩ = some (.int .i64 a0_8) ∧ w'.cell? ⟨gb151, 0, none⟩ = some (.int .i64 a1_0) ∧ w'.cell? ⟨gb151, 1, none⟩ = some (.int .i64 a1_1) ∧ w'.cell? ⟨gb151, 2, none⟩ = some (.int .i64 a1_2) ∧ w'.cell? ⟨gb151, 3, none⟩ = some (.int .i64 a1_3) ∧ w'.cell? ⟨gb151, 4, none⟩ = some (.int .i64 a1_4) ∧ w'.cell? ⟨gb151, 5, none⟩ = some (.int .i64 a1_5) ∧ w'.cell? ⟨gb151, 6, none⟩ = some (.int .i64 a1_6) ∧ w'.cell? ⟨gb151, 7, none⟩ = some (.int .i64 a1_7) ∧ w'.cell? ⟨gb151, 8, none⟩ = some (.int .i64 a1_8)) (ds := []) #[false, false, false, false, false, false, false, false] (by kernel_rfl) rfl rfl ⟨(blk_cell BK150.out 0).trans rfl, (blk_cell BK150.out 1).trans rfl, (blk_cell BK150.out 2).trans rfl, (blk_cell BK150.out 3).trans rfl, (blk_cell BK150.out 4).trans rfl, (blk_cell BK150.out 5).trans rfl, (blk_cell BK150.out 6).trans rfl, (blk_cell BK150.out 7).trans rfl, (blk_cell BK150.out 8).trans rfl, (blk_cell BK151.out 0).trans rfl, (blk_cell BK151.out 1).trans rfl, (blk_cell BK151.out 2).trans rfl, (blk_cell BK151.out 3).trans rfl, (blk_cell BK151.out 4).trans rfl, (blk_cell BK151.out 5).trans rfl, (blk_cell BK151.out 6).trans rfl, (blk_cell BK151.out 7).trans rfl, (blk_cell BK151.out 8).trans rfl⟩ (fun hHeld => ?_); refine with_tabW determinant_Compare.tab1 determinant_Compare.bits1 (fun HT_ HW_ => ?_)
 generalize w6.drew = w7 at BK150 BK151 HB hHeld ⊢
 refine take_ (i := 0) (N := some 8) (v := ?_) (a' := ?_) #[true, false, false, false, false, false, false, false] rfl rfl (take_ofW HT_.out HW_.out (by kernel_rfl)) (fun _ _ _ h => h) (Or.inl ⟨by rfl, ?_⟩) hHeld ?_ ?_
 rotate_left
 ·rintro w' ⟨s0, s1, s2, s3, s4, s5, s6, s7, s8, s9, s10, s11, s12, s13, s14, s15, s16, s17⟩
  go_simp
  with_reducible rfl
 rotate_left
 ·simp only [Act.put, List.setIfInBounds_toArray, List.set_cons_zero, List.set_cons_succ, i64_w, i32_w]
  rfl
 refine take_ (i := 2) (N := some 10) (v := ?_) (a' := ?_) #[true, false, true, false, false, false, false, false] rfl rfl (take_ofW HT_.out HW_.out (by kernel_rfl)) (fun _ _ _ h => h) (Or.inl ⟨by rfl, ?_⟩) hHeld ?_ ?_
 rotate_left
 ·rintro w' ⟨s0, s1, s2, s3, s4, s5, s6, s7, s8, s9, s10, s11, s12, s13, s14, s15, s16, s17⟩
  go_simp
  with_reducible rfl
 rotate_left
 ·simp only [Act.put, List.setIfInBounds_toArray, List.set_cons_zero, List.set_cons_succ, i64_w, i32_w]
  rfl
 refine join_ (σ := Nat × Nat) 2 #[true, true, true, true, true, true, false, false] (fun s_ => [(9, .agg #[.int .i64 t152, .int .i64 t153, .int .i64 t154, .int .i64 t155, .int .i64 t156, .int .i64 t157, .int .i64 t158, .int .i64 t159, .int .i64 t160]), (11, .agg #[.int .i64 t161, .int .i64 t162, .int .i64 t163, .int .i64 t164, .int .i64 t165, .int .i64 t166, .int .i64 t167, .int .i64 t168, .int .i64 t169]), (5, .pointer (some ⟨s_.1, 0, none⟩)), (6, .pointer (some ⟨s_.2, 0, none⟩))]) (fun s_ w' => (determinant_Compare.S18 gb150 gb151 (.int .i64 a0_0) (.int .i64 a0_1) (.int .i64 a0_2) (.int .i64 a0_3) (.int .i64 a0_4) (.int .i64 a0_5) (.int .i64 a0_6) (.int .i64 a0_7) (.int .i64 a0_8) (.int .i64 a1_0) (.int .i64 a1_1) (.int .i64 a1_2) (.int .i64 a1_3) (.int .i64 a1_4) (.int .i64 a1_5) (.int .i64 a1_6) (.int .i64 a1_7) (.int .i64 a1_8) w') ∧ (w'.heap[gb150]? = some (.cells #[.int .i64 a0_0, .int .i64 a0_1, .int .i64 a0_2, .int .i64 a0_3, .int .i64 a0_4, .int .i64 a0_5, .int .i64 a0_6, .int .i64 a0_7, .int .i64 a0_8] 39 (0, 0))) ∧ (w'.heap[gb151]? = some (.cells #[.int .i64 a1_0, .int .i64 a1_1, .int .i64 a1_2, .int .i64 a1_3, .int .i64 a1_4, .int .i64 a1_5, .int .i64 a1_6, .int .i64 a1_7, .int .i64 a1_8] 39 (0, 0))) ∧ (w'.heap[s_.1]? = some (.cells #[.int .i64 0, .int .i64 0, .int .i64 0, .int .i64 0, .int .i64 0, .int .i64 0, .int .i64 0, .int .i64 0, .int .i64 0] 63 (0, 0))) ∧ (w'.heap[s_.2]? = some (.cells #[.int .i64 0, .int .i64 0, .int .i64 0, .int .i64 0, .int .i64 0, .int .i64 0, .int .i64 0, .int .i64 0, .int .i64 0] 63 (0, 0))) ∧ (w.heap.size ≤ s_.1) ∧ (w.heap.size ≤ s_.1) ∧ (gb150 ≠ s_.1) ∧ (s_.1 ≠ gb150) ∧ (gb151 ≠ s_.1) ∧ (s_.1 ≠ gb151) ∧ (s_.2 ≠ s_.1) ∧ (s_.1 ≠ s_.2) ∧ (w.heap.size ≤ s_.2) ∧ (w.heap.size ≤ s_.2) ∧ (gb150 ≠ s_.2) ∧ (s_.2 ≠ gb150) ∧ (gb151 ≠ s_.2) ∧ (s_.2 ≠ gb151) ∧ (Below w.heap.size w w')) ?_ ?_
 rotate_left
 ·intro hJ1_3_4_5
  refine join_ (σ := Nat) 3 #[true, true, true, true, true, false, false, false] (fun s_ => [(9, .agg #[.int .i64 t152, .int .i64 t153, .int .i64 t154, .int .i64 t155, .int .i64 t156, .int .i64 t157, .int .i64 t158, .int .i64 t159, .int .i64 t160]), (11, .agg #[.int .i64 t161, .int .i64 t162, .int .i64 t163, .int .i64 t164, .int .i64 t165, .int .i64 t166, .int .i64 t167, .int .i64 t168, .int .i64 t169]), (5, .pointer (some ⟨s_, 0, none⟩))]) (fun s_ w' => (determinant_Compare.S18 gb150 gb151 (.int .i64 a0_0) (.int .i64 a0_1) (.int .i64 a0_2) (.int .i64 a0_3) (.int .i64 a0_4) (.int .i64 a0_5) (.int .i64 a0_6) (.int .i64 a0_7) (.int .i64 a0_8) (.int .i64 a1_0) (.int .i64 a1_1) (.int .i64 a1_2) (.int .i64 a1_3) (.int .i64 a1_4) (.int .i64 a1_5) (.int .i64 a1_6) (.int .i64 a1_7) (.int .i64 a1_8) w') ∧ (w'.heap[gb150]? = some (.cells #[.int .i64 a0_0, .int .i64 a0_1, .int .i64 a0_2, .int .i64 a0_3, .int .i64 a0_4, .int .i64 a0_5, .int .i64 a0_6, .int .i64 a0_7, .int .i64 a0_8] 39 (0, 0))) ∧ (w'.heap[gb151]? = some (.cells #[.int .i64 a1_0, .int .i64 a1_1, .int .i64 a1_2, .int .i64 a1_3, .int .i64 a1_4, .int .i64 a1_5, .int .i64 a1_6, .int .i64 a1_7, .int .i64 a1_8] 39 (0, 0))) ∧ (w'.heap[s_]? = some (.cells #[.int .i64 0, .int .i64 0, .int .i64 0, .int .i64 0, .int .i64 0, .int .i64 0, .int .i64 0, .int .i64 0, .int .i64 0] 63 (0, 0))) ∧ (w.heap.size ≤ s_) ∧ (w.heap.size ≤ s_) ∧ (gb150 ≠ s_) ∧ (s_ ≠ gb150) ∧ (gb151 ≠ s_) ∧ (s_ ≠ gb151) ∧ (Below w.heap.size w w')) ?_ ?_
  rotate_left
  ·intro hJ1_3_4
   refine join_ (σ := Nat) 3 #[true, true, true, true, false, true, false, false] (fun s_ => [(9, .agg #[.int .i64 t152, .int .i64 t153, .int .i64 t154, .int .i64 t155, .int .i64 t156, .int .i64 t157, .int .i64 t158, .int .i64 t159, .int .i64 t160]), (11, .agg #[.int .i64 t161, .int .i64 t162, .int .i64 t163, .int .i64 t164, .int .i64 t165, .int .i64 t166, .int .i64 t167, .int .i64 t168, .int .i64 t169]), (6, .pointer (some ⟨s_, 0, none⟩))]) (fun s_ w' => (determinant_Compare.S18 gb150 gb151 (.int .i64 a0_0) (.int .i64 a0_1) (.int .i64 a0_2) (.int .i64 a0_3) (.int .i64 a0_4) (.int .i64 a0_5) (.int .i64 a0_6) (.int .i64 a0_7) (.int .i64 a0_8) (.int .i64 a1_0) (.int .i64 a1_1) (.int .i64 a1_2) (.int .i64 a1_3) (.int .i64 a1_4) (.int .i64 a1_5) (.int .i64 a1_6) (.int .i64 a1_7) (.int .i64 a1_8) w') ∧ (w'.heap[gb150]? = some (.cells #[.int .i64 a0_0, .int .i64 a0_1, .int .i64 a0_2, .int .i64 a0_3, .int .i64 a0_4, .int .i64 a0_5, .int .i64 a0_6, .int .i64 a0_7, .int .i64 a0_8] 39 (0, 0))) ∧ (w'.heap[gb151]? = some (.cells #[.int .i64 a1_0, .int .i64 a1_1, .int .i64 a1_2, .int .i64 a1_3, .int .i64 a1_4, .int .i64 a1_5, .int .i64 a1_6, .int .i64 a1_7, .int .i64 a1_8] 39 (0, 0))) ∧ (w'.heap[s_]? = some (.cells #[.int .i64 0, .int .i64 0, .int .i64 0, .int .i64 0, .int .i64 0, .int .i64 0, .int .i64 0, .int .i64 0, .int .i64 0] 63 (0, 0))) ∧ (w.heap.size ≤ s_) ∧ (w.heap.size ≤ s_) ∧ (gb150 ≠ s_) ∧ (s_ ≠ gb150) ∧ (gb151 ≠ s_) ∧ (s_ ≠ gb151) ∧ (Below w.heap.size w w')) ?_ ?_
   rotate_left
   ·intro hJ1_3_5
    refine join_ (σ := Nat × Nat) 3 #[true, true, true, false, true, true, false, false] (fun s_ => [(9, .agg #[.int .i64 t152, .int .i64 t153, .int .i64 t154, .int .i64 t155, .int .i64 t156, .int .i64 t157, .int .i64 t158, .int .i64 t159, .int .i64 t160]), (5, .pointer (some ⟨s_.1, 0, none⟩)), (6, .pointer (some ⟨s_.2, 0, none⟩))]) (fun s_ w' => (determinant_Compare.S18 gb150 gb151 (.int .i64 a0_0) (.int .i64 a0_1) (.int .i64 a0_2) (.int .i64 a0_3) (.int .i64 a0_4) (.int .i64 a0_5) (.int .i64 a0_6) (.int .i64 a0_7) (.int .i64 a0_8) (.int .i64 a1_0) (.int .i64 a1_1) (.int .i64 a1_2) (.int .i64 a1_3) (.int .i64 a1_4) (.int .i64 a1_5) (.int .i64 a1_6) (.int .i64 a1_7) (.int .i64 a1_8) w') ∧ (w'.heap[gb150]? = some (.cells #[.int .i64 a0_0, .int .i64 a0_1, .int .i64 a0_2, .int .i64 a0_3, .int .i64 a0_4, .int .i64 a0_5, .int .i64 a0_6, .int .i64 a0_7, .int .i64 a0_8] 39 (0, 0))) ∧ (w'.heap[gb151]? = some (.cells #[.int .i64 a1_0, .int .i64 a1_1, .int .i64 a1_2, .int .i64 a1_3, .int .i64 a1_4, .int .i64 a1_5, .int .i64 a1_6, .int .i64 a1_7, .int .i64 a1_8] 39 (0, 0))) ∧ (w'.heap[s_.1]? = some (.cells #[.int .i64 0, .int .i64 0, .int .i64 0, .int .i64 0, .int .i64 0, .int .i64 0, .int .i64 0, .int .i64 0, .int .i64 0] 63 (0, 0))) ∧ (w'.heap[s_.2]? = some (.cells #[.int .i64 0, .int .i64 0, .int .i64 0, .int .i64 0, .int .i64 0, .int .i64 0, .int .i64 0, .int .i64 0, .int .i64 0] 63 (0, 0))) ∧ (w.heap.size ≤ s_.1) ∧ (w.heap.size ≤ s_.1) ∧ (gb150 ≠ s_.1) ∧ (s_.1 ≠ gb150) ∧ (gb151 ≠ s_.1) ∧ (s_.1 ≠ gb151) ∧ (s_.2 ≠ s_.1) ∧ (s_.1 ≠ s_.2) ∧ (w.heap.size ≤ s_.2) ∧ (w.heap.size ≤ s_.2) ∧ (gb150 ≠ s_.2) ∧ (s_.2 ≠ gb150) ∧ (gb151 ≠ s_.2) ∧ (s_.2 ≠ gb151) ∧ (Below w.heap.size w w')) ?_ ?_
    rotate_left
    ·intro hJ1_4_5
     refine join_ (σ := Unit) 4 #[true, true, true, true, false, false, false, false] (fun s_ => [(9, .agg #[.int .i64 t152, .int .i64 t153, .int .i64 t154, .int .i64 t155, .int .i64 t156, .int .i64 t157, .int .i64 t158, .int .i64 t159, .int .i64 t160]), (11, .agg #[.int .i64 t161, .int .i64 t162, .int .i64 t163, .int .i64 t164, .int .i64 t165, .int .i64 t166, .int .i64 t167, .int .i64 t168, .int .i64 t169])]) (fun s_ w' => (determinant_Compare.S18 gb150 gb151 (.int .i64 a0_0) (.int .i64 a0_1) (.int .i64 a0_2) (.int .i64 a0_3) (.int .i64 a0_4) (.int .i64 a0_5) (.int .i64 a0_6) (.int .i64 a0_7) (.int .i64 a0_8) (.int .i64 a1_0) (.int .i64 a1_1) (.int .i64 a1_2) (.int .i64 a1_3) (.int .i64 a1_4) (.int .i64 a1_5) (.int .i64 a1_6) (.int .i64 a1_7) (.int .i64 a1_8) w') ∧ (w'.heap[gb150]? = some (.cells #[.int .i64 a0_0, .int .i64 a0_1, .int .i64 a0_2, .int .i64 a0_3, .int .i64 a0_4, .int .i64 a0_5, .int .i64 a0_6, .int .i64 a0_7, .int .i64 a0_8] 39 (0, 0))) ∧ (w'.heap[gb151]? = some (.cells #[.int .i64 a1_0, .int .i64 a1_1, .int .i64 a1_2, .int .i64 a1_3, .int .i64 a1_4, .int .i64 a1_5, .int .i64 a1_6, .int .i64 a1_7, .int .i64 a1_8] 39 (0, 0))) ∧ (Below w.heap.size w w')) ?_ ?_
     rotate_left
     ·intro hJ1_3
      refine join_ (σ := Nat) 4 #[true, true, true, false, true, false, false, false] (fun s_ => [(9, .agg #[.int .i64 t152, .int .i64 t153, .int .i64 t154, .int .i64 t155, .int .i64 t156, .int .i64 t157, .int .i64 t158, .int .i64 t159, .int .i64 t160]), (5, .pointer (some ⟨s_, 0, none⟩))]) (fun s_ w' => (determinant_Compare.S18 gb150 gb151 (.int .i64 a0_0) (.int .i64 a0_1) (.int .i64 a0_2) (.int .i64 a0_3) (.int .i64 a0_4) (.int .i64 a0_5) (.int .i64 a0_6) (.int .i64 a0_7) (.int .i64 a0_8) (.int .i64 a1_0) (.int .i64 a1_1) (.int .i64 a1_2) (.int .i64 a1_3) (.int .i64 a1_4) (.int .i64 a1_5) (.int .i64 a1_6) (.int .i64 a1_7) (.int .i64 a1_8) w') ∧ (w'.heap[gb150]? = some (.cells #[.int .i64 a0_0, .int .i64 a0_1, .int .i64 a0_2, .int .i64 a0_3, .int .i64 a0_4, .int .i64 a0_5, .int .i64 a0_6, .int .i64 a0_7, .int .i64 a0_8] 39 (0, 0))) ∧ (w'.heap[gb151]? = some (.cells #[.int .i64 a1_0, .int .i64 a1_1, .int .i64 a1_2, .int .i64 a1_3, .int .i64 a1_4, .int .i64 a1_5, .int .i64 a1_6, .int .i64 a1_7, .int .i64 a1_8] 39 (0, 0))) ∧ (w'.heap[s_]? = some (.cells #[.int .i64 0, .int .i64 0, .int .i64 0, .int .i64 0, .int .i64 0, .int .i64 0, .int .i64 0, .int .i64 0, .int .i64 0] 63 (0, 0))) ∧ (w.heap.size ≤ s_) ∧ (w.heap.size ≤ s_) ∧ (gb150 ≠ s_) ∧ (s_ ≠ gb150) ∧ (gb151 ≠ s_) ∧ (s_ ≠ gb151) ∧ (Below w.heap.size w w')) ?_ ?_
      rotate_left
      ·intro hJ1_4
       refine join_ (σ := Nat) 4 #[true, true, true, false, false, true, false, false] (fun s_ => [(9, .agg #[.int .i64 t152, .int .i64 t153, .int .i64 t154, .int .i64 t155, .int .i64 t156, .int .i64 t157, .int .i64 t158, .int .i64 t159, .int .i64 t160]), (6, .pointer (some ⟨s_, 0, none⟩))]) (fun s_ w' => (determinant_Compare.S18 gb150 gb151 (.int .i64 a0_0) (.int .i64 a0_1) (.int .i64 a0_2) (.int .i64 a0_3) (.int .i64 a0_4) (.int .i64 a0_5) (.int .i64 a0_6) (.int .i64 a0_7) (.int .i64 a0_8) (.int .i64 a1_0) (.int .i64 a1_1) (.int .i64 a1_2) (.int .i64 a1_3) (.int .i64 a1_4) (.int .i64 a1_5) (.int .i64 a1_6) (.int .i64 a1_7) (.int .i64 a1_8) w') ∧ (w'.heap[gb150]? = some (.cells #[.int .i64 a0_0, .int .i64 a0_1, .int .i64 a0_2, .int .i64 a0_3, .int .i64 a0_4, .int .i64 a0_5, .int .i64 a0_6, .int .i64 a0_7, .int .i64 a0_8] 39 (0, 0))) ∧ (w'.heap[gb151]? = some (.cells #[.int .i64 a1_0, .int .i64 a1_1, .int .i64 a1_2, .int .i64 a1_3, .int .i64 a1_4, .int .i64 a1_5, .int .i64 a1_6, .int .i64 a1_7, .int .i64 a1_8] 39 (0, 0))) ∧ (w'.heap[s_]? = some (.cells #[.int .i64 0, .int .i64 0, .int .i64 0, .int .i64 0, .int .i64 0, .int .i64 0, .int .i64 0, .int .i64 0, .int .i64 0] 63 (0, 0))) ∧ (w.heap.size ≤ s_) ∧ (w.heap.size ≤ s_) ∧ (gb150 ≠ s_) ∧ (s_ ≠ gb150) ∧ (gb151 ≠ s_) ∧ (s_ ≠ gb151) ∧ (Below w.heap.size w w')) ?_ ?_
       rotate_left
       ·intro hJ1_5
        refine join_ (σ := Nat × Nat) 4 #[true, false, true, false, true, true, false, false] (fun s_ => [(5, .pointer (some ⟨s_.1, 0, none⟩)), (6, .pointer (some ⟨s_.2, 0, none⟩))]) (fun s_ w' => (determinant_Compare.S18 gb150 gb151 (.int .i64 a0_0) (.int .i64 a0_1) (.int .i64 a0_2) (.int .i64 a0_3) (.int .i64 a0_4) (.int .i64 a0_5) (.int .i64 a0_6) (.int .i64 a0_7) (.int .i64 a0_8) (.int .i64 a1_0) (.int .i64 a1_1) (.int .i64 a1_2) (.int .i64 a1_3) (.int .i64 a1_4) (.int .i64 a1_5) (.int .i64 a1_6) (.int .i64 a1_7) (.int .i64 a1_8) w') ∧ (w'.heap[gb150]? = some (.cells #[.int .i64 a0_0, .int .i64 a0_1, .int .i64 a0_2, .int .i64 a0_3, .int .i64 a0_4, .int .i64 a0_5, .int .i64 a0_6, .int .i64 a0_7, .int .i64 a0_8] 39 (0, 0))) ∧ (w'.heap[gb151]? = some (.cells #[.int .i64 a1_0, .int .i64 a1_1, .int .i64 a1_2, .int .i64 a1_3, .int .i64 a1_4, .int .i64 a1_5, .int .i64 a1_6, .int .i64 a1_7, .int .i64 a1_8] 39 (0, 0))) ∧ (w'.heap[s_.1]? = some (.cells #[.int .i64 0, .int .i64 0, .int .i64 0, .int .i64 0, .int .i64 0, .int .i64 0, .int .i64 0, .int .i64 0, .int .i64 0] 63 (0, 0))) ∧ (w'.heap[s_.2]? = some (.cells #[.int .i64 0, .int .i64 0, .int .i64 0, .int .i64 0, .int .i64 0, .int .i64 0, .int .i64 0, .int .i64 0, .int .i64 0] 63 (0, 0))) ∧ (w.heap.size ≤ s_.1) ∧ (w.heap.size ≤ s_.1) ∧ (gb150 ≠ s_.1) ∧ (s_.1 ≠ gb150) ∧ (gb151 ≠ s_.1) ∧ (s_.1 ≠ gb151) ∧ (s_.2 ≠ s_.1) ∧ (s_.1 ≠ s_.2) ∧ (w.heap.size ≤ s_.2) ∧ (w.heap.size ≤ s_.2) ∧ (gb150 ≠ s_.2) ∧ (s_.2 ≠ gb150) ∧ (gb151 ≠ s_.2) ∧ (s_.2 ≠ gb151) ∧ (Below w.heap.size w w')) ?_ ?_
        rotate_left
        ·intro hJ4_5
         refine join_ (σ := Unit) 5 #[true, true, true, false, false, false, false, false] (fun s_ => [(9, .agg #[.int .i64 t152, .int .i64 t153, .int .i64 t154, .int .i64 t155, .int .i64 t156, .int .i64 t157, .int .i64 t158, .int .i64 t159, .int .i64 t160])]) (fun s_ w' => (determinant_Compare.S18 gb150 gb151 (.int .i64 a0_0) (.int .i64 a0_1) (.int .i64 a0_2) (.int .i64 a0_3) (.int .i64 a0_4) (.int .i64 a0_5) (.int .i64 a0_6) (.int .i64 a0_7) (.int .i64 a0_8) (.int .i64 a1_0) (.int .i64 a1_1) (.int .i64 a1_2) (.int .i64 a1_3) (.int .i64 a1_4) (.int .i64 a1_5) (.int .i64 a1_6) (.int .i64 a1_7) (.int .i64 a1_8) w') ∧ (w'.heap[gb150]? = some (.cells #[.int .i64 a0_0, .int .i64 a0_1, .int .i64 a0_2, .int .i64 a0_3, .int .i64 a0_4, .int .i64 a0_5, .int .i64 a0_6, .int .i64 a0_7, .int .i64 a0_8] 39 (0, 0))) ∧ (w'.heap[gb151]? = some (.cells #[.int .i64 a1_0, .int .i64 a1_1, .int .i64 a1_2, .int .i64 a1_3, .int .i64 a1_4, .int .i64 a1_5, .int .i64 a1_6, .int .i64 a1_7, .int .i64 a1_8] 39 (0, 0))) ∧ (Below w.heap.size w w')) ?_ ?_
         rotate_left
         ·intro hJ1
          refine join_ (σ := Nat) 5 #[true, false, true, false, true, false, false, false] (fun s_ => [(5, .pointer (some ⟨s_, 0, none⟩))]) (fun s_ w' => (determinant_Compare.S18 gb150 gb151 (.int .i64 a0_0) (.int .i64 a0_1) (.int .i64 a0_2) (.int .i64 a0_3) (.int .i64 a0_4) (.int .i64 a0_5) (.int .i64 a0_6) (.int .i64 a0_7) (.int .i64 a0_8) (.int .i64 a1_0) (.int .i64 a1_1) (.int .i64 a1_2) (.int .i64 a1_3) (.int .i64 a1_4) (.int .i64 a1_5) (.int .i64 a1_6) (.int .i64 a1_7) (.int .i64 a1_8) w') ∧ (w'.heap[gb150]? = some (.cells #[.int .i64 a0_0, .int .i64 a0_1, .int .i64 a0_2, .int .i64 a0_3, .int .i64 a0_4, .int .i64 a0_5, .int .i64 a0_6, .int .i64 a0_7, .int .i64 a0_8] 39 (0, 0))) ∧ (w'.heap[gb151]? = some (.cells #[.int .i64 a1_0, .int .i64 a1_1, .int .i64 a1_2, .int .i64 a1_3, .int .i64 a1_4, .int .i64 a1_5, .int .i64 a1_6, .int .i64 a1_7, .int .i64 a1_8] 39 (0, 0))) ∧ (w'.heap[s_]? = some (.cells #[.int .i64 0, .int .i64 0, .int .i64 0, .int .i64 0, .int .i64 0, .int .i64 0, .int .i64 0, .int .i64 0, .int .i64 0] 63 (0, 0))) ∧ (w.heap.size ≤ s_) ∧ (w.heap.size ≤ s_) ∧ (gb150 ≠ s_) ∧ (s_ ≠ gb150) ∧ (gb151 ≠ s_) ∧ (s_ ≠ gb151) ∧ (Below w.heap.size w w')) ?_ ?_
          rotate_left
          ·intro hJ4
           refine join_ (σ := Nat) 5 #[true, false, true, false, false, true, false, false] (fun s_ => [(6, .pointer (some ⟨s_, 0, none⟩))]) (fun s_ w' => (determinant_Compare.S18 gb150 gb151 (.int .i64 a0_0) (.int .i64 a0_1) (.int .i64 a0_2) (.int .i64 a0_3) (.int .i64 a0_4) (.int .i64 a0_5) (.int .i64 a0_6) (.int .i64 a0_7) (.int .i64 a0_8) (.int .i64 a1_0) (.int .i64 a1_1) (.int .i64 a1_2) (.int .i64 a1_3) (.int .i64 a1_4) (.int .i64 a1_5) (.int .i64 a1_6) (.int .i64 a1_7) (.int .i64 a1_8) w') ∧ (w'.heap[gb150]? = some (.cells #[.int .i64 a0_0, .int .i64 a0_1, .int .i64 a0_2, .int .i64 a0_3, .int .i64 a0_4, .int .i64 a0_5, .int .i64 a0_6, .int .i64 a0_7, .int .i64 a0_8] 39 (0, 0))) ∧ (w'.heap[gb151]? = some (.cells #[.int .i64 a1_0, .int .i64 a1_1, .int .i64 a1_2, .int .i64 a1_3, .int .i64 a1_4, .int .i64 a1_5, .int .i64 a1_6, .int .i64 a1_7, .int .i64 a1_8] 39 (0, 0))) ∧ (w'.heap[s_]? = some (.cells #[.int .i64 0, .int .i64 0, .int .i64 0, .int .i64 0, .int .i64 0, .int .i64 0, .int .i64 0, .int .i64 0, .int .i64 0] 63 (0, 0))) ∧ (w.heap.size ≤ s_) ∧ (w.heap.size ≤ s_) ∧ (gb150 ≠ s_) ∧ (s_ ≠ gb150) ∧ (gb151 ≠ s_) ∧ (s_ ≠ gb151) ∧ (Below w.heap.size w w')) ?_ ?_
           rotate_left
           ·intro hJ5
            refine three_ (i := 1) (j := 4) (k := 5) (Ni := some 9) (Nj := some 5) (Nk := some 6) #[true, true, true, false, false, false, false, false] #[true, false, true, false, true, false, false, false] #[true, false, true, false, false, true, false, false] rfl rfl rfl rfl rfl rfl (three_of HT_.out (by kernel_rfl)) (by decide) (by decide) (by decide) (fun K hK => ?_) (fun K hK => ?_) (fun K hK => ?_)
            ·skip
             refine goes_ Try.func40 (by kernel_rfl) rfl #[.agg #[.int .i64 a0_0, .int .i64 a0_1, .int .i64 a0_2, .int .i64 a0_3, .int .i64 a0_4, .int .i64 a0_5, .int .i64 a0_6, .int .i64 a0_7, .int .i64 a0_8]] (by first | rfl | (refine wanted_on rfl rfl rfl ?_; first | assumption | (simp [*]; done))) rfl rfl (by (try simp only [List.map_toArray, List.map_cons, List.map_nil]); first | done | rfl | (simp only [List.length_drop, List.length_take]; rfl)) ?_
             with_reducible refine (determinant_fields.calls a0_0 a0_1 a0_2 a0_3 a0_4 a0_5 a0_6 a0_7 a0_8 t152 t153 t154 t155 t156 t157 t158 t159 t160 _ A3.out).mono ?_
             rintro e w8 ⟨rfl, hb⟩
             refine ⟨_, rfl, ?_⟩
             have n0_ := Aside0.mk (blk_below (g := gb150) (o := .cells #[.int .i64 a0_0, .int .i64 a0_1, .int .i64 a0_2, .int .i64 a0_3, .int .i64 a0_4, .int .i64 a0_5, .int .i64 a0_6, .int .i64 a0_7, .int .i64 a0_8] 39 (0, 0)) (kq BK150.out) hb)
             have n1_ := Aside0.mk (blk_below (g := gb151) (o := .cells #[.int .i64 a1_0, .int .i64 a1_1, .int .i64 a1_2, .int .i64 a1_3, .int .i64 a1_4, .int .i64 a1_5, .int .i64 a1_6, .int .i64 a1_7, .int .i64 a1_8] 39 (0, 0)) (kq BK151.out) hb)
             have n2_ := Aside0.mk (below_step (bq2 HB.out GE150.out GE151.out) hb)
             clear BK150
             clear BK151
             clear HB
             have BK150 := n0_
             have BK151 := n1_
             have HB := n2_
             clear n0_ n1_ n2_
             (try clear hb)
             (try clear hb2)
             (try clear hk)
             (try clear hi)
             refine hK.out _ _ (determinant_Compare.held9 BK150.out BK151.out) (fun hHeld => ?_)
             clear hK K
             refine norm_ (a' := ?_) ?_ ?_
             rotate_left
             ·show Act.put _ (some 9) _ = _
              simp only [Act.put, List.setIfInBounds_toArray, List.set_cons_zero, List.set_cons_succ, i64_w, i32_w]
              rfl
             exact norm_ (by first | (simp only [putAll, Act.put, List.setIfInBounds_toArray, List.set_cons_zero, List.set_cons_succ]; done) | (simp only [putAll, Act.put, List.setIfInBounds_toArray, List.set_cons_zero, List.set_cons_succ]; rfl)) (hJ1 () _ ⟨hHeld, (kq BK150.out), (kq BK151.out), (bq2 HB.out GE150.out GE151.out)⟩)
            ·skip
             refine box_step ?hg (N := 5) ?hd (cs := #[.int .i64 0, .int .i64 0, .int .i64 0, .int .i64 0, .int .i64 0, .int .i64 0, .int .i64 0, .int .i64 0, .int .i64 0]) (t := 63) ?hr ?_; (case hd => rfl); (case hg => rfl); (case hr => first | (go_simp; done) | (go_simp; rfl))
             intro gb170 hg w8 hbox hb
             have n0_ := Aside0.mk (blk_below (g := gb150) (o := .cells #[.int .i64 a0_0, .int .i64 a0_1, .int .i64 a0_2, .int .i64 a0_3, .int .i64 a0_4, .int .i64 a0_5, .int .i64 a0_6, .int .i64 a0_7, .int .i64 a0_8] 39 (0, 0)) (kq BK150.out) hb)
             have n1_ := Aside0.mk (blk_below (g := gb151) (o := .cells #[.int .i64 a1_0, .int .i64 a1_1, .int .i64 a1_2, .int .i64 a1_3, .int .i64 a1_4, .int .i64 a1_5, .int .i64 a1_6, .int .i64 a1_7, .int .i64 a1_8] 39 (0, 0)) (kq BK151.out) hb)
             have n2_ := Aside0.mk (below_step (bq2 HB.out GE150.out GE151.out) hb)
             have n3_ := Aside0.mk (hbox)
             have n4_ := Aside0.mk ((by rw [hg]; exact (below_size (bq2 HB.out GE150.out GE151.out)) : w.heap.size ≤ gb170))
             have n5_ := Aside0.mk ((by rw [hg]; exact (below_size (bq2 HB.out GE150.out GE151.out)) : w.heap.size ≤ gb170))
             have n6_ := Aside0.mk ((by rw [hg]; exact Nat.ne_of_lt (blk_lt (g := gb150) (o := .cells #[.int .i64 a0_0, .int .i64 a0_1, .int .i64 a0_2, .int .i64 a0_3, .int .i64 a0_4, .int .i64 a0_5, .int .i64 a0_6, .int .i64 a0_7, .int .i64 a0_8] 39 (0, 0)) (kq BK150.out)) : gb150 ≠ gb170))
             have n7_ := Aside0.mk ((by rw [hg]; exact Nat.ne_of_gt (blk_lt (g := gb150) (o := .cells #[.int .i64 a0_0, .int .i64 a0_1, .int .i64 a0_2, .int .i64 a0_3, .int .i64 a0_4, .int .i64 a0_5, .int .i64 a0_6, .int .i64 a0_7, .int .i64 a0_8] 39 (0, 0)) (kq BK150.out)) : gb170 ≠ gb150))
             have n8_ := Aside0.mk ((by rw [hg]; exact Nat.ne_of_lt (blk_lt (g := gb151) (o := .cells #[.int .i64 a1_0, .int .i64 a1_1, .int .i64 a1_2, .int .i64 a1_3, .int .i64 a1_4, .int .i64 a1_5, .int .i64 a1_6, .int .i64 a1_7, .int .i64 a1_8] 39 (0, 0)) (kq BK151.out)) : gb151 ≠ gb170))
             have n9_ := Aside0.mk ((by rw [hg]; exact Nat.ne_of_gt (blk_lt (g := gb151) (o := .cells #[.int .i64 a1_0, .int .i64 a1_1, .int .i64 a1_2, .int .i64 a1_3, .int .i64 a1_4, .int .i64 a1_5, .int .i64 a1_6, .int .i64 a1_7, .int .i64 a1_8] 39 (0, 0)) (kq BK151.out)) : gb170 ≠ gb151))
             clear BK150
             clear BK151
             clear HB
             have BK150 := n0_
             have BK151 := n1_
             have HB := n2_
             have BK170 := n3_
             have GW170 := n4_
             have GE170 := n5_
             have NB150_170 := n6_
             have NB170_150 := n7_
             have NB151_170 := n8_
             have NB170_151 := n9_
             clear n0_ n1_ n2_ n3_ n4_ n5_ n6_ n7_ n8_ n9_
             clear hb hbox hg
             refine hK.out _ _ (determinant_Compare.held9 BK150.out BK151.out) (fun hHeld => ?_)
             clear hK K
             refine norm_ (a' := ?_) ?_ ?_
             rotate_left
             ·show Act.put _ (some 5) _ = _
              simp only [Act.put, List.setIfInBounds_toArray, List.set_cons_zero, List.set_cons_succ, i64_w, i32_w]
              rfl
             exact norm_ (by first | (simp only [putAll, Act.put, List.setIfInBounds_toArray, List.set_cons_zero, List.set_cons_succ]; done) | (simp only [putAll, Act.put, List.setIfInBounds_toArray, List.set_cons_zero, List.set_cons_succ]; rfl)) (hJ4 (gb170) _ ⟨hHeld, (kq BK150.out), (kq BK151.out), (kq BK170.out), GW170.out, GE170.out, NB150_170.out, NB170_150.out, NB151_170.out, NB170_151.out, (bq3 HB.out GE150.out GE151.out GE170.out)⟩)
            ·skip
             refine box_step ?hg (N := 6) ?hd (cs := #[.int .i64 0, .int .i64 0, .int .i64 0, .int .i64 0, .int .i64 0, .int .i64 0, .int .i64 0, .int .i64 0, .int .i64 0]) (t := 63) ?hr ?_; (case hd => rfl); (case hg => rfl); (case hr => first | (go_simp; done) | (go_simp; rfl))
             intro gb171 hg w8 hbox hb
             have n0_ := Aside0.mk (blk_below (g := gb150) (o := .cells #[.int .i64 a0_0, .int .i64 a0_1, .int .i64 a0_2, .int .i64 a0_3, .int .i64 a0_4, .int .i64 a0_5, .int .i64 a0_6, .int .i64 a0_7, .int .i64 a0_8] 39 (0, 0)) (kq BK150.out) hb)
             have n1_ := Aside0.mk (blk_below (g := gb151) (o := .cells #[.int .i64 a1_0, .int .i64 a1_1, .int .i64 a1_2, .int .i64 a1_3, .int .i64 a1_4, .int .i64 a1_5, .int .i64 a1_6, .int .i64 a1_7, .int .i64 a1_8] 39 (0, 0)) (kq BK151.out) hb)
             have n2_ := Aside0.mk (below_step (bq2 HB.out GE150.out GE151.out) hb)
             have n3_ := Aside0.mk (hbox)
             have n4_ := Aside0.mk ((by rw [hg]; exact (below_size (bq2 HB.out GE150.out GE151.out)) : w.heap.size ≤ gb171))
             have n5_ := Aside0.mk ((by rw [hg]; exact (below_size (bq2 HB.out GE150.out GE151.out)) : w.heap.size ≤ gb171))
             have n6_ := Aside0.mk ((by rw [hg]; exact Nat.ne_of_lt (blk_lt (g := gb150) (o := .cells #[.int .i64 a0_0, .int .i64 a0_1, .int .i64 a0_2, .int .i64 a0_3, .int .i64 a0_4, .int .i64 a0_5, .int .i64 a0_6, .int .i64 a0_7, .int .i64 a0_8] 39 (0, 0)) (kq BK150.out)) : gb150 ≠ gb171))
             have n7_ := Aside0.mk ((by rw [hg]; exact Nat.ne_of_gt (blk_lt (g := gb150) (o := .cells #[.int .i64 a0_0, .int .i64 a0_1, .int .i64 a0_2, .int .i64 a0_3, .int .i64 a0_4, .int .i64 a0_5, .int .i64 a0_6, .int .i64 a0_7, .int .i64 a0_8] 39 (0, 0)) (kq BK150.out)) : gb171 ≠ gb150))
             have n8_ := Aside0.mk ((by rw [hg]; exact Nat.ne_of_lt (blk_lt (g := gb151) (o := .cells #[.int .i64 a1_0, .int .i64 a1_1, .int .i64 a1_2, .int .i64 a1_3, .int .i64 a1_4, .int .i64 a1_5, .int .i64 a1_6, .int .i64 a1_7, .int .i64 a1_8] 39 (0, 0)) (kq BK151.out)) : gb151 ≠ gb171))
             have n9_ := Aside0.mk ((by rw [hg]; exact Nat.ne_of_gt (blk_lt (g := gb151) (o := .cells #[.int .i64 a1_0, .int .i64 a1_1, .int .i64 a1_2, .int .i64 a1_3, .int .i64 a1_4, .int .i64 a1_5, .int .i64 a1_6, .int .i64 a1_7, .int .i64 a1_8] 39 (0, 0)) (kq BK151.out)) : gb171 ≠ gb151))
             clear BK150
             clear BK151
             clear HB
             have BK150 := n0_
             have BK151 := n1_
             have HB := n2_
             have BK171 := n3_
             have GW171 := n4_
             have GE171 := n5_
             have NB150_171 := n6_
             have NB171_150 := n7_
             have NB151_171 := n8_
             have NB171_151 := n9_
             clear n0_ n1_ n2_ n3_ n4_ n5_ n6_ n7_ n8_ n9_
             clear hb hbox hg
             refine hK.out _ _ (determinant_Compare.held9 BK150.out BK151.out) (fun hHeld => ?_)
             clear hK K
             refine norm_ (a' := ?_) ?_ ?_
             rotate_left
             ·show Act.put _ (some 6) _ = _
              simp only [Act.put, List.setIfInBounds_toArray, List.set_cons_zero, List.set_cons_succ, i64_w, i32_w]
              rfl
             exact norm_ (by first | (simp only [putAll, Act.put, List.setIfInBounds_toArray, List.set_cons_zero, List.set_cons_succ]; done) | (simp only [putAll, Act.put, List.setIfInBounds_toArray, List.set_cons_zero, List.set_cons_succ]; rfl)) (hJ5 (gb171) _ ⟨hHeld, (kq BK150.out), (kq BK151.out), (kq BK171.out), GW171.out, GE171.out, NB150_171.out, NB171_150.out, NB151_171.out, NB171_151.out, (bq3 HB.out GE150.out GE151.out GE171.out)⟩)
           ·skip
            rintro gb171 w9 ⟨hS_, h0_, h1_, h2_, h3_, h4_, h5_, h6_, h7_, h8_, h9_⟩
            have n0_ : Aside0 (w9.heap[gb150]? = some (.cells #[.int .i64 a0_0, .int .i64 a0_1, .int .i64 a0_2, .int .i64 a0_3, .int .i64 a0_4, .int .i64 a0_5, .int .i64 a0_6, .int .i64 a0_7, .int .i64 a0_8] 39 (0, 0))) := ⟨h0_⟩
            have n1_ : Aside0 (w9.heap[gb151]? = some (.cells #[.int .i64 a1_0, .int .i64 a1_1, .int .i64 a1_2, .int .i64 a1_3, .int .i64 a1_4, .int .i64 a1_5, .int .i64 a1_6, .int .i64 a1_7, .int .i64 a1_8] 39 (0, 0))) := ⟨h1_⟩
            have n2_ : Aside0 (w9.heap[gb171]? = some (.cells #[.int .i64 0, .int .i64 0, .int .i64 0, .int .i64 0, .int .i64 0, .int .i64 0, .int .i64 0, .int .i64 0, .int .i64 0] 63 (0, 0))) := ⟨h2_⟩
            have n3_ : Aside0 (w.heap.size ≤ gb171) := ⟨h3_⟩
            have n4_ : Aside0 (w.heap.size ≤ gb171) := ⟨h4_⟩
            have n5_ : Aside0 (gb150 ≠ gb171) := ⟨h5_⟩
            have n6_ : Aside0 (gb171 ≠ gb150) := ⟨h6_⟩
            have n7_ : Aside0 (gb151 ≠ gb171) := ⟨h7_⟩
            have n8_ : Aside0 (gb171 ≠ gb151) := ⟨h8_⟩
            have n9_ : Aside0 (Below w.heap.size w w9) := ⟨h9_⟩
            clear BK150
            clear BK151
            clear HB
            clear h0_ h1_ h2_ h3_ h4_ h5_ h6_ h7_ h8_ h9_
            have BK150 := n0_
            have BK151 := n1_
            have BK171 := n2_
            have GW171 := n3_
            have GE171 := n4_
            have NB150_171 := n5_
            have NB171_150 := n6_
            have NB151_171 := n7_
            have NB171_151 := n8_
            have HB := n9_
            clear n0_ n1_ n2_ n3_ n4_ n5_ n6_ n7_ n8_ n9_
            have hHeld : determinant_Compare.S18 gb150 gb151 (.int .i64 a0_0) (.int .i64 a0_1) (.int .i64 a0_2) (.int .i64 a0_3) (.int .i64 a0_4) (.int .i64 a0_5) (.int .i64 a0_6) (.int .i64 a0_7) (.int .i64 a0_8) (.int .i64 a1_0) (.int .i64 a1_1) (.int .i64 a1_2) (.int .i64 a1_3) (.int .i64 a1_4) (.int .i64 a1_5) (.int .i64 a1_6) (.int .i64 a1_7) (.int .i64 a1_8) w9 := hS_
            refine norm_ (a' := ?_) ?_ ?_
            rotate_left
            ·simp only [putAll, Act.put, List.setIfInBounds_toArray, List.set_cons_zero, List.set_cons_succ]
             rfl
            refine two_ (i := 1) (j := 4) (Ni := some 9) (Nj := some 5) #[true, true, true, false, false, true, false, false] #[true, false, true, false, true, true, false, false] rfl rfl rfl rfl (two_of HT_.out (by kernel_rfl)) (by decide) (by decide) (fun K hK => ?_) (fun K hK => ?_)
            ·skip
             refine goes_ Try.func40 (by kernel_rfl) rfl #[.agg #[.int .i64 a0_0, .int .i64 a0_1, .int .i64 a0_2, .int .i64 a0_3, .int .i64 a0_4, .int .i64 a0_5, .int .i64 a0_6, .int .i64 a0_7, .int .i64 a0_8]] (by first | rfl | (refine wanted_on rfl rfl rfl ?_; first | assumption | (simp [*]; done))) rfl rfl (by (try simp only [List.map_toArray, List.map_cons, List.map_nil]); first | done | rfl | (simp only [List.length_drop, List.length_take]; rfl)) ?_
             with_reducible refine (determinant_fields.calls a0_0 a0_1 a0_2 a0_3 a0_4 a0_5 a0_6 a0_7 a0_8 t152 t153 t154 t155 t156 t157 t158 t159 t160 _ A3.out).mono ?_
             rintro e w10 ⟨rfl, hb⟩
             refine ⟨_, rfl, ?_⟩
             have n0_ := Aside0.mk (blk_below (g := gb150) (o := .cells #[.int .i64 a0_0, .int .i64 a0_1, .int .i64 a0_2, .int .i64 a0_3, .int .i64 a0_4, .int .i64 a0_5, .int .i64 a0_6, .int .i64 a0_7, .int .i64 a0_8] 39 (0, 0)) (kq BK150.out) hb)
             have n1_ := Aside0.mk (blk_below (g := gb151) (o := .cells #[.int .i64 a1_0, .int .i64 a1_1, .int .i64 a1_2, .int .i64 a1_3, .int .i64 a1_4, .int .i64 a1_5, .int .i64 a1_6, .int .i64 a1_7, .int .i64 a1_8] 39 (0, 0)) (kq BK151.out) hb)
             have n2_ := Aside0.mk (blk_below (g := gb171) (o := .cells #[.int .i64 0, .int .i64 0, .int .i64 0, .int .i64 0, .int .i64 0, .int .i64 0, .int .i64 0, .int .i64 0, .int .i64 0] 63 (0, 0)) (kq BK171.out) hb)
             have n3_ := Aside0.mk (below_step (bq3 HB.out GE150.out GE151.out GE171.out) hb)
             clear BK150
             clear BK151
             clear BK171
             clear HB
             have BK150 := n0_
             have BK151 := n1_
             have BK171 := n2_
             have HB := n3_
             clear n0_ n1_ n2_ n3_
             (try clear hb)
             (try clear hb2)
             (try clear hk)
             (try clear hi)
             refine hK.out _ _ (determinant_Compare.held9 BK150.out BK151.out) (fun hHeld => ?_)
             clear hK K
             refine norm_ (a' := ?_) ?_ ?_
             rotate_left
             ·show Act.put _ (some 9) _ = _
              simp only [Act.put, List.setIfInBounds_toArray, List.set_cons_zero, List.set_cons_succ, i64_w, i32_w]
              rfl
             exact norm_ (by first | (simp only [putAll, Act.put, List.setIfInBounds_toArray, List.set_cons_zero, List.set_cons_succ]; done) | (simp only [putAll, Act.put, List.setIfInBounds_toArray, List.set_cons_zero, List.set_cons_succ]; rfl)) (hJ1_5 (gb171) _ ⟨hHeld, (kq BK150.out), (kq BK151.out), (kq BK171.out), GW171.out, GE171.out, NB150_171.out, NB171_150.out, NB151_171.out, NB171_151.out, (bq3 HB.out GE150.out GE151.out GE171.out)⟩)
            ·skip
             refine box_step ?hg (N := 5) ?hd (cs := #[.int .i64 0, .int .i64 0, .int .i64 0, .int .i64 0, .int .i64 0, .int .i64 0, .int .i64 0, .int .i64 0, .int .i64 0]) (t := 63) ?hr ?_; (case hd => rfl); (case hg => rfl); (case hr => first | (go_simp; done) | (go_simp; rfl))
             intro gb170 hg w10 hbox hb
             have n0_ := Aside0.mk (blk_below (g := gb150) (o := .cells #[.int .i64 a0_0, .int .i64 a0_1, .int .i64 a0_2, .int .i64 a0_3, .int .i64 a0_4, .int .i64 a0_5, .int .i64 a0_6, .int .i64 a0_7, .int .i64 a0_8] 39 (0, 0)) (kq BK150.out) hb)
             have n1_ := Aside0.mk (blk_below (g := gb151) (o := .cells #[.int .i64 a1_0, .int .i64 a1_1, .int .i64 a1_2, .int .i64 a1_3, .int .i64 a1_4, .int .i64 a1_5, .int .i64 a1_6, .int .i64 a1_7, .int .i64 a1_8] 39 (0, 0)) (kq BK151.out) hb)
             have n2_ := Aside0.mk (blk_below (g := gb171) (o := .cells #[.int .i64 0, .int .i64 0, .int .i64 0, .int .i64 0, .int .i64 0, .int .i64 0, .int .i64 0, .int .i64 0, .int .i64 0] 63 (0, 0)) (kq BK171.out) hb)
             have n3_ := Aside0.mk (below_step (bq3 HB.out GE150.out GE151.out GE171.out) hb)
             have n4_ := Aside0.mk (hbox)
             have n5_ := Aside0.mk ((by rw [hg]; exact (below_size (bq3 HB.out GE150.out GE151.out GE171.out)) : w.heap.size ≤ gb170))
             have n6_ := Aside0.mk ((by rw [hg]; exact (below_size (bq3 HB.out GE150.out GE151.out GE171.out)) : w.heap.size ≤ gb170))
             have n7_ := Aside0.mk ((by rw [hg]; exact Nat.ne_of_lt (blk_lt (g := gb150) (o := .cells #[.int .i64 a0_0, .int .i64 a0_1, .int .i64 a0_2, .int .i64 a0_3, .int .i64 a0_4, .int .i64 a0_5, .int .i64 a0_6, .int .i64 a0_7, .int .i64 a0_8] 39 (0, 0)) (kq BK150.out)) : gb150 ≠ gb170))
             have n8_ := Aside0.mk ((by rw [hg]; exact Nat.ne_of_gt (blk_lt (g := gb150) (o := .cells #[.int .i64 a0_0, .int .i64 a0_1, .int .i64 a0_2, .int .i64 a0_3, .int .i64 a0_4, .int .i64 a0_5, .int .i64 a0_6, .int .i64 a0_7, .int .i64 a0_8] 39 (0, 0)) (kq BK150.out)) : gb170 ≠ gb150))
             have n9_ := Aside0.mk ((by rw [hg]; exact Nat.ne_of_lt (blk_lt (g := gb151) (o := .cells #[.int .i64 a1_0, .int .i64 a1_1, .int .i64 a1_2, .int .i64 a1_3, .int .i64 a1_4, .int .i64 a1_5, .int .i64 a1_6, .int .i64 a1_7, .int .i64 a1_8] 39 (0, 0)) (kq BK151.out)) : gb151 ≠ gb170))
             have n10_ := Aside0.mk ((by rw [hg]; exact Nat.ne_of_gt (blk_lt (g := gb151) (o := .cells #[.int .i64 a1_0, .int .i64 a1_1, .int .i64 a1_2, .int .i64 a1_3, .int .i64 a1_4, .int .i64 a1_5, .int .i64 a1_6, .int .i64 a1_7, .int .i64 a1_8] 39 (0, 0)) (kq BK151.out)) : gb170 ≠ gb151))
             have n11_ := Aside0.mk ((by rw [hg]; exact Nat.ne_of_lt (blk_lt (g := gb171) (o := .cells #[.int .i64 0, .int .i64 0, .int .i64 0, .int .i64 0, .int .i64 0, .int .i64 0, .int .i64 0, .int .i64 0, .int .i64 0] 63 (0, 0)) (kq BK171.out)) : gb171 ≠ gb170))
             have n12_ := Aside0.mk ((by rw [hg]; exact Nat.ne_of_gt (blk_lt (g := gb171) (o := .cells #[.int .i64 0, .int .i64 0, .int .i64 0, .int .i64 0, .int .i64 0, .int .i64 0, .int .i64 0, .int .i64 0, .int .i64 0] 63 (0, 0)) (kq BK171.out)) : gb170 ≠ gb171))
             clear BK150
             clear BK151
             clear BK171
             clear HB
             have BK150 := n0_
             have BK151 := n1_
             have BK171 := n2_
             have HB := n3_
             have BK170 := n4_
             have GW170 := n5_
             have GE170 := n6_
             have NB150_170 := n7_
             have NB170_150 := n8_
             have NB151_170 := n9_
             have NB170_151 := n10_
             have NB171_170 := n11_
             have NB170_171 := n12_
             clear n0_ n1_ n2_ n3_ n4_ n5_ n6_ n7_ n8_ n9_ n10_ n11_ n12_
             clear hb hbox hg
             refine hK.out _ _ (determinant_Compare.held9 BK150.out BK151.out) (fun hHeld => ?_)
             clear hK K
             refine norm_ (a' := ?_) ?_ ?_
             rotate_left
             ·show Act.put _ (some 5) _ = _
              simp only [Act.put, List.setIfInBounds_toArray, List.set_cons_zero, List.set_cons_succ, i64_w, i32_w]
              rfl
             exact norm_ (by first | (simp only [putAll, Act.put, List.setIfInBounds_toArray, List.set_cons_zero, List.set_cons_succ]; done) | (simp only [putAll, Act.put, List.setIfInBounds_toArray, List.set_cons_zero, List.set_cons_succ]; rfl)) (hJ4_5 (gb170, gb171) _ ⟨hHeld, (kq BK150.out), (kq BK151.out), (kq BK170.out), (kq BK171.out), GW170.out, GE170.out, NB150_170.out, NB170_150.out, NB151_170.out, NB170_151.out, NB171_170.out, NB170_171.out, GW171.out, GE171.out, NB150_171.out, NB171_150.out, NB151_171.out, NB171_151.out, (bq4 HB.out GE150.out GE151.out GE171.out GE170.out)⟩)
          ·skip
           rintro gb170 w9 ⟨hS_, h0_, h1_, h2_, h3_, h4_, h5_, h6_, h7_, h8_, h9_⟩
           have n0_ : Aside0 (w9.heap[gb150]? = some (.cells #[.int .i64 a0_0, .int .i64 a0_1, .int .i64 a0_2, .int .i64 a0_3, .int .i64 a0_4, .int .i64 a0_5, .int .i64 a0_6, .int .i64 a0_7, .int .i64 a0_8] 39 (0, 0))) := ⟨h0_⟩
           have n1_ : Aside0 (w9.heap[gb151]? = some (.cells #[.int .i64 a1_0, .int .i64 a1_1, .int .i64 a1_2, .int .i64 a1_3, .int .i64 a1_4, .int .i64 a1_5, .int .i64 a1_6, .int .i64 a1_7, .int .i64 a1_8] 39 (0, 0))) := ⟨h1_⟩
           have n2_ : Aside0 (w9.heap[gb170]? = some (.cells #[.int .i64 0, .int .i64 0, .int .i64 0, .int .i64 0, .int .i64 0, .int .i64 0, .int .i64 0, .int .i64 0, .int .i64 0] 63 (0, 0))) := ⟨h2_⟩
           have n3_ : Aside0 (w.heap.size ≤ gb170) := ⟨h3_⟩
           have n4_ : Aside0 (w.heap.size ≤ gb170) := ⟨h4_⟩
           have n5_ : Aside0 (gb150 ≠ gb170) := ⟨h5_⟩
           have n6_ : Aside0 (gb170 ≠ gb150) := ⟨h6_⟩
           have n7_ : Aside0 (gb151 ≠ gb170) := ⟨h7_⟩
           have n8_ : Aside0 (gb170 ≠ gb151) := ⟨h8_⟩
           have n9_ : Aside0 (Below w.heap.size w w9) := ⟨h9_⟩
           clear BK150
           clear BK151
           clear HB
           clear h0_ h1_ h2_ h3_ h4_ h5_ h6_ h7_ h8_ h9_
           have BK150 := n0_
           have BK151 := n1_
           have BK170 := n2_
           have GW170 := n3_
           have GE170 := n4_
           have NB150_170 := n5_
           have NB170_150 := n6_
           have NB151_170 := n7_
           have NB170_151 := n8_
           have HB := n9_
           clear n0_ n1_ n2_ n3_ n4_ n5_ n6_ n7_ n8_ n9_
           have hHeld : determinant_Compare.S18 gb150 gb151 (.int .i64 a0_0) (.int .i64 a0_1) (.int .i64 a0_2) (.int .i64 a0_3) (.int .i64 a0_4) (.int .i64 a0_5) (.int .i64 a0_6) (.int .i64 a0_7) (.int .i64 a0_8) (.int .i64 a1_0) (.int .i64 a1_1) (.int .i64 a1_2) (.int .i64 a1_3) (.int .i64 a1_4) (.int .i64 a1_5) (.int .i64 a1_6) (.int .i64 a1_7) (.int .i64 a1_8) w9 := hS_
           refine norm_ (a' := ?_) ?_ ?_
           rotate_left
           ·simp only [putAll, Act.put, List.setIfInBounds_toArray, List.set_cons_zero, List.set_cons_succ]
            rfl
           refine two_ (i := 1) (j := 5) (Ni := some 9) (Nj := some 6) #[true, true, true, false, true, false, false, false] #[true, false, true, false, true, true, false, false] rfl rfl rfl rfl (two_of HT_.out (by kernel_rfl)) (by decide) (by decide) (fun K hK => ?_) (fun K hK => ?_)
           ·skip
            refine goes_ Try.func40 (by kernel_rfl) rfl #[.agg #[.int .i64 a0_0, .int .i64 a0_1, .int .i64 a0_2, .int .i64 a0_3, .int .i64 a0_4, .int .i64 a0_5, .int .i64 a0_6, .int .i64 a0_7, .int .i64 a0_8]] (by first | rfl | (refine wanted_on rfl rfl rfl ?_; first | assumption | (simp [*]; done))) rfl rfl (by (try simp only [List.map_toArray, List.map_cons, List.map_nil]); first | done | rfl | (simp only [List.length_drop, List.length_take]; rfl)) ?_
            with_reducible refine (determinant_fields.calls a0_0 a0_1 a0_2 a0_3 a0_4 a0_5 a0_6 a0_7 a0_8 t152 t153 t154 t155 t156 t157 t158 t159 t160 _ A3.out).mono ?_
            rintro e w10 ⟨rfl, hb⟩
            refine ⟨_, rfl, ?_⟩
            have n0_ := Aside0.mk (blk_below (g := gb150) (o := .cells #[.int .i64 a0_0, .int .i64 a0_1, .int .i64 a0_2, .int .i64 a0_3, .int .i64 a0_4, .int .i64 a0_5, .int .i64 a0_6, .int .i64 a0_7, .int .i64 a0_8] 39 (0, 0)) (kq BK150.out) hb)
            have n1_ := Aside0.mk (blk_below (g := gb151) (o := .cells #[.int .i64 a1_0, .int .i64 a1_1, .int .i64 a1_2, .int .i64 a1_3, .int .i64 a1_4, .int .i64 a1_5, .int .i64 a1_6, .int .i64 a1_7, .int .i64 a1_8] 39 (0, 0)) (kq BK151.out) hb)
            have n2_ := Aside0.mk (blk_below (g := gb170) (o := .cells #[.int .i64 0, .int .i64 0, .int .i64 0, .int .i64 0, .int .i64 0, .int .i64 0, .int .i64 0, .int .i64 0, .int .i64 0] 63 (0, 0)) (kq BK170.out) hb)
            have n3_ := Aside0.mk (below_step (bq3 HB.out GE150.out GE151.out GE170.out) hb)
            clear BK150
            clear BK151
            clear BK170
            clear HB
            have BK150 := n0_
            have BK151 := n1_
            have BK170 := n2_
            have HB := n3_
            clear n0_ n1_ n2_ n3_
            (try clear hb)
            (try clear hb2)
            (try clear hk)
            (try clear hi)
            refine hK.out _ _ (determinant_Compare.held9 BK150.out BK151.out) (fun hHeld => ?_)
            clear hK K
            refine norm_ (a' := ?_) ?_ ?_
            rotate_left
            ·show Act.put _ (some 9) _ = _
             simp only [Act.put, List.setIfInBounds_toArray, List.set_cons_zero, List.set_cons_succ, i64_w, i32_w]
             rfl
            exact norm_ (by first | (simp only [putAll, Act.put, List.setIfInBounds_toArray, List.set_cons_zero, List.set_cons_succ]; done) | (simp only [putAll, Act.put, List.setIfInBounds_toArray, List.set_cons_zero, List.set_cons_succ]; rfl)) (hJ1_4 (gb170) _ ⟨hHeld, (kq BK150.out), (kq BK151.out), (kq BK170.out), GW170.out, GE170.out, NB150_170.out, NB170_150.out, NB151_170.out, NB170_151.out, (bq3 HB.out GE150.out GE151.out GE170.out)⟩)
           ·skip
            refine box_step ?hg (N := 6) ?hd (cs := #[.int .i64 0, .int .i64 0, .int .i64 0, .int .i64 0, .int .i64 0, .int .i64 0, .int .i64 0, .int .i64 0, .int .i64 0]) (t := 63) ?hr ?_; (case hd => rfl); (case hg => rfl); (case hr => first | (go_simp; done) | (go_simp; rfl))
            intro gb171 hg w10 hbox hb
            have n0_ := Aside0.mk (blk_below (g := gb150) (o := .cells #[.int .i64 a0_0, .int .i64 a0_1, .int .i64 a0_2, .int .i64 a0_3, .int .i64 a0_4, .int .i64 a0_5, .int .i64 a0_6, .int .i64 a0_7, .int .i64 a0_8] 39 (0, 0)) (kq BK150.out) hb)
            have n1_ := Aside0.mk (blk_below (g := gb151) (o := .cells #[.int .i64 a1_0, .int .i64 a1_1, .int .i64 a1_2, .int .i64 a1_3, .int .i64 a1_4, .int .i64 a1_5, .int .i64 a1_6, .int .i64 a1_7, .int .i64 a1_8] 39 (0, 0)) (kq BK151.out) hb)
            have n2_ := Aside0.mk (blk_below (g := gb170) (o := .cells #[.int .i64 0, .int .i64 0, .int .i64 0, .int .i64 0, .int .i64 0, .int .i64 0, .int .i64 0, .int .i64 0, .int .i64 0] 63 (0, 0)) (kq BK170.out) hb)
            have n3_ := Aside0.mk (below_step (bq3 HB.out GE150.out GE151.out GE170.out) hb)
            have n4_ := Aside0.mk (hbox)
            have n5_ := Aside0.mk ((by rw [hg]; exact (below_size (bq3 HB.out GE150.out GE151.out GE170.out)) : w.heap.size ≤ gb171))
            have n6_ := Aside0.mk ((by rw [hg]; exact (below_size (bq3 HB.out GE150.out GE151.out GE170.out)) : w.heap.size ≤ gb171))
            have n7_ := Aside0.mk ((by rw [hg]; exact Nat.ne_of_lt (blk_lt (g := gb150) (o := .cells #[.int .i64 a0_0, .int .i64 a0_1, .int .i64 a0_2, .int .i64 a0_3, .int .i64 a0_4, .int .i64 a0_5, .int .i64 a0_6, .int .i64 a0_7, .int .i64 a0_8] 39 (0, 0)) (kq BK150.out)) : gb150 ≠ gb171))
            have n8_ := Aside0.mk ((by rw [hg]; exact Nat.ne_of_gt (blk_lt (g := gb150) (o := .cells #[.int .i64 a0_0, .int .i64 a0_1, .int .i64 a0_2, .int .i64 a0_3, .int .i64 a0_4, .int .i64 a0_5, .int .i64 a0_6, .int .i64 a0_7, .int .i64 a0_8] 39 (0, 0)) (kq BK150.out)) : gb171 ≠ gb150))
            have n9_ := Aside0.mk ((by rw [hg]; exact Nat.ne_of_lt (blk_lt (g := gb151) (o := .cells #[.int .i64 a1_0, .int .i64 a1_1, .int .i64 a1_2, .int .i64 a1_3, .int .i64 a1_4, .int .i64 a1_5, .int .i64 a1_6, .int .i64 a1_7, .int .i64 a1_8] 39 (0, 0)) (kq BK151.out)) : gb151 ≠ gb171))
            have n10_ := Aside0.mk ((by rw [hg]; exact Nat.ne_of_gt (blk_lt (g := gb151) (o := .cells #[.int .i64 a1_0, .int .i64 a1_1, .int .i64 a1_2, .int .i64 a1_3, .int .i64 a1_4, .int .i64 a1_5, .int .i64 a1_6, .int .i64 a1_7, .int .i64 a1_8] 39 (0, 0)) (kq BK151.out)) : gb171 ≠ gb151))
            have n11_ := Aside0.mk ((by rw [hg]; exact Nat.ne_of_lt (blk_lt (g := gb170) (o := .cells #[.int .i64 0, .int .i64 0, .int .i64 0, .int .i64 0, .int .i64 0, .int .i64 0, .int .i64 0, .int .i64 0, .int .i64 0] 63 (0, 0)) (kq BK170.out)) : gb170 ≠ gb171))
            have n12_ := Aside0.mk ((by rw [hg]; exact Nat.ne_of_gt (blk_lt (g := gb170) (o := .cells #[.int .i64 0, .int .i64 0, .int .i64 0, .int .i64 0, .int .i64 0, .int .i64 0, .int .i64 0, .int .i64 0, .int .i64 0] 63 (0, 0)) (kq BK170.out)) : gb171 ≠ gb170))
            clear BK150
            clear BK151
            clear BK170
            clear HB
            have BK150 := n0_
            have BK151 := n1_
            have BK170 := n2_
            have HB := n3_
            have BK171 := n4_
            have GW171 := n5_
            have GE171 := n6_
            have NB150_171 := n7_
            have NB171_150 := n8_
            have NB151_171 := n9_
            have NB171_151 := n10_
            have NB170_171 := n11_
            have NB171_170 := n12_
            clear n0_ n1_ n2_ n3_ n4_ n5_ n6_ n7_ n8_ n9_ n10_ n11_ n12_
            clear hb hbox hg
            refine hK.out _ _ (determinant_Compare.held9 BK150.out BK151.out) (fun hHeld => ?_)
            clear hK K
            refine norm_ (a' := ?_) ?_ ?_
            rotate_left
            ·show Act.put _ (some 6) _ = _
             simp only [Act.put, List.setIfInBounds_toArray, List.set_cons_zero, List.set_cons_succ, i64_w, i32_w]
             rfl
            exact norm_ (by first | (simp only [putAll, Act.put, List.setIfInBounds_toArray, List.set_cons_zero, List.set_cons_succ]; done) | (simp only [putAll, Act.put, List.setIfInBounds_toArray, List.set_cons_zero, List.set_cons_succ]; rfl)) (hJ4_5 (gb170, gb171) _ ⟨hHeld, (kq BK150.out), (kq BK151.out), (kq BK170.out), (kq BK171.out), GW170.out, GE170.out, NB150_170.out, NB170_150.out, NB151_170.out, NB170_151.out, NB171_170.out, NB170_171.out, GW171.out, GE171.out, NB150_171.out, NB171_150.out, NB151_171.out, NB171_151.out, (bq4 HB.out GE150.out GE151.out GE170.out GE171.out)⟩)
         ·skip
          rintro _ w9 ⟨hS_, h0_, h1_, h2_⟩
          have n0_ : Aside0 (w9.heap[gb150]? = some (.cells #[.int .i64 a0_0, .int .i64 a0_1, .int .i64 a0_2, .int .i64 a0_3, .int .i64 a0_4, .int .i64 a0_5, .int .i64 a0_6, .int .i64 a0_7, .int .i64 a0_8] 39 (0, 0))) := ⟨h0_⟩
          have n1_ : Aside0 (w9.heap[gb151]? = some (.cells #[.int .i64 a1_0, .int .i64 a1_1, .int .i64 a1_2, .int .i64 a1_3, .int .i64 a1_4, .int .i64 a1_5, .int .i64 a1_6, .int .i64 a1_7, .int .i64 a1_8] 39 (0, 0))) := ⟨h1_⟩
          have n2_ : Aside0 (Below w.heap.size w w9) := ⟨h2_⟩
          clear BK150
          clear BK151
          clear HB
          clear h0_ h1_ h2_
          have BK150 := n0_
          have BK151 := n1_
          have HB := n2_
          clear n0_ n1_ n2_
          have hHeld : determinant_Compare.S18 gb150 gb151 (.int .i64 a0_0) (.int .i64 a0_1) (.int .i64 a0_2) (.int .i64 a0_3) (.int .i64 a0_4) (.int .i64 a0_5) (.int .i64 a0_6) (.int .i64 a0_7) (.int .i64 a0_8) (.int .i64 a1_0) (.int .i64 a1_1) (.int .i64 a1_2) (.int .i64 a1_3) (.int .i64 a1_4) (.int .i64 a1_5) (.int .i64 a1_6) (.int .i64 a1_7) (.int .i64 a1_8) w9 := hS_
          refine norm_ (a' := ?_) ?_ ?_
          rotate_left
          ·simp only [putAll, Act.put, List.setIfInBounds_toArray, List.set_cons_zero, List.set_cons_succ]
           rfl
          refine three_ (i := 3) (j := 4) (k := 5) (Ni := some 11) (Nj := some 5) (Nk := some 6) #[true, true, true, true, false, false, false, false] #[true, true, true, false, true, false, false, false] #[true, true, true, false, false, true, false, false] rfl rfl rfl rfl rfl rfl (three_of HT_.out (by kernel_rfl)) (by decide) (by decide) (by decide) (fun K hK => ?_) (fun K hK => ?_) (fun K hK => ?_)
          ·skip
           refine goes_ Try.func40 (by kernel_rfl) rfl #[.agg #[.int .i64 a1_0, .int .i64 a1_1, .int .i64 a1_2, .int .i64 a1_3, .int .i64 a1_4, .int .i64 a1_5, .int .i64 a1_6, .int .i64 a1_7, .int .i64 a1_8]] (by first | rfl | (refine wanted_on rfl rfl rfl ?_; first | assumption | (simp [*]; done))) rfl rfl (by (try simp only [List.map_toArray, List.map_cons, List.map_nil]); first | done | rfl | (simp only [List.length_drop, List.length_take]; rfl)) ?_
           with_reducible refine (determinant_fields.calls a1_0 a1_1 a1_2 a1_3 a1_4 a1_5 a1_6 a1_7 a1_8 t161 t162 t163 t164 t165 t166 t167 t168 t169 _ A4.out).mono ?_
           rintro e w10 ⟨rfl, hb⟩
           refine ⟨_, rfl, ?_⟩
           have n0_ := Aside0.mk (blk_below (g := gb150) (o := .cells #[.int .i64 a0_0, .int .i64 a0_1, .int .i64 a0_2, .int .i64 a0_3, .int .i64 a0_4, .int .i64 a0_5, .int .i64 a0_6, .int .i64 a0_7, .int .i64 a0_8] 39 (0, 0)) (kq BK150.out) hb)
           have n1_ := Aside0.mk (blk_below (g := gb151) (o := .cells #[.int .i64 a1_0, .int .i64 a1_1, .int .i64 a1_2, .int .i64 a1_3, .int .i64 a1_4, .int .i64 a1_5, .int .i64 a1_6, .int .i64 a1_7, .int .i64 a1_8] 39 (0, 0)) (kq BK151.out) hb)
           have n2_ := Aside0.mk (below_step (bq2 HB.out GE150.out GE151.out) hb)
           clear BK150
           clear BK151
           clear HB
           have BK150 := n0_
           have BK151 := n1_
           have HB := n2_
           clear n0_ n1_ n2_
           (try clear hb)
           (try clear hb2)
           (try clear hk)
           (try clear hi)
           refine hK.out _ _ (determinant_Compare.held9 BK150.out BK151.out) (fun hHeld => ?_)
           clear hK K
           refine norm_ (a' := ?_) ?_ ?_
           rotate_left
           ·show Act.put _ (some 11) _ = _
            simp only [Act.put, List.setIfInBounds_toArray, List.set_cons_zero, List.set_cons_succ, i64_w, i32_w]
            rfl
           exact norm_ (by first | (simp only [putAll, Act.put, List.setIfInBounds_toArray, List.set_cons_zero, List.set_cons_succ]; done) | (simp only [putAll, Act.put, List.setIfInBounds_toArray, List.set_cons_zero, List.set_cons_succ]; rfl)) (hJ1_3 () _ ⟨hHeld, (kq BK150.out), (kq BK151.out), (bq2 HB.out GE150.out GE151.out)⟩)
          ·skip
           refine box_step ?hg (N := 5) ?hd (cs := #[.int .i64 0, .int .i64 0, .int .i64 0, .int .i64 0, .int .i64 0, .int .i64 0, .int .i64 0, .int .i64 0, .int .i64 0]) (t := 63) ?hr ?_; (case hd => rfl); (case hg => rfl); (case hr => first | (go_simp; done) | (go_simp; rfl))
           intro gb170 hg w10 hbox hb
           have n0_ := Aside0.mk (blk_below (g := gb150) (o := .cells #[.int .i64 a0_0, .int .i64 a0_1, .int .i64 a0_2, .int .i64 a0_3, .int .i64 a0_4, .int .i64 a0_5, .int .i64 a0_6, .int .i64 a0_7, .int .i64 a0_8] 39 (0, 0)) (kq BK150.out) hb)
           have n1_ := Aside0.mk (blk_below (g := gb151) (o := .cells #[.int .i64 a1_0, .int .i64 a1_1, .int .i64 a1_2, .int .i64 a1_3, .int .i64 a1_4, .int .i64 a1_5, .int .i64 a1_6, .int .i64 a1_7, .int .i64 a1_8] 39 (0, 0)) (kq BK151.out) hb)
           have n2_ := Aside0.mk (below_step (bq2 HB.out GE150.out GE151.out) hb)
           have n3_ := Aside0.mk (hbox)
           have n4_ := Aside0.mk ((by rw [hg]; exact (below_size (bq2 HB.out GE150.out GE151.out)) : w.heap.size ≤ gb170))
           have n5_ := Aside0.mk ((by rw [hg]; exact (below_size (bq2 HB.out GE150.out GE151.out)) : w.heap.size ≤ gb170))
           have n6_ := Aside0.mk ((by rw [hg]; exact Nat.ne_of_lt (blk_lt (g := gb150) (o := .cells #[.int .i64 a0_0, .int .i64 a0_1, .int .i64 a0_2, .int .i64 a0_3, .int .i64 a0_4, .int .i64 a0_5, .int .i64 a0_6, .int .i64 a0_7, .int .i64 a0_8] 39 (0, 0)) (kq BK150.out)) : gb150 ≠ gb170))
           have n7_ := Aside0.mk ((by rw [hg]; exact Nat.ne_of_gt (blk_lt (g := gb150) (o := .cells #[.int .i64 a0_0, .int .i64 a0_1, .int .i64 a0_2, .int .i64 a0_3, .int .i64 a0_4, .int .i64 a0_5, .int .i64 a0_6, .int .i64 a0_7, .int .i64 a0_8] 39 (0, 0)) (kq BK150.out)) : gb170 ≠ gb150))
           have n8_ := Aside0.mk ((by rw [hg]; exact Nat.ne_of_lt (blk_lt (g := gb151) (o := .cells #[.int .i64 a1_0, .int .i64 a1_1, .int .i64 a1_2, .int .i64 a1_3, .int .i64 a1_4, .int .i64 a1_5, .int .i64 a1_6, .int .i64 a1_7, .int .i64 a1_8] 39 (0, 0)) (kq BK151.out)) : gb151 ≠ gb170))
           have n9_ := Aside0.mk ((by rw [hg]; exact Nat.ne_of_gt (blk_lt (g := gb151) (o := .cells #[.int .i64 a1_0, .int .i64 a1_1, .int .i64 a1_2, .int .i64 a1_3, .int .i64 a1_4, .int .i64 a1_5, .int .i64 a1_6, .int .i64 a1_7, .int .i64 a1_8] 39 (0, 0)) (kq BK151.out)) : gb170 ≠ gb151))
           clear BK150
           clear BK151
           clear HB
           have BK150 := n0_
           have BK151 := n1_
           have HB := n2_
           have BK170 := n3_
           have GW170 := n4_
           have GE170 := n5_
           have NB150_170 := n6_
           have NB170_150 := n7_
           have NB151_170 := n8_
           have NB170_151 := n9_
           clear n0_ n1_ n2_ n3_ n4_ n5_ n6_ n7_ n8_ n9_
           clear hb hbox hg
           refine hK.out _ _ (determinant_Compare.held9 BK150.out BK151.out) (fun hHeld => ?_)
           clear hK K
           refine norm_ (a' := ?_) ?_ ?_
           rotate_left
           ·show Act.put _ (some 5) _ = _
            simp only [Act.put, List.setIfInBounds_toArray, List.set_cons_zero, List.set_cons_succ, i64_w, i32_w]
            rfl
           exact norm_ (by first | (simp only [putAll, Act.put, List.setIfInBounds_toArray, List.set_cons_zero, List.set_cons_succ]; done) | (simp only [putAll, Act.put, List.setIfInBounds_toArray, List.set_cons_zero, List.set_cons_succ]; rfl)) (hJ1_4 (gb170) _ ⟨hHeld, (kq BK150.out), (kq BK151.out), (kq BK170.out), GW170.out, GE170.out, NB150_170.out, NB170_150.out, NB151_170.out, NB170_151.out, (bq3 HB.out GE150.out GE151.out GE170.out)⟩)
          ·skip
           refine box_step ?hg (N := 6) ?hd (cs := #[.int .i64 0, .int .i64 0, .int .i64 0, .int .i64 0, .int .i64 0, .int .i64 0, .int .i64 0, .int .i64 0, .int .i64 0]) (t := 63) ?hr ?_; (case hd => rfl); (case hg => rfl); (case hr => first | (go_simp; done) | (go_simp; rfl))
           intro gb171 hg w10 hbox hb
           have n0_ := Aside0.mk (blk_below (g := gb150) (o := .cells #[.int .i64 a0_0, .int .i64 a0_1, .int .i64 a0_2, .int .i64 a0_3, .int .i64 a0_4, .int .i64 a0_5, .int .i64 a0_6, .int .i64 a0_7, .int .i64 a0_8] 39 (0, 0)) (kq BK150.out) hb)
           have n1_ := Aside0.mk (blk_below (g := gb151) (o := .cells #[.int .i64 a1_0, .int .i64 a1_1, .int .i64 a1_2, .int .i64 a1_3, .int .i64 a1_4, .int .i64 a1_5, .int .i64 a1_6, .int .i64 a1_7, .int .i64 a1_8] 39 (0, 0)) (kq BK151.out) hb)
           have n2_ := Aside0.mk (below_step (bq2 HB.out GE150.out GE151.out) hb)
           have n3_ := Aside0.mk (hbox)
           have n4_ := Aside0.mk ((by rw [hg]; exact (below_size (bq2 HB.out GE150.out GE151.out)) : w.heap.size ≤ gb171))
           have n5_ := Aside0.mk ((by rw [hg]; exact (below_size (bq2 HB.out GE150.out GE151.out)) : w.heap.size ≤ gb171))
           have n6_ := Aside0.mk ((by rw [hg]; exact Nat.ne_of_lt (blk_lt (g := gb150) (o := .cells #[.int .i64 a0_0, .int .i64 a0_1, .int .i64 a0_2, .int .i64 a0_3, .int .i64 a0_4, .int .i64 a0_5, .int .i64 a0_6, .int .i64 a0_7, .int .i64 a0_8] 39 (0, 0)) (kq BK150.out)) : gb150 ≠ gb171))
           have n7_ := Aside0.mk ((by rw [hg]; exact Nat.ne_of_gt (blk_lt (g := gb150) (o := .cells #[.int .i64 a0_0, .int .i64 a0_1, .int .i64 a0_2, .int .i64 a0_3, .int .i64 a0_4, .int .i64 a0_5, .int .i64 a0_6, .int .i64 a0_7, .int .i64 a0_8] 39 (0, 0)) (kq BK150.out)) : gb171 ≠ gb150))
           have n8_ := Aside0.mk ((by rw [hg]; exact Nat.ne_of_lt (blk_lt (g := gb151) (o := .cells #[.int .i64 a1_0, .int .i64 a1_1, .int .i64 a1_2, .int .i64 a1_3, .int .i64 a1_4, .int .i64 a1_5, .int .i64 a1_6, .int .i64 a1_7, .int .i64 a1_8] 39 (0, 0)) (kq BK151.out)) : gb151 ≠ gb171))
           have n9_ := Aside0.mk ((by rw [hg]; exact Nat.ne_of_gt (blk_lt (g := gb151) (o := .cells #[.int .i64 a1_0, .int .i64 a1_1, .int .i64 a1_2, .int .i64 a1_3, .int .i64 a1_4, .int .i64 a1_5, .int .i64 a1_6, .int .i64 a1_7, .int .i64 a1_8] 39 (0, 0)) (kq BK151.out)) : gb171 ≠ gb151))
           clear BK150
           clear BK151
           clear HB
           have BK150 := n0_
           have BK151 := n1_
           have HB := n2_
           have BK171 := n3_
           have GW171 := n4_
           have GE171 := n5_
           have NB150_171 := n6_
           have NB171_150 := n7_
           have NB151_171 := n8_
           have NB171_151 := n9_
           clear n0_ n1_ n2_ n3_ n4_ n5_ n6_ n7_ n8_ n9_
           clear hb hbox hg
           refine hK.out _ _ (determinant_Compare.held9 BK150.out BK151.out) (fun hHeld => ?_)
           clear hK K
           refine norm_ (a' := ?_) ?_ ?_
           rotate_left
           ·show Act.put _ (some 6) _ = _
            simp only [Act.put, List.setIfInBounds_toArray, List.set_cons_zero, List.set_cons_succ, i64_w, i32_w]
            rfl
           exact norm_ (by first | (simp only [putAll, Act.put, List.setIfInBounds_toArray, List.set_cons_zero, List.set_cons_succ]; done) | (simp only [putAll, Act.put, List.setIfInBounds_toArray, List.set_cons_zero, List.set_cons_succ]; rfl)) (hJ1_5 (gb171) _ ⟨hHeld, (kq BK150.out), (kq BK151.out), (kq BK171.out), GW171.out, GE171.out, NB150_171.out, NB171_150.out, NB151_171.out, NB171_151.out, (bq3 HB.out GE150.out GE151.out GE171.out)⟩)
        ·skip
         rintro ⟨gb170, gb171⟩ w10 ⟨hS_, h0_, h1_, h2_, h3_, h4_, h5_, h6_, h7_, h8_, h9_, h10_, h11_, h12_, h13_, h14_, h15_, h16_, h17_, h18_⟩
         have n0_ : Aside0 (w10.heap[gb150]? = some (.cells #[.int .i64 a0_0, .int .i64 a0_1, .int .i64 a0_2, .int .i64 a0_3, .int .i64 a0_4, .int .i64 a0_5, .int .i64 a0_6, .int .i64 a0_7, .int .i64 a0_8] 39 (0, 0))) := ⟨h0_⟩
         have n1_ : Aside0 (w10.heap[gb151]? = some (.cells #[.int .i64 a1_0, .int .i64 a1_1, .int .i64 a1_2, .int .i64 a1_3, .int .i64 a1_4, .int .i64 a1_5, .int .i64 a1_6, .int .i64 a1_7, .int .i64 a1_8] 39 (0, 0))) := ⟨h1_⟩
         have n2_ : Aside0 (w10.heap[gb170]? = some (.cells #[.int .i64 0, .int .i64 0, .int .i64 0, .int .i64 0, .int .i64 0, .int .i64 0, .int .i64 0, .int .i64 0, .int .i64 0] 63 (0, 0))) := ⟨h2_⟩
         have n3_ : Aside0 (w10.heap[gb171]? = some (.cells #[.int .i64 0, .int .i64 0, .int .i64 0, .int .i64 0, .int .i64 0, .int .i64 0, .int .i64 0, .int .i64 0, .int .i64 0] 63 (0, 0))) := ⟨h3_⟩
         have n4_ : Aside0 (w.heap.size ≤ gb170) := ⟨h4_⟩
         have n5_ : Aside0 (w.heap.size ≤ gb170) := ⟨h5_⟩
         have n6_ : Aside0 (gb150 ≠ gb170) := ⟨h6_⟩
         have n7_ : Aside0 (gb170 ≠ gb150) := ⟨h7_⟩
         have n8_ : Aside0 (gb151 ≠ gb170) := ⟨h8_⟩
         have n9_ : Aside0 (gb170 ≠ gb151) := ⟨h9_⟩
         have n10_ : Aside0 (gb171 ≠ gb170) := ⟨h10_⟩
         have n11_ : Aside0 (gb170 ≠ gb171) := ⟨h11_⟩
         have n12_ : Aside0 (w.heap.size ≤ gb171) := ⟨h12_⟩
         have n13_ : Aside0 (w.heap.size ≤ gb171) := ⟨h13_⟩
         have n14_ : Aside0 (gb150 ≠ gb171) := ⟨h14_⟩
         have n15_ : Aside0 (gb171 ≠ gb150) := ⟨h15_⟩
         have n16_ : Aside0 (gb151 ≠ gb171) := ⟨h16_⟩
         have n17_ : Aside0 (gb171 ≠ gb151) := ⟨h17_⟩
         have n18_ : Aside0 (Below w.heap.size w w10) := ⟨h18_⟩
         clear BK150
         clear BK151
         clear HB
         clear h0_ h1_ h2_ h3_ h4_ h5_ h6_ h7_ h8_ h9_ h10_ h11_ h12_ h13_ h14_ h15_ h16_ h17_ h18_
         have BK150 := n0_
         have BK151 := n1_
         have BK170 := n2_
         have BK171 := n3_
         have GW170 := n4_
         have GE170 := n5_
         have NB150_170 := n6_
         have NB170_150 := n7_
         have NB151_170 := n8_
         have NB170_151 := n9_
         have NB171_170 := n10_
         have NB170_171 := n11_
         have GW171 := n12_
         have GE171 := n13_
         have NB150_171 := n14_
         have NB171_150 := n15_
         have NB151_171 := n16_
         have NB171_151 := n17_
         have HB := n18_
         clear n0_ n1_ n2_ n3_ n4_ n5_ n6_ n7_ n8_ n9_ n10_ n11_ n12_ n13_ n14_ n15_ n16_ n17_ n18_
         have hHeld : determinant_Compare.S18 gb150 gb151 (.int .i64 a0_0) (.int .i64 a0_1) (.int .i64 a0_2) (.int .i64 a0_3) (.int .i64 a0_4) (.int .i64 a0_5) (.int .i64 a0_6) (.int .i64 a0_7) (.int .i64 a0_8) (.int .i64 a1_0) (.int .i64 a1_1) (.int .i64 a1_2) (.int .i64 a1_3) (.int .i64 a1_4) (.int .i64 a1_5) (.int .i64 a1_6) (.int .i64 a1_7) (.int .i64 a1_8) w10 := hS_
         refine norm_ (a' := ?_) ?_ ?_
         rotate_left
         ·simp only [putAll, Act.put, List.setIfInBounds_toArray, List.set_cons_zero, List.set_cons_succ]
          rfl
         refine one_ (i := 1) (N := some 9) #[true, true, true, false, true, true, false, false] rfl rfl (one_of HT_.out (by kernel_rfl)) (by decide) (fun K hK => ?_)
         refine goes_ Try.func40 (by kernel_rfl) rfl #[.agg #[.int .i64 a0_0, .int .i64 a0_1, .int .i64 a0_2, .int .i64 a0_3, .int .i64 a0_4, .int .i64 a0_5, .int .i64 a0_6, .int .i64 a0_7, .int .i64 a0_8]] (by first | rfl | (refine wanted_on rfl rfl rfl ?_; first | assumption | (simp [*]; done))) rfl rfl (by (try simp only [List.map_toArray, List.map_cons, List.map_nil]); first | done | rfl | (simp only [List.length_drop, List.length_take]; rfl)) ?_
         with_reducible refine (determinant_fields.calls a0_0 a0_1 a0_2 a0_3 a0_4 a0_5 a0_6 a0_7 a0_8 t152 t153 t154 t155 t156 t157 t158 t159 t160 _ A3.out).mono ?_
         rintro e w11 ⟨rfl, hb⟩
         refine ⟨_, rfl, ?_⟩
         have n0_ := Aside0.mk (blk_below (g := gb150) (o := .cells #[.int .i64 a0_0, .int .i64 a0_1, .int .i64 a0_2, .int .i64 a0_3, .int .i64 a0_4, .int .i64 a0_5, .int .i64 a0_6, .int .i64 a0_7, .int .i64 a0_8] 39 (0, 0)) (kq BK150.out) hb)
         have n1_ := Aside0.mk (blk_below (g := gb151) (o := .cells #[.int .i64 a1_0, .int .i64 a1_1, .int .i64 a1_2, .int .i64 a1_3, .int .i64 a1_4, .int .i64 a1_5, .int .i64 a1_6, .int .i64 a1_7, .int .i64 a1_8] 39 (0, 0)) (kq BK151.out) hb)
         have n2_ := Aside0.mk (blk_below (g := gb170) (o := .cells #[.int .i64 0, .int .i64 0, .int .i64 0, .int .i64 0, .int .i64 0, .int .i64 0, .int .i64 0, .int .i64 0, .int .i64 0] 63 (0, 0)) (kq BK170.out) hb)
         have n3_ := Aside0.mk (blk_below (g := gb171) (o := .cells #[.int .i64 0, .int .i64 0, .int .i64 0, .int .i64 0, .int .i64 0, .int .i64 0, .int .i64 0, .int .i64 0, .int .i64 0] 63 (0, 0)) (kq BK171.out) hb)
         have n4_ := Aside0.mk (below_step (bq4 HB.out GE150.out GE151.out GE170.out GE171.out) hb)
         clear BK150
         clear BK151
         clear BK170
         clear BK171
         clear HB
         have BK150 := n0_
         have BK151 := n1_
         have BK170 := n2_
         have BK171 := n3_
         have HB := n4_
         clear n0_ n1_ n2_ n3_ n4_
         (try clear hb)
         (try clear hb2)
         (try clear hk)
         (try clear hi)
         refine hK.out _ _ (determinant_Compare.held9 BK150.out BK151.out) (fun hHeld => ?_)
         clear hK K
         refine norm_ (a' := ?_) ?_ ?_
         rotate_left
         ·show Act.put _ (some 9) _ = _
          simp only [Act.put, List.setIfInBounds_toArray, List.set_cons_zero, List.set_cons_succ, i64_w, i32_w]
          rfl
         exact norm_ (by first | (simp only [putAll, Act.put, List.setIfInBounds_toArray, List.set_cons_zero, List.set_cons_succ]; done) | (simp only [putAll, Act.put, List.setIfInBounds_toArray, List.set_cons_zero, List.set_cons_succ]; rfl)) (hJ1_4_5 (gb170, gb171) _ ⟨hHeld, (kq BK150.out), (kq BK151.out), (kq BK170.out), (kq BK171.out), GW170.out, GE170.out, NB150_170.out, NB170_150.out, NB151_170.out, NB170_151.out, NB171_170.out, NB170_171.out, GW171.out, GE171.out, NB150_171.out, NB171_150.out, NB151_171.out, NB171_151.out, (bq4 HB.out GE150.out GE151.out GE170.out GE171.out)⟩)
       ·skip
        rintro gb171 w10 ⟨hS_, h0_, h1_, h2_, h3_, h4_, h5_, h6_, h7_, h8_, h9_⟩
        have n0_ : Aside0 (w10.heap[gb150]? = some (.cells #[.int .i64 a0_0, .int .i64 a0_1, .int .i64 a0_2, .int .i64 a0_3, .int .i64 a0_4, .int .i64 a0_5, .int .i64 a0_6, .int .i64 a0_7, .int .i64 a0_8] 39 (0, 0))) := ⟨h0_⟩
        have n1_ : Aside0 (w10.heap[gb151]? = some (.cells #[.int .i64 a1_0, .int .i64 a1_1, .int .i64 a1_2, .int .i64 a1_3, .int .i64 a1_4, .int .i64 a1_5, .int .i64 a1_6, .int .i64 a1_7, .int .i64 a1_8] 39 (0, 0))) := ⟨h1_⟩
        have n2_ : Aside0 (w10.heap[gb171]? = some (.cells #[.int .i64 0, .int .i64 0, .int .i64 0, .int .i64 0, .int .i64 0, .int .i64 0, .int .i64 0, .int .i64 0, .int .i64 0] 63 (0, 0))) := ⟨h2_⟩
        have n3_ : Aside0 (w.heap.size ≤ gb171) := ⟨h3_⟩
        have n4_ : Aside0 (w.heap.size ≤ gb171) := ⟨h4_⟩
        have n5_ : Aside0 (gb150 ≠ gb171) := ⟨h5_⟩
        have n6_ : Aside0 (gb171 ≠ gb150) := ⟨h6_⟩
        have n7_ : Aside0 (gb151 ≠ gb171) := ⟨h7_⟩
        have n8_ : Aside0 (gb171 ≠ gb151) := ⟨h8_⟩
        have n9_ : Aside0 (Below w.heap.size w w10) := ⟨h9_⟩
        clear BK150
        clear BK151
        clear HB
        clear h0_ h1_ h2_ h3_ h4_ h5_ h6_ h7_ h8_ h9_
        have BK150 := n0_
        have BK151 := n1_
        have BK171 := n2_
        have GW171 := n3_
        have GE171 := n4_
        have NB150_171 := n5_
        have NB171_150 := n6_
        have NB151_171 := n7_
        have NB171_151 := n8_
        have HB := n9_
        clear n0_ n1_ n2_ n3_ n4_ n5_ n6_ n7_ n8_ n9_
        have hHeld : determinant_Compare.S18 gb150 gb151 (.int .i64 a0_0) (.int .i64 a0_1) (.int .i64 a0_2) (.int .i64 a0_3) (.int .i64 a0_4) (.int .i64 a0_5) (.int .i64 a0_6) (.int .i64 a0_7) (.int .i64 a0_8) (.int .i64 a1_0) (.int .i64 a1_1) (.int .i64 a1_2) (.int .i64 a1_3) (.int .i64 a1_4) (.int .i64 a1_5) (.int .i64 a1_6) (.int .i64 a1_7) (.int .i64 a1_8) w10 := hS_
        refine norm_ (a' := ?_) ?_ ?_
        rotate_left
        ·simp only [putAll, Act.put, List.setIfInBounds_toArray, List.set_cons_zero, List.set_cons_succ]
         rfl
        refine two_ (i := 3) (j := 4) (Ni := some 11) (Nj := some 5) #[true, true, true, true, false, true, false, false] #[true, true, true, false, true, true, false, false] rfl rfl rfl rfl (two_of HT_.out (by kernel_rfl)) (by decide) (by decide) (fun K hK => ?_) (fun K hK => ?_)
        ·skip
         refine goes_ Try.func40 (by kernel_rfl) rfl #[.agg #[.int .i64 a1_0, .int .i64 a1_1, .int .i64 a1_2, .int .i64 a1_3, .int .i64 a1_4, .int .i64 a1_5, .int .i64 a1_6, .int .i64 a1_7, .int .i64 a1_8]] (by first | rfl | (refine wanted_on rfl rfl rfl ?_; first | assumption | (simp [*]; done))) rfl rfl (by (try simp only [List.map_toArray, List.map_cons, List.map_nil]); first | done | rfl | (simp only [List.length_drop, List.length_take]; rfl)) ?_
         with_reducible refine (determinant_fields.calls a1_0 a1_1 a1_2 a1_3 a1_4 a1_5 a1_6 a1_7 a1_8 t161 t162 t163 t164 t165 t166 t167 t168 t169 _ A4.out).mono ?_
         rintro e w11 ⟨rfl, hb⟩
         refine ⟨_, rfl, ?_⟩
         have n0_ := Aside0.mk (blk_below (g := gb150) (o := .cells #[.int .i64 a0_0, .int .i64 a0_1, .int .i64 a0_2, .int .i64 a0_3, .int .i64 a0_4, .int .i64 a0_5, .int .i64 a0_6, .int .i64 a0_7, .int .i64 a0_8] 39 (0, 0)) (kq BK150.out) hb)
         have n1_ := Aside0.mk (blk_below (g := gb151) (o := .cells #[.int .i64 a1_0, .int .i64 a1_1, .int .i64 a1_2, .int .i64 a1_3, .int .i64 a1_4, .int .i64 a1_5, .int .i64 a1_6, .int .i64 a1_7, .int .i64 a1_8] 39 (0, 0)) (kq BK151.out) hb)
         have n2_ := Aside0.mk (blk_below (g := gb171) (o := .cells #[.int .i64 0, .int .i64 0, .int .i64 0, .int .i64 0, .int .i64 0, .int .i64 0, .int .i64 0, .int .i64 0, .int .i64 0] 63 (0, 0)) (kq BK171.out) hb)
         have n3_ := Aside0.mk (below_step (bq3 HB.out GE150.out GE151.out GE171.out) hb)
         clear BK150
         clear BK151
         clear BK171
         clear HB
         have BK150 := n0_
         have BK151 := n1_
         have BK171 := n2_
         have HB := n3_
         clear n0_ n1_ n2_ n3_
         (try clear hb)
         (try clear hb2)
         (try clear hk)
         (try clear hi)
         refine hK.out _ _ (determinant_Compare.held9 BK150.out BK151.out) (fun hHeld => ?_)
         clear hK K
         refine norm_ (a' := ?_) ?_ ?_
         rotate_left
         ·show Act.put _ (some 11) _ = _
          simp only [Act.put, List.setIfInBounds_toArray, List.set_cons_zero, List.set_cons_succ, i64_w, i32_w]
          rfl
         exact norm_ (by first | (simp only [putAll, Act.put, List.setIfInBounds_toArray, List.set_cons_zero, List.set_cons_succ]; done) | (simp only [putAll, Act.put, List.setIfInBounds_toArray, List.set_cons_zero, List.set_cons_succ]; rfl)) (hJ1_3_5 (gb171) _ ⟨hHeld, (kq BK150.out), (kq BK151.out), (kq BK171.out), GW171.out, GE171.out, NB150_171.out, NB171_150.out, NB151_171.out, NB171_151.out, (bq3 HB.out GE150.out GE151.out GE171.out)⟩)
        ·skip
         refine box_step ?hg (N := 5) ?hd (cs := #[.int .i64 0, .int .i64 0, .int .i64 0, .int .i64 0, .int .i64 0, .int .i64 0, .int .i64 0, .int .i64 0, .int .i64 0]) (t := 63) ?hr ?_; (case hd => rfl); (case hg => rfl); (case hr => first | (go_simp; done) | (go_simp; rfl))
         intro gb170 hg w11 hbox hb
         have n0_ := Aside0.mk (blk_below (g := gb150) (o := .cells #[.int .i64 a0_0, .int .i64 a0_1, .int .i64 a0_2, .int .i64 a0_3, .int .i64 a0_4, .int .i64 a0_5, .int .i64 a0_6, .int .i64 a0_7, .int .i64 a0_8] 39 (0, 0)) (kq BK150.out) hb)
         have n1_ := Aside0.mk (blk_below (g := gb151) (o := .cells #[.int .i64 a1_0, .int .i64 a1_1, .int .i64 a1_2, .int .i64 a1_3, .int .i64 a1_4, .int .i64 a1_5, .int .i64 a1_6, .int .i64 a1_7, .int .i64 a1_8] 39 (0, 0)) (kq BK151.out) hb)
         have n2_ := Aside0.mk (blk_below (g := gb171) (o := .cells #[.int .i64 0, .int .i64 0, .int .i64 0, .int .i64 0, .int .i64 0, .int .i64 0, .int .i64 0, .int .i64 0, .int .i64 0] 63 (0, 0)) (kq BK171.out) hb)
         have n3_ := Aside0.mk (below_step (bq3 HB.out GE150.out GE151.out GE171.out) hb)
         have n4_ := Aside0.mk (hbox)
         have n5_ := Aside0.mk ((by rw [hg]; exact (below_size (bq3 HB.out GE150.out GE151.out GE171.out)) : w.heap.size ≤ gb170))
         have n6_ := Aside0.mk ((by rw [hg]; exact (below_size (bq3 HB.out GE150.out GE151.out GE171.out)) : w.heap.size ≤ gb170))
         have n7_ := Aside0.mk ((by rw [hg]; exact Nat.ne_of_lt (blk_lt (g := gb150) (o := .cells #[.int .i64 a0_0, .int .i64 a0_1, .int .i64 a0_2, .int .i64 a0_3, .int .i64 a0_4, .int .i64 a0_5, .int .i64 a0_6, .int .i64 a0_7, .int .i64 a0_8] 39 (0, 0)) (kq BK150.out)) : gb150 ≠ gb170))
         have n8_ := Aside0.mk ((by rw [hg]; exact Nat.ne_of_gt (blk_lt (g := gb150) (o := .cells #[.int .i64 a0_0, .int .i64 a0_1, .int .i64 a0_2, .int .i64 a0_3, .int .i64 a0_4, .int .i64 a0_5, .int .i64 a0_6, .int .i64 a0_7, .int .i64 a0_8] 39 (0, 0)) (kq BK150.out)) : gb170 ≠ gb150))
         have n9_ := Aside0.mk ((by rw [hg]; exact Nat.ne_of_lt (blk_lt (g := gb151) (o := .cells #[.int .i64 a1_0, .int .i64 a1_1, .int .i64 a1_2, .int .i64 a1_3, .int .i64 a1_4, .int .i64 a1_5, .int .i64 a1_6, .int .i64 a1_7, .int .i64 a1_8] 39 (0, 0)) (kq BK151.out)) : gb151 ≠ gb170))
         have n10_ := Aside0.mk ((by rw [hg]; exact Nat.ne_of_gt (blk_lt (g := gb151) (o := .cells #[.int .i64 a1_0, .int .i64 a1_1, .int .i64 a1_2, .int .i64 a1_3, .int .i64 a1_4, .int .i64 a1_5, .int .i64 a1_6, .int .i64 a1_7, .int .i64 a1_8] 39 (0, 0)) (kq BK151.out)) : gb170 ≠ gb151))
         have n11_ := Aside0.mk ((by rw [hg]; exact Nat.ne_of_lt (blk_lt (g := gb171) (o := .cells #[.int .i64 0, .int .i64 0, .int .i64 0, .int .i64 0, .int .i64 0, .int .i64 0, .int .i64 0, .int .i64 0, .int .i64 0] 63 (0, 0)) (kq BK171.out)) : gb171 ≠ gb170))
         have n12_ := Aside0.mk ((by rw [hg]; exact Nat.ne_of_gt (blk_lt (g := gb171) (o := .cells #[.int .i64 0, .int .i64 0, .int .i64 0, .int .i64 0, .int .i64 0, .int .i64 0, .int .i64 0, .int .i64 0, .int .i64 0] 63 (0, 0)) (kq BK171.out)) : gb170 ≠ gb171))
         clear BK150
         clear BK151
         clear BK171
         clear HB
         have BK150 := n0_
         have BK151 := n1_
         have BK171 := n2_
         have HB := n3_
         have BK170 := n4_
         have GW170 := n5_
         have GE170 := n6_
         have NB150_170 := n7_
         have NB170_150 := n8_
         have NB151_170 := n9_
         have NB170_151 := n10_
         have NB171_170 := n11_
         have NB170_171 := n12_
         clear n0_ n1_ n2_ n3_ n4_ n5_ n6_ n7_ n8_ n9_ n10_ n11_ n12_
         clear hb hbox hg
         refine hK.out _ _ (determinant_Compare.held9 BK150.out BK151.out) (fun hHeld => ?_)
         clear hK K
         refine norm_ (a' := ?_) ?_ ?_
         rotate_left
         ·show Act.put _ (some 5) _ = _
          simp only [Act.put, List.setIfInBounds_toArray, List.set_cons_zero, List.set_cons_succ, i64_w, i32_w]
          rfl
         exact norm_ (by first | (simp only [putAll, Act.put, List.setIfInBounds_toArray, List.set_cons_zero, List.set_cons_succ]; done) | (simp only [putAll, Act.put, List.setIfInBounds_toArray, List.set_cons_zero, List.set_cons_succ]; rfl)) (hJ1_4_5 (gb170, gb171) _ ⟨hHeld, (kq BK150.out), (kq BK151.out), (kq BK170.out), (kq BK171.out), GW170.out, GE170.out, NB150_170.out, NB170_150.out, NB151_170.out, NB170_151.out, NB171_170.out, NB170_171.out, GW171.out, GE171.out, NB150_171.out, NB171_150.out, NB151_171.out, NB171_151.out, (bq4 HB.out GE150.out GE151.out GE171.out GE170.out)⟩)
      ·skip
       rintro gb170 w10 ⟨hS_, h0_, h1_, h2_, h3_, h4_, h5_, h6_, h7_, h8_, h9_⟩
       have n0_ : Aside0 (w10.heap[gb150]? = some (.cells #[.int .i64 a0_0, .int .i64 a0_1, .int .i64 a0_2, .int .i64 a0_3, .int .i64 a0_4, .int .i64 a0_5, .int .i64 a0_6, .int .i64 a0_7, .int .i64 a0_8] 39 (0, 0))) := ⟨h0_⟩
       have n1_ : Aside0 (w10.heap[gb151]? = some (.cells #[.int .i64 a1_0, .int .i64 a1_1, .int .i64 a1_2, .int .i64 a1_3, .int .i64 a1_4, .int .i64 a1_5, .int .i64 a1_6, .int .i64 a1_7, .int .i64 a1_8] 39 (0, 0))) := ⟨h1_⟩
       have n2_ : Aside0 (w10.heap[gb170]? = some (.cells #[.int .i64 0, .int .i64 0, .int .i64 0, .int .i64 0, .int .i64 0, .int .i64 0, .int .i64 0, .int .i64 0, .int .i64 0] 63 (0, 0))) := ⟨h2_⟩
       have n3_ : Aside0 (w.heap.size ≤ gb170) := ⟨h3_⟩
       have n4_ : Aside0 (w.heap.size ≤ gb170) := ⟨h4_⟩
       have n5_ : Aside0 (gb150 ≠ gb170) := ⟨h5_⟩
       have n6_ : Aside0 (gb170 ≠ gb150) := ⟨h6_⟩
       have n7_ : Aside0 (gb151 ≠ gb170) := ⟨h7_⟩
       have n8_ : Aside0 (gb170 ≠ gb151) := ⟨h8_⟩
       have n9_ : Aside0 (Below w.heap.size w w10) := ⟨h9_⟩
       clear BK150
       clear BK151
       clear HB
       clear h0_ h1_ h2_ h3_ h4_ h5_ h6_ h7_ h8_ h9_
       have BK150 := n0_
       have BK151 := n1_
       have BK170 := n2_
       have GW170 := n3_
       have GE170 := n4_
       have NB150_170 := n5_
       have NB170_150 := n6_
       have NB151_170 := n7_
       have NB170_151 := n8_
       have HB := n9_
       clear n0_ n1_ n2_ n3_ n4_ n5_ n6_ n7_ n8_ n9_
       have hHeld : determinant_Compare.S18 gb150 gb151 (.int .i64 a0_0) (.int .i64 a0_1) (.int .i64 a0_2) (.int .i64 a0_3) (.int .i64 a0_4) (.int .i64 a0_5) (.int .i64 a0_6) (.int .i64 a0_7) (.int .i64 a0_8) (.int .i64 a1_0) (.int .i64 a1_1) (.int .i64 a1_2) (.int .i64 a1_3) (.int .i64 a1_4) (.int .i64 a1_5) (.int .i64 a1_6) (.int .i64 a1_7) (.int .i64 a1_8) w10 := hS_
       refine norm_ (a' := ?_) ?_ ?_
       rotate_left
       ·simp only [putAll, Act.put, List.setIfInBounds_toArray, List.set_cons_zero, List.set_cons_succ]
        rfl
       refine two_ (i := 3) (j := 5) (Ni := some 11) (Nj := some 6) #[true, true, true, true, true, false, false, false] #[true, true, true, false, true, true, false, false] rfl rfl rfl rfl (two_of HT_.out (by kernel_rfl)) (by decide) (by decide) (fun K hK => ?_) (fun K hK => ?_)
       ·skip
        refine goes_ Try.func40 (by kernel_rfl) rfl #[.agg #[.int .i64 a1_0, .int .i64 a1_1, .int .i64 a1_2, .int .i64 a1_3, .int .i64 a1_4, .int .i64 a1_5, .int .i64 a1_6, .int .i64 a1_7, .int .i64 a1_8]] (by first | rfl | (refine wanted_on rfl rfl rfl ?_; first | assumption | (simp [*]; done))) rfl rfl (by (try simp only [List.map_toArray, List.map_cons, List.map_nil]); first | done | rfl | (simp only [List.length_drop, List.length_take]; rfl)) ?_
        with_reducible refine (determinant_fields.calls a1_0 a1_1 a1_2 a1_3 a1_4 a1_5 a1_6 a1_7 a1_8 t161 t162 t163 t164 t165 t166 t167 t168 t169 _ A4.out).mono ?_
        rintro e w11 ⟨rfl, hb⟩
        refine ⟨_, rfl, ?_⟩
        have n0_ := Aside0.mk (blk_below (g := gb150) (o := .cells #[.int .i64 a0_0, .int .i64 a0_1, .int .i64 a0_2, .int .i64 a0_3, .int .i64 a0_4, .int .i64 a0_5, .int .i64 a0_6, .int .i64 a0_7, .int .i64 a0_8] 39 (0, 0)) (kq BK150.out) hb)
        have n1_ := Aside0.mk (blk_below (g := gb151) (o := .cells #[.int .i64 a1_0, .int .i64 a1_1, .int .i64 a1_2, .int .i64 a1_3, .int .i64 a1_4, .int .i64 a1_5, .int .i64 a1_6, .int .i64 a1_7, .int .i64 a1_8] 39 (0, 0)) (kq BK151.out) hb)
        have n2_ := Aside0.mk (blk_below (g := gb170) (o := .cells #[.int .i64 0, .int .i64 0, .int .i64 0, .int .i64 0, .int .i64 0, .int .i64 0, .int .i64 0, .int .i64 0, .int .i64 0] 63 (0, 0)) (kq BK170.out) hb)
        have n3_ := Aside0.mk (below_step (bq3 HB.out GE150.out GE151.out GE170.out) hb)
        clear BK150
        clear BK151
        clear BK170
        clear HB
        have BK150 := n0_
        have BK151 := n1_
        have BK170 := n2_
        have HB := n3_
        clear n0_ n1_ n2_ n3_
        (try clear hb)
        (try clear hb2)
        (try clear hk)
        (try clear hi)
        refine hK.out _ _ (determinant_Compare.held9 BK150.out BK151.out) (fun hHeld => ?_)
        clear hK K
        refine norm_ (a' := ?_) ?_ ?_
        rotate_left
        ·show Act.put _ (some 11) _ = _
         simp only [Act.put, List.setIfInBounds_toArray, List.set_cons_zero, List.set_cons_succ, i64_w, i32_w]
         rfl
        exact norm_ (by first | (simp only [putAll, Act.put, List.setIfInBounds_toArray, List.set_cons_zero, List.set_cons_succ]; done) | (simp only [putAll, Act.put, List.setIfInBounds_toArray, List.set_cons_zero, List.set_cons_succ]; rfl)) (hJ1_3_4 (gb170) _ ⟨hHeld, (kq BK150.out), (kq BK151.out), (kq BK170.out), GW170.out, GE170.out, NB150_170.out, NB170_150.out, NB151_170.out, NB170_151.out, (bq3 HB.out GE150.out GE151.out GE170.out)⟩)
       ·skip
        refine box_step ?hg (N := 6) ?hd (cs := #[.int .i64 0, .int .i64 0, .int .i64 0, .int .i64 0, .int .i64 0, .int .i64 0, .int .i64 0, .int .i64 0, .int .i64 0]) (t := 63) ?hr ?_; (case hd => rfl); (case hg => rfl); (case hr => first | (go_simp; done) | (go_simp; rfl))
        intro gb171 hg w11 hbox hb
        have n0_ := Aside0.mk (blk_below (g := gb150) (o := .cells #[.int .i64 a0_0, .int .i64 a0_1, .int .i64 a0_2, .int .i64 a0_3, .int .i64 a0_4, .int .i64 a0_5, .int .i64 a0_6, .int .i64 a0_7, .int .i64 a0_8] 39 (0, 0)) (kq BK150.out) hb)
        have n1_ := Aside0.mk (blk_below (g := gb151) (o := .cells #[.int .i64 a1_0, .int .i64 a1_1, .int .i64 a1_2, .int .i64 a1_3, .int .i64 a1_4, .int .i64 a1_5, .int .i64 a1_6, .int .i64 a1_7, .int .i64 a1_8] 39 (0, 0)) (kq BK151.out) hb)
        have n2_ := Aside0.mk (blk_below (g := gb170) (o := .cells #[.int .i64 0, .int .i64 0, .int .i64 0, .int .i64 0, .int .i64 0, .int .i64 0, .int .i64 0, .int .i64 0, .int .i64 0] 63 (0, 0)) (kq BK170.out) hb)
        have n3_ := Aside0.mk (below_step (bq3 HB.out GE150.out GE151.out GE170.out) hb)
        have n4_ := Aside0.mk (hbox)
        have n5_ := Aside0.mk ((by rw [hg]; exact (below_size (bq3 HB.out GE150.out GE151.out GE170.out)) : w.heap.size ≤ gb171))
        have n6_ := Aside0.mk ((by rw [hg]; exact (below_size (bq3 HB.out GE150.out GE151.out GE170.out)) : w.heap.size ≤ gb171))
        have n7_ := Aside0.mk ((by rw [hg]; exact Nat.ne_of_lt (blk_lt (g := gb150) (o := .cells #[.int .i64 a0_0, .int .i64 a0_1, .int .i64 a0_2, .int .i64 a0_3, .int .i64 a0_4, .int .i64 a0_5, .int .i64 a0_6, .int .i64 a0_7, .int .i64 a0_8] 39 (0, 0)) (kq BK150.out)) : gb150 ≠ gb171))
        have n8_ := Aside0.mk ((by rw [hg]; exact Nat.ne_of_gt (blk_lt (g := gb150) (o := .cells #[.int .i64 a0_0, .int .i64 a0_1, .int .i64 a0_2, .int .i64 a0_3, .int .i64 a0_4, .int .i64 a0_5, .int .i64 a0_6, .int .i64 a0_7, .int .i64 a0_8] 39 (0, 0)) (kq BK150.out)) : gb171 ≠ gb150))
        have n9_ := Aside0.mk ((by rw [hg]; exact Nat.ne_of_lt (blk_lt (g := gb151) (o := .cells #[.int .i64 a1_0, .int .i64 a1_1, .int .i64 a1_2, .int .i64 a1_3, .int .i64 a1_4, .int .i64 a1_5, .int .i64 a1_6, .int .i64 a1_7, .int .i64 a1_8] 39 (0, 0)) (kq BK151.out)) : gb151 ≠ gb171))
        have n10_ := Aside0.mk ((by rw [hg]; exact Nat.ne_of_gt (blk_lt (g := gb151) (o := .cells #[.int .i64 a1_0, .int .i64 a1_1, .int .i64 a1_2, .int .i64 a1_3, .int .i64 a1_4, .int .i64 a1_5, .int .i64 a1_6, .int .i64 a1_7, .int .i64 a1_8] 39 (0, 0)) (kq BK151.out)) : gb171 ≠ gb151))
        have n11_ := Aside0.mk ((by rw [hg]; exact Nat.ne_of_lt (blk_lt (g := gb170) (o := .cells #[.int .i64 0, .int .i64 0, .int .i64 0, .int .i64 0, .int .i64 0, .int .i64 0, .int .i64 0, .int .i64 0, .int .i64 0] 63 (0, 0)) (kq BK170.out)) : gb170 ≠ gb171))
        have n12_ := Aside0.mk ((by rw [hg]; exact Nat.ne_of_gt (blk_lt (g := gb170) (o := .cells #[.int .i64 0, .int .i64 0, .int .i64 0, .int .i64 0, .int .i64 0, .int .i64 0, .int .i64 0, .int .i64 0, .int .i64 0] 63 (0, 0)) (kq BK170.out)) : gb171 ≠ gb170))
        clear BK150
        clear BK151
        clear BK170
        clear HB
        have BK150 := n0_
        have BK151 := n1_
        have BK170 := n2_
        have HB := n3_
        have BK171 := n4_
        have GW171 := n5_
        have GE171 := n6_
        have NB150_171 := n7_
        have NB171_150 := n8_
        have NB151_171 := n9_
        have NB171_151 := n10_
        have NB170_171 := n11_
        have NB171_170 := n12_
        clear n0_ n1_ n2_ n3_ n4_ n5_ n6_ n7_ n8_ n9_ n10_ n11_ n12_
        clear hb hbox hg
        refine hK.out _ _ (determinant_Compare.held9 BK150.out BK151.out) (fun hHeld => ?_)
        clear hK K
        refine norm_ (a' := ?_) ?_ ?_
        rotate_left
        ·show Act.put _ (some 6) _ = _
         simp only [Act.put, List.setIfInBounds_toArray, List.set_cons_zero, List.set_cons_succ, i64_w, i32_w]
         rfl
        exact norm_ (by first | (simp only [putAll, Act.put, List.setIfInBounds_toArray, List.set_cons_zero, List.set_cons_succ]; done) | (simp only [putAll, Act.put, List.setIfInBounds_toArray, List.set_cons_zero, List.set_cons_succ]; rfl)) (hJ1_4_5 (gb170, gb171) _ ⟨hHeld, (kq BK150.out), (kq BK151.out), (kq BK170.out), (kq BK171.out), GW170.out, GE170.out, NB150_170.out, NB170_150.out, NB151_170.out, NB170_151.out, NB171_170.out, NB170_171.out, GW171.out, GE171.out, NB150_171.out, NB171_150.out, NB151_171.out, NB171_151.out, (bq4 HB.out GE150.out GE151.out GE170.out GE171.out)⟩)
     ·skip
      rintro _ w10 ⟨hS_, h0_, h1_, h2_⟩
      have n0_ : Aside0 (w10.heap[gb150]? = some (.cells #[.int .i64 a0_0, .int .i64 a0_1, .int .i64 a0_2, .int .i64 a0_3, .int .i64 a0_4, .int .i64 a0_5, .int .i64 a0_6, .int .i64 a0_7, .int .i64 a0_8] 39 (0, 0))) := ⟨h0_⟩
      have n1_ : Aside0 (w10.heap[gb151]? = some (.cells #[.int .i64 a1_0, .int .i64 a1_1, .int .i64 a1_2, .int .i64 a1_3, .int .i64 a1_4, .int .i64 a1_5, .int .i64 a1_6, .int .i64 a1_7, .int .i64 a1_8] 39 (0, 0))) := ⟨h1_⟩
      have n2_ : Aside0 (Below w.heap.size w w10) := ⟨h2_⟩
      clear BK150
      clear BK151
      clear HB
      clear h0_ h1_ h2_
      have BK150 := n0_
      have BK151 := n1_
      have HB := n2_
      clear n0_ n1_ n2_
      have hHeld : determinant_Compare.S18 gb150 gb151 (.int .i64 a0_0) (.int .i64 a0_1) (.int .i64 a0_2) (.int .i64 a0_3) (.int .i64 a0_4) (.int .i64 a0_5) (.int .i64 a0_6) (.int .i64 a0_7) (.int .i64 a0_8) (.int .i64 a1_0) (.int .i64 a1_1) (.int .i64 a1_2) (.int .i64 a1_3) (.int .i64 a1_4) (.int .i64 a1_5) (.int .i64 a1_6) (.int .i64 a1_7) (.int .i64 a1_8) w10 := hS_
      refine norm_ (a' := ?_) ?_ ?_
      rotate_left
      ·simp only [putAll, Act.put, List.setIfInBounds_toArray, List.set_cons_zero, List.set_cons_succ]
       rfl
      refine two_ (i := 4) (j := 5) (Ni := some 5) (Nj := some 6) #[true, true, true, true, true, false, false, false] #[true, true, true, true, false, true, false, false] rfl rfl rfl rfl (two_of HT_.out (by kernel_rfl)) (by decide) (by decide) (fun K hK => ?_) (fun K hK => ?_)
      ·skip
       refine box_step ?hg (N := 5) ?hd (cs := #[.int .i64 0, .int .i64 0, .int .i64 0, .int .i64 0, .int .i64 0, .int .i64 0, .int .i64 0, .int .i64 0, .int .i64 0]) (t := 63) ?hr ?_; (case hd => rfl); (case hg => rfl); (case hr => first | (go_simp; done) | (go_simp; rfl))
       intro gb170 hg w11 hbox hb
       have n0_ := Aside0.mk (blk_below (g := gb150) (o := .cells #[.int .i64 a0_0, .int .i64 a0_1, .int .i64 a0_2, .int .i64 a0_3, .int .i64 a0_4, .int .i64 a0_5, .int .i64 a0_6, .int .i64 a0_7, .int .i64 a0_8] 39 (0, 0)) (kq BK150.out) hb)
       have n1_ := Aside0.mk (blk_below (g := gb151) (o := .cells #[.int .i64 a1_0, .int .i64 a1_1, .int .i64 a1_2, .int .i64 a1_3, .int .i64 a1_4, .int .i64 a1_5, .int .i64 a1_6, .int .i64 a1_7, .int .i64 a1_8] 39 (0, 0)) (kq BK151.out) hb)
       have n2_ := Aside0.mk (below_step (bq2 HB.out GE150.out GE151.out) hb)
       have n3_ := Aside0.mk (hbox)
       have n4_ := Aside0.mk ((by rw [hg]; exact (below_size (bq2 HB.out GE150.out GE151.out)) : w.heap.size ≤ gb170))
       have n5_ := Aside0.mk ((by rw [hg]; exact (below_size (bq2 HB.out GE150.out GE151.out)) : w.heap.size ≤ gb170))
       have n6_ := Aside0.mk ((by rw [hg]; exact Nat.ne_of_lt (blk_lt (g := gb150) (o := .cells #[.int .i64 a0_0, .int .i64 a0_1, .int .i64 a0_2, .int .i64 a0_3, .int .i64 a0_4, .int .i64 a0_5, .int .i64 a0_6, .int .i64 a0_7, .int .i64 a0_8] 39 (0, 0)) (kq BK150.out)) : gb150 ≠ gb170))
       have n7_ := Aside0.mk ((by rw [hg]; exact Nat.ne_of_gt (blk_lt (g := gb150) (o := .cells #[.int .i64 a0_0, .int .i64 a0_1, .int .i64 a0_2, .int .i64 a0_3, .int .i64 a0_4, .int .i64 a0_5, .int .i64 a0_6, .int .i64 a0_7, .int .i64 a0_8] 39 (0, 0)) (kq BK150.out)) : gb170 ≠ gb150))
       have n8_ := Aside0.mk ((by rw [hg]; exact Nat.ne_of_lt (blk_lt (g := gb151) (o := .cells #[.int .i64 a1_0, .int .i64 a1_1, .int .i64 a1_2, .int .i64 a1_3, .int .i64 a1_4, .int .i64 a1_5, .int .i64 a1_6, .int .i64 a1_7, .int .i64 a1_8] 39 (0, 0)) (kq BK151.out)) : gb151 ≠ gb170))
       have n9_ := Aside0.mk ((by rw [hg]; exact Nat.ne_of_gt (blk_lt (g := gb151) (o := .cells #[.int .i64 a1_0, .int .i64 a1_1, .int .i64 a1_2, .int .i64 a1_3, .int .i64 a1_4, .int .i64 a1_5, .int .i64 a1_6, .int .i64 a1_7, .int .i64 a1_8] 39 (0, 0)) (kq BK151.out)) : gb170 ≠ gb151))
       clear BK150
       clear BK151
       clear HB
       have BK150 := n0_
       have BK151 := n1_
       have HB := n2_
       have BK170 := n3_
       have GW170 := n4_
       have GE170 := n5_
       have NB150_170 := n6_
       have NB170_150 := n7_
       have NB151_170 := n8_
       have NB170_151 := n9_
       clear n0_ n1_ n2_ n3_ n4_ n5_ n6_ n7_ n8_ n9_
       clear hb hbox hg
       refine hK.out _ _ (determinant_Compare.held9 BK150.out BK151.out) (fun hHeld => ?_)
       clear hK K
       refine norm_ (a' := ?_) ?_ ?_
       rotate_left
       ·show Act.put _ (some 5) _ = _
        simp only [Act.put, List.setIfInBounds_toArray, List.set_cons_zero, List.set_cons_succ, i64_w, i32_w]
        rfl
       exact norm_ (by first | (simp only [putAll, Act.put, List.setIfInBounds_toArray, List.set_cons_zero, List.set_cons_succ]; done) | (simp only [putAll, Act.put, List.setIfInBounds_toArray, List.set_cons_zero, List.set_cons_succ]; rfl)) (hJ1_3_4 (gb170) _ ⟨hHeld, (kq BK150.out), (kq BK151.out), (kq BK170.out), GW170.out, GE170.out, NB150_170.out, NB170_150.out, NB151_170.out, NB170_151.out, (bq3 HB.out GE150.out GE151.out GE170.out)⟩)
      ·skip
       refine box_step ?hg (N := 6) ?hd (cs := #[.int .i64 0, .int .i64 0, .int .i64 0, .int .i64 0, .int .i64 0, .int .i64 0, .int .i64 0, .int .i64 0, .int .i64 0]) (t := 63) ?hr ?_; (case hd => rfl); (case hg => rfl); (case hr => first | (go_simp; done) | (go_simp; rfl))
       intro gb171 hg w11 hbox hb
       have n0_ := Aside0.mk (blk_below (g := gb150) (o := .cells #[.int .i64 a0_0, .int .i64 a0_1, .int .i64 a0_2, .int .i64 a0_3, .int .i64 a0_4, .int .i64 a0_5, .int .i64 a0_6, .int .i64 a0_7, .int .i64 a0_8] 39 (0, 0)) (kq BK150.out) hb)
       have n1_ := Aside0.mk (blk_below (g := gb151) (o := .cells #[.int .i64 a1_0, .int .i64 a1_1, .int .i64 a1_2, .int .i64 a1_3, .int .i64 a1_4, .int .i64 a1_5, .int .i64 a1_6, .int .i64 a1_7, .int .i64 a1_8] 39 (0, 0)) (kq BK151.out) hb)
       have n2_ := Aside0.mk (below_step (bq2 HB.out GE150.out GE151.out) hb)
       have n3_ := Aside0.mk (hbox)
       have n4_ := Aside0.mk ((by rw [hg]; exact (below_size (bq2 HB.out GE150.out GE151.out)) : w.heap.size ≤ gb171))
       have n5_ := Aside0.mk ((by rw [hg]; exact (below_size (bq2 HB.out GE150.out GE151.out)) : w.heap.size ≤ gb171))
       have n6_ := Aside0.mk ((by rw [hg]; exact Nat.ne_of_lt (blk_lt (g := gb150) (o := .cells #[.int .i64 a0_0, .int .i64 a0_1, .int .i64 a0_2, .int .i64 a0_3, .int .i64 a0_4, .int .i64 a0_5, .int .i64 a0_6, .int .i64 a0_7, .int .i64 a0_8] 39 (0, 0)) (kq BK150.out)) : gb150 ≠ gb171))
       have n7_ := Aside0.mk ((by rw [hg]; exact Nat.ne_of_gt (blk_lt (g := gb150) (o := .cells #[.int .i64 a0_0, .int .i64 a0_1, .int .i64 a0_2, .int .i64 a0_3, .int .i64 a0_4, .int .i64 a0_5, .int .i64 a0_6, .int .i64 a0_7, .int .i64 a0_8] 39 (0, 0)) (kq BK150.out)) : gb171 ≠ gb150))
       have n8_ := Aside0.mk ((by rw [hg]; exact Nat.ne_of_lt (blk_lt (g := gb151) (o := .cells #[.int .i64 a1_0, .int .i64 a1_1, .int .i64 a1_2, .int .i64 a1_3, .int .i64 a1_4, .int .i64 a1_5, .int .i64 a1_6, .int .i64 a1_7, .int .i64 a1_8] 39 (0, 0)) (kq BK151.out)) : gb151 ≠ gb171))
       have n9_ := Aside0.mk ((by rw [hg]; exact Nat.ne_of_gt (blk_lt (g := gb151) (o := .cells #[.int .i64 a1_0, .int .i64 a1_1, .int .i64 a1_2, .int .i64 a1_3, .int .i64 a1_4, .int .i64 a1_5, .int .i64 a1_6, .int .i64 a1_7, .int .i64 a1_8] 39 (0, 0)) (kq BK151.out)) : gb171 ≠ gb151))
       clear BK150
       clear BK151
       clear HB
       have BK150 := n0_
       have BK151 := n1_
       have HB := n2_
       have BK171 := n3_
       have GW171 := n4_
       have GE171 := n5_
       have NB150_171 := n6_
       have NB171_150 := n7_
       have NB151_171 := n8_
       have NB171_151 := n9_
       clear n0_ n1_ n2_ n3_ n4_ n5_ n6_ n7_ n8_ n9_
       clear hb hbox hg
       refine hK.out _ _ (determinant_Compare.held9 BK150.out BK151.out) (fun hHeld => ?_)
       clear hK K
       refine norm_ (a' := ?_) ?_ ?_
       rotate_left
       ·show Act.put _ (some 6) _ = _
        simp only [Act.put, List.setIfInBounds_toArray, List.set_cons_zero, List.set_cons_succ, i64_w, i32_w]
        rfl
       exact norm_ (by first | (simp only [putAll, Act.put, List.setIfInBounds_toArray, List.set_cons_zero, List.set_cons_succ]; done) | (simp only [putAll, Act.put, List.setIfInBounds_toArray, List.set_cons_zero, List.set_cons_succ]; rfl)) (hJ1_3_5 (gb171) _ ⟨hHeld, (kq BK150.out), (kq BK151.out), (kq BK171.out), GW171.out, GE171.out, NB150_171.out, NB171_150.out, NB151_171.out, NB171_151.out, (bq3 HB.out GE150.out GE151.out GE171.out)⟩)
    ·skip
     rintro ⟨gb170, gb171⟩ w11 ⟨hS_, h0_, h1_, h2_, h3_, h4_, h5_, h6_, h7_, h8_, h9_, h10_, h11_, h12_, h13_, h14_, h15_, h16_, h17_, h18_⟩
     have n0_ : Aside0 (w11.heap[gb150]? = some (.cells #[.int .i64 a0_0, .int .i64 a0_1, .int .i64 a0_2, .int .i64 a0_3, .int .i64 a0_4, .int .i64 a0_5, .int .i64 a0_6, .int .i64 a0_7, .int .i64 a0_8] 39 (0, 0))) := ⟨h0_⟩
     have n1_ : Aside0 (w11.heap[gb151]? = some (.cells #[.int .i64 a1_0, .int .i64 a1_1, .int .i64 a1_2, .int .i64 a1_3, .int .i64 a1_4, .int .i64 a1_5, .int .i64 a1_6, .int .i64 a1_7, .int .i64 a1_8] 39 (0, 0))) := ⟨h1_⟩
     have n2_ : Aside0 (w11.heap[gb170]? = some (.cells #[.int .i64 0, .int .i64 0, .int .i64 0, .int .i64 0, .int .i64 0, .int .i64 0, .int .i64 0, .int .i64 0, .int .i64 0] 63 (0, 0))) := ⟨h2_⟩
     have n3_ : Aside0 (w11.heap[gb171]? = some (.cells #[.int .i64 0, .int .i64 0, .int .i64 0, .int .i64 0, .int .i64 0, .int .i64 0, .int .i64 0, .int .i64 0, .int .i64 0] 63 (0, 0))) := ⟨h3_⟩
     have n4_ : Aside0 (w.heap.size ≤ gb170) := ⟨h4_⟩
     have n5_ : Aside0 (w.heap.size ≤ gb170) := ⟨h5_⟩
     have n6_ : Aside0 (gb150 ≠ gb170) := ⟨h6_⟩
     have n7_ : Aside0 (gb170 ≠ gb150) := ⟨h7_⟩
     have n8_ : Aside0 (gb151 ≠ gb170) := ⟨h8_⟩
     have n9_ : Aside0 (gb170 ≠ gb151) := ⟨h9_⟩
     have n10_ : Aside0 (gb171 ≠ gb170) := ⟨h10_⟩
     have n11_ : Aside0 (gb170 ≠ gb171) := ⟨h11_⟩
     have n12_ : Aside0 (w.heap.size ≤ gb171) := ⟨h12_⟩
     have n13_ : Aside0 (w.heap.size ≤ gb171) := ⟨h13_⟩
     have n14_ : Aside0 (gb150 ≠ gb171) := ⟨h14_⟩
     have n15_ : Aside0 (gb171 ≠ gb150) := ⟨h15_⟩
     have n16_ : Aside0 (gb151 ≠ gb171) := ⟨h16_⟩
     have n17_ : Aside0 (gb171 ≠ gb151) := ⟨h17_⟩
     have n18_ : Aside0 (Below w.heap.size w w11) := ⟨h18_⟩
     clear BK150
     clear BK151
     clear HB
     clear h0_ h1_ h2_ h3_ h4_ h5_ h6_ h7_ h8_ h9_ h10_ h11_ h12_ h13_ h14_ h15_ h16_ h17_ h18_
     have BK150 := n0_
     have BK151 := n1_
     have BK170 := n2_
     have BK171 := n3_
     have GW170 := n4_
     have GE170 := n5_
     have NB150_170 := n6_
     have NB170_150 := n7_
     have NB151_170 := n8_
     have NB170_151 := n9_
     have NB171_170 := n10_
     have NB170_171 := n11_
     have GW171 := n12_
     have GE171 := n13_
     have NB150_171 := n14_
     have NB171_150 := n15_
     have NB151_171 := n16_
     have NB171_151 := n17_
     have HB := n18_
     clear n0_ n1_ n2_ n3_ n4_ n5_ n6_ n7_ n8_ n9_ n10_ n11_ n12_ n13_ n14_ n15_ n16_ n17_ n18_
     have hHeld : determinant_Compare.S18 gb150 gb151 (.int .i64 a0_0) (.int .i64 a0_1) (.int .i64 a0_2) (.int .i64 a0_3) (.int .i64 a0_4) (.int .i64 a0_5) (.int .i64 a0_6) (.int .i64 a0_7) (.int .i64 a0_8) (.int .i64 a1_0) (.int .i64 a1_1) (.int .i64 a1_2) (.int .i64 a1_3) (.int .i64 a1_4) (.int .i64 a1_5) (.int .i64 a1_6) (.int .i64 a1_7) (.int .i64 a1_8) w11 := hS_
     refine norm_ (a' := ?_) ?_ ?_
     rotate_left
     ·simp only [putAll, Act.put, List.setIfInBounds_toArray, List.set_cons_zero, List.set_cons_succ]
      rfl
     refine one_ (i := 3) (N := some 11) #[true, true, true, true, true, true, false, false] rfl rfl (one_of HT_.out (by kernel_rfl)) (by decide) (fun K hK => ?_)
     refine goes_ Try.func40 (by kernel_rfl) rfl #[.agg #[.int .i64 a1_0, .int .i64 a1_1, .int .i64 a1_2, .int .i64 a1_3, .int .i64 a1_4, .int .i64 a1_5, .int .i64 a1_6, .int .i64 a1_7, .int .i64 a1_8]] (by first | rfl | (refine wanted_on rfl rfl rfl ?_; first | assumption | (simp [*]; done))) rfl rfl (by (try simp only [List.map_toArray, List.map_cons, List.map_nil]); first | done | rfl | (simp only [List.length_drop, List.length_take]; rfl)) ?_
     with_reducible refine (determinant_fields.calls a1_0 a1_1 a1_2 a1_3 a1_4 a1_5 a1_6 a1_7 a1_8 t161 t162 t163 t164 t165 t166 t167 t168 t169 _ A4.out).mono ?_
     rintro e w12 ⟨rfl, hb⟩
     refine ⟨_, rfl, ?_⟩
     have n0_ := Aside0.mk (blk_below (g := gb150) (o := .cells #[.int .i64 a0_0, .int .i64 a0_1, .int .i64 a0_2, .int .i64 a0_3, .int .i64 a0_4, .int .i64 a0_5, .int .i64 a0_6, .int .i64 a0_7, .int .i64 a0_8] 39 (0, 0)) (kq BK150.out) hb)
     have n1_ := Aside0.mk (blk_below (g := gb151) (o := .cells #[.int .i64 a1_0, .int .i64 a1_1, .int .i64 a1_2, .int .i64 a1_3, .int .i64 a1_4, .int .i64 a1_5, .int .i64 a1_6, .int .i64 a1_7, .int .i64 a1_8] 39 (0, 0)) (kq BK151.out) hb)
     have n2_ := Aside0.mk (blk_below (g := gb170) (o := .cells #[.int .i64 0, .int .i64 0, .int .i64 0, .int .i64 0, .int .i64 0, .int .i64 0, .int .i64 0, .int .i64 0, .int .i64 0] 63 (0, 0)) (kq BK170.out) hb)
     have n3_ := Aside0.mk (blk_below (g := gb171) (o := .cells #[.int .i64 0, .int .i64 0, .int .i64 0, .int .i64 0, .int .i64 0, .int .i64 0, .int .i64 0, .int .i64 0, .int .i64 0] 63 (0, 0)) (kq BK171.out) hb)
     have n4_ := Aside0.mk (below_step (bq4 HB.out GE150.out GE151.out GE170.out GE171.out) hb)
     clear BK150
     clear BK151
     clear BK170
     clear BK171
     clear HB
     have BK150 := n0_
     have BK151 := n1_
     have BK170 := n2_
     have BK171 := n3_
     have HB := n4_
     clear n0_ n1_ n2_ n3_ n4_
     (try clear hb)
     (try clear hb2)
     (try clear hk)
     (try clear hi)
     refine hK.out _ _ (determinant_Compare.held9 BK150.out BK151.out) (fun hHeld => ?_)
     clear hK K
     refine norm_ (a' := ?_) ?_ ?_
     rotate_left
     ·show Act.put _ (some 11) _ = _
      simp only [Act.put, List.setIfInBounds_toArray, List.set_cons_zero, List.set_cons_succ, i64_w, i32_w]
      rfl
     exact norm_ (by first | (simp only [putAll, Act.put, List.setIfInBounds_toArray, List.set_cons_zero, List.set_cons_succ]; done) | (simp only [putAll, Act.put, List.setIfInBounds_toArray, List.set_cons_zero, List.set_cons_succ]; rfl)) (hJ1_3_4_5 (gb170, gb171) _ ⟨hHeld, (kq BK150.out), (kq BK151.out), (kq BK170.out), (kq BK171.out), GW170.out, GE170.out, NB150_170.out, NB170_150.out, NB151_170.out, NB170_151.out, NB171_170.out, NB170_171.out, GW171.out, GE171.out, NB150_171.out, NB171_150.out, NB151_171.out, NB171_151.out, (bq4 HB.out GE150.out GE151.out GE170.out GE171.out)⟩)
   ·skip
    rintro gb171 w11 ⟨hS_, h0_, h1_, h2_, h3_, h4_, h5_, h6_, h7_, h8_, h9_⟩
    have n0_ : Aside0 (w11.heap[gb150]? = some (.cells #[.int .i64 a0_0, .int .i64 a0_1, .int .i64 a0_2, .int .i64 a0_3, .int .i64 a0_4, .int .i64 a0_5, .int .i64 a0_6, .int .i64 a0_7, .int .i64 a0_8] 39 (0, 0))) := ⟨h0_⟩
    have n1_ : Aside0 (w11.heap[gb151]? = some (.cells #[.int .i64 a1_0, .int .i64 a1_1, .int .i64 a1_2, .int .i64 a1_3, .int .i64 a1_4, .int .i64 a1_5, .int .i64 a1_6, .int .i64 a1_7, .int .i64 a1_8] 39 (0, 0))) := ⟨h1_⟩
    have n2_ : Aside0 (w11.heap[gb171]? = some (.cells #[.int .i64 0, .int .i64 0, .int .i64 0, .int .i64 0, .int .i64 0, .int .i64 0, .int .i64 0, .int .i64 0, .int .i64 0] 63 (0, 0))) := ⟨h2_⟩
    have n3_ : Aside0 (w.heap.size ≤ gb171) := ⟨h3_⟩
    have n4_ : Aside0 (w.heap.size ≤ gb171) := ⟨h4_⟩
    have n5_ : Aside0 (gb150 ≠ gb171) := ⟨h5_⟩
    have n6_ : Aside0 (gb171 ≠ gb150) := ⟨h6_⟩
    have n7_ : Aside0 (gb151 ≠ gb171) := ⟨h7_⟩
    have n8_ : Aside0 (gb171 ≠ gb151) := ⟨h8_⟩
    have n9_ : Aside0 (Below w.heap.size w w11) := ⟨h9_⟩
    clear BK150
    clear BK151
    clear HB
    clear h0_ h1_ h2_ h3_ h4_ h5_ h6_ h7_ h8_ h9_
    have BK150 := n0_
    have BK151 := n1_
    have BK171 := n2_
    have GW171 := n3_
    have GE171 := n4_
    have NB150_171 := n5_
    have NB171_150 := n6_
    have NB151_171 := n7_
    have NB171_151 := n8_
    have HB := n9_
    clear n0_ n1_ n2_ n3_ n4_ n5_ n6_ n7_ n8_ n9_
    have hHeld : determinant_Compare.S18 gb150 gb151 (.int .i64 a0_0) (.int .i64 a0_1) (.int .i64 a0_2) (.int .i64 a0_3) (.int .i64 a0_4) (.int .i64 a0_5) (.int .i64 a0_6) (.int .i64 a0_7) (.int .i64 a0_8) (.int .i64 a1_0) (.int .i64 a1_1) (.int .i64 a1_2) (.int .i64 a1_3) (.int .i64 a1_4) (.int .i64 a1_5) (.int .i64 a1_6) (.int .i64 a1_7) (.int .i64 a1_8) w11 := hS_
    refine norm_ (a' := ?_) ?_ ?_
    rotate_left
    ·simp only [putAll, Act.put, List.setIfInBounds_toArray, List.set_cons_zero, List.set_cons_succ]
     rfl
    refine one_ (i := 4) (N := some 5) #[true, true, true, true, true, true, false, false] rfl rfl (one_of HT_.out (by kernel_rfl)) (by decide) (fun K hK => ?_)
    refine box_step ?hg (N := 5) ?hd (cs := #[.int .i64 0, .int .i64 0, .int .i64 0, .int .i64 0, .int .i64 0, .int .i64 0, .int .i64 0, .int .i64 0, .int .i64 0]) (t := 63) ?hr ?_; (case hd => rfl); (case hg => rfl); (case hr => first | (go_simp; done) | (go_simp; rfl))
    intro gb170 hg w12 hbox hb
    have n0_ := Aside0.mk (blk_below (g := gb150) (o := .cells #[.int .i64 a0_0, .int .i64 a0_1, .int .i64 a0_2, .int .i64 a0_3, .int .i64 a0_4, .int .i64 a0_5, .int .i64 a0_6, .int .i64 a0_7, .int .i64 a0_8] 39 (0, 0)) (kq BK150.out) hb)
    have n1_ := Aside0.mk (blk_below (g := gb151) (o := .cells #[.int .i64 a1_0, .int .i64 a1_1, .int .i64 a1_2, .int .i64 a1_3, .int .i64 a1_4, .int .i64 a1_5, .int .i64 a1_6, .int .i64 a1_7, .int .i64 a1_8] 39 (0, 0)) (kq BK151.out) hb)
    have n2_ := Aside0.mk (blk_below (g := gb171) (o := .cells #[.int .i64 0, .int .i64 0, .int .i64 0, .int .i64 0, .int .i64 0, .int .i64 0, .int .i64 0, .int .i64 0, .int .i64 0] 63 (0, 0)) (kq BK171.out) hb)
    have n3_ := Aside0.mk (below_step (bq3 HB.out GE150.out GE151.out GE171.out) hb)
    have n4_ := Aside0.mk (hbox)
    have n5_ := Aside0.mk ((by rw [hg]; exact (below_size (bq3 HB.out GE150.out GE151.out GE171.out)) : w.heap.size ≤ gb170))
    have n6_ := Aside0.mk ((by rw [hg]; exact (below_size (bq3 HB.out GE150.out GE151.out GE171.out)) : w.heap.size ≤ gb170))
    have n7_ := Aside0.mk ((by rw [hg]; exact Nat.ne_of_lt (blk_lt (g := gb150) (o := .cells #[.int .i64 a0_0, .int .i64 a0_1, .int .i64 a0_2, .int .i64 a0_3, .int .i64 a0_4, .int .i64 a0_5, .int .i64 a0_6, .int .i64 a0_7, .int .i64 a0_8] 39 (0, 0)) (kq BK150.out)) : gb150 ≠ gb170))
    have n8_ := Aside0.mk ((by rw [hg]; exact Nat.ne_of_gt (blk_lt (g := gb150) (o := .cells #[.int .i64 a0_0, .int .i64 a0_1, .int .i64 a0_2, .int .i64 a0_3, .int .i64 a0_4, .int .i64 a0_5, .int .i64 a0_6, .int .i64 a0_7, .int .i64 a0_8] 39 (0, 0)) (kq BK150.out)) : gb170 ≠ gb150))
    have n9_ := Aside0.mk ((by rw [hg]; exact Nat.ne_of_lt (blk_lt (g := gb151) (o := .cells #[.int .i64 a1_0, .int .i64 a1_1, .int .i64 a1_2, .int .i64 a1_3, .int .i64 a1_4, .int .i64 a1_5, .int .i64 a1_6, .int .i64 a1_7, .int .i64 a1_8] 39 (0, 0)) (kq BK151.out)) : gb151 ≠ gb170))
    have n10_ := Aside0.mk ((by rw [hg]; exact Nat.ne_of_gt (blk_lt (g := gb151) (o := .cells #[.int .i64 a1_0, .int .i64 a1_1, .int .i64 a1_2, .int .i64 a1_3, .int .i64 a1_4, .int .i64 a1_5, .int .i64 a1_6, .int .i64 a1_7, .int .i64 a1_8] 39 (0, 0)) (kq BK151.out)) : gb170 ≠ gb151))
    have n11_ := Aside0.mk ((by rw [hg]; exact Nat.ne_of_lt (blk_lt (g := gb171) (o := .cells #[.int .i64 0, .int .i64 0, .int .i64 0, .int .i64 0, .int .i64 0, .int .i64 0, .int .i64 0, .int .i64 0, .int .i64 0] 63 (0, 0)) (kq BK171.out)) : gb171 ≠ gb170))
    have n12_ := Aside0.mk ((by rw [hg]; exact Nat.ne_of_gt (blk_lt (g := gb171) (o := .cells #[.int .i64 0, .int .i64 0, .int .i64 0, .int .i64 0, .int .i64 0, .int .i64 0, .int .i64 0, .int .i64 0, .int .i64 0] 63 (0, 0)) (kq BK171.out)) : gb170 ≠ gb171))
    clear BK150
    clear BK151
    clear BK171
    clear HB
    have BK150 := n0_
    have BK151 := n1_
    have BK171 := n2_
    have HB := n3_
    have BK170 := n4_
    have GW170 := n5_
    have GE170 := n6_
    have NB150_170 := n7_
    have NB170_150 := n8_
    have NB151_170 := n9_
    have NB170_151 := n10_
    have NB171_170 := n11_
    have NB170_171 := n12_
    clear n0_ n1_ n2_ n3_ n4_ n5_ n6_ n7_ n8_ n9_ n10_ n11_ n12_
    clear hb hbox hg
    refine hK.out _ _ (determinant_Compare.held9 BK150.out BK151.out) (fun hHeld => ?_)
    clear hK K
    refine norm_ (a' := ?_) ?_ ?_
    rotate_left
    ·show Act.put _ (some 5) _ = _
     simp only [Act.put, List.setIfInBounds_toArray, List.set_cons_zero, List.set_cons_succ, i64_w, i32_w]
     rfl
    exact norm_ (by first | (simp only [putAll, Act.put, List.setIfInBounds_toArray, List.set_cons_zero, List.set_cons_succ]; done) | (simp only [putAll, Act.put, List.setIfInBounds_toArray, List.set_cons_zero, List.set_cons_succ]; rfl)) (hJ1_3_4_5 (gb170, gb171) _ ⟨hHeld, (kq BK150.out), (kq BK151.out), (kq BK170.out), (kq BK171.out), GW170.out, GE170.out, NB150_170.out, NB170_150.out, NB151_170.out, NB170_151.out, NB171_170.out, NB170_171.out, GW171.out, GE171.out, NB150_171.out, NB171_150.out, NB151_171.out, NB171_151.out, (bq4 HB.out GE150.out GE151.out GE171.out GE170.out)⟩)
  ·skip
   rintro gb170 w11 ⟨hS_, h0_, h1_, h2_, h3_, h4_, h5_, h6_, h7_, h8_, h9_⟩
   have n0_ : Aside0 (w11.heap[gb150]? = some (.cells #[.int .i64 a0_0, .int .i64 a0_1, .int .i64 a0_2, .int .i64 a0_3, .int .i64 a0_4, .int .i64 a0_5, .int .i64 a0_6, .int .i64 a0_7, .int .i64 a0_8] 39 (0, 0))) := ⟨h0_⟩
   have n1_ : Aside0 (w11.heap[gb151]? = some (.cells #[.int .i64 a1_0, .int .i64 a1_1, .int .i64 a1_2, .int .i64 a1_3, .int .i64 a1_4, .int .i64 a1_5, .int .i64 a1_6, .int .i64 a1_7, .int .i64 a1_8] 39 (0, 0))) := ⟨h1_⟩
   have n2_ : Aside0 (w11.heap[gb170]? = some (.cells #[.int .i64 0, .int .i64 0, .int .i64 0, .int .i64 0, .int .i64 0, .int .i64 0, .int .i64 0, .int .i64 0, .int .i64 0] 63 (0, 0))) := ⟨h2_⟩
   have n3_ : Aside0 (w.heap.size ≤ gb170) := ⟨h3_⟩
   have n4_ : Aside0 (w.heap.size ≤ gb170) := ⟨h4_⟩
   have n5_ : Aside0 (gb150 ≠ gb170) := ⟨h5_⟩
   have n6_ : Aside0 (gb170 ≠ gb150) := ⟨h6_⟩
   have n7_ : Aside0 (gb151 ≠ gb170) := ⟨h7_⟩
   have n8_ : Aside0 (gb170 ≠ gb151) := ⟨h8_⟩
   have n9_ : Aside0 (Below w.heap.size w w11) := ⟨h9_⟩
   clear BK150
   clear BK151
   clear HB
   clear h0_ h1_ h2_ h3_ h4_ h5_ h6_ h7_ h8_ h9_
   have BK150 := n0_
   have BK151 := n1_
   have BK170 := n2_
   have GW170 := n3_
   have GE170 := n4_
   have NB150_170 := n5_
   have NB170_150 := n6_
   have NB151_170 := n7_
   have NB170_151 := n8_
   have HB := n9_
   clear n0_ n1_ n2_ n3_ n4_ n5_ n6_ n7_ n8_ n9_
   have hHeld : determinant_Compare.S18 gb150 gb151 (.int .i64 a0_0) (.int .i64 a0_1) (.int .i64 a0_2) (.int .i64 a0_3) (.int .i64 a0_4) (.int .i64 a0_5) (.int .i64 a0_6) (.int .i64 a0_7) (.int .i64 a0_8) (.int .i64 a1_0) (.int .i64 a1_1) (.int .i64 a1_2) (.int .i64 a1_3) (.int .i64 a1_4) (.int .i64 a1_5) (.int .i64 a1_6) (.int .i64 a1_7) (.int .i64 a1_8) w11 := hS_
   refine norm_ (a' := ?_) ?_ ?_
   rotate_left
   ·simp only [putAll, Act.put, List.setIfInBounds_toArray, List.set_cons_zero, List.set_cons_succ]
    rfl
   refine one_ (i := 5) (N := some 6) #[true, true, true, true, true, true, false, false] rfl rfl (one_of HT_.out (by kernel_rfl)) (by decide) (fun K hK => ?_)
   refine box_step ?hg (N := 6) ?hd (cs := #[.int .i64 0, .int .i64 0, .int .i64 0, .int .i64 0, .int .i64 0, .int .i64 0, .int .i64 0, .int .i64 0, .int .i64 0]) (t := 63) ?hr ?_; (case hd => rfl); (case hg => rfl); (case hr => first | (go_simp; done) | (go_simp; rfl))
   intro gb171 hg w12 hbox hb
   have n0_ := Aside0.mk (blk_below (g := gb150) (o := .cells #[.int .i64 a0_0, .int .i64 a0_1, .int .i64 a0_2, .int .i64 a0_3, .int .i64 a0_4, .int .i64 a0_5, .int .i64 a0_6, .int .i64 a0_7, .int .i64 a0_8] 39 (0, 0)) (kq BK150.out) hb)
   have n1_ := Aside0.mk (blk_below (g := gb151) (o := .cells #[.int .i64 a1_0, .int .i64 a1_1, .int .i64 a1_2, .int .i64 a1_3, .int .i64 a1_4, .int .i64 a1_5, .int .i64 a1_6, .int .i64 a1_7, .int .i64 a1_8] 39 (0, 0)) (kq BK151.out) hb)
   have n2_ := Aside0.mk (blk_below (g := gb170) (o := .cells #[.int .i64 0, .int .i64 0, .int .i64 0, .int .i64 0, .int .i64 0, .int .i64 0, .int .i64 0, .int .i64 0, .int .i64 0] 63 (0, 0)) (kq BK170.out) hb)
   have n3_ := Aside0.mk (below_step (bq3 HB.out GE150.out GE151.out GE170.out) hb)
   have n4_ := Aside0.mk (hbox)
   have n5_ := Aside0.mk ((by rw [hg]; exact (below_size (bq3 HB.out GE150.out GE151.out GE170.out)) : w.heap.size ≤ gb171))
   have n6_ := Aside0.mk ((by rw [hg]; exact (below_size (bq3 HB.out GE150.out GE151.out GE170.out)) : w.heap.size ≤ gb171))
   have n7_ := Aside0.mk ((by rw [hg]; exact Nat.ne_of_lt (blk_lt (g := gb150) (o := .cells #[.int .i64 a0_0, .int .i64 a0_1, .int .i64 a0_2, .int .i64 a0_3, .int .i64 a0_4, .int .i64 a0_5, .int .i64 a0_6, .int .i64 a0_7, .int .i64 a0_8] 39 (0, 0)) (kq BK150.out)) : gb150 ≠ gb171))
   have n8_ := Aside0.mk ((by rw [hg]; exact Nat.ne_of_gt (blk_lt (g := gb150) (o := .cells #[.int .i64 a0_0, .int .i64 a0_1, .int .i64 a0_2, .int .i64 a0_3, .int .i64 a0_4, .int .i64 a0_5, .int .i64 a0_6, .int .i64 a0_7, .int .i64 a0_8] 39 (0, 0)) (kq BK150.out)) : gb171 ≠ gb150))
   have n9_ := Aside0.mk ((by rw [hg]; exact Nat.ne_of_lt (blk_lt (g := gb151) (o := .cells #[.int .i64 a1_0, .int .i64 a1_1, .int .i64 a1_2, .int .i64 a1_3, .int .i64 a1_4, .int .i64 a1_5, .int .i64 a1_6, .int .i64 a1_7, .int .i64 a1_8] 39 (0, 0)) (kq BK151.out)) : gb151 ≠ gb171))
   have n10_ := Aside0.mk ((by rw [hg]; exact Nat.ne_of_gt (blk_lt (g := gb151) (o := .cells #[.int .i64 a1_0, .int .i64 a1_1, .int .i64 a1_2, .int .i64 a1_3, .int .i64 a1_4, .int .i64 a1_5, .int .i64 a1_6, .int .i64 a1_7, .int .i64 a1_8] 39 (0, 0)) (kq BK151.out)) : gb171 ≠ gb151))
   have n11_ := Aside0.mk ((by rw [hg]; exact Nat.ne_of_lt (blk_lt (g := gb170) (o := .cells #[.int .i64 0, .int .i64 0, .int .i64 0, .int .i64 0, .int .i64 0, .int .i64 0, .int .i64 0, .int .i64 0, .int .i64 0] 63 (0, 0)) (kq BK170.out)) : gb170 ≠ gb171))
   have n12_ := Aside0.mk ((by rw [hg]; exact Nat.ne_of_gt (blk_lt (g := gb170) (o := .cells #[.int .i64 0, .int .i64 0, .int .i64 0, .int .i64 0, .int .i64 0, .int .i64 0, .int .i64 0, .int .i64 0, .int .i64 0] 63 (0, 0)) (kq BK170.out)) : gb171 ≠ gb170))
   clear BK150
   clear BK151
   clear BK170
   clear HB
   have BK150 := n0_
   have BK151 := n1_
   have BK170 := n2_
   have HB := n3_
   have BK171 := n4_
   have GW171 := n5_
   have GE171 := n6_
   have NB150_171 := n7_
   have NB171_150 := n8_
   have NB151_171 := n9_
   have NB171_151 := n10_
   have NB170_171 := n11_
   have NB171_170 := n12_
   clear n0_ n1_ n2_ n3_ n4_ n5_ n6_ n7_ n8_ n9_ n10_ n11_ n12_
   clear hb hbox hg
   refine hK.out _ _ (determinant_Compare.held9 BK150.out BK151.out) (fun hHeld => ?_)
   clear hK K
   refine norm_ (a' := ?_) ?_ ?_
   rotate_left
   ·show Act.put _ (some 6) _ = _
    simp only [Act.put, List.setIfInBounds_toArray, List.set_cons_zero, List.set_cons_succ, i64_w, i32_w]
    rfl
   exact norm_ (by first | (simp only [putAll, Act.put, List.setIfInBounds_toArray, List.set_cons_zero, List.set_cons_succ]; done) | (simp only [putAll, Act.put, List.setIfInBounds_toArray, List.set_cons_zero, List.set_cons_succ]; rfl)) (hJ1_3_4_5 (gb170, gb171) _ ⟨hHeld, (kq BK150.out), (kq BK151.out), (kq BK170.out), (kq BK171.out), GW170.out, GE170.out, NB150_170.out, NB170_150.out, NB151_170.out, NB170_151.out, NB171_170.out, NB170_171.out, GW171.out, GE171.out, NB150_171.out, NB171_150.out, NB151_171.out, NB171_151.out, (bq4 HB.out GE150.out GE151.out GE170.out GE171.out)⟩)
 rintro ⟨gb170, gb171⟩ w12 ⟨hS_, h0_, h1_, h2_, h3_, h4_, h5_, h6_, h7_, h8_, h9_, h10_, h11_, h12_, h13_, h14_, h15_, h16_, h17_, h18_⟩
 have n0_ : Aside0 (w12.heap[gb150]? = some (.cells #[.int .i64 a0_0, .int .i64 a0_1, .int .i64 a0_2, .int .i64 a0_3, .int .i64 a0_4, .int .i64 a0_5, .int .i64 a0_6, .int .i64 a0_7, .int .i64 a0_8] 39 (0, 0))) := ⟨h0_⟩
 have n1_ : Aside0 (w12.heap[gb151]? = some (.cells #[.int .i64 a1_0, .int .i64 a1_1, .int .i64 a1_2, .int .i64 a1_3, .int .i64 a1_4, .int .i64 a1_5, .int .i64 a1_6, .int .i64 a1_7, .int .i64 a1_8] 39 (0, 0))) := ⟨h1_⟩
 have n2_ : Aside0 (w12.heap[gb170]? = some (.cells #[.int .i64 0, .int .i64 0, .int .i64 0, .int .i64 0, .int .i64 0, .int .i64 0, .int .i64 0, .int .i64 0, .int .i64 0] 63 (0, 0))) := ⟨h2_⟩
 have n3_ : Aside0 (w12.heap[gb171]? = some (.cells #[.int .i64 0, .int .i64 0, .int .i64 0, .int .i64 0, .int .i64 0, .int .i64 0, .int .i64 0, .int .i64 0, .int .i64 0] 63 (0, 0))) := ⟨h3_⟩
 have n4_ : Aside0 (w.heap.size ≤ gb170) := ⟨h4_⟩
 have n5_ : Aside0 (w.heap.size ≤ gb170) := ⟨h5_⟩
 have n6_ : Aside0 (gb150 ≠ gb170) := ⟨h6_⟩
 have n7_ : Aside0 (gb170 ≠ gb150) := ⟨h7_⟩
 have n8_ : Aside0 (gb151 ≠ gb170) := ⟨h8_⟩
 have n9_ : Aside0 (gb170 ≠ gb151) := ⟨h9_⟩
 have n10_ : Aside0 (gb171 ≠ gb170) := ⟨h10_⟩
 have n11_ : Aside0 (gb170 ≠ gb171) := ⟨h11_⟩
 have n12_ : Aside0 (w.heap.size ≤ gb171) := ⟨h12_⟩
 have n13_ : Aside0 (w.heap.size ≤ gb171) := ⟨h13_⟩
 have n14_ : Aside0 (gb150 ≠ gb171) := ⟨h14_⟩
 have n15_ : Aside0 (gb171 ≠ gb150) := ⟨h15_⟩
 have n16_ : Aside0 (gb151 ≠ gb171) := ⟨h16_⟩
 have n17_ : Aside0 (gb171 ≠ gb151) := ⟨h17_⟩
 have n18_ : Aside0 (Below w.heap.size w w12) := ⟨h18_⟩
 clear BK150
 clear BK151
 clear HB
 clear h0_ h1_ h2_ h3_ h4_ h5_ h6_ h7_ h8_ h9_ h10_ h11_ h12_ h13_ h14_ h15_ h16_ h17_ h18_
 have BK150 := n0_
 have BK151 := n1_
 have BK170 := n2_
 have BK171 := n3_
 have GW170 := n4_
 have GE170 := n5_
 have NB150_170 := n6_
 have NB170_150 := n7_
 have NB151_170 := n8_
 have NB170_151 := n9_
 have NB171_170 := n10_
 have NB170_171 := n11_
 have GW171 := n12_
 have GE171 := n13_
 have NB150_171 := n14_
 have NB171_150 := n15_
 have NB151_171 := n16_
 have NB171_151 := n17_
 have HB := n18_
 clear n0_ n1_ n2_ n3_ n4_ n5_ n6_ n7_ n8_ n9_ n10_ n11_ n12_ n13_ n14_ n15_ n16_ n17_ n18_
 have hHeld : determinant_Compare.S18 gb150 gb151 (.int .i64 a0_0) (.int .i64 a0_1) (.int .i64 a0_2) (.int .i64 a0_3) (.int .i64 a0_4) (.int .i64 a0_5) (.int .i64 a0_6) (.int .i64 a0_7) (.int .i64 a0_8) (.int .i64 a1_0) (.int .i64 a1_1) (.int .i64 a1_2) (.int .i64 a1_3) (.int .i64 a1_4) (.int .i64 a1_5) (.int .i64 a1_6) (.int .i64 a1_7) (.int .i64 a1_8) w12 := hS_
 refine norm_ (a' := ?_) ?_ ?_
 rotate_left
 ·simp only [putAll, Act.put, List.setIfInBounds_toArray, List.set_cons_zero, List.set_cons_succ]
  rfl
 refine one_ (i := 6) (N := none) #[true, true, true, true, true, true, true, false] rfl rfl (one_of HT_.out (by kernel_rfl)) (by decide) (fun K hK => ?_)
 have hs13 : w12.cell? ⟨gb170, 0, none⟩ = some (.int .i64 0) := (blk_cell BK170.out 0).trans rfl
 have hfs13 := blk_frozen BK170.out 0
 have hns13_0 := NB150_170.out
 have hns13_1 := NB151_170.out
 have hns13_3 := NB171_170.out
 have hms13_0 := NB170_150.out
 have hms13_1 := NB170_151.out
 have hms13_3 := NB170_171.out
 have hs14 : w12.cell? ⟨gb170, 1, none⟩ = some (.int .i64 0) := (blk_cell BK170.out 1).trans rfl
 have hfs14 := blk_frozen BK170.out 1
 have hns14_0 := NB150_170.out
 have hns14_1 := NB151_170.out
 have hns14_3 := NB171_170.out
 have hms14_0 := NB170_150.out
 have hms14_1 := NB170_151.out
 have hms14_3 := NB170_171.out
 have hs15 : w12.cell? ⟨gb170, 2, none⟩ = some (.int .i64 0) := (blk_cell BK170.out 2).trans rfl
 have hfs15 := blk_frozen BK170.out 2
 have hns15_0 := NB150_170.out
 have hns15_1 := NB151_170.out
 have hns15_3 := NB171_170.out
 have hms15_0 := NB170_150.out
 have hms15_1 := NB170_151.out
 have hms15_3 := NB170_171.out
 have hs16 : w12.cell? ⟨gb170, 3, none⟩ = some (.int .i64 0) := (blk_cell BK170.out 3).trans rfl
 have hfs16 := blk_frozen BK170.out 3
 have hns16_0 := NB150_170.out
 have hns16_1 := NB151_170.out
 have hns16_3 := NB171_170.out
 have hms16_0 := NB170_150.out
 have hms16_1 := NB170_151.out
 have hms16_3 := NB170_171.out
 have hs17 : w12.cell? ⟨gb170, 4, none⟩ = some (.int .i64 0) := (blk_cell BK170.out 4).trans rfl
 have hfs17 := blk_frozen BK170.out 4
 have hns17_0 := NB150_170.out
 have hns17_1 := NB151_170.out
 have hns17_3 := NB171_170.out
 have hms17_0 := NB170_150.out
 have hms17_1 := NB170_151.out
 have hms17_3 := NB170_171.out
 have hs18 : w12.cell? ⟨gb170, 5, none⟩ = some (.int .i64 0) := (blk_cell BK170.out 5).trans rfl
 have hfs18 := blk_frozen BK170.out 5
 have hns18_0 := NB150_170.out
 have hns18_1 := NB151_170.out
 have hns18_3 := NB171_170.out
 have hms18_0 := NB170_150.out
 have hms18_1 := NB170_151.out
 have hms18_3 := NB170_171.out
 have hs19 : w12.cell? ⟨gb170, 6, none⟩ = some (.int .i64 0) := (blk_cell BK170.out 6).trans rfl
 have hfs19 := blk_frozen BK170.out 6
 have hns19_0 := NB150_170.out
 have hns19_1 := NB151_170.out
 have hns19_3 := NB171_170.out
 have hms19_0 := NB170_150.out
 have hms19_1 := NB170_151.out
 have hms19_3 := NB170_171.out
 have hs20 : w12.cell? ⟨gb170, 7, none⟩ = some (.int .i64 0) := (blk_cell BK170.out 7).trans rfl
 have hfs20 := blk_frozen BK170.out 7
 have hns20_0 := NB150_170.out
 have hns20_1 := NB151_170.out
 have hns20_3 := NB171_170.out
 have hms20_0 := NB170_150.out
 have hms20_1 := NB170_151.out
 have hms20_3 := NB170_171.out
 have hs21 : w12.cell? ⟨gb170, 8, none⟩ = some (.int .i64 0) := (blk_cell BK170.out 8).trans rfl
 have hfs21 := blk_frozen BK170.out 8
 have hns21_0 := NB150_170.out
 have hns21_1 := NB151_170.out
 have hns21_3 := NB171_170.out
 have hms21_0 := NB170_150.out
 have hms21_1 := NB170_151.out
 have hms21_3 := NB170_171.out
 refine skip_ (w1 := ?_) (by rfl) rfl ?_ ?_
 rotate_left
 ·go_simp
  rfl
 refine hK.out _ _ (determinant_Compare.held9 (determinant_Compare.far9 (.int .i64 t152) (.int .i64 t153) (.int .i64 t154) (.int .i64 t155) (.int .i64 t156) (.int .i64 t157) (.int .i64 t158) (.int .i64 t159) (.int .i64 t160) BK150.out NB150_170.out) (determinant_Compare.far9 (.int .i64 t152) (.int .i64 t153) (.int .i64 t154) (.int .i64 t155) (.int .i64 t156) (.int .i64 t157) (.int .i64 t158) (.int .i64 t159) (.int .i64 t160) BK151.out NB151_170.out)) (fun hHeld => ?_)
 clear hK K
 have n150_ := Aside0.mk (determinant_Compare.far9 (.int .i64 t152) (.int .i64 t153) (.int .i64 t154) (.int .i64 t155) (.int .i64 t156) (.int .i64 t157) (.int .i64 t158) (.int .i64 t159) (.int .i64 t160) BK150.out NB150_170.out)
 have n151_ := Aside0.mk (determinant_Compare.far9 (.int .i64 t152) (.int .i64 t153) (.int .i64 t154) (.int .i64 t155) (.int .i64 t156) (.int .i64 t157) (.int .i64 t158) (.int .i64 t159) (.int .i64 t160) BK151.out NB151_170.out)
 have n170_ := Aside0.mk (determinant_Compare.put9 (.int .i64 t152) (.int .i64 t153) (.int .i64 t154) (.int .i64 t155) (.int .i64 t156) (.int .i64 t157) (.int .i64 t158) (.int .i64 t159) (.int .i64 t160) BK170.out)
 have n171_ := Aside0.mk (determinant_Compare.far9 (.int .i64 t152) (.int .i64 t153) (.int .i64 t154) (.int .i64 t155) (.int .i64 t156) (.int .i64 t157) (.int .i64 t158) (.int .i64 t159) (.int .i64 t160) BK171.out NB171_170.out)
 have nB_ := Aside0.mk (determinant_Compare.below9 (.int .i64 t152) (.int .i64 t153) (.int .i64 t154) (.int .i64 t155) (.int .i64 t156) (.int .i64 t157) (.int .i64 t158) (.int .i64 t159) (.int .i64 t160) HB.out GE170.out)
 clear hHeld HB BK150 BK151 BK170 BK171
 generalize (((((((((w12.setCell ⟨gb170, 0, none⟩ (.int .i64 t152)).setCell ⟨gb170, 1, none⟩ (.int .i64 t153)).setCell ⟨gb170, 2, none⟩ (.int .i64 t154)).setCell ⟨gb170, 3, none⟩ (.int .i64 t155)).setCell ⟨gb170, 4, none⟩ (.int .i64 t156)).setCell ⟨gb170, 5, none⟩ (.int .i64 t157)).setCell ⟨gb170, 6, none⟩ (.int .i64 t158)).setCell ⟨gb170, 7, none⟩ (.int .i64 t159)).setCell ⟨gb170, 8, none⟩ (.int .i64 t160)) = wq at n150_ n151_ n170_ n171_ nB_ ⊢
 have BK150 := n150_
 have BK151 := n151_
 have BK170 := n170_
 have BK171 := n171_
 have HB := nB_
 clear nB_ n150_ n151_ n170_ n171_
 clear hs13 hfs13 hns13_0 hns13_1 hns13_3 hms13_0 hms13_1 hms13_3 hs14 hfs14 hns14_0 hns14_1 hns14_3 hms14_0 hms14_1 hms14_3 hs15 hfs15 hns15_0 hns15_1 hns15_3 hms15_0 hms15_1 hms15_3 hs16 hfs16 hns16_0 hns16_1 hns16_3 hms16_0 hms16_1 hms16_3 hs17 hfs17 hns17_0 hns17_1 hns17_3 hms17_0 hms17_1 hms17_3 hs18 hfs18 hns18_0 hns18_1 hns18_3 hms18_0 hms18_1 hms18_3 hs19 hfs19 hns19_0 hns19_1 hns19_3 hms19_0 hms19_1 hms19_3 hs20 hfs20 hns20_0 hns20_1 hns20_3 hms20_0 hms20_1 hms20_3 hs21 hfs21 hns21_0 hns21_1 hns21_3 hms21_0 hms21_1 hms21_3
 have hHeld := determinant_Compare.held9 BK150.out BK151.out
 refine one_ (i := 7) (N := none) #[true, true, true, true, true, true, true, true] rfl rfl (one_of HT_.out (by kernel_rfl)) (by decide) (fun K hK => ?_)
 have hs22 : wq.cell? ⟨gb171, 0, none⟩ = some (.int .i64 0) := (blk_cell BK171.out 0).trans rfl
 have hfs22 := blk_frozen BK171.out 0
 have hns22_0 := NB150_171.out
 have hns22_1 := NB151_171.out
 have hns22_2 := NB170_171.out
 have hms22_0 := NB171_150.out
 have hms22_1 := NB171_151.out
 have hms22_2 := NB171_170.out
 have hs23 : wq.cell? ⟨gb171, 1, none⟩ = some (.int .i64 0) := (blk_cell BK171.out 1).trans rfl
 have hfs23 := blk_frozen BK171.out 1
 have hns23_0 := NB150_171.out
 have hns23_1 := NB151_171.out
 have hns23_2 := NB170_171.out
 have hms23_0 := NB171_150.out
 have hms23_1 := NB171_151.out
 have hms23_2 := NB171_170.out
 have hs24 : wq.cell? ⟨gb171, 2, none⟩ = some (.int .i64 0) := (blk_cell BK171.out 2).trans rfl
 have hfs24 := blk_frozen BK171.out 2
 have hns24_0 := NB150_171.out
 have hns24_1 := NB151_171.out
 have hns24_2 := NB170_171.out
 have hms24_0 := NB171_150.out
 have hms24_1 := NB171_151.out
 have hms24_2 := NB171_170.out
 have hs25 : wq.cell? ⟨gb171, 3, none⟩ = some (.int .i64 0) := (blk_cell BK171.out 3).trans rfl
 have hfs25 := blk_frozen BK171.out 3
 have hns25_0 := NB150_171.out
 have hns25_1 := NB151_171.out
 have hns25_2 := NB170_171.out
 have hms25_0 := NB171_150.out
 have hms25_1 := NB171_151.out
 have hms25_2 := NB171_170.out
 have hs26 : wq.cell? ⟨gb171, 4, none⟩ = some (.int .i64 0) := (blk_cell BK171.out 4).trans rfl
 have hfs26 := blk_frozen BK171.out 4
 have hns26_0 := NB150_171.out
 have hns26_1 := NB151_171.out
 have hns26_2 := NB170_171.out
 have hms26_0 := NB171_150.out
 have hms26_1 := NB171_151.out
 have hms26_2 := NB171_170.out
 have hs27 : wq.cell? ⟨gb171, 5, none⟩ = some (.int .i64 0) := (blk_cell BK171.out 5).trans rfl
 have hfs27 := blk_frozen BK171.out 5
 have hns27_0 := NB150_171.out
 have hns27_1 := NB151_171.out
 have hns27_2 := NB170_171.out
 have hms27_0 := NB171_150.out
 have hms27_1 := NB171_151.out
 have hms27_2 := NB171_170.out
 have hs28 : wq.cell? ⟨gb171, 6, none⟩ = some (.int .i64 0) := (blk_cell BK171.out 6).trans rfl
 have hfs28 := blk_frozen BK171.out 6
 have hns28_0 := NB150_171.out
 have hns28_1 := NB151_171.out
 have hns28_2 := NB170_171.out
 have hms28_0 := NB171_150.out
 have hms28_1 := NB171_151.out
 have hms28_2 := NB171_170.out
 have hs29 : wq.cell? ⟨gb171, 7, none⟩ = some (.int .i64 0) := (blk_cell BK171.out 7).trans rfl
 have hfs29 := blk_frozen BK171.out 7
 have hns29_0 := NB150_171.out
 have hns29_1 := NB151_171.out
 have hns29_2 := NB170_171.out
 have hms29_0 := NB171_150.out
 have hms29_1 := NB171_151.out
 have hms29_2 := NB171_170.out
 have hs30 : wq.cell? ⟨gb171, 8, none⟩ = some (.int .i64 0) := (blk_cell BK171.out 8).trans rfl
 have hfs30 := blk_frozen BK171.out 8
 have hns30_0 := NB150_171.out
 have hns30_1 := NB151_171.out
 have hns30_2 := NB170_171.out
 have hms30_0 := NB171_150.out
 have hms30_1 := NB171_151.out
 have hms30_2 := NB171_170.out
 refine skip_ (w1 := ?_) (by rfl) rfl ?_ ?_
 rotate_left
 ·go_simp
  rfl
 refine hK.out _ _ (determinant_Compare.held9 (determinant_Compare.far9 (.int .i64 t161) (.int .i64 t162) (.int .i64 t163) (.int .i64 t164) (.int .i64 t165) (.int .i64 t166) (.int .i64 t167) (.int .i64 t168) (.int .i64 t169) BK150.out NB150_171.out) (determinant_Compare.far9 (.int .i64 t161) (.int .i64 t162) (.int .i64 t163) (.int .i64 t164) (.int .i64 t165) (.int .i64 t166) (.int .i64 t167) (.int .i64 t168) (.int .i64 t169) BK151.out NB151_171.out)) (fun hHeld => ?_)
 clear hK K
 have n150_ := Aside0.mk (determinant_Compare.far9 (.int .i64 t161) (.int .i64 t162) (.int .i64 t163) (.int .i64 t164) (.int .i64 t165) (.int .i64 t166) (.int .i64 t167) (.int .i64 t168) (.int .i64 t169) BK150.out NB150_171.out)
 have n151_ := Aside0.mk (determinant_Compare.far9 (.int .i64 t161) (.int .i64 t162) (.int .i64 t163) (.int .i64 t164) (.int .i64 t165) (.int .i64 t166) (.int .i64 t167) (.int .i64 t168) (.int .i64 t169) BK151.out NB151_171.out)
 have n170_ := Aside0.mk (determinant_Compare.far9 (.int .i64 t161) (.int .i64 t162) (.int .i64 t163) (.int .i64 t164) (.int .i64 t165) (.int .i64 t166) (.int .i64 t167) (.int .i64 t168) (.int .i64 t169) BK170.out NB170_171.out)
 have n171_ := Aside0.mk (determinant_Compare.put9 (.int .i64 t161) (.int .i64 t162) (.int .i64 t163) (.int .i64 t164) (.int .i64 t165) (.int .i64 t166) (.int .i64 t167) (.int .i64 t168) (.int .i64 t169) BK171.out)
 have nB_ := Aside0.mk (determinant_Compare.below9 (.int .i64 t161) (.int .i64 t162) (.int .i64 t163) (.int .i64 t164) (.int .i64 t165) (.int .i64 t166) (.int .i64 t167) (.int .i64 t168) (.int .i64 t169) HB.out GE171.out)
 clear hHeld HB BK150 BK151 BK170 BK171
 generalize (((((((((wq.setCell ⟨gb171, 0, none⟩ (.int .i64 t161)).setCell ⟨gb171, 1, none⟩ (.int .i64 t162)).setCell ⟨gb171, 2, none⟩ (.int .i64 t163)).setCell ⟨gb171, 3, none⟩ (.int .i64 t164)).setCell ⟨gb171, 4, none⟩ (.int .i64 t165)).setCell ⟨gb171, 5, none⟩ (.int .i64 t166)).setCell ⟨gb171, 6, none⟩ (.int .i64 t167)).setCell ⟨gb171, 7, none⟩ (.int .i64 t168)).setCell ⟨gb171, 8, none⟩ (.int .i64 t169)) = wr at n150_ n151_ n170_ n171_ nB_ ⊢
 have BK150 := n150_
 have BK151 := n151_
 have BK170 := n170_
 have BK171 := n171_
 have HB := nB_
 clear nB_ n150_ n151_ n170_ n171_
 clear hs22 hfs22 hns22_0 hns22_1 hns22_2 hms22_0 hms22_1 hms22_2 hs23 hfs23 hns23_0 hns23_1 hns23_2 hms23_0 hms23_1 hms23_2 hs24 hfs24 hns24_0 hns24_1 hns24_2 hms24_0 hms24_1 hms24_2 hs25 hfs25 hns25_0 hns25_1 hns25_2 hms25_0 hms25_1 hms25_2 hs26 hfs26 hns26_0 hns26_1 hns26_2 hms26_0 hms26_1 hms26_2 hs27 hfs27 hns27_0 hns27_1 hns27_2 hms27_0 hms27_1 hms27_2 hs28 hfs28 hns28_0 hns28_1 hns28_2 hms28_0 hms28_1 hms28_2 hs29 hfs29 hns29_0 hns29_1 hns29_2 hms29_0 hms29_1 hms29_2 hs30 hfs30 hns30_0 hns30_1 hns30_2 hms30_0 hms30_1 hms30_2
 have hHeld := determinant_Compare.held9 BK150.out BK151.out
 refine done_ (done_of HT_.out (by kernel_rfl)) ?_
 try go_wp2
 go_loopg [12] k (fun kq v12 w' => ∃ (x12_1 : Int), v12 = .int .i64 x12_1 ∧ Aside0 (determinant_Compare.l0 kq x12_1 t152 t153 t154 t155 t156 t157 t158 t159 t160 t161 t162 t163 t164 t165 t166 t167 t168 t169 = some r) ∧ Aside0 (kq ≤ k) ∧ Aside0 (w'.heap[gb150]? = some (.cells #[.int .i64 a0_0, .int .i64 a0_1, .int .i64 a0_2, .int .i64 a0_3, .int .i64 a0_4, .int .i64 a0_5, .int .i64 a0_6, .int .i64 a0_7, .int .i64 a0_8] 39 (0, 0))) ∧ Aside0 (w'.heap[gb151]? = some (.cells #[.int .i64 a1_0, .int .i64 a1_1, .int .i64 a1_2, .int .i64 a1_3, .int .i64 a1_4, .int .i64 a1_5, .int .i64 a1_6, .int .i64 a1_7, .int .i64 a1_8] 39 (0, 0))) ∧ Aside0 (w'.heap[gb170]? = some (.cells #[.int .i64 t152, .int .i64 t153, .int .i64 t154, .int .i64 t155, .int .i64 t156, .int .i64 t157, .int .i64 t158, .int .i64 t159, .int .i64 t160] 63 (0, 0))) ∧ Aside0 (w'.heap[gb171]? = some (.cells #[.int .i64 t161, .int .i64 t162, .int .i64 t163, .int .i64 t164, .int .i64 t165, .int .i64 t166, .int .i64 t167, .int .i64 t168, .int .i64 t169] 63 (0, 0))) ∧ Aside0 (Below w.heap.size w w'))
 case atStart => exact ⟨(0), (by first | rfl | (simp; done) | (simp [*]; done)), H', ⟨Nat.le_refl _⟩, BK150, BK151, BK170, BK171, HB⟩
 case round =>
  clear H'
  obtain ⟨x, rfl, HA, HK1, BK150, BK151, BK170, BK171, HB⟩ := hrel
  cases gk with
  | zero => exact absurd HA.out (by simp [determinant_Compare.l0])
  | succ k1 =>
   have H := (determinant_Compare.l0_rd k1 x t152 t153 t154 t155 t156 t157 t158 t159 t160 t161 t162 t163 t164 t165 t166 t167 t168 t169).symm.trans HA.out
   clear HA
   by_cases h9 : x < 9
   ·rw [if_pos h9] at H
    by_cases h0 : 0 ≤ x
    ·rw [if_pos h0] at H
     have hx := determinant_Compare.arr9 BK170.out x h0 h9
     have hy := determinant_Compare.arr9 BK171.out x h0 h9
     generalize rd [t152, t153, t154, t155, t156, t157, t158, t159, t160] x = u at hx H
     generalize rd [t161, t162, t163, t164, t165, t166, t167, t168, t169] x = v at hy H
     by_cases hl : u < v
     ·rw [if_pos hl] at H
      obtain rfl := Option.some.inj H
      go_wp2
      go_quiet (fail)
      go_wp2
      go_ret
      exact ⟨rfl, bq HB.out⟩
     ·rw [if_neg hl] at H
      by_cases hg : u > v
      ·rw [if_pos hg] at H
       obtain rfl := Option.some.inj H
       go_wp2
       go_quiet (fail)
       go_wp2
       go_quiet (fail)
       go_wp2
       go_ret
       exact ⟨rfl, bq HB.out⟩
      ·rw [if_neg hg] at H
       have hng : ¬ v < u := hg
       clear hg
       have HH := Aside0.mk H
       clear H
       go_wp2
       go_quiet (fail)
       go_wp2
       go_quiet (fail)
       go_wp2
       have H := HH.out
       go_roundg k1
       case measure => have := HK1.out; omega
       case rel => exact ⟨x + 1, (by first | rfl | (simp; done) | (simp [*]; done)), Aside0.mk H, ⟨by have := HK1.out; omega⟩, ⟨kq BK150.out⟩, ⟨kq BK151.out⟩, ⟨kq BK170.out⟩, ⟨kq BK171.out⟩, ⟨bq HB.out⟩⟩
    ·rw [if_neg h0] at H
     exact absurd H (by simp)
   ·rw [if_neg h9] at H
    obtain rfl := Option.some.inj H
    go_wp2
    go_ret
    exact ⟨rfl, bq HB.out⟩

end Go.Proofs.Ytjlpggpkbcgekaa.PG27
