-- Written by a program of this session (hprint.py) out of the translation and of hand-proved parts. Lean checks it.
import Derived.Test.YtdobkcphmpbhlaaPGLx0
import Derived.Test.YtdobkcphmpbhlaaPGLx7
namespace Go.Proofs.Ytdobkcphmpbhlaa.PGL
open Go.RowKit Go.Proofs.YtdobkcphmpbhlaaW.PrintWords Go.Proofs.YtdobkcphmpbhlaaW.PrintLast Go.Proofs.YtdobkcphmpbhlaaW.PrintMore
attribute [local go_sem] max2_int min2_int max_two min_two max_three min_three max_four min_four   -- for this text's walks alone
set_option linter.unusedVariables false
set_option linter.unusedSimpArgs false

/-! ### determinant_Compare: function 29 -/
def determinant_Compare.l0 : Nat → Int → Int → Int → Int → Int → Int → Int → Int → Int → Int → Int → Int → Int → Int → Int → Int → Int → Int → Int → Option (Int)
 | 0, _, _, _, _, _, _, _, _, _, _, _, _, _, _, _, _, _, _, _ => none
 | k + 1, x12, x222000, x222001, x222002, x222003, x222004, x222005, x222006, x222007, x222008, x223000, x223001, x223002, x223003, x223004, x223005, x223006, x223007, x223008 => if x12 < 9 then (if x12 = 0 then (if x222000 < x223000 then (some (-1)) else (if x222000 > x223000 then (some 1) else (determinant_Compare.l0 k 1 x222000 x222001 x222002 x222003 x222004 x222005 x222006 x222007 x222008 x223000 x223001 x223002 x223003 x223004 x223005 x223006 x223007 x223008))) else (if x12 = 1 then (if x222001 < x223001 then (some (-1)) else (if x222001 > x223001 then (some 1) else (determinant_Compare.l0 k 2 x222000 x222001 x222002 x222003 x222004 x222005 x222006 x222007 x222008 x223000 x223001 x223002 x223003 x223004 x223005 x223006 x223007 x223008))) else (if x12 = 2 then (if x222002 < x223002 then (some (-1)) else (if x222002 > x223002 then (some 1) else (determinant_Compare.l0 k 3 x222000 x222001 x222002 x222003 x222004 x222005 x222006 x222007 x222008 x223000 x223001 x223002 x223003 x223004 x223005 x223006 x223007 x223008))) else (if x12 = 3 then (if x222003 < x223003 then (some (-1)) else (if x222003 > x223003 then (some 1) else (determinant_Compare.l0 k 4 x222000 x222001 x222002 x222003 x222004 x222005 x222006 x222007 x222008 x223000 x223001 x223002 x223003 x223004 x223005 x223006 x223007 x223008))) else (if x12 = 4 then (if x222004 < x223004 then (some (-1)) else (if x222004 > x223004 then (some 1) else (determinant_Compare.l0 k 5 x222000 x222001 x222002 x222003 x222004 x222005 x222006 x222007 x222008 x223000 x223001 x223002 x223003 x223004 x223005 x223006 x223007 x223008))) else (if x12 = 5 then (if x222005 < x223005 then (some (-1)) else (if x222005 > x223005 then (some 1) else (determinant_Compare.l0 k 6 x222000 x222001 x222002 x222003 x222004 x222005 x222006 x222007 x222008 x223000 x223001 x223002 x223003 x223004 x223005 x223006 x223007 x223008))) else (if x12 = 6 then (if x222006 < x223006 then (some (-1)) else (if x222006 > x223006 then (some 1) else (determinant_Compare.l0 k 7 x222000 x222001 x222002 x222003 x222004 x222005 x222006 x222007 x222008 x223000 x223001 x223002 x223003 x223004 x223005 x223006 x223007 x223008))) else (if x12 = 7 then (if x222007 < x223007 then (some (-1)) else (if x222007 > x223007 then (some 1) else (determinant_Compare.l0 k 8 x222000 x222001 x222002 x222003 x222004 x222005 x222006 x222007 x222008 x223000 x223001 x223002 x223003 x223004 x223005 x223006 x223007 x223008))) else (if x12 = 8 then (if x222008 < x223008 then (some (-1)) else (if x222008 > x223008 then (some 1) else (determinant_Compare.l0 k 9 x222000 x222001 x222002 x222003 x222004 x222005 x222006 x222007 x222008 x223000 x223001 x223002 x223003 x223004 x223005 x223006 x223007 x223008))) else (none)))))))))) else (some 0)
def determinant_Compare.f (k : Nat) (a0_0 : Int) (a0_1 : Int) (a0_2 : Int) (a0_3 : Int) (a0_4 : Int) (a0_5 : Int) (a0_6 : Int) (a0_7 : Int) (a0_8 : Int) (a1_0 : Int) (a1_1 : Int) (a1_2 : Int) (a1_3 : Int) (a1_4 : Int) (a1_5 : Int) (a1_6 : Int) (a1_7 : Int) (a1_8 : Int) : Option (Int) := (determinant_fields.f a0_0 a0_1 a0_2 a0_3 a0_4 a0_5 a0_6 a0_7 a0_8).bind fun bt203 => ((determinant_fields.f a1_0 a1_1 a1_2 a1_3 a1_4 a1_5 a1_6 a1_7 a1_8).bind fun bt212 => (determinant_Compare.l0 k 0 bt203.1 bt203.2.1 bt203.2.2.1 bt203.2.2.2.1 bt203.2.2.2.2.1 bt203.2.2.2.2.2.1 bt203.2.2.2.2.2.2.1 bt203.2.2.2.2.2.2.2.1 bt203.2.2.2.2.2.2.2.2 bt212.1 bt212.2.1 bt212.2.2.1 bt212.2.2.2.1 bt212.2.2.2.2.1 bt212.2.2.2.2.2.1 bt212.2.2.2.2.2.2.1 bt212.2.2.2.2.2.2.2.1 bt212.2.2.2.2.2.2.2.2))
theorem determinant_Compare.mono_l : ∀ k, (∀ y0 y1 y2 y3 y4 y5 y6 y7 y8 y9 y10 y11 y12 y13 y14 y15 y16 y17 y18, LeO (determinant_Compare.l0 k y0 y1 y2 y3 y4 y5 y6 y7 y8 y9 y10 y11 y12 y13 y14 y15 y16 y17 y18) (determinant_Compare.l0 (k + 1) y0 y1 y2 y3 y4 y5 y6 y7 y8 y9 y10 y11 y12 y13 y14 y15 y16 y17 y18))
 | 0 => fun _ _ _ _ _ _ _ _ _ _ _ _ _ _ _ _ _ _ _ r h => by simp [determinant_Compare.l0] at h
 | k + 1 => by
  have ih0 := determinant_Compare.mono_l k
  ·intro y0 y1 y2 y3 y4 y5 y6 y7 y8 y9 y10 y11 y12 y13 y14 y15 y16 y17 y18
   unfold determinant_Compare.l0
   repeat' first
   | (with_reducible exact ih0 _ _ _ _ _ _ _ _ _ _ _ _ _ _ _ _ _ _ _)
   | (with_reducible exact LeO.refl _)
   | (with_reducible exact LeO.none _)
   | (with_reducible refine LeO.ite ?_ ?_)
   | (with_reducible refine LeO.bind ?_ (fun _ => ?_))
   | exact ih0 _ _ _ _ _ _ _ _ _ _ _ _ _ _ _ _ _ _ _
   | exact LeO.none _
   | refine LeO.ite ?_ ?_
   | refine LeO.bind ?_ (fun _ => ?_)
theorem determinant_Compare.mono : ∀ a0 a1 a2 a3 a4 a5 a6 a7 a8 a9 a10 a11 a12 a13 a14 a15 a16 a17 k, LeO (determinant_Compare.f k a0 a1 a2 a3 a4 a5 a6 a7 a8 a9 a10 a11 a12 a13 a14 a15 a16 a17) (determinant_Compare.f (k + 1) a0 a1 a2 a3 a4 a5 a6 a7 a8 a9 a10 a11 a12 a13 a14 a15 a16 a17) := by
 intro a0 a1 a2 a3 a4 a5 a6 a7 a8 a9 a10 a11 a12 a13 a14 a15 a16 a17 k
 have ih0 := determinant_Compare.mono_l k
 unfold determinant_Compare.f
 repeat' first
   | (with_reducible exact ih0 _ _ _ _ _ _ _ _ _ _ _ _ _ _ _ _ _ _ _)
   | (with_reducible exact LeO.refl _)
   | (with_reducible exact LeO.none _)
   | (with_reducible refine LeO.ite ?_ ?_)
   | (with_reducible refine LeO.bind ?_ (fun _ => ?_))
   | exact ih0 _ _ _ _ _ _ _ _ _ _ _ _ _ _ _ _ _ _ _
   | exact LeO.none _
   | refine LeO.ite ?_ ?_
   | refine LeO.bind ?_ (fun _ => ?_)
def determinant_Compare.T1 : Bool × List (List Nat × List Nat) := (true, [([], []), ([0], [0]), ([], []), ([2, 1], [2]), ([], []), ([], []), ([4, 1, 3, 0, 1, 4, 5], [1, 4]), ([5, 3, 6, 0, 1, 2, 3, 4, 5, 6], [3, 5])])
def determinant_Compare.B1 : List Nat := [0, 1, 0, 7, 0, 0, 63, 127]
theorem determinant_Compare.tab1 : rtab .any (opsOf Try.f29 1) = determinant_Compare.T1 := by kernel_rfl
theorem determinant_Compare.bits1 : waitsOk determinant_Compare.T1.2 determinant_Compare.B1 = true := by kernel_rfl
def determinant_Compare.T5 : Bool × List (List Nat × List Nat) := (true, [([], []), ([0], [0]), ([1], [1]), ([], []), ([3], [3]), ([4], [4]), ([2, 5], [2, 5]), ([6], [6])])
def determinant_Compare.B5 : List Nat := [0, 1, 3, 0, 8, 24, 63, 127]
theorem determinant_Compare.tab5 : rtab .any (opsOf Try.f29 5) = determinant_Compare.T5 := by kernel_rfl
theorem determinant_Compare.bits5 : waitsOk determinant_Compare.T5.2 determinant_Compare.B5 = true := by kernel_rfl
def determinant_Compare.T7 : Bool × List (List Nat × List Nat) := (true, [([], []), ([0], [0]), ([1], [1]), ([], []), ([3], [3]), ([4], [4]), ([2, 5], [2, 5]), ([6], [6])])
def determinant_Compare.B7 : List Nat := [0, 1, 3, 0, 8, 24, 63, 127]
theorem determinant_Compare.tab7 : rtab .any (opsOf Try.f29 7) = determinant_Compare.T7 := by kernel_rfl
theorem determinant_Compare.bits7 : waitsOk determinant_Compare.T7.2 determinant_Compare.B7 = true := by kernel_rfl
theorem determinant_Compare.l0_rd (k : Nat) (x : Int) (t203 t204 t205 t206 t207 t208 t209 t210 t211 t212 t213 t214 t215 t216 t217 t218 t219 t220 : Int) : determinant_Compare.l0 (k + 1) x t203 t204 t205 t206 t207 t208 t209 t210 t211 t212 t213 t214 t215 t216 t217 t218 t219 t220 = if x < 9 then (if 0 ≤ x then (if rd [t203, t204, t205, t206, t207, t208, t209, t210, t211] x < rd [t212, t213, t214, t215, t216, t217, t218, t219, t220] x then some (-1) else if rd [t203, t204, t205, t206, t207, t208, t209, t210, t211] x > rd [t212, t213, t214, t215, t216, t217, t218, t219, t220] x then some 1 else determinant_Compare.l0 k (x + 1) t203 t204 t205 t206 t207 t208 t209 t210 t211 t212 t213 t214 t215 t216 t217 t218 t219 t220) else none) else some 0 := by
 by_cases h9 : x < 9
 ·by_cases h0 : 0 ≤ x
  ·obtain ⟨m, rfl⟩ := Int.eq_ofNat_of_zero_le h0
   have hm : m < 9 := by omega
   have : m = 0 ∨ m = 1 ∨ m = 2 ∨ m = 3 ∨ m = 4 ∨ m = 5 ∨ m = 6 ∨ m = 7 ∨ m = 8 := by omega
   rcases this with rfl | rfl | rfl | rfl | rfl | rfl | rfl | rfl | rfl <;> simp [determinant_Compare.l0, rd]
  ·simp only [determinant_Compare.l0]
   rw [if_pos h9, if_pos h9, if_neg h0, if_neg (by omega), if_neg (by omega), if_neg (by omega), if_neg (by omega), if_neg (by omega), if_neg (by omega), if_neg (by omega), if_neg (by omega), if_neg (by omega)]
 ·simp only [determinant_Compare.l0]
  rw [if_neg h9, if_neg h9]
theorem determinant_Compare.arr9 {w : World} {g T : Nat} {a0 a1 a2 a3 a4 a5 a6 a7 a8 : Int} (h : w.heap[g]? = some (.cells #[.int .i64 a0, .int .i64 a1, .int .i64 a2, .int .i64 a3, .int .i64 a4, .int .i64 a5, .int .i64 a6, .int .i64 a7, .int .i64 a8] T (0, 0))) (x : Int) (h0 : 0 ≤ x) (h9 : x < 9) : w.cell? ⟨g, x.toNat, none⟩ = some (.int .i64 (rd [a0, a1, a2, a3, a4, a5, a6, a7, a8] x)) := by
 obtain ⟨m, rfl⟩ := Int.eq_ofNat_of_zero_le h0
 have : m = 0 ∨ m = 1 ∨ m = 2 ∨ m = 3 ∨ m = 4 ∨ m = 5 ∨ m = 6 ∨ m = 7 ∨ m = 8 := by omega
 rcases this with rfl | rfl | rfl | rfl | rfl | rfl | rfl | rfl | rfl <;> exact (blk_cell h _).trans rfl
theorem determinant_Compare.far9 {w : World} {g g' T : Nat} {cs : Array Value} (v0 v1 v2 v3 v4 v5 v6 v7 v8 : Value) (h : w.heap[g']? = some (.cells cs T (0, 0))) (hn : g' ≠ g) : (((((((((w.setCell ⟨g, 0, none⟩ v0).setCell ⟨g, 1, none⟩ v1).setCell ⟨g, 2, none⟩ v2).setCell ⟨g, 3, none⟩ v3).setCell ⟨g, 4, none⟩ v4).setCell ⟨g, 5, none⟩ v5).setCell ⟨g, 6, none⟩ v6).setCell ⟨g, 7, none⟩ v7).setCell ⟨g, 8, none⟩ v8).heap[g']? = some (.cells cs T (0, 0)) :=
 blk_far (blk_far (blk_far (blk_far (blk_far (blk_far (blk_far (blk_far (blk_far (h) (by exact hn) _) (by exact hn) _) (by exact hn) _) (by exact hn) _) (by exact hn) _) (by exact hn) _) (by exact hn) _) (by exact hn) _) (by exact hn) _
theorem determinant_Compare.put9 {w : World} {g T : Nat} {c0 c1 c2 c3 c4 c5 c6 c7 c8 : Value} (v0 v1 v2 v3 v4 v5 v6 v7 v8 : Value) (h : w.heap[g]? = some (.cells #[c0, c1, c2, c3, c4, c5, c6, c7, c8] T (0, 0))) : (((((((((w.setCell ⟨g, 0, none⟩ v0).setCell ⟨g, 1, none⟩ v1).setCell ⟨g, 2, none⟩ v2).setCell ⟨g, 3, none⟩ v3).setCell ⟨g, 4, none⟩ v4).setCell ⟨g, 5, none⟩ v5).setCell ⟨g, 6, none⟩ v6).setCell ⟨g, 7, none⟩ v7).setCell ⟨g, 8, none⟩ v8).heap[g]? = some (.cells #[v0, v1, v2, v3, v4, v5, v6, v7, v8] T (0, 0)) :=
 blk_put (cs := #[v0, v1, v2, v3, v4, v5, v6, v7, c8]) (blk_put (cs := #[v0, v1, v2, v3, v4, v5, v6, c7, c8]) (blk_put (cs := #[v0, v1, v2, v3, v4, v5, c6, c7, c8]) (blk_put (cs := #[v0, v1, v2, v3, v4, c5, c6, c7, c8]) (blk_put (cs := #[v0, v1, v2, v3, c4, c5, c6, c7, c8]) (blk_put (cs := #[v0, v1, v2, c3, c4, c5, c6, c7, c8]) (blk_put (cs := #[v0, v1, c2, c3, c4, c5, c6, c7, c8]) (blk_put (cs := #[v0, c1, c2, c3, c4, c5, c6, c7, c8]) (blk_put (cs := #[c0, c1, c2, c3, c4, c5, c6, c7, c8]) (h) 0 _ rfl) 1 _ rfl) 2 _ rfl) 3 _ rfl) 4 _ rfl) 5 _ rfl) 6 _ rfl) 7 _ rfl) 8 _ rfl
theorem determinant_Compare.below9 {w w1 : World} {g : Nat} (v0 v1 v2 v3 v4 v5 v6 v7 v8 : Value) (h : Below w.heap.size w w1) (hg : w.heap.size ≤ g) : Below w.heap.size w (((((((((w1.setCell ⟨g, 0, none⟩ v0).setCell ⟨g, 1, none⟩ v1).setCell ⟨g, 2, none⟩ v2).setCell ⟨g, 3, none⟩ v3).setCell ⟨g, 4, none⟩ v4).setCell ⟨g, 5, none⟩ v5).setCell ⟨g, 6, none⟩ v6).setCell ⟨g, 7, none⟩ v7).setCell ⟨g, 8, none⟩ v8) :=
 below_set (below_set (below_set (below_set (below_set (below_set (below_set (below_set (below_set (h) hg) hg) hg) hg) hg) hg) hg) hg) hg
theorem determinant_Compare.held9 {w : World} {g h T U : Nat} {c0 c1 c2 c3 c4 c5 c6 c7 c8 v0 v1 v2 v3 v4 v5 v6 v7 v8 : Value} (h1 : w.heap[g]? = some (.cells #[c0, c1, c2, c3, c4, c5, c6, c7, c8] T (0, 0))) (h2 : w.heap[h]? = some (.cells #[v0, v1, v2, v3, v4, v5, v6, v7, v8] U (0, 0))) : w.cell? ⟨g, 0, none⟩ = some c0 ∧ w.cell? ⟨g, 1, none⟩ = some c1 ∧ w.cell? ⟨g, 2, none⟩ = some c2 ∧ w.cell? ⟨g, 3, none⟩ = some c3 ∧ w.cell? ⟨g, 4, none⟩ = some c4 ∧ w.cell? ⟨g, 5, none⟩ = some c5 ∧ w.cell? ⟨g, 6, none⟩ = some c6 ∧ w.cell? ⟨g, 7, none⟩ = some c7 ∧ w.cell? ⟨g, 8, none⟩ = some c8 ∧ w.cell? ⟨h, 0, none⟩ = some v0 ∧ w.cell? ⟨h, 1, none⟩ = some v1 ∧ w.cell? ⟨h, 2, none⟩ = some v2 ∧ w.cell? ⟨h, 3, none⟩ = some v3 ∧ w.cell? ⟨h, 4, none⟩ = some v4 ∧ w.cell? ⟨h, 5, none⟩ = some v5 ∧ w.cell? ⟨h, 6, none⟩ = some v6 ∧ w.cell? ⟨h, 7, none⟩ = some v7 ∧ w.cell? ⟨h, 8, none⟩ = some v8 :=
 (c9 h1 (c9' h2))
abbrev determinant_Compare.S18 (g h : Nat) (c0 c1 c2 c3 c4 c5 c6 c7 c8 v0 v1 v2 v3 v4 v5 v6 v7 v8 : Value) (w : World) : Prop := w.cell? ⟨g, 0, none⟩ = some c0 ∧ w.cell? ⟨g, 1, none⟩ = some c1 ∧ w.cell? ⟨g, 2, none⟩ = some c2 ∧ w.cell? ⟨g, 3, none⟩ = some c3 ∧ w.cell? ⟨g, 4, none⟩ = some c4 ∧ w.cell? ⟨g, 5, none⟩ = some c5 ∧ w.cell? ⟨g, 6, none⟩ = some c6 ∧ w.cell? ⟨g, 7, none⟩ = some c7 ∧ w.cell? ⟨g, 8, none⟩ = some c8 ∧ w.cell? ⟨h, 0, none⟩ = some v0 ∧ w.cell? ⟨h, 1, none⟩ = some v1 ∧ w.cell? ⟨h, 2, none⟩ = some v2 ∧ w.cell? ⟨h, 3, none⟩ = some v3 ∧ w.cell? ⟨h, 4, none⟩ = some v4 ∧ w.cell? ⟨h, 5, none⟩ = some v5 ∧ w.cell? ⟨h, 6, none⟩ = some v6 ∧ w.cell? ⟨h, 7, none⟩ = some v7 ∧ w.cell? ⟨h, 8, none⟩ = some v8
set_option maxHeartbeats 8000000 in
set_option maxRecDepth 100000 in
theorem determinant_Compare.calls (k : Nat) (a0_0 : Int) (a0_1 : Int) (a0_2 : Int) (a0_3 : Int) (a0_4 : Int) (a0_5 : Int) (a0_6 : Int) (a0_7 : Int) (a0_8 : Int) (a1_0 : Int) (a1_1 : Int) (a1_2 : Int) (a1_3 : Int) (a1_4 : Int) (a1_5 : Int) (a1_6 : Int) (a1_7 : Int) (a1_8 : Int) (r : Int) (w : World) (h : determinant_Compare.f k a0_0 a0_1 a0_2 a0_3 a0_4 a0_5 a0_6 a0_7 a0_8 a1_0 a1_1 a1_2 a1_3 a1_4 a1_5 a1_6 a1_7 a1_8 = some r) :
  Calls Try.prog 29 #[.agg #[.int .i64 a0_0, .int .i64 a0_1, .int .i64 a0_2, .int .i64 a0_3, .int .i64 a0_4, .int .i64 a0_5, .int .i64 a0_6, .int .i64 a0_7, .int .i64 a0_8], .agg #[.int .i64 a1_0, .int .i64 a1_1, .int .i64 a1_2, .int .i64 a1_3, .int .i64 a1_4, .int .i64 a1_5, .int .i64 a1_6, .int .i64 a1_7, .int .i64 a1_8]] w fun e w' => e = .returned (.int .i64 r) ∧ Below w.heap.size w w' := by
 have hu28 := Try.underlying28
 have hu55 := Try.underlying55
 have HB := Aside0.mk (Below.refl w.heap.size w)
 have H : ((determinant_fields.f a0_0 a0_1 a0_2 a0_3 a0_4 a0_5 a0_6 a0_7 a0_8).bind fun bt203 => ((determinant_fields.f a1_0 a1_1 a1_2 a1_3 a1_4 a1_5 a1_6 a1_7 a1_8).bind fun bt212 => (determinant_Compare.l0 k 0 bt203.1 bt203.2.1 bt203.2.2.1 bt203.2.2.2.1 bt203.2.2.2.2.1 bt203.2.2.2.2.2.1 bt203.2.2.2.2.2.2.1 bt203.2.2.2.2.2.2.2.1 bt203.2.2.2.2.2.2.2.2 bt212.1 bt212.2.1 bt212.2.2.1 bt212.2.2.2.1 bt212.2.2.2.2.1 bt212.2.2.2.2.2.1 bt212.2.2.2.2.2.2.1 bt212.2.2.2.2.2.2.2.1 bt212.2.2.2.2.2.2.2.2))) = some r := h
 clear h
 obtain ⟨⟨t203, t204, t205, t206, t207, t208, t209, t210, t211⟩, A3, H⟩ := bnd H
 try dsimp only at H
 obtain ⟨⟨t212, t213, t214, t215, t216, t217, t218, t219, t220⟩, A4, H⟩ := bnd H
 try dsimp only at H
 have H' := Aside0.mk H
 clear H
 go_enter Try.func29, Try.ntmps29
 try go_wp2_with (first | ((with_reducible refine gate_dst (N := 2) rfl ?_); refine box_event ?hg (N := 2) ?hd (cs := #[.int .i64 a0_0, .int .i64 a0_1, .int .i64 a0_2, .int .i64 a0_3, .int .i64 a0_4, .int .i64 a0_5, .int .i64 a0_6, .int .i64 a0_7, .int .i64 a0_8]) (t := 28) ?hr ?_; (case hd => rfl); (case hg => rfl); (case hr => first | (go_simp; done) | (go_simp; rfl)); intro gb201 hg w5 hbox hb; have n0_ := Aside0.mk (below_step (bq HB.out) hb); have n1_ := Aside0.mk (hbox); have n2_ := Aside0.mk ((by rw [hg]; exact (below_size (bq HB.out)) : w.heap.size ≤ gb201)); have n3_ := Aside0.mk ((by rw [hg]; exact (below_size (bq HB.out)) : w.heap.size ≤ gb201)); clear HB; have HB := n0_; have BK201 := n1_; have GW201 := n2_; have GE201 := n3_; clear n0_ n1_ n2_ n3_; clear hb hbox hg) | ((with_reducible refine gate_dst (N := 3) rfl ?_); refine box_event ?hg (N := 3) ?hd (cs := #[.int .i64 a1_0, .int .i64 a1_1, .int .i64 a1_2, .int .i64 a1_3, .int .i64 a1_4, .int .i64 a1_5, .int .i64 a1_6, .int .i64 a1_7, .int .i64 a1_8]) (t := 28) ?hr ?_; (case hd => rfl); (case hg => rfl); (case hr => first | (go_simp; done) | (go_simp; rfl)); intro gb202 hg w6 hbox hb; have n0_ := Aside0.mk (bb BK201.out hb); have n1_ := Aside0.mk (below_step (bq1 HB.out GE201.out) hb); have n2_ := Aside0.mk (hbox); have n3_ := Aside0.mk ((by rw [hg]; exact (below_size (bq1 HB.out GE201.out)) : w.heap.size ≤ gb202)); have n4_ := Aside0.mk ((by rw [hg]; exact (below_size (bq1 HB.out GE201.out)) : w.heap.size ≤ gb202)); have n5_ := Aside0.mk ((nlt hg BK201.out : gb201 ≠ gb202)); have n6_ := Aside0.mk ((by rw [hg]; exact Nat.ne_of_gt (blk_lt (g := gb201) (o := .cells #[.int .i64 a0_0, .int .i64 a0_1, .int .i64 a0_2, .int .i64 a0_3, .int .i64 a0_4, .int .i64 a0_5, .int .i64 a0_6, .int .i64 a0_7, .int .i64 a0_8] 28 (0, 0)) (kq BK201.out)) : gb202 ≠ gb201)); clear BK201; clear HB; have BK201 := n0_; have HB := n1_; have BK202 := n2_; have GW202 := n3_; have GE202 := n4_; have NB201_202 := n5_; have NB202_201 := n6_; clear n0_ n1_ n2_ n3_ n4_ n5_ n6_; clear hb hbox hg))
 have n0_ := Aside0.mk (blk_drew BK201.out)
 have n1_ := Aside0.mk (blk_drew BK202.out)
 have n2_ := Aside0.mk (below_drew1 HB.out)
 clear BK201
 clear BK202
 clear HB
 have BK201 := n0_
 have BK202 := n1_
 have HB := n2_
 clear n0_ n1_ n2_
 refine start_ (n := 8) (S := fun w' => w'.cell? ⟨gb201, 0, none⟩ = some (.int .i64 a0_0) ∧ w'.cell? ⟨gb201, 1, none⟩ = some (.int .i64 a0_1) ∧ w'.cell? ⟨gb201, 2, none⟩ = some (.int .i64 a0_2) ∧ w'.cell? ⟨gb201, 3, none⟩ = some (.int .i64 a0_3) ∧ w'.cell? ⟨gb201, 4, none⟩ = some (.int .i64 a0_4) ∧ w'.cell? ⟨gb201, 5, none⟩ = some (.int .i64 a0_5) ∧ w'.cell? ⟨gb201, 6, none⟩ = some (.int .i64 a0_6) ∧ w'.cell? ⟨gb201, 7, none⟩ = some (.int .i64 a0_7) ∧ w'.cell? ⟨gb201, 8, none⟩ = some (.int .i64 a0_8) ∧ w'.cell? ⟨gb202, 0, none⟩ = some (.int .i64 a1_0) ∧ w'.cell? ⟨gb202, 1, none⟩ = some (.int .i64 a1_1) ∧ w'.cell? ⟨gb202, 2, none⟩ = some (.int .i64 a1_2) ∧ w'.cell? ⟨gb202, 3, none⟩ = some (.int .i64 a1_3) ∧ w'.cell? ⟨gb202, 4, none⟩ = some (.int .i64 a1_4) ∧ w'.cell? ⟨gb202, 5, none⟩ = some (.int .i64 a1_5) ∧ w'.cell? ⟨gb202, 6, none⟩ = some (.int .i64 a1_6) ∧ w'.cell? ⟨gb202, 7, none⟩ = some (.int .i64 a1_7) ∧ w'.cell? ⟨gb202, 8, none⟩ = some (.int .i64 a1_8)) (ds := []) #[false, false, false, false, false, false, false, false] (by kernel_rfl) rfl rfl (c9 BK201.out (c9' BK202.out)) (fun hHeld => ?_); refine with_tabW determinant_Compare.tab1 determinant_Compare.bits1 (fun HT_ HW_ => ?_)
 generalize w6.drew = w7 at BK201 BK202 HB hHeld ⊢
 refine tak HT_.out HW_.out 0 (some 8) (bm 8 1) hHeld ?_
 refine tak HT_.out HW_.out 2 (some 10) (bm 8 5) hHeld ?_
 refine join_ (σ := Nat × Nat) 2 #[true, true, true, true, true, true, false, false] (fun s_ => [(9, .agg #[.int .i64 t203, .int .i64 t204, .int .i64 t205, .int .i64 t206, .int .i64 t207, .int .i64 t208, .int .i64 t209, .int .i64 t210, .int .i64 t211]), (11, .agg #[.int .i64 t212, .int .i64 t213, .int .i64 t214, .int .i64 t215, .int .i64 t216, .int .i64 t217, .int .i64 t218, .int .i64 t219, .int .i64 t220]), (5, .pointer (some ⟨s_.1, 0, none⟩)), (6, .pointer (some ⟨s_.2, 0, none⟩))]) (fun s_ w' => (determinant_Compare.S18 gb201 gb202 (.int .i64 a0_0) (.int .i64 a0_1) (.int .i64 a0_2) (.int .i64 a0_3) (.int .i64 a0_4) (.int .i64 a0_5) (.int .i64 a0_6) (.int .i64 a0_7) (.int .i64 a0_8) (.int .i64 a1_0) (.int .i64 a1_1) (.int .i64 a1_2) (.int .i64 a1_3) (.int .i64 a1_4) (.int .i64 a1_5) (.int .i64 a1_6) (.int .i64 a1_7) (.int .i64 a1_8) w') ∧ (w'.heap[gb201]? = some (.cells #[.int .i64 a0_0, .int .i64 a0_1, .int .i64 a0_2, .int .i64 a0_3, .int .i64 a0_4, .int .i64 a0_5, .int .i64 a0_6, .int .i64 a0_7, .int .i64 a0_8] 28 (0, 0))) ∧ (w'.heap[gb202]? = some (.cells #[.int .i64 a1_0, .int .i64 a1_1, .int .i64 a1_2, .int .i64 a1_3, .int .i64 a1_4, .int .i64 a1_5, .int .i64 a1_6, .int .i64 a1_7, .int .i64 a1_8] 28 (0, 0))) ∧ (w'.heap[s_.1]? = some (.cells #[.int .i64 0, .int .i64 0, .int .i64 0, .int .i64 0, .int .i64 0, .int .i64 0, .int .i64 0, .int .i64 0, .int .i64 0] 55 (0, 0))) ∧ (w'.heap[s_.2]? = some (.cells #[.int .i64 0, .int .i64 0, .int .i64 0, .int .i64 0, .int .i64 0, .int .i64 0, .int .i64 0, .int .i64 0, .int .i64 0] 55 (0, 0))) ∧ (w.heap.size ≤ s_.1) ∧ (w.heap.size ≤ s_.1) ∧ (gb201 ≠ s_.1) ∧ (s_.1 ≠ gb201) ∧ (gb202 ≠ s_.1) ∧ (s_.1 ≠ gb202) ∧ (s_.2 ≠ s_.1) ∧ (s_.1 ≠ s_.2) ∧ (w.heap.size ≤ s_.2) ∧ (w.heap.size ≤ s_.2) ∧ (gb201 ≠ s_.2) ∧ (s_.2 ≠ gb201) ∧ (gb202 ≠ s_.2) ∧ (s_.2 ≠ gb202) ∧ (Below w.heap.size w w')) ?_ ?_
 rotate_left
 ·(
 intro hJ1_3_4_5
 refine join_ (σ := Nat) 3 #[true, true, true, true, true, false, false, false] (fun s_ => [(9, .agg #[.int .i64 t203, .int .i64 t204, .int .i64 t205, .int .i64 t206, .int .i64 t207, .int .i64 t208, .int .i64 t209, .int .i64 t210, .int .i64 t211]), (11, .agg #[.int .i64 t212, .int .i64 t213, .int .i64 t214, .int .i64 t215, .int .i64 t216, .int .i64 t217, .int .i64 t218, .int .i64 t219, .int .i64 t220]), (5, .pointer (some ⟨s_, 0, none⟩))]) (fun s_ w' => (determinant_Compare.S18 gb201 gb202 (.int .i64 a0_0) (.int .i64 a0_1) (.int .i64 a0_2) (.int .i64 a0_3) (.int .i64 a0_4) (.int .i64 a0_5) (.int .i64 a0_6) (.int .i64 a0_7) (.int .i64 a0_8) (.int .i64 a1_0) (.int .i64 a1_1) (.int .i64 a1_2) (.int .i64 a1_3) (.int .i64 a1_4) (.int .i64 a1_5) (.int .i64 a1_6) (.int .i64 a1_7) (.int .i64 a1_8) w') ∧ (w'.heap[gb201]? = some (.cells #[.int .i64 a0_0, .int .i64 a0_1, .int .i64 a0_2, .int .i64 a0_3, .int .i64 a0_4, .int .i64 a0_5, .int .i64 a0_6, .int .i64 a0_7, .int .i64 a0_8] 28 (0, 0))) ∧ (w'.heap[gb202]? = some (.cells #[.int .i64 a1_0, .int .i64 a1_1, .int .i64 a1_2, .int .i64 a1_3, .int .i64 a1_4, .int .i64 a1_5, .int .i64 a1_6, .int .i64 a1_7, .int .i64 a1_8] 28 (0, 0))) ∧ (w'.heap[s_]? = some (.cells #[.int .i64 0, .int .i64 0, .int .i64 0, .int .i64 0, .int .i64 0, .int .i64 0, .int .i64 0, .int .i64 0, .int .i64 0] 55 (0, 0))) ∧ (w.heap.size ≤ s_) ∧ (w.heap.size ≤ s_) ∧ (gb201 ≠ s_) ∧ (s_ ≠ gb201) ∧ (gb202 ≠ s_) ∧ (s_ ≠ gb202) ∧ (Below w.heap.size w w')) ?_ ?_
 rotate_left
 ·(
 intro hJ1_3_4
 refine join_ (σ := Nat) 3 #[true, true, true, true, false, true, false, false] (fun s_ => [(9, .agg #[.int .i64 t203, .int .i64 t204, .int .i64 t205, .int .i64 t206, .int .i64 t207, .int .i64 t208, .int .i64 t209, .int .i64 t210, .int .i64 t211]), (11, .agg #[.int .i64 t212, .int .i64 t213, .int .i64 t214, .int .i64 t215, .int .i64 t216, .int .i64 t217, .int .i64 t218, .int .i64 t219, .int .i64 t220]), (6, .pointer (some ⟨s_, 0, none⟩))]) (fun s_ w' => (determinant_Compare.S18 gb201 gb202 (.int .i64 a0_0) (.int .i64 a0_1) (.int .i64 a0_2) (.int .i64 a0_3) (.int .i64 a0_4) (.int .i64 a0_5) (.int .i64 a0_6) (.int .i64 a0_7) (.int .i64 a0_8) (.int .i64 a1_0) (.int .i64 a1_1) (.int .i64 a1_2) (.int .i64 a1_3) (.int .i64 a1_4) (.int .i64 a1_5) (.int .i64 a1_6) (.int .i64 a1_7) (.int .i64 a1_8) w') ∧ (w'.heap[gb201]? = some (.cells #[.int .i64 a0_0, .int .i64 a0_1, .int .i64 a0_2, .int .i64 a0_3, .int .i64 a0_4, .int .i64 a0_5, .int .i64 a0_6, .int .i64 a0_7, .int .i64 a0_8] 28 (0, 0))) ∧ (w'.heap[gb202]? = some (.cells #[.int .i64 a1_0, .int .i64 a1_1, .int .i64 a1_2, .int .i64 a1_3, .int .i64 a1_4, .int .i64 a1_5, .int .i64 a1_6, .int .i64 a1_7, .int .i64 a1_8] 28 (0, 0))) ∧ (w'.heap[s_]? = some (.cells #[.int .i64 0, .int .i64 0, .int .i64 0, .int .i64 0, .int .i64 0, .int .i64 0, .int .i64 0, .int .i64 0, .int .i64 0] 55 (0, 0))) ∧ (w.heap.size ≤ s_) ∧ (w.heap.size ≤ s_) ∧ (gb201 ≠ s_) ∧ (s_ ≠ gb201) ∧ (gb202 ≠ s_) ∧ (s_ ≠ gb202) ∧ (Below w.heap.size w w')) ?_ ?_
 rotate_left
 ·(
 intro hJ1_3_5
 refine join_ (σ := Nat × Nat) 3 #[true, true, true, false, true, true, false, false] (fun s_ => [(9, .agg #[.int .i64 t203, .int .i64 t204, .int .i64 t205, .int .i64 t206, .int .i64 t207, .int .i64 t208, .int .i64 t209, .int .i64 t210, .int .i64 t211]), (5, .pointer (some ⟨s_.1, 0, none⟩)), (6, .pointer (some ⟨s_.2, 0, none⟩))]) (fun s_ w' => (determinant_Compare.S18 gb201 gb202 (.int .i64 a0_0) (.int .i64 a0_1) (.int .i64 a0_2) (.int .i64 a0_3) (.int .i64 a0_4) (.int .i64 a0_5) (.int .i64 a0_6) (.int .i64 a0_7) (.int .i64 a0_8) (.int .i64 a1_0) (.int .i64 a1_1) (.int .i64 a1_2) (.int .i64 a1_3) (.int .i64 a1_4) (.int .i64 a1_5) (.int .i64 a1_6) (.int .i64 a1_7) (.int .i64 a1_8) w') ∧ (w'.heap[gb201]? = some (.cells #[.int .i64 a0_0, .int .i64 a0_1, .int .i64 a0_2, .int .i64 a0_3, .int .i64 a0_4, .int .i64 a0_5, .int .i64 a0_6, .int .i64 a0_7, .int .i64 a0_8] 28 (0, 0))) ∧ (w'.heap[gb202]? = some (.cells #[.int .i64 a1_0, .int .i64 a1_1, .int .i64 a1_2, .int .i64 a1_3, .int .i64 a1_4, .int .i64 a1_5, .int .i64 a1_6, .int .i64 a1_7, .int .i64 a1_8] 28 (0, 0))) ∧ (w'.heap[s_.1]? = some (.cells #[.int .i64 0, .int .i64 0, .int .i64 0, .int .i64 0, .int .i64 0, .int .i64 0, .int .i64 0, .int .i64 0, .int .i64 0] 55 (0, 0))) ∧ (w'.heap[s_.2]? = some (.cells #[.int .i64 0, .int .i64 0, .int .i64 0, .int .i64 0, .int .i64 0, .int .i64 0, .int .i64 0, .int .i64 0, .int .i64 0] 55 (0, 0))) ∧ (w.heap.size ≤ s_.1) ∧ (w.heap.size ≤ s_.1) ∧ (gb201 ≠ s_.1) ∧ (s_.1 ≠ gb201) ∧ (gb202 ≠ s_.1) ∧ (s_.1 ≠ gb202) ∧ (s_.2 ≠ s_.1) ∧ (s_.1 ≠ s_.2) ∧ (w.heap.size ≤ s_.2) ∧ (w.heap.size ≤ s_.2) ∧ (gb201 ≠ s_.2) ∧ (s_.2 ≠ gb201) ∧ (gb202 ≠ s_.2) ∧ (s_.2 ≠ gb202) ∧ (Below w.heap.size w w')) ?_ ?_
 rotate_left
 ·(
 intro hJ1_4_5
 refine join_ (σ := Unit) 4 #[true, true, true, true, false, false, false, false] (fun s_ => [(9, .agg #[.int .i64 t203, .int .i64 t204, .int .i64 t205, .int .i64 t206, .int .i64 t207, .int .i64 t208, .int .i64 t209, .int .i64 t210, .int .i64 t211]), (11, .agg #[.int .i64 t212, .int .i64 t213, .int .i64 t214, .int .i64 t215, .int .i64 t216, .int .i64 t217, .int .i64 t218, .int .i64 t219, .int .i64 t220])]) (fun s_ w' => (determinant_Compare.S18 gb201 gb202 (.int .i64 a0_0) (.int .i64 a0_1) (.int .i64 a0_2) (.int .i64 a0_3) (.int .i64 a0_4) (.int .i64 a0_5) (.int .i64 a0_6) (.int .i64 a0_7) (.int .i64 a0_8) (.int .i64 a1_0) (.int .i64 a1_1) (.int .i64 a1_2) (.int .i64 a1_3) (.int .i64 a1_4) (.int .i64 a1_5) (.int .i64 a1_6) (.int .i64 a1_7) (.int .i64 a1_8) w') ∧ (w'.heap[gb201]? = some (.cells #[.int .i64 a0_0, .int .i64 a0_1, .int .i64 a0_2, .int .i64 a0_3, .int .i64 a0_4, .int .i64 a0_5, .int .i64 a0_6, .int .i64 a0_7, .int .i64 a0_8] 28 (0, 0))) ∧ (w'.heap[gb202]? = some (.cells #[.int .i64 a1_0, .int .i64 a1_1, .int .i64 a1_2, .int .i64 a1_3, .int .i64 a1_4, .int .i64 a1_5, .int .i64 a1_6, .int .i64 a1_7, .int .i64 a1_8] 28 (0, 0))) ∧ (Below w.heap.size w w')) ?_ ?_
 rotate_left
 ·(
 intro hJ1_3
 refine join_ (σ := Nat) 4 #[true, true, true, false, true, false, false, false] (fun s_ => [(9, .agg #[.int .i64 t203, .int .i64 t204, .int .i64 t205, .int .i64 t206, .int .i64 t207, .int .i64 t208, .int .i64 t209, .int .i64 t210, .int .i64 t211]), (5, .pointer (some ⟨s_, 0, none⟩))]) (fun s_ w' => (determinant_Compare.S18 gb201 gb202 (.int .i64 a0_0) (.int .i64 a0_1) (.int .i64 a0_2) (.int .i64 a0_3) (.int .i64 a0_4) (.int .i64 a0_5) (.int .i64 a0_6) (.int .i64 a0_7) (.int .i64 a0_8) (.int .i64 a1_0) (.int .i64 a1_1) (.int .i64 a1_2) (.int .i64 a1_3) (.int .i64 a1_4) (.int .i64 a1_5) (.int .i64 a1_6) (.int .i64 a1_7) (.int .i64 a1_8) w') ∧ (w'.heap[gb201]? = some (.cells #[.int .i64 a0_0, .int .i64 a0_1, .int .i64 a0_2, .int .i64 a0_3, .int .i64 a0_4, .int .i64 a0_5, .int .i64 a0_6, .int .i64 a0_7, .int .i64 a0_8] 28 (0, 0))) ∧ (w'.heap[gb202]? = some (.cells #[.int .i64 a1_0, .int .i64 a1_1, .int .i64 a1_2, .int .i64 a1_3, .int .i64 a1_4, .int .i64 a1_5, .int .i64 a1_6, .int .i64 a1_7, .int .i64 a1_8] 28 (0, 0))) ∧ (w'.heap[s_]? = some (.cells #[.int .i64 0, .int .i64 0, .int .i64 0, .int .i64 0, .int .i64 0, .int .i64 0, .int .i64 0, .int .i64 0, .int .i64 0] 55 (0, 0))) ∧ (w.heap.size ≤ s_) ∧ (w.heap.size ≤ s_) ∧ (gb201 ≠ s_) ∧ (s_ ≠ gb201) ∧ (gb202 ≠ s_) ∧ (s_ ≠ gb202) ∧ (Below w.heap.size w w')) ?_ ?_
 rotate_left
 ·(
 intro hJ1_4
 refine join_ (σ := Nat) 4 #[true, true, true, false, false, true, false, false] (fun s_ => [(9, .agg #[.int .i64 t203, .int .i64 t204, .int .i64 t205, .int .i64 t206, .int .i64 t207, .int .i64 t208, .int .i64 t209, .int .i64 t210, .int .i64 t211]), (6, .pointer (some ⟨s_, 0, none⟩))]) (fun s_ w' => (determinant_Compare.S18 gb201 gb202 (.int .i64 a0_0) (.int .i64 a0_1) (.int .i64 a0_2) (.int .i64 a0_3) (.int .i64 a0_4) (.int .i64 a0_5) (.int .i64 a0_6) (.int .i64 a0_7) (.int .i64 a0_8) (.int .i64 a1_0) (.int .i64 a1_1) (.int .i64 a1_2) (.int .i64 a1_3) (.int .i64 a1_4) (.int .i64 a1_5) (.int .i64 a1_6) (.int .i64 a1_7) (.int .i64 a1_8) w') ∧ (w'.heap[gb201]? = some (.cells #[.int .i64 a0_0, .int .i64 a0_1, .int .i64 a0_2, .int .i64 a0_3, .int .i64 a0_4, .int .i64 a0_5, .int .i64 a0_6, .int .i64 a0_7, .int .i64 a0_8] 28 (0, 0))) ∧ (w'.heap[gb202]? = some (.cells #[.int .i64 a1_0, .int .i64 a1_1, .int .i64 a1_2, .int .i64 a1_3, .int .i64 a1_4, .int .i64 a1_5, .int .i64 a1_6, .int .i64 a1_7, .int .i64 a1_8] 28 (0, 0))) ∧ (w'.heap[s_]? = some (.cells #[.int .i64 0, .int .i64 0, .int .i64 0, .int .i64 0, .int .i64 0, .int .i64 0, .int .i64 0, .int .i64 0, .int .i64 0] 55 (0, 0))) ∧ (w.heap.size ≤ s_) ∧ (w.heap.size ≤ s_) ∧ (gb201 ≠ s_) ∧ (s_ ≠ gb201) ∧ (gb202 ≠ s_) ∧ (s_ ≠ gb202) ∧ (Below w.heap.size w w')) ?_ ?_
 rotate_left
 ·(
 intro hJ1_5
 refine join_ (σ := Nat × Nat) 4 #[true, false, true, false, true, true, false, false] (fun s_ => [(5, .pointer (some ⟨s_.1, 0, none⟩)), (6, .pointer (some ⟨s_.2, 0, none⟩))]) (fun s_ w' => (determinant_Compare.S18 gb201 gb202 (.int .i64 a0_0) (.int .i64 a0_1) (.int .i64 a0_2) (.int .i64 a0_3) (.int .i64 a0_4) (.int .i64 a0_5) (.int .i64 a0_6) (.int .i64 a0_7) (.int .i64 a0_8) (.int .i64 a1_0) (.int .i64 a1_1) (.int .i64 a1_2) (.int .i64 a1_3) (.int .i64 a1_4) (.int .i64 a1_5) (.int .i64 a1_6) (.int .i64 a1_7) (.int .i64 a1_8) w') ∧ (w'.heap[gb201]? = some (.cells #[.int .i64 a0_0, .int .i64 a0_1, .int .i64 a0_2, .int .i64 a0_3, .int .i64 a0_4, .int .i64 a0_5, .int .i64 a0_6, .int .i64 a0_7, .int .i64 a0_8] 28 (0, 0))) ∧ (w'.heap[gb202]? = some (.cells #[.int .i64 a1_0, .int .i64 a1_1, .int .i64 a1_2, .int .i64 a1_3, .int .i64 a1_4, .int .i64 a1_5, .int .i64 a1_6, .int .i64 a1_7, .int .i64 a1_8] 28 (0, 0))) ∧ (w'.heap[s_.1]? = some (.cells #[.int .i64 0, .int .i64 0, .int .i64 0, .int .i64 0, .int .i64 0, .int .i64 0, .int .i64 0, .int .i64 0, .int .i64 0] 55 (0, 0))) ∧ (w'.heap[s_.2]? = some (.cells #[.int .i64 0, .int .i64 0, .int .i64 0, .int .i64 0, .int .i64 0, .int .i64 0, .int .i64 0, .int .i64 0, .int .i64 0] 55 (0, 0))) ∧ (w.heap.size ≤ s_.1) ∧ (w.heap.size ≤ s_.1) ∧ (gb201 ≠ s_.1) ∧ (s_.1 ≠ gb201) ∧ (gb202 ≠ s_.1) ∧ (s_.1 ≠ gb202) ∧ (s_.2 ≠ s_.1) ∧ (s_.1 ≠ s_.2) ∧ (w.heap.size ≤ s_.2) ∧ (w.heap.size ≤ s_.2) ∧ (gb201 ≠ s_.2) ∧ (s_.2 ≠ gb201) ∧ (gb202 ≠ s_.2) ∧ (s_.2 ≠ gb202) ∧ (Below w.heap.size w w')) ?_ ?_
 rotate_left
 ·(
 intro hJ4_5
 refine join_ (σ := Unit) 5 #[true, true, true, false, false, false, false, false] (fun s_ => [(9, .agg #[.int .i64 t203, .int .i64 t204, .int .i64 t205, .int .i64 t206, .int .i64 t207, .int .i64 t208, .int .i64 t209, .int .i64 t210, .int .i64 t211])]) (fun s_ w' => (determinant_Compare.S18 gb201 gb202 (.int .i64 a0_0) (.int .i64 a0_1) (.int .i64 a0_2) (.int .i64 a0_3) (.int .i64 a0_4) (.int .i64 a0_5) (.int .i64 a0_6) (.int .i64 a0_7) (.int .i64 a0_8) (.int .i64 a1_0) (.int .i64 a1_1) (.int .i64 a1_2) (.int .i64 a1_3) (.int .i64 a1_4) (.int .i64 a1_5) (.int .i64 a1_6) (.int .i64 a1_7) (.int .i64 a1_8) w') ∧ (w'.heap[gb201]? = some (.cells #[.int .i64 a0_0, .int .i64 a0_1, .int .i64 a0_2, .int .i64 a0_3, .int .i64 a0_4, .int .i64 a0_5, .int .i64 a0_6, .int .i64 a0_7, .int .i64 a0_8] 28 (0, 0))) ∧ (w'.heap[gb202]? = some (.cells #[.int .i64 a1_0, .int .i64 a1_1, .int .i64 a1_2, .int .i64 a1_3, .int .i64 a1_4, .int .i64 a1_5, .int .i64 a1_6, .int .i64 a1_7, .int .i64 a1_8] 28 (0, 0))) ∧ (Below w.heap.size w w')) ?_ ?_
 rotate_left
 ·(
 intro hJ1
 refine join_ (σ := Nat) 5 #[true, false, true, false, true, false, false, false] (fun s_ => [(5, .pointer (some ⟨s_, 0, none⟩))]) (fun s_ w' => (determinant_Compare.S18 gb201 gb202 (.int .i64 a0_0) (.int .i64 a0_1) (.int .i64 a0_2) (.int .i64 a0_3) (.int .i64 a0_4) (.int .i64 a0_5) (.int .i64 a0_6) (.int .i64 a0_7) (.int .i64 a0_8) (.int .i64 a1_0) (.int .i64 a1_1) (.int .i64 a1_2) (.int .i64 a1_3) (.int .i64 a1_4) (.int .i64 a1_5) (.int .i64 a1_6) (.int .i64 a1_7) (.int .i64 a1_8) w') ∧ (w'.heap[gb201]? = some (.cells #[.int .i64 a0_0, .int .i64 a0_1, .int .i64 a0_2, .int .i64 a0_3, .int .i64 a0_4, .int .i64 a0_5, .int .i64 a0_6, .int .i64 a0_7, .int .i64 a0_8] 28 (0, 0))) ∧ (w'.heap[gb202]? = some (.cells #[.int .i64 a1_0, .int .i64 a1_1, .int .i64 a1_2, .int .i64 a1_3, .int .i64 a1_4, .int .i64 a1_5, .int .i64 a1_6, .int .i64 a1_7, .int .i64 a1_8] 28 (0, 0))) ∧ (w'.heap[s_]? = some (.cells #[.int .i64 0, .int .i64 0, .int .i64 0, .int .i64 0, .int .i64 0, .int .i64 0, .int .i64 0, .int .i64 0, .int .i64 0] 55 (0, 0))) ∧ (w.heap.size ≤ s_) ∧ (w.heap.size ≤ s_) ∧ (gb201 ≠ s_) ∧ (s_ ≠ gb201) ∧ (gb202 ≠ s_) ∧ (s_ ≠ gb202) ∧ (Below w.heap.size w w')) ?_ ?_
 rotate_left
 ·(
 intro hJ4
 refine join_ (σ := Nat) 5 #[true, false, true, false, false, true, false, false] (fun s_ => [(6, .pointer (some ⟨s_, 0, none⟩))]) (fun s_ w' => (determinant_Compare.S18 gb201 gb202 (.int .i64 a0_0) (.int .i64 a0_1) (.int .i64 a0_2) (.int .i64 a0_3) (.int .i64 a0_4) (.int .i64 a0_5) (.int .i64 a0_6) (.int .i64 a0_7) (.int .i64 a0_8) (.int .i64 a1_0) (.int .i64 a1_1) (.int .i64 a1_2) (.int .i64 a1_3) (.int .i64 a1_4) (.int .i64 a1_5) (.int .i64 a1_6) (.int .i64 a1_7) (.int .i64 a1_8) w') ∧ (w'.heap[gb201]? = some (.cells #[.int .i64 a0_0, .int .i64 a0_1, .int .i64 a0_2, .int .i64 a0_3, .int .i64 a0_4, .int .i64 a0_5, .int .i64 a0_6, .int .i64 a0_7, .int .i64 a0_8] 28 (0, 0))) ∧ (w'.heap[gb202]? = some (.cells #[.int .i64 a1_0, .int .i64 a1_1, .int .i64 a1_2, .int .i64 a1_3, .int .i64 a1_4, .int .i64 a1_5, .int .i64 a1_6, .int .i64 a1_7, .int .i64 a1_8] 28 (0, 0))) ∧ (w'.heap[s_]? = some (.cells #[.int .i64 0, .int .i64 0, .int .i64 0, .int .i64 0, .int .i64 0, .int .i64 0, .int .i64 0, .int .i64 0, .int .i64 0] 55 (0, 0))) ∧ (w.heap.size ≤ s_) ∧ (w.heap.size ≤ s_) ∧ (gb201 ≠ s_) ∧ (s_ ≠ gb201) ∧ (gb202 ≠ s_) ∧ (s_ ≠ gb202) ∧ (Below w.heap.size w w')) ?_ ?_
 rotate_left
 ·(
 intro hJ5
 refine three_ (i := 1) (j := 4) (k := 5) (Ni := some 9) (Nj := some 5) (Nk := some 6) #[true, true, true, false, false, false, false, false] #[true, false, true, false, true, false, false, false] #[true, false, true, false, false, true, false, false] rfl rfl rfl rfl rfl rfl (three_of HT_.out (by kernel_rfl)) (by decide) (by decide) (by decide) (fun K hK => ?_) (fun K hK => ?_) (fun K hK => ?_)
 ·(
 skip
 refine gs Try.func31 #[.agg #[.int .i64 a0_0, .int .i64 a0_1, .int .i64 a0_2, .int .i64 a0_3, .int .i64 a0_4, .int .i64 a0_5, .int .i64 a0_6, .int .i64 a0_7, .int .i64 a0_8]] ?_
 with_reducible refine (determinant_fields.calls a0_0 a0_1 a0_2 a0_3 a0_4 a0_5 a0_6 a0_7 a0_8 t203 t204 t205 t206 t207 t208 t209 t210 t211 _ A3.out).mono ?_
 rintro e w8 ⟨rfl, hb⟩
 refine ⟨_, rfl, ?_⟩
 have n0_ := Aside0.mk (bb BK201.out hb)
 have n1_ := Aside0.mk (bb BK202.out hb)
 have n2_ := Aside0.mk (below_step (bq2 HB.out GE201.out GE202.out) hb)
 clear BK201
 clear BK202
 clear HB
 have BK201 := n0_
 have BK202 := n1_
 have HB := n2_
 clear n0_ n1_ n2_
 (try clear hb)
 (try clear hb2)
 (try clear hk)
 (try clear hi)
 refine hK.out _ _ (determinant_Compare.held9 BK201.out BK202.out) (fun hHeld => ?_)
 clear hK K
 refine nrm 9 ?_
 exact norm_ (by first | (simp only [putAll, Act.put, List.setIfInBounds_toArray, List.set_cons_zero, List.set_cons_succ]; done) | (simp only [putAll, Act.put, List.setIfInBounds_toArray, List.set_cons_zero, List.set_cons_succ]; rfl)) (hJ1 () _ ⟨hHeld, (kq BK201.out), (kq BK202.out), (bq2 HB.out GE201.out GE202.out)⟩))
 ·(
 skip
 refine box_step ?hg (N := 5) ?hd (cs := #[.int .i64 0, .int .i64 0, .int .i64 0, .int .i64 0, .int .i64 0, .int .i64 0, .int .i64 0, .int .i64 0, .int .i64 0]) (t := 55) ?hr ?_; (case hd => rfl); (case hg => rfl); (case hr => first | (go_simp; done) | (go_simp; rfl))
 intro gb221 hg w8 hbox hb
 have n0_ := Aside0.mk (bb BK201.out hb)
 have n1_ := Aside0.mk (bb BK202.out hb)
 have n2_ := Aside0.mk (below_step (bq2 HB.out GE201.out GE202.out) hb)
 have n3_ := Aside0.mk (hbox)
 have n4_ := Aside0.mk ((by rw [hg]; exact (below_size (bq2 HB.out GE201.out GE202.out)) : w.heap.size ≤ gb221))
 have n5_ := Aside0.mk ((by rw [hg]; exact (below_size (bq2 HB.out GE201.out GE202.out)) : w.heap.size ≤ gb221))
 have n6_ := Aside0.mk ((nlt hg BK201.out : gb201 ≠ gb221))
 have n7_ := Aside0.mk ((by rw [hg]; exact Nat.ne_of_gt (blk_lt (g := gb201) (o := .cells #[.int .i64 a0_0, .int .i64 a0_1, .int .i64 a0_2, .int .i64 a0_3, .int .i64 a0_4, .int .i64 a0_5, .int .i64 a0_6, .int .i64 a0_7, .int .i64 a0_8] 28 (0, 0)) (kq BK201.out)) : gb221 ≠ gb201))
 have n8_ := Aside0.mk ((nlt hg BK202.out : gb202 ≠ gb221))
 have n9_ := Aside0.mk ((by rw [hg]; exact Nat.ne_of_gt (blk_lt (g := gb202) (o := .cells #[.int .i64 a1_0, .int .i64 a1_1, .int .i64 a1_2, .int .i64 a1_3, .int .i64 a1_4, .int .i64 a1_5, .int .i64 a1_6, .int .i64 a1_7, .int .i64 a1_8] 28 (0, 0)) (kq BK202.out)) : gb221 ≠ gb202))
 clear BK201
 clear BK202
 clear HB
 have BK201 := n0_
 have BK202 := n1_
 have HB := n2_
 have BK221 := n3_
 have GW221 := n4_
 have GE221 := n5_
 have NB201_221 := n6_
 have NB221_201 := n7_
 have NB202_221 := n8_
 have NB221_202 := n9_
 clear n0_ n1_ n2_ n3_ n4_ n5_ n6_ n7_ n8_ n9_
 clear hb hbox hg
 refine hK.out _ _ (determinant_Compare.held9 BK201.out BK202.out) (fun hHeld => ?_)
 clear hK K
 refine nrm 5 ?_
 exact norm_ (by first | (simp only [putAll, Act.put, List.setIfInBounds_toArray, List.set_cons_zero, List.set_cons_succ]; done) | (simp only [putAll, Act.put, List.setIfInBounds_toArray, List.set_cons_zero, List.set_cons_succ]; rfl)) (hJ4 (gb221) _ ⟨hHeld, (kq BK201.out), (kq BK202.out), (kq BK221.out), GW221.out, GE221.out, NB201_221.out, NB221_201.out, NB202_221.out, NB221_202.out, (bq3 HB.out GE201.out GE202.out GE221.out)⟩))
 ·(
 skip
 refine box_step ?hg (N := 6) ?hd (cs := #[.int .i64 0, .int .i64 0, .int .i64 0, .int .i64 0, .int .i64 0, .int .i64 0, .int .i64 0, .int .i64 0, .int .i64 0]) (t := 55) ?hr ?_; (case hd => rfl); (case hg => rfl); (case hr => first | (go_simp; done) | (go_simp; rfl))
 intro gb222 hg w8 hbox hb
 have n0_ := Aside0.mk (bb BK201.out hb)
 have n1_ := Aside0.mk (bb BK202.out hb)
 have n2_ := Aside0.mk (below_step (bq2 HB.out GE201.out GE202.out) hb)
 have n3_ := Aside0.mk (hbox)
 have n4_ := Aside0.mk ((by rw [hg]; exact (below_size (bq2 HB.out GE201.out GE202.out)) : w.heap.size ≤ gb222))
 have n5_ := Aside0.mk ((by rw [hg]; exact (below_size (bq2 HB.out GE201.out GE202.out)) : w.heap.size ≤ gb222))
 have n6_ := Aside0.mk ((nlt hg BK201.out : gb201 ≠ gb222))
 have n7_ := Aside0.mk ((by rw [hg]; exact Nat.ne_of_gt (blk_lt (g := gb201) (o := .cells #[.int .i64 a0_0, .int .i64 a0_1, .int .i64 a0_2, .int .i64 a0_3, .int .i64 a0_4, .int .i64 a0_5, .int .i64 a0_6, .int .i64 a0_7, .int .i64 a0_8] 28 (0, 0)) (kq BK201.out)) : gb222 ≠ gb201))
 have n8_ := Aside0.mk ((nlt hg BK202.out : gb202 ≠ gb222))
 have n9_ := Aside0.mk ((by rw [hg]; exact Nat.ne_of_gt (blk_lt (g := gb202) (o := .cells #[.int .i64 a1_0, .int .i64 a1_1, .int .i64 a1_2, .int .i64 a1_3, .int .i64 a1_4, .int .i64 a1_5, .int .i64 a1_6, .int .i64 a1_7, .int .i64 a1_8] 28 (0, 0)) (kq BK202.out)) : gb222 ≠ gb202))
 clear BK201
 clear BK202
 clear HB
 have BK201 := n0_
 have BK202 := n1_
 have HB := n2_
 have BK222 := n3_
 have GW222 := n4_
 have GE222 := n5_
 have NB201_222 := n6_
 have NB222_201 := n7_
 have NB202_222 := n8_
 have NB222_202 := n9_
 clear n0_ n1_ n2_ n3_ n4_ n5_ n6_ n7_ n8_ n9_
 clear hb hbox hg
 refine hK.out _ _ (determinant_Compare.held9 BK201.out BK202.out) (fun hHeld => ?_)
 clear hK K
 refine nrm 6 ?_
 exact norm_ (by first | (simp only [putAll, Act.put, List.setIfInBounds_toArray, List.set_cons_zero, List.set_cons_succ]; done) | (simp only [putAll, Act.put, List.setIfInBounds_toArray, List.set_cons_zero, List.set_cons_succ]; rfl)) (hJ5 (gb222) _ ⟨hHeld, (kq BK201.out), (kq BK202.out), (kq BK222.out), GW222.out, GE222.out, NB201_222.out, NB222_201.out, NB202_222.out, NB222_202.out, (bq3 HB.out GE201.out GE202.out GE222.out)⟩)))
 ·(
 skip
 rintro gb222 w9 ⟨hS_, h0_, h1_, h2_, h3_, h4_, h5_, h6_, h7_, h8_, h9_⟩
 have n0_ : Aside0 (w9.heap[gb201]? = some (.cells #[.int .i64 a0_0, .int .i64 a0_1, .int .i64 a0_2, .int .i64 a0_3, .int .i64 a0_4, .int .i64 a0_5, .int .i64 a0_6, .int .i64 a0_7, .int .i64 a0_8] 28 (0, 0))) := ⟨h0_⟩
 have n1_ : Aside0 (w9.heap[gb202]? = some (.cells #[.int .i64 a1_0, .int .i64 a1_1, .int .i64 a1_2, .int .i64 a1_3, .int .i64 a1_4, .int .i64 a1_5, .int .i64 a1_6, .int .i64 a1_7, .int .i64 a1_8] 28 (0, 0))) := ⟨h1_⟩
 have n2_ : Aside0 (w9.heap[gb222]? = some (.cells #[.int .i64 0, .int .i64 0, .int .i64 0, .int .i64 0, .int .i64 0, .int .i64 0, .int .i64 0, .int .i64 0, .int .i64 0] 55 (0, 0))) := ⟨h2_⟩
 have n3_ : Aside0 (w.heap.size ≤ gb222) := ⟨h3_⟩
 have n4_ : Aside0 (w.heap.size ≤ gb222) := ⟨h4_⟩
 have n5_ : Aside0 (gb201 ≠ gb222) := ⟨h5_⟩
 have n6_ : Aside0 (gb222 ≠ gb201) := ⟨h6_⟩
 have n7_ : Aside0 (gb202 ≠ gb222) := ⟨h7_⟩
 have n8_ : Aside0 (gb222 ≠ gb202) := ⟨h8_⟩
 have n9_ : Aside0 (Below w.heap.size w w9) := ⟨h9_⟩
 clear BK201
 clear BK202
 clear HB
 clear h0_ h1_ h2_ h3_ h4_ h5_ h6_ h7_ h8_ h9_
 have BK201 := n0_
 have BK202 := n1_
 have BK222 := n2_
 have GW222 := n3_
 have GE222 := n4_
 have NB201_222 := n5_
 have NB222_201 := n6_
 have NB202_222 := n7_
 have NB222_202 := n8_
 have HB := n9_
 clear n0_ n1_ n2_ n3_ n4_ n5_ n6_ n7_ n8_ n9_
 have hHeld : determinant_Compare.S18 gb201 gb202 (.int .i64 a0_0) (.int .i64 a0_1) (.int .i64 a0_2) (.int .i64 a0_3) (.int .i64 a0_4) (.int .i64 a0_5) (.int .i64 a0_6) (.int .i64 a0_7) (.int .i64 a0_8) (.int .i64 a1_0) (.int .i64 a1_1) (.int .i64 a1_2) (.int .i64 a1_3) (.int .i64 a1_4) (.int .i64 a1_5) (.int .i64 a1_6) (.int .i64 a1_7) (.int .i64 a1_8) w9 := hS_
 refine norm_ (a' := ?_) ?_ ?_
 rotate_left
 ·(
 simp only [putAll, Act.put, List.setIfInBounds_toArray, List.set_cons_zero, List.set_cons_succ]
 rfl)
 refine two_ (i := 1) (j := 4) (Ni := some 9) (Nj := some 5) (bm 8 39) (bm 8 53) rfl rfl rfl rfl (two_of HT_.out (by kernel_rfl)) (by decide) (by decide) (fun K hK => ?_) (fun K hK => ?_)
 ·(
 skip
 refine gs Try.func31 #[.agg #[.int .i64 a0_0, .int .i64 a0_1, .int .i64 a0_2, .int .i64 a0_3, .int .i64 a0_4, .int .i64 a0_5, .int .i64 a0_6, .int .i64 a0_7, .int .i64 a0_8]] ?_
 with_reducible refine (determinant_fields.calls a0_0 a0_1 a0_2 a0_3 a0_4 a0_5 a0_6 a0_7 a0_8 t203 t204 t205 t206 t207 t208 t209 t210 t211 _ A3.out).mono ?_
 rintro e w10 ⟨rfl, hb⟩
 refine ⟨_, rfl, ?_⟩
 have n0_ := Aside0.mk (bb BK201.out hb)
 have n1_ := Aside0.mk (bb BK202.out hb)
 have n2_ := Aside0.mk (bb BK222.out hb)
 have n3_ := Aside0.mk (below_step (bq3 HB.out GE201.out GE202.out GE222.out) hb)
 clear BK201
 clear BK202
 clear BK222
 clear HB
 have BK201 := n0_
 have BK202 := n1_
 have BK222 := n2_
 have HB := n3_
 clear n0_ n1_ n2_ n3_
 (try clear hb)
 (try clear hb2)
 (try clear hk)
 (try clear hi)
 refine hK.out _ _ (determinant_Compare.held9 BK201.out BK202.out) (fun hHeld => ?_)
 clear hK K
 refine nrm 9 ?_
 exact norm_ (by first | (simp only [putAll, Act.put, List.setIfInBounds_toArray, List.set_cons_zero, List.set_cons_succ]; done) | (simp only [putAll, Act.put, List.setIfInBounds_toArray, List.set_cons_zero, List.set_cons_succ]; rfl)) (hJ1_5 (gb222) _ ⟨hHeld, (kq BK201.out), (kq BK202.out), (kq BK222.out), GW222.out, GE222.out, NB201_222.out, NB222_201.out, NB202_222.out, NB222_202.out, (bq3 HB.out GE201.out GE202.out GE222.out)⟩))
 ·(
 skip
 refine box_step ?hg (N := 5) ?hd (cs := #[.int .i64 0, .int .i64 0, .int .i64 0, .int .i64 0, .int .i64 0, .int .i64 0, .int .i64 0, .int .i64 0, .int .i64 0]) (t := 55) ?hr ?_; (case hd => rfl); (case hg => rfl); (case hr => first | (go_simp; done) | (go_simp; rfl))
 intro gb221 hg w10 hbox hb
 have n0_ := Aside0.mk (bb BK201.out hb)
 have n1_ := Aside0.mk (bb BK202.out hb)
 have n2_ := Aside0.mk (bb BK222.out hb)
 have n3_ := Aside0.mk (below_step (bq3 HB.out GE201.out GE202.out GE222.out) hb)
 have n4_ := Aside0.mk (hbox)
 have n5_ := Aside0.mk ((by rw [hg]; exact (below_size (bq3 HB.out GE201.out GE202.out GE222.out)) : w.heap.size ≤ gb221))
 have n6_ := Aside0.mk ((by rw [hg]; exact (below_size (bq3 HB.out GE201.out GE202.out GE222.out)) : w.heap.size ≤ gb221))
 have n7_ := Aside0.mk ((nlt hg BK201.out : gb201 ≠ gb221))
 have n8_ := Aside0.mk ((by rw [hg]; exact Nat.ne_of_gt (blk_lt (g := gb201) (o := .cells #[.int .i64 a0_0, .int .i64 a0_1, .int .i64 a0_2, .int .i64 a0_3, .int .i64 a0_4, .int .i64 a0_5, .int .i64 a0_6, .int .i64 a0_7, .int .i64 a0_8] 28 (0, 0)) (kq BK201.out)) : gb221 ≠ gb201))
 have n9_ := Aside0.mk ((nlt hg BK202.out : gb202 ≠ gb221))
 have n10_ := Aside0.mk ((by rw [hg]; exact Nat.ne_of_gt (blk_lt (g := gb202) (o := .cells #[.int .i64 a1_0, .int .i64 a1_1, .int .i64 a1_2, .int .i64 a1_3, .int .i64 a1_4, .int .i64 a1_5, .int .i64 a1_6, .int .i64 a1_7, .int .i64 a1_8] 28 (0, 0)) (kq BK202.out)) : gb221 ≠ gb202))
 have n11_ := Aside0.mk ((nlt hg BK222.out : gb222 ≠ gb221))
 have n12_ := Aside0.mk ((by rw [hg]; exact Nat.ne_of_gt (blk_lt (g := gb222) (o := .cells #[.int .i64 0, .int .i64 0, .int .i64 0, .int .i64 0, .int .i64 0, .int .i64 0, .int .i64 0, .int .i64 0, .int .i64 0] 55 (0, 0)) (kq BK222.out)) : gb221 ≠ gb222))
 clear BK201
 clear BK202
 clear BK222
 clear HB
 have BK201 := n0_
 have BK202 := n1_
 have BK222 := n2_
 have HB := n3_
 have BK221 := n4_
 have GW221 := n5_
 have GE221 := n6_
 have NB201_221 := n7_
 have NB221_201 := n8_
 have NB202_221 := n9_
 have NB221_202 := n10_
 have NB222_221 := n11_
 have NB221_222 := n12_
 clear n0_ n1_ n2_ n3_ n4_ n5_ n6_ n7_ n8_ n9_ n10_ n11_ n12_
 clear hb hbox hg
 refine hK.out _ _ (determinant_Compare.held9 BK201.out BK202.out) (fun hHeld => ?_)
 clear hK K
 refine nrm 5 ?_
 exact norm_ (by first | (simp only [putAll, Act.put, List.setIfInBounds_toArray, List.set_cons_zero, List.set_cons_succ]; done) | (simp only [putAll, Act.put, List.setIfInBounds_toArray, List.set_cons_zero, List.set_cons_succ]; rfl)) (hJ4_5 (gb221, gb222) _ ⟨hHeld, (kq BK201.out), (kq BK202.out), (kq BK221.out), (kq BK222.out), GW221.out, GE221.out, NB201_221.out, NB221_201.out, NB202_221.out, NB221_202.out, NB222_221.out, NB221_222.out, GW222.out, GE222.out, NB201_222.out, NB222_201.out, NB202_222.out, NB222_202.out, (bq4 HB.out GE201.out GE202.out GE222.out GE221.out)⟩))))
 ·(
 skip
 rintro gb221 w9 ⟨hS_, h0_, h1_, h2_, h3_, h4_, h5_, h6_, h7_, h8_, h9_⟩
 have n0_ : Aside0 (w9.heap[gb201]? = some (.cells #[.int .i64 a0_0, .int .i64 a0_1, .int .i64 a0_2, .int .i64 a0_3, .int .i64 a0_4, .int .i64 a0_5, .int .i64 a0_6, .int .i64 a0_7, .int .i64 a0_8] 28 (0, 0))) := ⟨h0_⟩
 have n1_ : Aside0 (w9.heap[gb202]? = some (.cells #[.int .i64 a1_0, .int .i64 a1_1, .int .i64 a1_2, .int .i64 a1_3, .int .i64 a1_4, .int .i64 a1_5, .int .i64 a1_6, .int .i64 a1_7, .int .i64 a1_8] 28 (0, 0))) := ⟨h1_⟩
 have n2_ : Aside0 (w9.heap[gb221]? = some (.cells #[.int .i64 0, .int .i64 0, .int .i64 0, .int .i64 0, .int .i64 0, .int .i64 0, .int .i64 0, .int .i64 0, .int .i64 0] 55 (0, 0))) := ⟨h2_⟩
 have n3_ : Aside0 (w.heap.size ≤ gb221) := ⟨h3_⟩
 have n4_ : Aside0 (w.heap.size ≤ gb221) := ⟨h4_⟩
 have n5_ : Aside0 (gb201 ≠ gb221) := ⟨h5_⟩
 have n6_ : Aside0 (gb221 ≠ gb201) := ⟨h6_⟩
 have n7_ : Aside0 (gb202 ≠ gb221) := ⟨h7_⟩
 have n8_ : Aside0 (gb221 ≠ gb202) := ⟨h8_⟩
 have n9_ : Aside0 (Below w.heap.size w w9) := ⟨h9_⟩
 clear BK201
 clear BK202
 clear HB
 clear h0_ h1_ h2_ h3_ h4_ h5_ h6_ h7_ h8_ h9_
 have BK201 := n0_
 have BK202 := n1_
 have BK221 := n2_
 have GW221 := n3_
 have GE221 := n4_
 have NB201_221 := n5_
 have NB221_201 := n6_
 have NB202_221 := n7_
 have NB221_202 := n8_
 have HB := n9_
 clear n0_ n1_ n2_ n3_ n4_ n5_ n6_ n7_ n8_ n9_
 have hHeld : determinant_Compare.S18 gb201 gb202 (.int .i64 a0_0) (.int .i64 a0_1) (.int .i64 a0_2) (.int .i64 a0_3) (.int .i64 a0_4) (.int .i64 a0_5) (.int .i64 a0_6) (.int .i64 a0_7) (.int .i64 a0_8) (.int .i64 a1_0) (.int .i64 a1_1) (.int .i64 a1_2) (.int .i64 a1_3) (.int .i64 a1_4) (.int .i64 a1_5) (.int .i64 a1_6) (.int .i64 a1_7) (.int .i64 a1_8) w9 := hS_
 refine norm_ (a' := ?_) ?_ ?_
 rotate_left
 ·(
 simp only [putAll, Act.put, List.setIfInBounds_toArray, List.set_cons_zero, List.set_cons_succ]
 rfl)
 refine two_ (i := 1) (j := 5) (Ni := some 9) (Nj := some 6) (bm 8 23) (bm 8 53) rfl rfl rfl rfl (two_of HT_.out (by kernel_rfl)) (by decide) (by decide) (fun K hK => ?_) (fun K hK => ?_)
 ·(
 skip
 refine gs Try.func31 #[.agg #[.int .i64 a0_0, .int .i64 a0_1, .int .i64 a0_2, .int .i64 a0_3, .int .i64 a0_4, .int .i64 a0_5, .int .i64 a0_6, .int .i64 a0_7, .int .i64 a0_8]] ?_
 with_reducible refine (determinant_fields.calls a0_0 a0_1 a0_2 a0_3 a0_4 a0_5 a0_6 a0_7 a0_8 t203 t204 t205 t206 t207 t208 t209 t210 t211 _ A3.out).mono ?_
 rintro e w10 ⟨rfl, hb⟩
 refine ⟨_, rfl, ?_⟩
 have n0_ := Aside0.mk (bb BK201.out hb)
 have n1_ := Aside0.mk (bb BK202.out hb)
 have n2_ := Aside0.mk (bb BK221.out hb)
 have n3_ := Aside0.mk (below_step (bq3 HB.out GE201.out GE202.out GE221.out) hb)
 clear BK201
 clear BK202
 clear BK221
 clear HB
 have BK201 := n0_
 have BK202 := n1_
 have BK221 := n2_
 have HB := n3_
 clear n0_ n1_ n2_ n3_
 (try clear hb)
 (try clear hb2)
 (try clear hk)
 (try clear hi)
 refine hK.out _ _ (determinant_Compare.held9 BK201.out BK202.out) (fun hHeld => ?_)
 clear hK K
 refine nrm 9 ?_
 exact norm_ (by first | (simp only [putAll, Act.put, List.setIfInBounds_toArray, List.set_cons_zero, List.set_cons_succ]; done) | (simp only [putAll, Act.put, List.setIfInBounds_toArray, List.set_cons_zero, List.set_cons_succ]; rfl)) (hJ1_4 (gb221) _ ⟨hHeld, (kq BK201.out), (kq BK202.out), (kq BK221.out), GW221.out, GE221.out, NB201_221.out, NB221_201.out, NB202_221.out, NB221_202.out, (bq3 HB.out GE201.out GE202.out GE221.out)⟩))
 ·(
 skip
 refine box_step ?hg (N := 6) ?hd (cs := #[.int .i64 0, .int .i64 0, .int .i64 0, .int .i64 0, .int .i64 0, .int .i64 0, .int .i64 0, .int .i64 0, .int .i64 0]) (t := 55) ?hr ?_; (case hd => rfl); (case hg => rfl); (case hr => first | (go_simp; done) | (go_simp; rfl))
 intro gb222 hg w10 hbox hb
 have n0_ := Aside0.mk (bb BK201.out hb)
 have n1_ := Aside0.mk (bb BK202.out hb)
 have n2_ := Aside0.mk (bb BK221.out hb)
 have n3_ := Aside0.mk (below_step (bq3 HB.out GE201.out GE202.out GE221.out) hb)
 have n4_ := Aside0.mk (hbox)
 have n5_ := Aside0.mk ((by rw [hg]; exact (below_size (bq3 HB.out GE201.out GE202.out GE221.out)) : w.heap.size ≤ gb222))
 have n6_ := Aside0.mk ((by rw [hg]; exact (below_size (bq3 HB.out GE201.out GE202.out GE221.out)) : w.heap.size ≤ gb222))
 have n7_ := Aside0.mk ((nlt hg BK201.out : gb201 ≠ gb222))
 have n8_ := Aside0.mk ((by rw [hg]; exact Nat.ne_of_gt (blk_lt (g := gb201) (o := .cells #[.int .i64 a0_0, .int .i64 a0_1, .int .i64 a0_2, .int .i64 a0_3, .int .i64 a0_4, .int .i64 a0_5, .int .i64 a0_6, .int .i64 a0_7, .int .i64 a0_8] 28 (0, 0)) (kq BK201.out)) : gb222 ≠ gb201))
 have n9_ := Aside0.mk ((nlt hg BK202.out : gb202 ≠ gb222))
 have n10_ := Aside0.mk ((by rw [hg]; exact Nat.ne_of_gt (blk_lt (g := gb202) (o := .cells #[.int .i64 a1_0, .int .i64 a1_1, .int .i64 a1_2, .int .i64 a1_3, .int .i64 a1_4, .int .i64 a1_5, .int .i64 a1_6, .int .i64 a1_7, .int .i64 a1_8] 28 (0, 0)) (kq BK202.out)) : gb222 ≠ gb202))
 have n11_ := Aside0.mk ((nlt hg BK221.out : gb221 ≠ gb222))
 have n12_ := Aside0.mk ((by rw [hg]; exact Nat.ne_of_gt (blk_lt (g := gb221) (o := .cells #[.int .i64 0, .int .i64 0, .int .i64 0, .int .i64 0, .int .i64 0, .int .i64 0, .int .i64 0, .int .i64 0, .int .i64 0] 55 (0, 0)) (kq BK221.out)) : gb222 ≠ gb221))
 clear BK201
 clear BK202
 clear BK221
 clear HB
 have BK201 := n0_
 have BK202 := n1_
 have BK221 := n2_
 have HB := n3_
 have BK222 := n4_
 have GW222 := n5_
 have GE222 := n6_
 have NB201_222 := n7_
 have NB222_201 := n8_
 have NB202_222 := n9_
 have NB222_202 := n10_
 have NB221_222 := n11_
 have NB222_221 := n12_
 clear n0_ n1_ n2_ n3_ n4_ n5_ n6_ n7_ n8_ n9_ n10_ n11_ n12_
 clear hb hbox hg
 refine hK.out _ _ (determinant_Compare.held9 BK201.out BK202.out) (fun hHeld => ?_)
 clear hK K
 refine nrm 6 ?_
 exact norm_ (by first | (simp only [putAll, Act.put, List.setIfInBounds_toArray, List.set_cons_zero, List.set_cons_succ]; done) | (simp only [putAll, Act.put, List.setIfInBounds_toArray, List.set_cons_zero, List.set_cons_succ]; rfl)) (hJ4_5 (gb221, gb222) _ ⟨hHeld, (kq BK201.out), (kq BK202.out), (kq BK221.out), (kq BK222.out), GW221.out, GE221.out, NB201_221.out, NB221_201.out, NB202_221.out, NB221_202.out, NB222_221.out, NB221_222.out, GW222.out, GE222.out, NB201_222.out, NB222_201.out, NB202_222.out, NB222_202.out, (bq4 HB.out GE201.out GE202.out GE221.out GE222.out)⟩))))
 ·(
 skip
 rintro _ w9 ⟨hS_, h0_, h1_, h2_⟩
 have n0_ : Aside0 (w9.heap[gb201]? = some (.cells #[.int .i64 a0_0, .int .i64 a0_1, .int .i64 a0_2, .int .i64 a0_3, .int .i64 a0_4, .int .i64 a0_5, .int .i64 a0_6, .int .i64 a0_7, .int .i64 a0_8] 28 (0, 0))) := ⟨h0_⟩
 have n1_ : Aside0 (w9.heap[gb202]? = some (.cells #[.int .i64 a1_0, .int .i64 a1_1, .int .i64 a1_2, .int .i64 a1_3, .int .i64 a1_4, .int .i64 a1_5, .int .i64 a1_6, .int .i64 a1_7, .int .i64 a1_8] 28 (0, 0))) := ⟨h1_⟩
 have n2_ : Aside0 (Below w.heap.size w w9) := ⟨h2_⟩
 clear BK201
 clear BK202
 clear HB
 clear h0_ h1_ h2_
 have BK201 := n0_
 have BK202 := n1_
 have HB := n2_
 clear n0_ n1_ n2_
 have hHeld : determinant_Compare.S18 gb201 gb202 (.int .i64 a0_0) (.int .i64 a0_1) (.int .i64 a0_2) (.int .i64 a0_3) (.int .i64 a0_4) (.int .i64 a0_5) (.int .i64 a0_6) (.int .i64 a0_7) (.int .i64 a0_8) (.int .i64 a1_0) (.int .i64 a1_1) (.int .i64 a1_2) (.int .i64 a1_3) (.int .i64 a1_4) (.int .i64 a1_5) (.int .i64 a1_6) (.int .i64 a1_7) (.int .i64 a1_8) w9 := hS_
 refine norm_ (a' := ?_) ?_ ?_
 rotate_left
 ·(
 simp only [putAll, Act.put, List.setIfInBounds_toArray, List.set_cons_zero, List.set_cons_succ]
 rfl)
 refine three_ (i := 3) (j := 4) (k := 5) (Ni := some 11) (Nj := some 5) (Nk := some 6) #[true, true, true, true, false, false, false, false] #[true, true, true, false, true, false, false, false] #[true, true, true, false, false, true, false, false] rfl rfl rfl rfl rfl rfl (three_of HT_.out (by kernel_rfl)) (by decide) (by decide) (by decide) (fun K hK => ?_) (fun K hK => ?_) (fun K hK => ?_)
 ·(
 skip
 refine gs Try.func31 #[.agg #[.int .i64 a1_0, .int .i64 a1_1, .int .i64 a1_2, .int .i64 a1_3, .int .i64 a1_4, .int .i64 a1_5, .int .i64 a1_6, .int .i64 a1_7, .int .i64 a1_8]] ?_
 with_reducible refine (determinant_fields.calls a1_0 a1_1 a1_2 a1_3 a1_4 a1_5 a1_6 a1_7 a1_8 t212 t213 t214 t215 t216 t217 t218 t219 t220 _ A4.out).mono ?_
 rintro e w10 ⟨rfl, hb⟩
 refine ⟨_, rfl, ?_⟩
 have n0_ := Aside0.mk (bb BK201.out hb)
 have n1_ := Aside0.mk (bb BK202.out hb)
 have n2_ := Aside0.mk (below_step (bq2 HB.out GE201.out GE202.out) hb)
 clear BK201
 clear BK202
 clear HB
 have BK201 := n0_
 have BK202 := n1_
 have HB := n2_
 clear n0_ n1_ n2_
 (try clear hb)
 (try clear hb2)
 (try clear hk)
 (try clear hi)
 refine hK.out _ _ (determinant_Compare.held9 BK201.out BK202.out) (fun hHeld => ?_)
 clear hK K
 refine nrm 11 ?_
 exact norm_ (by first | (simp only [putAll, Act.put, List.setIfInBounds_toArray, List.set_cons_zero, List.set_cons_succ]; done) | (simp only [putAll, Act.put, List.setIfInBounds_toArray, List.set_cons_zero, List.set_cons_succ]; rfl)) (hJ1_3 () _ ⟨hHeld, (kq BK201.out), (kq BK202.out), (bq2 HB.out GE201.out GE202.out)⟩))
 ·(
 skip
 refine box_step ?hg (N := 5) ?hd (cs := #[.int .i64 0, .int .i64 0, .int .i64 0, .int .i64 0, .int .i64 0, .int .i64 0, .int .i64 0, .int .i64 0, .int .i64 0]) (t := 55) ?hr ?_; (case hd => rfl); (case hg => rfl); (case hr => first | (go_simp; done) | (go_simp; rfl))
 intro gb221 hg w10 hbox hb
 have n0_ := Aside0.mk (bb BK201.out hb)
 have n1_ := Aside0.mk (bb BK202.out hb)
 have n2_ := Aside0.mk (below_step (bq2 HB.out GE201.out GE202.out) hb)
 have n3_ := Aside0.mk (hbox)
 have n4_ := Aside0.mk ((by rw [hg]; exact (below_size (bq2 HB.out GE201.out GE202.out)) : w.heap.size ≤ gb221))
 have n5_ := Aside0.mk ((by rw [hg]; exact (below_size (bq2 HB.out GE201.out GE202.out)) : w.heap.size ≤ gb221))
 have n6_ := Aside0.mk ((nlt hg BK201.out : gb201 ≠ gb221))
 have n7_ := Aside0.mk ((by rw [hg]; exact Nat.ne_of_gt (blk_lt (g := gb201) (o := .cells #[.int .i64 a0_0, .int .i64 a0_1, .int .i64 a0_2, .int .i64 a0_3, .int .i64 a0_4, .int .i64 a0_5, .int .i64 a0_6, .int .i64 a0_7, .int .i64 a0_8] 28 (0, 0)) (kq BK201.out)) : gb221 ≠ gb201))
 have n8_ := Aside0.mk ((nlt hg BK202.out : gb202 ≠ gb221))
 have n9_ := Aside0.mk ((by rw [hg]; exact Nat.ne_of_gt (blk_lt (g := gb202) (o := .cells #[.int .i64 a1_0, .int .i64 a1_1, .int .i64 a1_2, .int .i64 a1_3, .int .i64 a1_4, .int .i64 a1_5, .int .i64 a1_6, .int .i64 a1_7, .int .i64 a1_8] 28 (0, 0)) (kq BK202.out)) : gb221 ≠ gb202))
 clear BK201
 clear BK202
 clear HB
 have BK201 := n0_
 have BK202 := n1_
 have HB := n2_
 have BK221 := n3_
 have GW221 := n4_
 have GE221 := n5_
 have NB201_221 := n6_
 have NB221_201 := n7_
 have NB202_221 := n8_
 have NB221_202 := n9_
 clear n0_ n1_ n2_ n3_ n4_ n5_ n6_ n7_ n8_ n9_
 clear hb hbox hg
 refine hK.out _ _ (determinant_Compare.held9 BK201.out BK202.out) (fun hHeld => ?_)
 clear hK K
 refine nrm 5 ?_
 exact norm_ (by first | (simp only [putAll, Act.put, List.setIfInBounds_toArray, List.set_cons_zero, List.set_cons_succ]; done) | (simp only [putAll, Act.put, List.setIfInBounds_toArray, List.set_cons_zero, List.set_cons_succ]; rfl)) (hJ1_4 (gb221) _ ⟨hHeld, (kq BK201.out), (kq BK202.out), (kq BK221.out), GW221.out, GE221.out, NB201_221.out, NB221_201.out, NB202_221.out, NB221_202.out, (bq3 HB.out GE201.out GE202.out GE221.out)⟩))
 ·(
 skip
 refine box_step ?hg (N := 6) ?hd (cs := #[.int .i64 0, .int .i64 0, .int .i64 0, .int .i64 0, .int .i64 0, .int .i64 0, .int .i64 0, .int .i64 0, .int .i64 0]) (t := 55) ?hr ?_; (case hd => rfl); (case hg => rfl); (case hr => first | (go_simp; done) | (go_simp; rfl))
 intro gb222 hg w10 hbox hb
 have n0_ := Aside0.mk (bb BK201.out hb)
 have n1_ := Aside0.mk (bb BK202.out hb)
 have n2_ := Aside0.mk (below_step (bq2 HB.out GE201.out GE202.out) hb)
 have n3_ := Aside0.mk (hbox)
 have n4_ := Aside0.mk ((by rw [hg]; exact (below_size (bq2 HB.out GE201.out GE202.out)) : w.heap.size ≤ gb222))
 have n5_ := Aside0.mk ((by rw [hg]; exact (below_size (bq2 HB.out GE201.out GE202.out)) : w.heap.size ≤ gb222))
 have n6_ := Aside0.mk ((nlt hg BK201.out : gb201 ≠ gb222))
 have n7_ := Aside0.mk ((by rw [hg]; exact Nat.ne_of_gt (blk_lt (g := gb201) (o := .cells #[.int .i64 a0_0, .int .i64 a0_1, .int .i64 a0_2, .int .i64 a0_3, .int .i64 a0_4, .int .i64 a0_5, .int .i64 a0_6, .int .i64 a0_7, .int .i64 a0_8] 28 (0, 0)) (kq BK201.out)) : gb222 ≠ gb201))
 have n8_ := Aside0.mk ((nlt hg BK202.out : gb202 ≠ gb222))
 have n9_ := Aside0.mk ((by rw [hg]; exact Nat.ne_of_gt (blk_lt (g := gb202) (o := .cells #[.int .i64 a1_0, .int .i64 a1_1, .int .i64 a1_2, .int .i64 a1_3, .int .i64 a1_4, .int .i64 a1_5, .int .i64 a1_6, .int .i64 a1_7, .int .i64 a1_8] 28 (0, 0)) (kq BK202.out)) : gb222 ≠ gb202))
 clear BK201
 clear BK202
 clear HB
 have BK201 := n0_
 have BK202 := n1_
 have HB := n2_
 have BK222 := n3_
 have GW222 := n4_
 have GE222 := n5_
 have NB201_222 := n6_
 have NB222_201 := n7_
 have NB202_222 := n8_
 have NB222_202 := n9_
 clear n0_ n1_ n2_ n3_ n4_ n5_ n6_ n7_ n8_ n9_
 clear hb hbox hg
 refine hK.out _ _ (determinant_Compare.held9 BK201.out BK202.out) (fun hHeld => ?_)
 clear hK K
 refine nrm 6 ?_
 exact norm_ (by first | (simp only [putAll, Act.put, List.setIfInBounds_toArray, List.set_cons_zero, List.set_cons_succ]; done) | (simp only [putAll, Act.put, List.setIfInBounds_toArray, List.set_cons_zero, List.set_cons_succ]; rfl)) (hJ1_5 (gb222) _ ⟨hHeld, (kq BK201.out), (kq BK202.out), (kq BK222.out), GW222.out, GE222.out, NB201_222.out, NB222_201.out, NB202_222.out, NB222_202.out, (bq3 HB.out GE201.out GE202.out GE222.out)⟩))))
 ·(
 skip
 rintro ⟨gb221, gb222⟩ w10 ⟨hS_, h0_, h1_, h2_, h3_, h4_, h5_, h6_, h7_, h8_, h9_, h10_, h11_, h12_, h13_, h14_, h15_, h16_, h17_, h18_⟩
 have n0_ : Aside0 (w10.heap[gb201]? = some (.cells #[.int .i64 a0_0, .int .i64 a0_1, .int .i64 a0_2, .int .i64 a0_3, .int .i64 a0_4, .int .i64 a0_5, .int .i64 a0_6, .int .i64 a0_7, .int .i64 a0_8] 28 (0, 0))) := ⟨h0_⟩
 have n1_ : Aside0 (w10.heap[gb202]? = some (.cells #[.int .i64 a1_0, .int .i64 a1_1, .int .i64 a1_2, .int .i64 a1_3, .int .i64 a1_4, .int .i64 a1_5, .int .i64 a1_6, .int .i64 a1_7, .int .i64 a1_8] 28 (0, 0))) := ⟨h1_⟩
 have n2_ : Aside0 (w10.heap[gb221]? = some (.cells #[.int .i64 0, .int .i64 0, .int .i64 0, .int .i64 0, .int .i64 0, .int .i64 0, .int .i64 0, .int .i64 0, .int .i64 0] 55 (0, 0))) := ⟨h2_⟩
 have n3_ : Aside0 (w10.heap[gb222]? = some (.cells #[.int .i64 0, .int .i64 0, .int .i64 0, .int .i64 0, .int .i64 0, .int .i64 0, .int .i64 0, .int .i64 0, .int .i64 0] 55 (0, 0))) := ⟨h3_⟩
 have n4_ : Aside0 (w.heap.size ≤ gb221) := ⟨h4_⟩
 have n5_ : Aside0 (w.heap.size ≤ gb221) := ⟨h5_⟩
 have n6_ : Aside0 (gb201 ≠ gb221) := ⟨h6_⟩
 have n7_ : Aside0 (gb221 ≠ gb201) := ⟨h7_⟩
 have n8_ : Aside0 (gb202 ≠ gb221) := ⟨h8_⟩
 have n9_ : Aside0 (gb221 ≠ gb202) := ⟨h9_⟩
 have n10_ : Aside0 (gb222 ≠ gb221) := ⟨h10_⟩
 have n11_ : Aside0 (gb221 ≠ gb222) := ⟨h11_⟩
 have n12_ : Aside0 (w.heap.size ≤ gb222) := ⟨h12_⟩
 have n13_ : Aside0 (w.heap.size ≤ gb222) := ⟨h13_⟩
 have n14_ : Aside0 (gb201 ≠ gb222) := ⟨h14_⟩
 have n15_ : Aside0 (gb222 ≠ gb201) := ⟨h15_⟩
 have n16_ : Aside0 (gb202 ≠ gb222) := ⟨h16_⟩
 have n17_ : Aside0 (gb222 ≠ gb202) := ⟨h17_⟩
 have n18_ : Aside0 (Below w.heap.size w w10) := ⟨h18_⟩
 clear BK201
 clear BK202
 clear HB
 clear h0_ h1_ h2_ h3_ h4_ h5_ h6_ h7_ h8_ h9_ h10_ h11_ h12_ h13_ h14_ h15_ h16_ h17_ h18_
 have BK201 := n0_
 have BK202 := n1_
 have BK221 := n2_
 have BK222 := n3_
 have GW221 := n4_
 have GE221 := n5_
 have NB201_221 := n6_
 have NB221_201 := n7_
 have NB202_221 := n8_
 have NB221_202 := n9_
 have NB222_221 := n10_
 have NB221_222 := n11_
 have GW222 := n12_
 have GE222 := n13_
 have NB201_222 := n14_
 have NB222_201 := n15_
 have NB202_222 := n16_
 have NB222_202 := n17_
 have HB := n18_
 clear n0_ n1_ n2_ n3_ n4_ n5_ n6_ n7_ n8_ n9_ n10_ n11_ n12_ n13_ n14_ n15_ n16_ n17_ n18_
 have hHeld : determinant_Compare.S18 gb201 gb202 (.int .i64 a0_0) (.int .i64 a0_1) (.int .i64 a0_2) (.int .i64 a0_3) (.int .i64 a0_4) (.int .i64 a0_5) (.int .i64 a0_6) (.int .i64 a0_7) (.int .i64 a0_8) (.int .i64 a1_0) (.int .i64 a1_1) (.int .i64 a1_2) (.int .i64 a1_3) (.int .i64 a1_4) (.int .i64 a1_5) (.int .i64 a1_6) (.int .i64 a1_7) (.int .i64 a1_8) w10 := hS_
 refine norm_ (a' := ?_) ?_ ?_
 rotate_left
 ·(
 simp only [putAll, Act.put, List.setIfInBounds_toArray, List.set_cons_zero, List.set_cons_succ]
 rfl)
 refine one_ (i := 1) (N := some 9) (bm 8 55) rfl rfl (one_of HT_.out (by kernel_rfl)) (by decide) (fun K hK => ?_)
 refine gs Try.func31 #[.agg #[.int .i64 a0_0, .int .i64 a0_1, .int .i64 a0_2, .int .i64 a0_3, .int .i64 a0_4, .int .i64 a0_5, .int .i64 a0_6, .int .i64 a0_7, .int .i64 a0_8]] ?_
 with_reducible refine (determinant_fields.calls a0_0 a0_1 a0_2 a0_3 a0_4 a0_5 a0_6 a0_7 a0_8 t203 t204 t205 t206 t207 t208 t209 t210 t211 _ A3.out).mono ?_
 rintro e w11 ⟨rfl, hb⟩
 refine ⟨_, rfl, ?_⟩
 have n0_ := Aside0.mk (bb BK201.out hb)
 have n1_ := Aside0.mk (bb BK202.out hb)
 have n2_ := Aside0.mk (bb BK221.out hb)
 have n3_ := Aside0.mk (bb BK222.out hb)
 have n4_ := Aside0.mk (below_step (bq4 HB.out GE201.out GE202.out GE221.out GE222.out) hb)
 clear BK201
 clear BK202
 clear BK221
 clear BK222
 clear HB
 have BK201 := n0_
 have BK202 := n1_
 have BK221 := n2_
 have BK222 := n3_
 have HB := n4_
 clear n0_ n1_ n2_ n3_ n4_
 (try clear hb)
 (try clear hb2)
 (try clear hk)
 (try clear hi)
 refine hK.out _ _ (determinant_Compare.held9 BK201.out BK202.out) (fun hHeld => ?_)
 clear hK K
 refine nrm 9 ?_
 exact norm_ (by first | (simp only [putAll, Act.put, List.setIfInBounds_toArray, List.set_cons_zero, List.set_cons_succ]; done) | (simp only [putAll, Act.put, List.setIfInBounds_toArray, List.set_cons_zero, List.set_cons_succ]; rfl)) (hJ1_4_5 (gb221, gb222) _ ⟨hHeld, (kq BK201.out), (kq BK202.out), (kq BK221.out), (kq BK222.out), GW221.out, GE221.out, NB201_221.out, NB221_201.out, NB202_221.out, NB221_202.out, NB222_221.out, NB221_222.out, GW222.out, GE222.out, NB201_222.out, NB222_201.out, NB202_222.out, NB222_202.out, (bq4 HB.out GE201.out GE202.out GE221.out GE222.out)⟩)))
 ·(
 skip
 rintro gb222 w10 ⟨hS_, h0_, h1_, h2_, h3_, h4_, h5_, h6_, h7_, h8_, h9_⟩
 have n0_ : Aside0 (w10.heap[gb201]? = some (.cells #[.int .i64 a0_0, .int .i64 a0_1, .int .i64 a0_2, .int .i64 a0_3, .int .i64 a0_4, .int .i64 a0_5, .int .i64 a0_6, .int .i64 a0_7, .int .i64 a0_8] 28 (0, 0))) := ⟨h0_⟩
 have n1_ : Aside0 (w10.heap[gb202]? = some (.cells #[.int .i64 a1_0, .int .i64 a1_1, .int .i64 a1_2, .int .i64 a1_3, .int .i64 a1_4, .int .i64 a1_5, .int .i64 a1_6, .int .i64 a1_7, .int .i64 a1_8] 28 (0, 0))) := ⟨h1_⟩
 have n2_ : Aside0 (w10.heap[gb222]? = some (.cells #[.int .i64 0, .int .i64 0, .int .i64 0, .int .i64 0, .int .i64 0, .int .i64 0, .int .i64 0, .int .i64 0, .int .i64 0] 55 (0, 0))) := ⟨h2_⟩
 have n3_ : Aside0 (w.heap.size ≤ gb222) := ⟨h3_⟩
 have n4_ : Aside0 (w.heap.size ≤ gb222) := ⟨h4_⟩
 have n5_ : Aside0 (gb201 ≠ gb222) := ⟨h5_⟩
 have n6_ : Aside0 (gb222 ≠ gb201) := ⟨h6_⟩
 have n7_ : Aside0 (gb202 ≠ gb222) := ⟨h7_⟩
 have n8_ : Aside0 (gb222 ≠ gb202) := ⟨h8_⟩
 have n9_ : Aside0 (Below w.heap.size w w10) := ⟨h9_⟩
 clear BK201
 clear BK202
 clear HB
 clear h0_ h1_ h2_ h3_ h4_ h5_ h6_ h7_ h8_ h9_
 have BK201 := n0_
 have BK202 := n1_
 have BK222 := n2_
 have GW222 := n3_
 have GE222 := n4_
 have NB201_222 := n5_
 have NB222_201 := n6_
 have NB202_222 := n7_
 have NB222_202 := n8_
 have HB := n9_
 clear n0_ n1_ n2_ n3_ n4_ n5_ n6_ n7_ n8_ n9_
 have hHeld : determinant_Compare.S18 gb201 gb202 (.int .i64 a0_0) (.int .i64 a0_1) (.int .i64 a0_2) (.int .i64 a0_3) (.int .i64 a0_4) (.int .i64 a0_5) (.int .i64 a0_6) (.int .i64 a0_7) (.int .i64 a0_8) (.int .i64 a1_0) (.int .i64 a1_1) (.int .i64 a1_2) (.int .i64 a1_3) (.int .i64 a1_4) (.int .i64 a1_5) (.int .i64 a1_6) (.int .i64 a1_7) (.int .i64 a1_8) w10 := hS_
 refine norm_ (a' := ?_) ?_ ?_
 rotate_left
 ·(
 simp only [putAll, Act.put, List.setIfInBounds_toArray, List.set_cons_zero, List.set_cons_succ]
 rfl)
 refine two_ (i := 3) (j := 4) (Ni := some 11) (Nj := some 5) (bm 8 47) (bm 8 55) rfl rfl rfl rfl (two_of HT_.out (by kernel_rfl)) (by decide) (by decide) (fun K hK => ?_) (fun K hK => ?_)
 ·(
 skip
 refine gs Try.func31 #[.agg #[.int .i64 a1_0, .int .i64 a1_1, .int .i64 a1_2, .int .i64 a1_3, .int .i64 a1_4, .int .i64 a1_5, .int .i64 a1_6, .int .i64 a1_7, .int .i64 a1_8]] ?_
 with_reducible refine (determinant_fields.calls a1_0 a1_1 a1_2 a1_3 a1_4 a1_5 a1_6 a1_7 a1_8 t212 t213 t214 t215 t216 t217 t218 t219 t220 _ A4.out).mono ?_
 rintro e w11 ⟨rfl, hb⟩
 refine ⟨_, rfl, ?_⟩
 have n0_ := Aside0.mk (bb BK201.out hb)
 have n1_ := Aside0.mk (bb BK202.out hb)
 have n2_ := Aside0.mk (bb BK222.out hb)
 have n3_ := Aside0.mk (below_step (bq3 HB.out GE201.out GE202.out GE222.out) hb)
 clear BK201
 clear BK202
 clear BK222
 clear HB
 have BK201 := n0_
 have BK202 := n1_
 have BK222 := n2_
 have HB := n3_
 clear n0_ n1_ n2_ n3_
 (try clear hb)
 (try clear hb2)
 (try clear hk)
 (try clear hi)
 refine hK.out _ _ (determinant_Compare.held9 BK201.out BK202.out) (fun hHeld => ?_)
 clear hK K
 refine nrm 11 ?_
 exact norm_ (by first | (simp only [putAll, Act.put, List.setIfInBounds_toArray, List.set_cons_zero, List.set_cons_succ]; done) | (simp only [putAll, Act.put, List.setIfInBounds_toArray, List.set_cons_zero, List.set_cons_succ]; rfl)) (hJ1_3_5 (gb222) _ ⟨hHeld, (kq BK201.out), (kq BK202.out), (kq BK222.out), GW222.out, GE222.out, NB201_222.out, NB222_201.out, NB202_222.out, NB222_202.out, (bq3 HB.out GE201.out GE202.out GE222.out)⟩))
 ·(
 skip
 refine box_step ?hg (N := 5) ?hd (cs := #[.int .i64 0, .int .i64 0, .int .i64 0, .int .i64 0, .int .i64 0, .int .i64 0, .int .i64 0, .int .i64 0, .int .i64 0]) (t := 55) ?hr ?_; (case hd => rfl); (case hg => rfl); (case hr => first | (go_simp; done) | (go_simp; rfl))
 intro gb221 hg w11 hbox hb
 have n0_ := Aside0.mk (bb BK201.out hb)
 have n1_ := Aside0.mk (bb BK202.out hb)
 have n2_ := Aside0.mk (bb BK222.out hb)
 have n3_ := Aside0.mk (below_step (bq3 HB.out GE201.out GE202.out GE222.out) hb)
 have n4_ := Aside0.mk (hbox)
 have n5_ := Aside0.mk ((by rw [hg]; exact (below_size (bq3 HB.out GE201.out GE202.out GE222.out)) : w.heap.size ≤ gb221))
 have n6_ := Aside0.mk ((by rw [hg]; exact (below_size (bq3 HB.out GE201.out GE202.out GE222.out)) : w.heap.size ≤ gb221))
 have n7_ := Aside0.mk ((nlt hg BK201.out : gb201 ≠ gb221))
 have n8_ := Aside0.mk ((by rw [hg]; exact Nat.ne_of_gt (blk_lt (g := gb201) (o := .cells #[.int .i64 a0_0, .int .i64 a0_1, .int .i64 a0_2, .int .i64 a0_3, .int .i64 a0_4, .int .i64 a0_5, .int .i64 a0_6, .int .i64 a0_7, .int .i64 a0_8] 28 (0, 0)) (kq BK201.out)) : gb221 ≠ gb201))
 have n9_ := Aside0.mk ((nlt hg BK202.out : gb202 ≠ gb221))
 have n10_ := Aside0.mk ((by rw [hg]; exact Nat.ne_of_gt (blk_lt (g := gb202) (o := .cells #[.int .i64 a1_0, .int .i64 a1_1, .int .i64 a1_2, .int .i64 a1_3, .int .i64 a1_4, .int .i64 a1_5, .int .i64 a1_6, .int .i64 a1_7, .int .i64 a1_8] 28 (0, 0)) (kq BK202.out)) : gb221 ≠ gb202))
 have n11_ := Aside0.mk ((nlt hg BK222.out : gb222 ≠ gb221))
 have n12_ := Aside0.mk ((by rw [hg]; exact Nat.ne_of_gt (blk_lt (g := gb222) (o := .cells #[.int .i64 0, .int .i64 0, .int .i64 0, .int .i64 0, .int .i64 0, .int .i64 0, .int .i64 0, .int .i64 0, .int .i64 0] 55 (0, 0)) (kq BK222.out)) : gb221 ≠ gb222))
 clear BK201
 clear BK202
 clear BK222
 clear HB
 have BK201 := n0_
 have BK202 := n1_
 have BK222 := n2_
 have HB := n3_
 have BK221 := n4_
 have GW221 := n5_
 have GE221 := n6_
 have NB201_221 := n7_
 have NB221_201 := n8_
 have NB202_221 := n9_
 have NB221_202 := n10_
 have NB222_221 := n11_
 have NB221_222 := n12_
 clear n0_ n1_ n2_ n3_ n4_ n5_ n6_ n7_ n8_ n9_ n10_ n11_ n12_
 clear hb hbox hg
 refine hK.out _ _ (determinant_Compare.held9 BK201.out BK202.out) (fun hHeld => ?_)
 clear hK K
 refine nrm 5 ?_
 exact norm_ (by first | (simp only [putAll, Act.put, List.setIfInBounds_toArray, List.set_cons_zero, List.set_cons_succ]; done) | (simp only [putAll, Act.put, List.setIfInBounds_toArray, List.set_cons_zero, List.set_cons_succ]; rfl)) (hJ1_4_5 (gb221, gb222) _ ⟨hHeld, (kq BK201.out), (kq BK202.out), (kq BK221.out), (kq BK222.out), GW221.out, GE221.out, NB201_221.out, NB221_201.out, NB202_221.out, NB221_202.out, NB222_221.out, NB221_222.out, GW222.out, GE222.out, NB201_222.out, NB222_201.out, NB202_222.out, NB222_202.out, (bq4 HB.out GE201.out GE202.out GE222.out GE221.out)⟩))))
 ·(
 skip
 rintro gb221 w10 ⟨hS_, h0_, h1_, h2_, h3_, h4_, h5_, h6_, h7_, h8_, h9_⟩
 have n0_ : Aside0 (w10.heap[gb201]? = some (.cells #[.int .i64 a0_0, .int .i64 a0_1, .int .i64 a0_2, .int .i64 a0_3, .int .i64 a0_4, .int .i64 a0_5, .int .i64 a0_6, .int .i64 a0_7, .int .i64 a0_8] 28 (0, 0))) := ⟨h0_⟩
 have n1_ : Aside0 (w10.heap[gb202]? = some (.cells #[.int .i64 a1_0, .int .i64 a1_1, .int .i64 a1_2, .int .i64 a1_3, .int .i64 a1_4, .int .i64 a1_5, .int .i64 a1_6, .int .i64 a1_7, .int .i64 a1_8] 28 (0, 0))) := ⟨h1_⟩
 have n2_ : Aside0 (w10.heap[gb221]? = some (.cells #[.int .i64 0, .int .i64 0, .int .i64 0, .int .i64 0, .int .i64 0, .int .i64 0, .int .i64 0, .int .i64 0, .int .i64 0] 55 (0, 0))) := ⟨h2_⟩
 have n3_ : Aside0 (w.heap.size ≤ gb221) := ⟨h3_⟩
 have n4_ : Aside0 (w.heap.size ≤ gb221) := ⟨h4_⟩
 have n5_ : Aside0 (gb201 ≠ gb221) := ⟨h5_⟩
 have n6_ : Aside0 (gb221 ≠ gb201) := ⟨h6_⟩
 have n7_ : Aside0 (gb202 ≠ gb221) := ⟨h7_⟩
 have n8_ : Aside0 (gb221 ≠ gb202) := ⟨h8_⟩
 have n9_ : Aside0 (Below w.heap.size w w10) := ⟨h9_⟩
 clear BK201
 clear BK202
 clear HB
 clear h0_ h1_ h2_ h3_ h4_ h5_ h6_ h7_ h8_ h9_
 have BK201 := n0_
 have BK202 := n1_
 have BK221 := n2_
 have GW221 := n3_
 have GE221 := n4_
 have NB201_221 := n5_
 have NB221_201 := n6_
 have NB202_221 := n7_
 have NB221_202 := n8_
 have HB := n9_
 clear n0_ n1_ n2_ n3_ n4_ n5_ n6_ n7_ n8_ n9_
 have hHeld : determinant_Compare.S18 gb201 gb202 (.int .i64 a0_0) (.int .i64 a0_1) (.int .i64 a0_2) (.int .i64 a0_3) (.int .i64 a0_4) (.int .i64 a0_5) (.int .i64 a0_6) (.int .i64 a0_7) (.int .i64 a0_8) (.int .i64 a1_0) (.int .i64 a1_1) (.int .i64 a1_2) (.int .i64 a1_3) (.int .i64 a1_4) (.int .i64 a1_5) (.int .i64 a1_6) (.int .i64 a1_7) (.int .i64 a1_8) w10 := hS_
 refine norm_ (a' := ?_) ?_ ?_
 rotate_left
 ·(
 simp only [putAll, Act.put, List.setIfInBounds_toArray, List.set_cons_zero, List.set_cons_succ]
 rfl)
 refine two_ (i := 3) (j := 5) (Ni := some 11) (Nj := some 6) (bm 8 31) (bm 8 55) rfl rfl rfl rfl (two_of HT_.out (by kernel_rfl)) (by decide) (by decide) (fun K hK => ?_) (fun K hK => ?_)
 ·(
 skip
 refine gs Try.func31 #[.agg #[.int .i64 a1_0, .int .i64 a1_1, .int .i64 a1_2, .int .i64 a1_3, .int .i64 a1_4, .int .i64 a1_5, .int .i64 a1_6, .int .i64 a1_7, .int .i64 a1_8]] ?_
 with_reducible refine (determinant_fields.calls a1_0 a1_1 a1_2 a1_3 a1_4 a1_5 a1_6 a1_7 a1_8 t212 t213 t214 t215 t216 t217 t218 t219 t220 _ A4.out).mono ?_
 rintro e w11 ⟨rfl, hb⟩
 refine ⟨_, rfl, ?_⟩
 have n0_ := Aside0.mk (bb BK201.out hb)
 have n1_ := Aside0.mk (bb BK202.out hb)
 have n2_ := Aside0.mk (bb BK221.out hb)
 have n3_ := Aside0.mk (below_step (bq3 HB.out GE201.out GE202.out GE221.out) hb)
 clear BK201
 clear BK202
 clear BK221
 clear HB
 have BK201 := n0_
 have BK202 := n1_
 have BK221 := n2_
 have HB := n3_
 clear n0_ n1_ n2_ n3_
 (try clear hb)
 (try clear hb2)
 (try clear hk)
 (try clear hi)
 refine hK.out _ _ (determinant_Compare.held9 BK201.out BK202.out) (fun hHeld => ?_)
 clear hK K
 refine nrm 11 ?_
 exact norm_ (by first | (simp only [putAll, Act.put, List.setIfInBounds_toArray, List.set_cons_zero, List.set_cons_succ]; done) | (simp only [putAll, Act.put, List.setIfInBounds_toArray, List.set_cons_zero, List.set_cons_succ]; rfl)) (hJ1_3_4 (gb221) _ ⟨hHeld, (kq BK201.out), (kq BK202.out), (kq BK221.out), GW221.out, GE221.out, NB201_221.out, NB221_201.out, NB202_221.out, NB221_202.out, (bq3 HB.out GE201.out GE202.out GE221.out)⟩))
 ·(
 skip
 refine box_step ?hg (N := 6) ?hd (cs := #[.int .i64 0, .int .i64 0, .int .i64 0, .int .i64 0, .int .i64 0, .int .i64 0, .int .i64 0, .int .i64 0, .int .i64 0]) (t := 55) ?hr ?_; (case hd => rfl); (case hg => rfl); (case hr => first | (go_simp; done) | (go_simp; rfl))
 intro gb222 hg w11 hbox hb
 have n0_ := Aside0.mk (bb BK201.out hb)
 have n1_ := Aside0.mk (bb BK202.out hb)
 have n2_ := Aside0.mk (bb BK221.out hb)
 have n3_ := Aside0.mk (below_step (bq3 HB.out GE201.out GE202.out GE221.out) hb)
 have n4_ := Aside0.mk (hbox)
 have n5_ := Aside0.mk ((by rw [hg]; exact (below_size (bq3 HB.out GE201.out GE202.out GE221.out)) : w.heap.size ≤ gb222))
 have n6_ := Aside0.mk ((by rw [hg]; exact (below_size (bq3 HB.out GE201.out GE202.out GE221.out)) : w.heap.size ≤ gb222))
 have n7_ := Aside0.mk ((nlt hg BK201.out : gb201 ≠ gb222))
 have n8_ := Aside0.mk ((by rw [hg]; exact Nat.ne_of_gt (blk_lt (g := gb201) (o := .cells #[.int .i64 a0_0, .int .i64 a0_1, .int .i64 a0_2, .int .i64 a0_3, .int .i64 a0_4, .int .i64 a0_5, .int .i64 a0_6, .int .i64 a0_7, .int .i64 a0_8] 28 (0, 0)) (kq BK201.out)) : gb222 ≠ gb201))
 have n9_ := Aside0.mk ((nlt hg BK202.out : gb202 ≠ gb222))
 have n10_ := Aside0.mk ((by rw [hg]; exact Nat.ne_of_gt (blk_lt (g := gb202) (o := .cells #[.int .i64 a1_0, .int .i64 a1_1, .int .i64 a1_2, .int .i64 a1_3, .int .i64 a1_4, .int .i64 a1_5, .int .i64 a1_6, .int .i64 a1_7, .int .i64 a1_8] 28 (0, 0)) (kq BK202.out)) : gb222 ≠ gb202))
 have n11_ := Aside0.mk ((nlt hg BK221.out : gb221 ≠ gb222))
 have n12_ := Aside0.mk ((by rw [hg]; exact Nat.ne_of_gt (blk_lt (g := gb221) (o := .cells #[.int .i64 0, .int .i64 0, .int .i64 0, .int .i64 0, .int .i64 0, .int .i64 0, .int .i64 0, .int .i64 0, .int .i64 0] 55 (0, 0)) (kq BK221.out)) : gb222 ≠ gb221))
 clear BK201
 clear BK202
 clear BK221
 clear HB
 have BK201 := n0_
 have BK202 := n1_
 have BK221 := n2_
 have HB := n3_
 have BK222 := n4_
 have GW222 := n5_
 have GE222 := n6_
 have NB201_222 := n7_
 have NB222_201 := n8_
 have NB202_222 := n9_
 have NB222_202 := n10_
 have NB221_222 := n11_
 have NB222_221 := n12_
 clear n0_ n1_ n2_ n3_ n4_ n5_ n6_ n7_ n8_ n9_ n10_ n11_ n12_
 clear hb hbox hg
 refine hK.out _ _ (determinant_Compare.held9 BK201.out BK202.out) (fun hHeld => ?_)
 clear hK K
 refine nrm 6 ?_
 exact norm_ (by first | (simp only [putAll, Act.put, List.setIfInBounds_toArray, List.set_cons_zero, List.set_cons_succ]; done) | (simp only [putAll, Act.put, List.setIfInBounds_toArray, List.set_cons_zero, List.set_cons_succ]; rfl)) (hJ1_4_5 (gb221, gb222) _ ⟨hHeld, (kq BK201.out), (kq BK202.out), (kq BK221.out), (kq BK222.out), GW221.out, GE221.out, NB201_221.out, NB221_201.out, NB202_221.out, NB221_202.out, NB222_221.out, NB221_222.out, GW222.out, GE222.out, NB201_222.out, NB222_201.out, NB202_222.out, NB222_202.out, (bq4 HB.out GE201.out GE202.out GE221.out GE222.out)⟩))))
 ·(
 skip
 rintro _ w10 ⟨hS_, h0_, h1_, h2_⟩
 have n0_ : Aside0 (w10.heap[gb201]? = some (.cells #[.int .i64 a0_0, .int .i64 a0_1, .int .i64 a0_2, .int .i64 a0_3, .int .i64 a0_4, .int .i64 a0_5, .int .i64 a0_6, .int .i64 a0_7, .int .i64 a0_8] 28 (0, 0))) := ⟨h0_⟩
 have n1_ : Aside0 (w10.heap[gb202]? = some (.cells #[.int .i64 a1_0, .int .i64 a1_1, .int .i64 a1_2, .int .i64 a1_3, .int .i64 a1_4, .int .i64 a1_5, .int .i64 a1_6, .int .i64 a1_7, .int .i64 a1_8] 28 (0, 0))) := ⟨h1_⟩
 have n2_ : Aside0 (Below w.heap.size w w10) := ⟨h2_⟩
 clear BK201
 clear BK202
 clear HB
 clear h0_ h1_ h2_
 have BK201 := n0_
 have BK202 := n1_
 have HB := n2_
 clear n0_ n1_ n2_
 have hHeld : determinant_Compare.S18 gb201 gb202 (.int .i64 a0_0) (.int .i64 a0_1) (.int .i64 a0_2) (.int .i64 a0_3) (.int .i64 a0_4) (.int .i64 a0_5) (.int .i64 a0_6) (.int .i64 a0_7) (.int .i64 a0_8) (.int .i64 a1_0) (.int .i64 a1_1) (.int .i64 a1_2) (.int .i64 a1_3) (.int .i64 a1_4) (.int .i64 a1_5) (.int .i64 a1_6) (.int .i64 a1_7) (.int .i64 a1_8) w10 := hS_
 refine norm_ (a' := ?_) ?_ ?_
 rotate_left
 ·(
 simp only [putAll, Act.put, List.setIfInBounds_toArray, List.set_cons_zero, List.set_cons_succ]
 rfl)
 refine two_ (i := 4) (j := 5) (Ni := some 5) (Nj := some 6) (bm 8 31) (bm 8 47) rfl rfl rfl rfl (two_of HT_.out (by kernel_rfl)) (by decide) (by decide) (fun K hK => ?_) (fun K hK => ?_)
 ·(
 skip
 refine box_step ?hg (N := 5) ?hd (cs := #[.int .i64 0, .int .i64 0, .int .i64 0, .int .i64 0, .int .i64 0, .int .i64 0, .int .i64 0, .int .i64 0, .int .i64 0]) (t := 55) ?hr ?_; (case hd => rfl); (case hg => rfl); (case hr => first | (go_simp; done) | (go_simp; rfl))
 intro gb221 hg w11 hbox hb
 have n0_ := Aside0.mk (bb BK201.out hb)
 have n1_ := Aside0.mk (bb BK202.out hb)
 have n2_ := Aside0.mk (below_step (bq2 HB.out GE201.out GE202.out) hb)
 have n3_ := Aside0.mk (hbox)
 have n4_ := Aside0.mk ((by rw [hg]; exact (below_size (bq2 HB.out GE201.out GE202.out)) : w.heap.size ≤ gb221))
 have n5_ := Aside0.mk ((by rw [hg]; exact (below_size (bq2 HB.out GE201.out GE202.out)) : w.heap.size ≤ gb221))
 have n6_ := Aside0.mk ((nlt hg BK201.out : gb201 ≠ gb221))
 have n7_ := Aside0.mk ((by rw [hg]; exact Nat.ne_of_gt (blk_lt (g := gb201) (o := .cells #[.int .i64 a0_0, .int .i64 a0_1, .int .i64 a0_2, .int .i64 a0_3, .int .i64 a0_4, .int .i64 a0_5, .int .i64 a0_6, .int .i64 a0_7, .int .i64 a0_8] 28 (0, 0)) (kq BK201.out)) : gb221 ≠ gb201))
 have n8_ := Aside0.mk ((nlt hg BK202.out : gb202 ≠ gb221))
 have n9_ := Aside0.mk ((by rw [hg]; exact Nat.ne_of_gt (blk_lt (g := gb202) (o := .cells #[.int .i64 a1_0, .int .i64 a1_1, .int .i64 a1_2, .int .i64 a1_3, .int .i64 a1_4, .int .i64 a1_5, .int .i64 a1_6, .int .i64 a1_7, .int .i64 a1_8] 28 (0, 0)) (kq BK202.out)) : gb221 ≠ gb202))
 clear BK201
 clear BK202
 clear HB
 have BK201 := n0_
 have BK202 := n1_
 have HB := n2_
 have BK221 := n3_
 have GW221 := n4_
 have GE221 := n5_
 have NB201_221 := n6_
 have NB221_201 := n7_
 have NB202_221 := n8_
 have NB221_202 := n9_
 clear n0_ n1_ n2_ n3_ n4_ n5_ n6_ n7_ n8_ n9_
 clear hb hbox hg
 refine hK.out _ _ (determinant_Compare.held9 BK201.out BK202.out) (fun hHeld => ?_)
 clear hK K
 refine nrm 5 ?_
 exact norm_ (by first | (simp only [putAll, Act.put, List.setIfInBounds_toArray, List.set_cons_zero, List.set_cons_succ]; done) | (simp only [putAll, Act.put, List.setIfInBounds_toArray, List.set_cons_zero, List.set_cons_succ]; rfl)) (hJ1_3_4 (gb221) _ ⟨hHeld, (kq BK201.out), (kq BK202.out), (kq BK221.out), GW221.out, GE221.out, NB201_221.out, NB221_201.out, NB202_221.out, NB221_202.out, (bq3 HB.out GE201.out GE202.out GE221.out)⟩))
 ·(
 skip
 refine box_step ?hg (N := 6) ?hd (cs := #[.int .i64 0, .int .i64 0, .int .i64 0, .int .i64 0, .int .i64 0, .int .i64 0, .int .i64 0, .int .i64 0, .int .i64 0]) (t := 55) ?hr ?_; (case hd => rfl); (case hg => rfl); (case hr => first | (go_simp; done) | (go_simp; rfl))
 intro gb222 hg w11 hbox hb
 have n0_ := Aside0.mk (bb BK201.out hb)
 have n1_ := Aside0.mk (bb BK202.out hb)
 have n2_ := Aside0.mk (below_step (bq2 HB.out GE201.out GE202.out) hb)
 have n3_ := Aside0.mk (hbox)
 have n4_ := Aside0.mk ((by rw [hg]; exact (below_size (bq2 HB.out GE201.out GE202.out)) : w.heap.size ≤ gb222))
 have n5_ := Aside0.mk ((by rw [hg]; exact (below_size (bq2 HB.out GE201.out GE202.out)) : w.heap.size ≤ gb222))
 have n6_ := Aside0.mk ((nlt hg BK201.out : gb201 ≠ gb222))
 have n7_ := Aside0.mk ((by rw [hg]; exact Nat.ne_of_gt (blk_lt (g := gb201) (o := .cells #[.int .i64 a0_0, .int .i64 a0_1, .int .i64 a0_2, .int .i64 a0_3, .int .i64 a0_4, .int .i64 a0_5, .int .i64 a0_6, .int .i64 a0_7, .int .i64 a0_8] 28 (0, 0)) (kq BK201.out)) : gb222 ≠ gb201))
 have n8_ := Aside0.mk ((nlt hg BK202.out : gb202 ≠ gb222))
 have n9_ := Aside0.mk ((by rw [hg]; exact Nat.ne_of_gt (blk_lt (g := gb202) (o := .cells #[.int .i64 a1_0, .int .i64 a1_1, .int .i64 a1_2, .int .i64 a1_3, .int .i64 a1_4, .int .i64 a1_5, .int .i64 a1_6, .int .i64 a1_7, .int .i64 a1_8] 28 (0, 0)) (kq BK202.out)) : gb222 ≠ gb202))
 clear BK201
 clear BK202
 clear HB
 have BK201 := n0_
 have BK202 := n1_
 have HB := n2_
 have BK222 := n3_
 have GW222 := n4_
 have GE222 := n5_
 have NB201_222 := n6_
 have NB222_201 := n7_
 have NB202_222 := n8_
 have NB222_202 := n9_
 clear n0_ n1_ n2_ n3_ n4_ n5_ n6_ n7_ n8_ n9_
 clear hb hbox hg
 refine hK.out _ _ (determinant_Compare.held9 BK201.out BK202.out) (fun hHeld => ?_)
 clear hK K
 refine nrm 6 ?_
 exact norm_ (by first | (simp only [putAll, Act.put, List.setIfInBounds_toArray, List.set_cons_zero, List.set_cons_succ]; done) | (simp only [putAll, Act.put, List.setIfInBounds_toArray, List.set_cons_zero, List.set_cons_succ]; rfl)) (hJ1_3_5 (gb222) _ ⟨hHeld, (kq BK201.out), (kq BK202.out), (kq BK222.out), GW222.out, GE222.out, NB201_222.out, NB222_201.out, NB202_222.out, NB222_202.out, (bq3 HB.out GE201.out GE202.out GE222.out)⟩))))
 ·(
 skip
 rintro ⟨gb221, gb222⟩ w11 ⟨hS_, h0_, h1_, h2_, h3_, h4_, h5_, h6_, h7_, h8_, h9_, h10_, h11_, h12_, h13_, h14_, h15_, h16_, h17_, h18_⟩
 have n0_ : Aside0 (w11.heap[gb201]? = some (.cells #[.int .i64 a0_0, .int .i64 a0_1, .int .i64 a0_2, .int .i64 a0_3, .int .i64 a0_4, .int .i64 a0_5, .int .i64 a0_6, .int .i64 a0_7, .int .i64 a0_8] 28 (0, 0))) := ⟨h0_⟩
 have n1_ : Aside0 (w11.heap[gb202]? = some (.cells #[.int .i64 a1_0, .int .i64 a1_1, .int .i64 a1_2, .int .i64 a1_3, .int .i64 a1_4, .int .i64 a1_5, .int .i64 a1_6, .int .i64 a1_7, .int .i64 a1_8] 28 (0, 0))) := ⟨h1_⟩
 have n2_ : Aside0 (w11.heap[gb221]? = some (.cells #[.int .i64 0, .int .i64 0, .int .i64 0, .int .i64 0, .int .i64 0, .int .i64 0, .int .i64 0, .int .i64 0, .int .i64 0] 55 (0, 0))) := ⟨h2_⟩
 have n3_ : Aside0 (w11.heap[gb222]? = some (.cells #[.int .i64 0, .int .i64 0, .int .i64 0, .int .i64 0, .int .i64 0, .int .i64 0, .int .i64 0, .int .i64 0, .int .i64 0] 55 (0, 0))) := ⟨h3_⟩
 have n4_ : Aside0 (w.heap.size ≤ gb221) := ⟨h4_⟩
 have n5_ : Aside0 (w.heap.size ≤ gb221) := ⟨h5_⟩
 have n6_ : Aside0 (gb201 ≠ gb221) := ⟨h6_⟩
 have n7_ : Aside0 (gb221 ≠ gb201) := ⟨h7_⟩
 have n8_ : Aside0 (gb202 ≠ gb221) := ⟨h8_⟩
 have n9_ : Aside0 (gb221 ≠ gb202) := ⟨h9_⟩
 have n10_ : Aside0 (gb222 ≠ gb221) := ⟨h10_⟩
 have n11_ : Aside0 (gb221 ≠ gb222) := ⟨h11_⟩
 have n12_ : Aside0 (w.heap.size ≤ gb222) := ⟨h12_⟩
 have n13_ : Aside0 (w.heap.size ≤ gb222) := ⟨h13_⟩
 have n14_ : Aside0 (gb201 ≠ gb222) := ⟨h14_⟩
 have n15_ : Aside0 (gb222 ≠ gb201) := ⟨h15_⟩
 have n16_ : Aside0 (gb202 ≠ gb222) := ⟨h16_⟩
 have n17_ : Aside0 (gb222 ≠ gb202) := ⟨h17_⟩
 have n18_ : Aside0 (Below w.heap.size w w11) := ⟨h18_⟩
 clear BK201
 clear BK202
 clear HB
 clear h0_ h1_ h2_ h3_ h4_ h5_ h6_ h7_ h8_ h9_ h10_ h11_ h12_ h13_ h14_ h15_ h16_ h17_ h18_
 have BK201 := n0_
 have BK202 := n1_
 have BK221 := n2_
 have BK222 := n3_
 have GW221 := n4_
 have GE221 := n5_
 have NB201_221 := n6_
 have NB221_201 := n7_
 have NB202_221 := n8_
 have NB221_202 := n9_
 have NB222_221 := n10_
 have NB221_222 := n11_
 have GW222 := n12_
 have GE222 := n13_
 have NB201_222 := n14_
 have NB222_201 := n15_
 have NB202_222 := n16_
 have NB222_202 := n17_
 have HB := n18_
 clear n0_ n1_ n2_ n3_ n4_ n5_ n6_ n7_ n8_ n9_ n10_ n11_ n12_ n13_ n14_ n15_ n16_ n17_ n18_
 have hHeld : determinant_Compare.S18 gb201 gb202 (.int .i64 a0_0) (.int .i64 a0_1) (.int .i64 a0_2) (.int .i64 a0_3) (.int .i64 a0_4) (.int .i64 a0_5) (.int .i64 a0_6) (.int .i64 a0_7) (.int .i64 a0_8) (.int .i64 a1_0) (.int .i64 a1_1) (.int .i64 a1_2) (.int .i64 a1_3) (.int .i64 a1_4) (.int .i64 a1_5) (.int .i64 a1_6) (.int .i64 a1_7) (.int .i64 a1_8) w11 := hS_
 refine norm_ (a' := ?_) ?_ ?_
 rotate_left
 ·(
 simp only [putAll, Act.put, List.setIfInBounds_toArray, List.set_cons_zero, List.set_cons_succ]
 rfl)
 refine one_ (i := 3) (N := some 11) (bm 8 63) rfl rfl (one_of HT_.out (by kernel_rfl)) (by decide) (fun K hK => ?_)
 refine gs Try.func31 #[.agg #[.int .i64 a1_0, .int .i64 a1_1, .int .i64 a1_2, .int .i64 a1_3, .int .i64 a1_4, .int .i64 a1_5, .int .i64 a1_6, .int .i64 a1_7, .int .i64 a1_8]] ?_
 with_reducible refine (determinant_fields.calls a1_0 a1_1 a1_2 a1_3 a1_4 a1_5 a1_6 a1_7 a1_8 t212 t213 t214 t215 t216 t217 t218 t219 t220 _ A4.out).mono ?_
 rintro e w12 ⟨rfl, hb⟩
 refine ⟨_, rfl, ?_⟩
 have n0_ := Aside0.mk (bb BK201.out hb)
 have n1_ := Aside0.mk (bb BK202.out hb)
 have n2_ := Aside0.mk (bb BK221.out hb)
 have n3_ := Aside0.mk (bb BK222.out hb)
 have n4_ := Aside0.mk (below_step (bq4 HB.out GE201.out GE202.out GE221.out GE222.out) hb)
 clear BK201
 clear BK202
 clear BK221
 clear BK222
 clear HB
 have BK201 := n0_
 have BK202 := n1_
 have BK221 := n2_
 have BK222 := n3_
 have HB := n4_
 clear n0_ n1_ n2_ n3_ n4_
 (try clear hb)
 (try clear hb2)
 (try clear hk)
 (try clear hi)
 refine hK.out _ _ (determinant_Compare.held9 BK201.out BK202.out) (fun hHeld => ?_)
 clear hK K
 refine nrm 11 ?_
 exact norm_ (by first | (simp only [putAll, Act.put, List.setIfInBounds_toArray, List.set_cons_zero, List.set_cons_succ]; done) | (simp only [putAll, Act.put, List.setIfInBounds_toArray, List.set_cons_zero, List.set_cons_succ]; rfl)) (hJ1_3_4_5 (gb221, gb222) _ ⟨hHeld, (kq BK201.out), (kq BK202.out), (kq BK221.out), (kq BK222.out), GW221.out, GE221.out, NB201_221.out, NB221_201.out, NB202_221.out, NB221_202.out, NB222_221.out, NB221_222.out, GW222.out, GE222.out, NB201_222.out, NB222_201.out, NB202_222.out, NB222_202.out, (bq4 HB.out GE201.out GE202.out GE221.out GE222.out)⟩)))
 ·(
 skip
 rintro gb222 w11 ⟨hS_, h0_, h1_, h2_, h3_, h4_, h5_, h6_, h7_, h8_, h9_⟩
 have n0_ : Aside0 (w11.heap[gb201]? = some (.cells #[.int .i64 a0_0, .int .i64 a0_1, .int .i64 a0_2, .int .i64 a0_3, .int .i64 a0_4, .int .i64 a0_5, .int .i64 a0_6, .int .i64 a0_7, .int .i64 a0_8] 28 (0, 0))) := ⟨h0_⟩
 have n1_ : Aside0 (w11.heap[gb202]? = some (.cells #[.int .i64 a1_0, .int .i64 a1_1, .int .i64 a1_2, .int .i64 a1_3, .int .i64 a1_4, .int .i64 a1_5, .int .i64 a1_6, .int .i64 a1_7, .int .i64 a1_8] 28 (0, 0))) := ⟨h1_⟩
 have n2_ : Aside0 (w11.heap[gb222]? = some (.cells #[.int .i64 0, .int .i64 0, .int .i64 0, .int .i64 0, .int .i64 0, .int .i64 0, .int .i64 0, .int .i64 0, .int .i64 0] 55 (0, 0))) := ⟨h2_⟩
 have n3_ : Aside0 (w.heap.size ≤ gb222) := ⟨h3_⟩
 have n4_ : Aside0 (w.heap.size ≤ gb222) := ⟨h4_⟩
 have n5_ : Aside0 (gb201 ≠ gb222) := ⟨h5_⟩
 have n6_ : Aside0 (gb222 ≠ gb201) := ⟨h6_⟩
 have n7_ : Aside0 (gb202 ≠ gb222) := ⟨h7_⟩
 have n8_ : Aside0 (gb222 ≠ gb202) := ⟨h8_⟩
 have n9_ : Aside0 (Below w.heap.size w w11) := ⟨h9_⟩
 clear BK201
 clear BK202
 clear HB
 clear h0_ h1_ h2_ h3_ h4_ h5_ h6_ h7_ h8_ h9_
 have BK201 := n0_
 have BK202 := n1_
 have BK222 := n2_
 have GW222 := n3_
 have GE222 := n4_
 have NB201_222 := n5_
 have NB222_201 := n6_
 have NB202_222 := n7_
 have NB222_202 := n8_
 have HB := n9_
 clear n0_ n1_ n2_ n3_ n4_ n5_ n6_ n7_ n8_ n9_
 have hHeld : determinant_Compare.S18 gb201 gb202 (.int .i64 a0_0) (.int .i64 a0_1) (.int .i64 a0_2) (.int .i64 a0_3) (.int .i64 a0_4) (.int .i64 a0_5) (.int .i64 a0_6) (.int .i64 a0_7) (.int .i64 a0_8) (.int .i64 a1_0) (.int .i64 a1_1) (.int .i64 a1_2) (.int .i64 a1_3) (.int .i64 a1_4) (.int .i64 a1_5) (.int .i64 a1_6) (.int .i64 a1_7) (.int .i64 a1_8) w11 := hS_
 refine norm_ (a' := ?_) ?_ ?_
 rotate_left
 ·(
 simp only [putAll, Act.put, List.setIfInBounds_toArray, List.set_cons_zero, List.set_cons_succ]
 rfl)
 refine one_ (i := 4) (N := some 5) (bm 8 63) rfl rfl (one_of HT_.out (by kernel_rfl)) (by decide) (fun K hK => ?_)
 refine box_step ?hg (N := 5) ?hd (cs := #[.int .i64 0, .int .i64 0, .int .i64 0, .int .i64 0, .int .i64 0, .int .i64 0, .int .i64 0, .int .i64 0, .int .i64 0]) (t := 55) ?hr ?_; (case hd => rfl); (case hg => rfl); (case hr => first | (go_simp; done) | (go_simp; rfl))
 intro gb221 hg w12 hbox hb
 have n0_ := Aside0.mk (bb BK201.out hb)
 have n1_ := Aside0.mk (bb BK202.out hb)
 have n2_ := Aside0.mk (bb BK222.out hb)
 have n3_ := Aside0.mk (below_step (bq3 HB.out GE201.out GE202.out GE222.out) hb)
 have n4_ := Aside0.mk (hbox)
 have n5_ := Aside0.mk ((by rw [hg]; exact (below_size (bq3 HB.out GE201.out GE202.out GE222.out)) : w.heap.size ≤ gb221))
 have n6_ := Aside0.mk ((by rw [hg]; exact (below_size (bq3 HB.out GE201.out GE202.out GE222.out)) : w.heap.size ≤ gb221))
 have n7_ := Aside0.mk ((nlt hg BK201.out : gb201 ≠ gb221))
 have n8_ := Aside0.mk ((by rw [hg]; exact Nat.ne_of_gt (blk_lt (g := gb201) (o := .cells #[.int .i64 a0_0, .int .i64 a0_1, .int .i64 a0_2, .int .i64 a0_3, .int .i64 a0_4, .int .i64 a0_5, .int .i64 a0_6, .int .i64 a0_7, .int .i64 a0_8] 28 (0, 0)) (kq BK201.out)) : gb221 ≠ gb201))
 have n9_ := Aside0.mk ((nlt hg BK202.out : gb202 ≠ gb221))
 have n10_ := Aside0.mk ((by rw [hg]; exact Nat.ne_of_gt (blk_lt (g := gb202) (o := .cells #[.int .i64 a1_0, .int .i64 a1_1, .int .i64 a1_2, .int .i64 a1_3, .int .i64 a1_4, .int .i64 a1_5, .int .i64 a1_6, .int .i64 a1_7, .int .i64 a1_8] 28 (0, 0)) (kq BK202.out)) : gb221 ≠ gb202))
 have n11_ := Aside0.mk ((nlt hg BK222.out : gb222 ≠ gb221))
 have n12_ := Aside0.mk ((by rw [hg]; exact Nat.ne_of_gt (blk_lt (g := gb222) (o := .cells #[.int .i64 0, .int .i64 0, .int .i64 0, .int .i64 0, .int .i64 0, .int .i64 0, .int .i64 0, .int .i64 0, .int .i64 0] 55 (0, 0)) (kq BK222.out)) : gb221 ≠ gb222))
 clear BK201
 clear BK202
 clear BK222
 clear HB
 have BK201 := n0_
 have BK202 := n1_
 have BK222 := n2_
 have HB := n3_
 have BK221 := n4_
 have GW221 := n5_
 have GE221 := n6_
 have NB201_221 := n7_
 have NB221_201 := n8_
 have NB202_221 := n9_
 have NB221_202 := n10_
 have NB222_221 := n11_
 have NB221_222 := n12_
 clear n0_ n1_ n2_ n3_ n4_ n5_ n6_ n7_ n8_ n9_ n10_ n11_ n12_
 clear hb hbox hg
 refine hK.out _ _ (determinant_Compare.held9 BK201.out BK202.out) (fun hHeld => ?_)
 clear hK K
 refine nrm 5 ?_
 exact norm_ (by first | (simp only [putAll, Act.put, List.setIfInBounds_toArray, List.set_cons_zero, List.set_cons_succ]; done) | (simp only [putAll, Act.put, List.setIfInBounds_toArray, List.set_cons_zero, List.set_cons_succ]; rfl)) (hJ1_3_4_5 (gb221, gb222) _ ⟨hHeld, (kq BK201.out), (kq BK202.out), (kq BK221.out), (kq BK222.out), GW221.out, GE221.out, NB201_221.out, NB221_201.out, NB202_221.out, NB221_202.out, NB222_221.out, NB221_222.out, GW222.out, GE222.out, NB201_222.out, NB222_201.out, NB202_222.out, NB222_202.out, (bq4 HB.out GE201.out GE202.out GE222.out GE221.out)⟩)))
 ·(
 skip
 rintro gb221 w11 ⟨hS_, h0_, h1_, h2_, h3_, h4_, h5_, h6_, h7_, h8_, h9_⟩
 have n0_ : Aside0 (w11.heap[gb201]? = some (.cells #[.int .i64 a0_0, .int .i64 a0_1, .int .i64 a0_2, .int .i64 a0_3, .int .i64 a0_4, .int .i64 a0_5, .int .i64 a0_6, .int .i64 a0_7, .int .i64 a0_8] 28 (0, 0))) := ⟨h0_⟩
 have n1_ : Aside0 (w11.heap[gb202]? = some (.cells #[.int .i64 a1_0, .int .i64 a1_1, .int .i64 a1_2, .int .i64 a1_3, .int .i64 a1_4, .int .i64 a1_5, .int .i64 a1_6, .int .i64 a1_7, .int .i64 a1_8] 28 (0, 0))) := ⟨h1_⟩
 have n2_ : Aside0 (w11.heap[gb221]? = some (.cells #[.int .i64 0, .int .i64 0, .int .i64 0, .int .i64 0, .int .i64 0, .int .i64 0, .int .i64 0, .int .i64 0, .int .i64 0] 55 (0, 0))) := ⟨h2_⟩
 have n3_ : Aside0 (w.heap.size ≤ gb221) := ⟨h3_⟩
 have n4_ : Aside0 (w.heap.size ≤ gb221) := ⟨h4_⟩
 have n5_ : Aside0 (gb201 ≠ gb221) := ⟨h5_⟩
 have n6_ : Aside0 (gb221 ≠ gb201) := ⟨h6_⟩
 have n7_ : Aside0 (gb202 ≠ gb221) := ⟨h7_⟩
 have n8_ : Aside0 (gb221 ≠ gb202) := ⟨h8_⟩
 have n9_ : Aside0 (Below w.heap.size w w11) := ⟨h9_⟩
 clear BK201
 clear BK202
 clear HB
 clear h0_ h1_ h2_ h3_ h4_ h5_ h6_ h7_ h8_ h9_
 have BK201 := n0_
 have BK202 := n1_
 have BK221 := n2_
 have GW221 := n3_
 have GE221 := n4_
 have NB201_221 := n5_
 have NB221_201 := n6_
 have NB202_221 := n7_
 have NB221_202 := n8_
 have HB := n9_
 clear n0_ n1_ n2_ n3_ n4_ n5_ n6_ n7_ n8_ n9_
 have hHeld : determinant_Compare.S18 gb201 gb202 (.int .i64 a0_0) (.int .i64 a0_1) (.int .i64 a0_2) (.int .i64 a0_3) (.int .i64 a0_4) (.int .i64 a0_5) (.int .i64 a0_6) (.int .i64 a0_7) (.int .i64 a0_8) (.int .i64 a1_0) (.int .i64 a1_1) (.int .i64 a1_2) (.int .i64 a1_3) (.int .i64 a1_4) (.int .i64 a1_5) (.int .i64 a1_6) (.int .i64 a1_7) (.int .i64 a1_8) w11 := hS_
 refine norm_ (a' := ?_) ?_ ?_
 rotate_left
 ·(
 simp only [putAll, Act.put, List.setIfInBounds_toArray, List.set_cons_zero, List.set_cons_succ]
 rfl)
 refine one_ (i := 5) (N := some 6) (bm 8 63) rfl rfl (one_of HT_.out (by kernel_rfl)) (by decide) (fun K hK => ?_)
 refine box_step ?hg (N := 6) ?hd (cs := #[.int .i64 0, .int .i64 0, .int .i64 0, .int .i64 0, .int .i64 0, .int .i64 0, .int .i64 0, .int .i64 0, .int .i64 0]) (t := 55) ?hr ?_; (case hd => rfl); (case hg => rfl); (case hr => first | (go_simp; done) | (go_simp; rfl))
 intro gb222 hg w12 hbox hb
 have n0_ := Aside0.mk (bb BK201.out hb)
 have n1_ := Aside0.mk (bb BK202.out hb)
 have n2_ := Aside0.mk (bb BK221.out hb)
 have n3_ := Aside0.mk (below_step (bq3 HB.out GE201.out GE202.out GE221.out) hb)
 have n4_ := Aside0.mk (hbox)
 have n5_ := Aside0.mk ((by rw [hg]; exact (below_size (bq3 HB.out GE201.out GE202.out GE221.out)) : w.heap.size ≤ gb222))
 have n6_ := Aside0.mk ((by rw [hg]; exact (below_size (bq3 HB.out GE201.out GE202.out GE221.out)) : w.heap.size ≤ gb222))
 have n7_ := Aside0.mk ((nlt hg BK201.out : gb201 ≠ gb222))
 have n8_ := Aside0.mk ((by rw [hg]; exact Nat.ne_of_gt (blk_lt (g := gb201) (o := .cells #[.int .i64 a0_0, .int .i64 a0_1, .int .i64 a0_2, .int .i64 a0_3, .int .i64 a0_4, .int .i64 a0_5, .int .i64 a0_6, .int .i64 a0_7, .int .i64 a0_8] 28 (0, 0)) (kq BK201.out)) : gb222 ≠ gb201))
 have n9_ := Aside0.mk ((nlt hg BK202.out : gb202 ≠ gb222))
 have n10_ := Aside0.mk ((by rw [hg]; exact Nat.ne_of_gt (blk_lt (g := gb202) (o := .cells #[.int .i64 a1_0, .int .i64 a1_1, .int .i64 a1_2, .int .i64 a1_3, .int .i64 a1_4, .int .i64 a1_5, .int .i64 a1_6, .int .i64 a1_7, .int .i64 a1_8] 28 (0, 0)) (kq BK202.out)) : gb222 ≠ gb202))
 have n11_ := Aside0.mk ((nlt hg BK221.out : gb221 ≠ gb222))
 have n12_ := Aside0.mk ((by rw [hg]; exact Nat.ne_of_gt (blk_lt (g := gb221) (o := .cells #[.int .i64 0, .int .i64 0, .int .i64 0, .int .i64 0, .int .i64 0, .int .i64 0, .int .i64 0, .int .i64 0, .int .i64 0] 55 (0, 0)) (kq BK221.out)) : gb222 ≠ gb221))
 clear BK201
 clear BK202
 clear BK221
 clear HB
 have BK201 := n0_
 have BK202 := n1_
 have BK221 := n2_
 have HB := n3_
 have BK222 := n4_
 have GW222 := n5_
 have GE222 := n6_
 have NB201_222 := n7_
 have NB222_201 := n8_
 have NB202_222 := n9_
 have NB222_202 := n10_
 have NB221_222 := n11_
 have NB222_221 := n12_
 clear n0_ n1_ n2_ n3_ n4_ n5_ n6_ n7_ n8_ n9_ n10_ n11_ n12_
 clear hb hbox hg
 refine hK.out _ _ (determinant_Compare.held9 BK201.out BK202.out) (fun hHeld => ?_)
 clear hK K
 refine nrm 6 ?_
 exact norm_ (by first | (simp only [putAll, Act.put, List.setIfInBounds_toArray, List.set_cons_zero, List.set_cons_succ]; done) | (simp only [putAll, Act.put, List.setIfInBounds_toArray, List.set_cons_zero, List.set_cons_succ]; rfl)) (hJ1_3_4_5 (gb221, gb222) _ ⟨hHeld, (kq BK201.out), (kq BK202.out), (kq BK221.out), (kq BK222.out), GW221.out, GE221.out, NB201_221.out, NB221_201.out, NB202_221.out, NB221_202.out, NB222_221.out, NB221_222.out, GW222.out, GE222.out, NB201_222.out, NB222_201.out, NB202_222.out, NB222_202.out, (bq4 HB.out GE201.out GE202.out GE221.out GE222.out)⟩)))
 rintro ⟨gb221, gb222⟩ w12 ⟨hS_, h0_, h1_, h2_, h3_, h4_, h5_, h6_, h7_, h8_, h9_, h10_, h11_, h12_, h13_, h14_, h15_, h16_, h17_, h18_⟩
 have n0_ : Aside0 (w12.heap[gb201]? = some (.cells #[.int .i64 a0_0, .int .i64 a0_1, .int .i64 a0_2, .int .i64 a0_3, .int .i64 a0_4, .int .i64 a0_5, .int .i64 a0_6, .int .i64 a0_7, .int .i64 a0_8] 28 (0, 0))) := ⟨h0_⟩
 have n1_ : Aside0 (w12.heap[gb202]? = some (.cells #[.int .i64 a1_0, .int .i64 a1_1, .int .i64 a1_2, .int .i64 a1_3, .int .i64 a1_4, .int .i64 a1_5, .int .i64 a1_6, .int .i64 a1_7, .int .i64 a1_8] 28 (0, 0))) := ⟨h1_⟩
 have n2_ : Aside0 (w12.heap[gb221]? = some (.cells #[.int .i64 0, .int .i64 0, .int .i64 0, .int .i64 0, .int .i64 0, .int .i64 0, .int .i64 0, .int .i64 0, .int .i64 0] 55 (0, 0))) := ⟨h2_⟩
 have n3_ : Aside0 (w12.heap[gb222]? = some (.cells #[.int .i64 0, .int .i64 0, .int .i64 0, .int .i64 0, .int .i64 0, .int .i64 0, .int .i64 0, .int .i64 0, .int .i64 0] 55 (0, 0))) := ⟨h3_⟩
 have n4_ : Aside0 (w.heap.size ≤ gb221) := ⟨h4_⟩
 have n5_ : Aside0 (w.heap.size ≤ gb221) := ⟨h5_⟩
 have n6_ : Aside0 (gb201 ≠ gb221) := ⟨h6_⟩
 have n7_ : Aside0 (gb221 ≠ gb201) := ⟨h7_⟩
 have n8_ : Aside0 (gb202 ≠ gb221) := ⟨h8_⟩
 have n9_ : Aside0 (gb221 ≠ gb202) := ⟨h9_⟩
 have n10_ : Aside0 (gb222 ≠ gb221) := ⟨h10_⟩
 have n11_ : Aside0 (gb221 ≠ gb222) := ⟨h11_⟩
 have n12_ : Aside0 (w.heap.size ≤ gb222) := ⟨h12_⟩
 have n13_ : Aside0 (w.heap.size ≤ gb222) := ⟨h13_⟩
 have n14_ : Aside0 (gb201 ≠ gb222) := ⟨h14_⟩
 have n15_ : Aside0 (gb222 ≠ gb201) := ⟨h15_⟩
 have n16_ : Aside0 (gb202 ≠ gb222) := ⟨h16_⟩
 have n17_ : Aside0 (gb222 ≠ gb202) := ⟨h17_⟩
 have n18_ : Aside0 (Below w.heap.size w w12) := ⟨h18_⟩
 clear BK201
 clear BK202
 clear HB
 clear h0_ h1_ h2_ h3_ h4_ h5_ h6_ h7_ h8_ h9_ h10_ h11_ h12_ h13_ h14_ h15_ h16_ h17_ h18_
 have BK201 := n0_
 have BK202 := n1_
 have BK221 := n2_
 have BK222 := n3_
 have GW221 := n4_
 have GE221 := n5_
 have NB201_221 := n6_
 have NB221_201 := n7_
 have NB202_221 := n8_
 have NB221_202 := n9_
 have NB222_221 := n10_
 have NB221_222 := n11_
 have GW222 := n12_
 have GE222 := n13_
 have NB201_222 := n14_
 have NB222_201 := n15_
 have NB202_222 := n16_
 have NB222_202 := n17_
 have HB := n18_
 clear n0_ n1_ n2_ n3_ n4_ n5_ n6_ n7_ n8_ n9_ n10_ n11_ n12_ n13_ n14_ n15_ n16_ n17_ n18_
 have hHeld : determinant_Compare.S18 gb201 gb202 (.int .i64 a0_0) (.int .i64 a0_1) (.int .i64 a0_2) (.int .i64 a0_3) (.int .i64 a0_4) (.int .i64 a0_5) (.int .i64 a0_6) (.int .i64 a0_7) (.int .i64 a0_8) (.int .i64 a1_0) (.int .i64 a1_1) (.int .i64 a1_2) (.int .i64 a1_3) (.int .i64 a1_4) (.int .i64 a1_5) (.int .i64 a1_6) (.int .i64 a1_7) (.int .i64 a1_8) w12 := hS_
 refine norm_ (a' := ?_) ?_ ?_
 rotate_left
 ·(
 simp only [putAll, Act.put, List.setIfInBounds_toArray, List.set_cons_zero, List.set_cons_succ]
 rfl)
 refine one_ (i := 6) (N := none) (bm 8 127) rfl rfl (one_of HT_.out (by kernel_rfl)) (by decide) (fun K hK => ?_)
 have hs13 : w12.cell? ⟨gb221, 0, none⟩ = some (.int .i64 0) := bc BK221.out 0
 have hfs13 := blk_frozen BK221.out 0
 have hns13_0 := NB201_221.out
 have hns13_1 := NB202_221.out
 have hns13_3 := NB222_221.out
 have hms13_0 := NB221_201.out
 have hms13_1 := NB221_202.out
 have hms13_3 := NB221_222.out
 have hs14 : w12.cell? ⟨gb221, 1, none⟩ = some (.int .i64 0) := bc BK221.out 1
 have hfs14 := blk_frozen BK221.out 1
 have hns14_0 := NB201_221.out
 have hns14_1 := NB202_221.out
 have hns14_3 := NB222_221.out
 have hms14_0 := NB221_201.out
 have hms14_1 := NB221_202.out
 have hms14_3 := NB221_222.out
 have hs15 : w12.cell? ⟨gb221, 2, none⟩ = some (.int .i64 0) := bc BK221.out 2
 have hfs15 := blk_frozen BK221.out 2
 have hns15_0 := NB201_221.out
 have hns15_1 := NB202_221.out
 have hns15_3 := NB222_221.out
 have hms15_0 := NB221_201.out
 have hms15_1 := NB221_202.out
 have hms15_3 := NB221_222.out
 have hs16 : w12.cell? ⟨gb221, 3, none⟩ = some (.int .i64 0) := bc BK221.out 3
 have hfs16 := blk_frozen BK221.out 3
 have hns16_0 := NB201_221.out
 have hns16_1 := NB202_221.out
 have hns16_3 := NB222_221.out
 have hms16_0 := NB221_201.out
 have hms16_1 := NB221_202.out
 have hms16_3 := NB221_222.out
 have hs17 : w12.cell? ⟨gb221, 4, none⟩ = some (.int .i64 0) := bc BK221.out 4
 have hfs17 := blk_frozen BK221.out 4
 have hns17_0 := NB201_221.out
 have hns17_1 := NB202_221.out
 have hns17_3 := NB222_221.out
 have hms17_0 := NB221_201.out
 have hms17_1 := NB221_202.out
 have hms17_3 := NB221_222.out
 have hs18 : w12.cell? ⟨gb221, 5, none⟩ = some (.int .i64 0) := bc BK221.out 5
 have hfs18 := blk_frozen BK221.out 5
 have hns18_0 := NB201_221.out
 have hns18_1 := NB202_221.out
 have hns18_3 := NB222_221.out
 have hms18_0 := NB221_201.out
 have hms18_1 := NB221_202.out
 have hms18_3 := NB221_222.out
 have hs19 : w12.cell? ⟨gb221, 6, none⟩ = some (.int .i64 0) := bc BK221.out 6
 have hfs19 := blk_frozen BK221.out 6
 have hns19_0 := NB201_221.out
 have hns19_1 := NB202_221.out
 have hns19_3 := NB222_221.out
 have hms19_0 := NB221_201.out
 have hms19_1 := NB221_202.out
 have hms19_3 := NB221_222.out
 have hs20 : w12.cell? ⟨gb221, 7, none⟩ = some (.int .i64 0) := bc BK221.out 7
 have hfs20 := blk_frozen BK221.out 7
 have hns20_0 := NB201_221.out
 have hns20_1 := NB202_221.out
 have hns20_3 := NB222_221.out
 have hms20_0 := NB221_201.out
 have hms20_1 := NB221_202.out
 have hms20_3 := NB221_222.out
 have hs21 : w12.cell? ⟨gb221, 8, none⟩ = some (.int .i64 0) := bc BK221.out 8
 have hfs21 := blk_frozen BK221.out 8
 have hns21_0 := NB201_221.out
 have hns21_1 := NB202_221.out
 have hns21_3 := NB222_221.out
 have hms21_0 := NB221_201.out
 have hms21_1 := NB221_202.out
 have hms21_3 := NB221_222.out
 refine skip_ (w1 := ?_) (by rfl) rfl ?_ ?_
 rotate_left
 ·(
 go_simp
 rfl)
 refine hK.out _ _ (determinant_Compare.held9 (determinant_Compare.far9 (.int .i64 t203) (.int .i64 t204) (.int .i64 t205) (.int .i64 t206) (.int .i64 t207) (.int .i64 t208) (.int .i64 t209) (.int .i64 t210) (.int .i64 t211) BK201.out NB201_221.out) (determinant_Compare.far9 (.int .i64 t203) (.int .i64 t204) (.int .i64 t205) (.int .i64 t206) (.int .i64 t207) (.int .i64 t208) (.int .i64 t209) (.int .i64 t210) (.int .i64 t211) BK202.out NB202_221.out)) (fun hHeld => ?_)
 clear hK K
 have n201_ := Aside0.mk (determinant_Compare.far9 (.int .i64 t203) (.int .i64 t204) (.int .i64 t205) (.int .i64 t206) (.int .i64 t207) (.int .i64 t208) (.int .i64 t209) (.int .i64 t210) (.int .i64 t211) BK201.out NB201_221.out)
 have n202_ := Aside0.mk (determinant_Compare.far9 (.int .i64 t203) (.int .i64 t204) (.int .i64 t205) (.int .i64 t206) (.int .i64 t207) (.int .i64 t208) (.int .i64 t209) (.int .i64 t210) (.int .i64 t211) BK202.out NB202_221.out)
 have n221_ := Aside0.mk (determinant_Compare.put9 (.int .i64 t203) (.int .i64 t204) (.int .i64 t205) (.int .i64 t206) (.int .i64 t207) (.int .i64 t208) (.int .i64 t209) (.int .i64 t210) (.int .i64 t211) BK221.out)
 have n222_ := Aside0.mk (determinant_Compare.far9 (.int .i64 t203) (.int .i64 t204) (.int .i64 t205) (.int .i64 t206) (.int .i64 t207) (.int .i64 t208) (.int .i64 t209) (.int .i64 t210) (.int .i64 t211) BK222.out NB222_221.out)
 have nB_ := Aside0.mk (determinant_Compare.below9 (.int .i64 t203) (.int .i64 t204) (.int .i64 t205) (.int .i64 t206) (.int .i64 t207) (.int .i64 t208) (.int .i64 t209) (.int .i64 t210) (.int .i64 t211) HB.out GE221.out)
 clear hHeld HB BK201 BK202 BK221 BK222
 generalize (((((((((w12.setCell ⟨gb221, 0, none⟩ (.int .i64 t203)).setCell ⟨gb221, 1, none⟩ (.int .i64 t204)).setCell ⟨gb221, 2, none⟩ (.int .i64 t205)).setCell ⟨gb221, 3, none⟩ (.int .i64 t206)).setCell ⟨gb221, 4, none⟩ (.int .i64 t207)).setCell ⟨gb221, 5, none⟩ (.int .i64 t208)).setCell ⟨gb221, 6, none⟩ (.int .i64 t209)).setCell ⟨gb221, 7, none⟩ (.int .i64 t210)).setCell ⟨gb221, 8, none⟩ (.int .i64 t211)) = wq at n201_ n202_ n221_ n222_ nB_ ⊢
 have BK201 := n201_
 have BK202 := n202_
 have BK221 := n221_
 have BK222 := n222_
 have HB := nB_
 clear nB_ n201_ n202_ n221_ n222_
 clear hs13 hfs13 hns13_0 hns13_1 hns13_3 hms13_0 hms13_1 hms13_3 hs14 hfs14 hns14_0 hns14_1 hns14_3 hms14_0 hms14_1 hms14_3 hs15 hfs15 hns15_0 hns15_1 hns15_3 hms15_0 hms15_1 hms15_3 hs16 hfs16 hns16_0 hns16_1 hns16_3 hms16_0 hms16_1 hms16_3 hs17 hfs17 hns17_0 hns17_1 hns17_3 hms17_0 hms17_1 hms17_3 hs18 hfs18 hns18_0 hns18_1 hns18_3 hms18_0 hms18_1 hms18_3 hs19 hfs19 hns19_0 hns19_1 hns19_3 hms19_0 hms19_1 hms19_3 hs20 hfs20 hns20_0 hns20_1 hns20_3 hms20_0 hms20_1 hms20_3 hs21 hfs21 hns21_0 hns21_1 hns21_3 hms21_0 hms21_1 hms21_3
 have hHeld := determinant_Compare.held9 BK201.out BK202.out
 refine one_ (i := 7) (N := none) (bm 8 255) rfl rfl (one_of HT_.out (by kernel_rfl)) (by decide) (fun K hK => ?_)
 have hs22 : wq.cell? ⟨gb222, 0, none⟩ = some (.int .i64 0) := bc BK222.out 0
 have hfs22 := blk_frozen BK222.out 0
 have hns22_0 := NB201_222.out
 have hns22_1 := NB202_222.out
 have hns22_2 := NB221_222.out
 have hms22_0 := NB222_201.out
 have hms22_1 := NB222_202.out
 have hms22_2 := NB222_221.out
 have hs23 : wq.cell? ⟨gb222, 1, none⟩ = some (.int .i64 0) := bc BK222.out 1
 have hfs23 := blk_frozen BK222.out 1
 have hns23_0 := NB201_222.out
 have hns23_1 := NB202_222.out
 have hns23_2 := NB221_222.out
 have hms23_0 := NB222_201.out
 have hms23_1 := NB222_202.out
 have hms23_2 := NB222_221.out
 have hs24 : wq.cell? ⟨gb222, 2, none⟩ = some (.int .i64 0) := bc BK222.out 2
 have hfs24 := blk_frozen BK222.out 2
 have hns24_0 := NB201_222.out
 have hns24_1 := NB202_222.out
 have hns24_2 := NB221_222.out
 have hms24_0 := NB222_201.out
 have hms24_1 := NB222_202.out
 have hms24_2 := NB222_221.out
 have hs25 : wq.cell? ⟨gb222, 3, none⟩ = some (.int .i64 0) := bc BK222.out 3
 have hfs25 := blk_frozen BK222.out 3
 have hns25_0 := NB201_222.out
 have hns25_1 := NB202_222.out
 have hns25_2 := NB221_222.out
 have hms25_0 := NB222_201.out
 have hms25_1 := NB222_202.out
 have hms25_2 := NB222_221.out
 have hs26 : wq.cell? ⟨gb222, 4, none⟩ = some (.int .i64 0) := bc BK222.out 4
 have hfs26 := blk_frozen BK222.out 4
 have hns26_0 := NB201_222.out
 have hns26_1 := NB202_222.out
 have hns26_2 := NB221_222.out
 have hms26_0 := NB222_201.out
 have hms26_1 := NB222_202.out
 have hms26_2 := NB222_221.out
 have hs27 : wq.cell? ⟨gb222, 5, none⟩ = some (.int .i64 0) := bc BK222.out 5
 have hfs27 := blk_frozen BK222.out 5
 have hns27_0 := NB201_222.out
 have hns27_1 := NB202_222.out
 have hns27_2 := NB221_222.out
 have hms27_0 := NB222_201.out
 have hms27_1 := NB222_202.out
 have hms27_2 := NB222_221.out
 have hs28 : wq.cell? ⟨gb222, 6, none⟩ = some (.int .i64 0) := bc BK222.out 6
 have hfs28 := blk_frozen BK222.out 6
 have hns28_0 := NB201_222.out
 have hns28_1 := NB202_222.out
 have hns28_2 := NB221_222.out
 have hms28_0 := NB222_201.out
 have hms28_1 := NB222_202.out
 have hms28_2 := NB222_221.out
 have hs29 : wq.cell? ⟨gb222, 7, none⟩ = some (.int .i64 0) := bc BK222.out 7
 have hfs29 := blk_frozen BK222.out 7
 have hns29_0 := NB201_222.out
 have hns29_1 := NB202_222.out
 have hns29_2 := NB221_222.out
 have hms29_0 := NB222_201.out
 have hms29_1 := NB222_202.out
 have hms29_2 := NB222_221.out
 have hs30 : wq.cell? ⟨gb222, 8, none⟩ = some (.int .i64 0) := bc BK222.out 8
 have hfs30 := blk_frozen BK222.out 8
 have hns30_0 := NB201_222.out
 have hns30_1 := NB202_222.out
 have hns30_2 := NB221_222.out
 have hms30_0 := NB222_201.out
 have hms30_1 := NB222_202.out
 have hms30_2 := NB222_221.out
 refine skip_ (w1 := ?_) (by rfl) rfl ?_ ?_
 rotate_left
 ·(
 go_simp
 rfl)
 refine hK.out _ _ (determinant_Compare.held9 (determinant_Compare.far9 (.int .i64 t212) (.int .i64 t213) (.int .i64 t214) (.int .i64 t215) (.int .i64 t216) (.int .i64 t217) (.int .i64 t218) (.int .i64 t219) (.int .i64 t220) BK201.out NB201_222.out) (determinant_Compare.far9 (.int .i64 t212) (.int .i64 t213) (.int .i64 t214) (.int .i64 t215) (.int .i64 t216) (.int .i64 t217) (.int .i64 t218) (.int .i64 t219) (.int .i64 t220) BK202.out NB202_222.out)) (fun hHeld => ?_)
 clear hK K
 have n201_ := Aside0.mk (determinant_Compare.far9 (.int .i64 t212) (.int .i64 t213) (.int .i64 t214) (.int .i64 t215) (.int .i64 t216) (.int .i64 t217) (.int .i64 t218) (.int .i64 t219) (.int .i64 t220) BK201.out NB201_222.out)
 have n202_ := Aside0.mk (determinant_Compare.far9 (.int .i64 t212) (.int .i64 t213) (.int .i64 t214) (.int .i64 t215) (.int .i64 t216) (.int .i64 t217) (.int .i64 t218) (.int .i64 t219) (.int .i64 t220) BK202.out NB202_222.out)
 have n221_ := Aside0.mk (determinant_Compare.far9 (.int .i64 t212) (.int .i64 t213) (.int .i64 t214) (.int .i64 t215) (.int .i64 t216) (.int .i64 t217) (.int .i64 t218) (.int .i64 t219) (.int .i64 t220) BK221.out NB221_222.out)
 have n222_ := Aside0.mk (determinant_Compare.put9 (.int .i64 t212) (.int .i64 t213) (.int .i64 t214) (.int .i64 t215) (.int .i64 t216) (.int .i64 t217) (.int .i64 t218) (.int .i64 t219) (.int .i64 t220) BK222.out)
 have nB_ := Aside0.mk (determinant_Compare.below9 (.int .i64 t212) (.int .i64 t213) (.int .i64 t214) (.int .i64 t215) (.int .i64 t216) (.int .i64 t217) (.int .i64 t218) (.int .i64 t219) (.int .i64 t220) HB.out GE222.out)
 clear hHeld HB BK201 BK202 BK221 BK222
 generalize (((((((((wq.setCell ⟨gb222, 0, none⟩ (.int .i64 t212)).setCell ⟨gb222, 1, none⟩ (.int .i64 t213)).setCell ⟨gb222, 2, none⟩ (.int .i64 t214)).setCell ⟨gb222, 3, none⟩ (.int .i64 t215)).setCell ⟨gb222, 4, none⟩ (.int .i64 t216)).setCell ⟨gb222, 5, none⟩ (.int .i64 t217)).setCell ⟨gb222, 6, none⟩ (.int .i64 t218)).setCell ⟨gb222, 7, none⟩ (.int .i64 t219)).setCell ⟨gb222, 8, none⟩ (.int .i64 t220)) = wr at n201_ n202_ n221_ n222_ nB_ ⊢
 have BK201 := n201_
 have BK202 := n202_
 have BK221 := n221_
 have BK222 := n222_
 have HB := nB_
 clear nB_ n201_ n202_ n221_ n222_
 clear hs22 hfs22 hns22_0 hns22_1 hns22_2 hms22_0 hms22_1 hms22_2 hs23 hfs23 hns23_0 hns23_1 hns23_2 hms23_0 hms23_1 hms23_2 hs24 hfs24 hns24_0 hns24_1 hns24_2 hms24_0 hms24_1 hms24_2 hs25 hfs25 hns25_0 hns25_1 hns25_2 hms25_0 hms25_1 hms25_2 hs26 hfs26 hns26_0 hns26_1 hns26_2 hms26_0 hms26_1 hms26_2 hs27 hfs27 hns27_0 hns27_1 hns27_2 hms27_0 hms27_1 hms27_2 hs28 hfs28 hns28_0 hns28_1 hns28_2 hms28_0 hms28_1 hms28_2 hs29 hfs29 hns29_0 hns29_1 hns29_2 hms29_0 hms29_1 hms29_2 hs30 hfs30 hns30_0 hns30_1 hns30_2 hms30_0 hms30_1 hms30_2
 have hHeld := determinant_Compare.held9 BK201.out BK202.out
 refine done_ (done_of HT_.out (by kernel_rfl)) ?_
 try go_wp2
 go_loopg [12] k (fun kq v12 w' => ∃ (x12_1 : Int), v12 = .int .i64 x12_1 ∧ Aside0 (determinant_Compare.l0 kq x12_1 t203 t204 t205 t206 t207 t208 t209 t210 t211 t212 t213 t214 t215 t216 t217 t218 t219 t220 = some r) ∧ Aside0 (kq ≤ k) ∧ Aside0 (w'.heap[gb201]? = some (.cells #[.int .i64 a0_0, .int .i64 a0_1, .int .i64 a0_2, .int .i64 a0_3, .int .i64 a0_4, .int .i64 a0_5, .int .i64 a0_6, .int .i64 a0_7, .int .i64 a0_8] 28 (0, 0))) ∧ Aside0 (w'.heap[gb202]? = some (.cells #[.int .i64 a1_0, .int .i64 a1_1, .int .i64 a1_2, .int .i64 a1_3, .int .i64 a1_4, .int .i64 a1_5, .int .i64 a1_6, .int .i64 a1_7, .int .i64 a1_8] 28 (0, 0))) ∧ Aside0 (w'.heap[gb221]? = some (.cells #[.int .i64 t203, .int .i64 t204, .int .i64 t205, .int .i64 t206, .int .i64 t207, .int .i64 t208, .int .i64 t209, .int .i64 t210, .int .i64 t211] 55 (0, 0))) ∧ Aside0 (w'.heap[gb222]? = some (.cells #[.int .i64 t212, .int .i64 t213, .int .i64 t214, .int .i64 t215, .int .i64 t216, .int .i64 t217, .int .i64 t218, .int .i64 t219, .int .i64 t220] 55 (0, 0))) ∧ Aside0 (Below w.heap.size w w'))
 case atStart => exact ⟨(0), (by first | rfl | (simp; done) | (simp [*]; done)), H', ⟨Nat.le_refl _⟩, BK201, BK202, BK221, BK222, HB⟩
 case round =>(
 clear H'
 obtain ⟨x, rfl, HA, HK1, BK201, BK202, BK221, BK222, HB⟩ := hrel
 cases gk with
 | zero => exact absurd HA.out (by simp [determinant_Compare.l0])
 | succ k1 =>(
 have H := (determinant_Compare.l0_rd k1 x t203 t204 t205 t206 t207 t208 t209 t210 t211 t212 t213 t214 t215 t216 t217 t218 t219 t220).symm.trans HA.out
 clear HA
 by_cases h9 : x < 9
 ·(
 rw [if_pos h9] at H
 by_cases h0 : 0 ≤ x
 ·(
 rw [if_pos h0] at H
 have hx := determinant_Compare.arr9 BK221.out x h0 h9
 have hy := determinant_Compare.arr9 BK222.out x h0 h9
 generalize rd [t203, t204, t205, t206, t207, t208, t209, t210, t211] x = u at hx H
 generalize rd [t212, t213, t214, t215, t216, t217, t218, t219, t220] x = v at hy H
 by_cases hl : u < v
 ·(
 rw [if_pos hl] at H
 obtain rfl := Option.some.inj H
 go_wp2
 go_quiet (fail)
 go_wp2
 go_ret
 exact ⟨rfl, bq HB.out⟩)
 ·(
 rw [if_neg hl] at H
 by_cases hg : u > v
 ·(
 rw [if_pos hg] at H
 obtain rfl := Option.some.inj H
 go_wp2
 go_quiet (fail)
 go_wp2
 go_quiet (fail)
 go_wp2
 go_ret
 exact ⟨rfl, bq HB.out⟩)
 ·(
 rw [if_neg hg] at H
 have hng : ¬ v < u := hg
 clear hg
 have HH := Aside0.mk H
 clear H
 go_wp2
 go_quiet (fail)
 go_wp2
 go_quiet (fail)
 go_wp2
 have H := HH.out
 go_roundg k1
 case measure => have := HK1.out; omega
 case rel => exact ⟨x + 1, (by first | rfl | (simp; done) | (simp [*]; done)), Aside0.mk H, ⟨by have := HK1.out; omega⟩, ⟨kq BK201.out⟩, ⟨kq BK202.out⟩, ⟨kq BK221.out⟩, ⟨kq BK222.out⟩, ⟨bq HB.out⟩⟩)))
 ·(
 rw [if_neg h0] at H
 exact absurd H (by simp)))
 ·(
 rw [if_neg h9] at H
 obtain rfl := Option.some.inj H
 go_wp2
 go_ret
 exact ⟨rfl, bq HB.out⟩)))
end Go.Proofs.Ytdobkcphmpbhlaa.PGL
