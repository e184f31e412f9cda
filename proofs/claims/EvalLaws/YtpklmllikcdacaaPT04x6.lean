-- Written by a program of this session (hprint.py) out of the translation and of hand-proved parts. Lean checks it.
import Derived.Test.YtpklmllikcdacaaPT04x0
import Derived.Test.YtpklmllikcdacaaPT04x5
namespace Go.Proofs.Ytpklmllikcdacaa.PT04
open Go.RowKit Go.Proofs.YtpklmllikcdacaaW.PrintWords Go.Proofs.YtpklmllikcdacaaW.PrintLast Go.Proofs.YtpklmllikcdacaaW.PrintMore
attribute [local go_sem] max2_int min2_int max_two min_two max_three min_three max_four min_four   -- for this text's walks alone
set_option linter.unusedVariables false
set_option linter.unusedSimpArgs false

/-! ### eval_Value: function 11 (proved by hand) -/
def eval_Value.f : Nat → Int → Int → ByteArray → Int → Int → List S33 → List Int → Int → Int → Int → Int → Option Int
 | 0, _, _, _, _, _, _, _, _, _, _, _ => none
 | k + 1, op, v, _, sl, sz, l, cs, e0, e1, e2, e3 =>
  if op = 1 then some v else if op = 2 then eval_cell.f cs sl else
  if op = 3 then ((if (l.length : Int) ≤ 0 then some 0 else eval_Value.f k (rd_T33 l 0).f0 (rd_T33 l 0).f1 (rd_T33 l 0).f2 (rd_T33 l 0).f3 (rd_T33 l 0).f4 (rd_T33 l 0).f5 cs e0 e1 e2 e3).bind fun i => if i < 0 then some 0 else if i ≥ sz then some 0 else eval_cell.f cs (wrap64 (sl + i))) else
  if op = 4 then some e0 else if op = 5 then some e1 else if op = 6 then some e2 else if op = 7 then some e3 else
  if op < 8 then some 0 else if op > 22 then some 0 else none
theorem eval_Value.mono_ : ∀ (k : Nat) (op v : Int) (nm : ByteArray) (sl sz : Int) (l : List S33) (cs : List Int) (e0 e1 e2 e3 : Int), LeO (eval_Value.f k op v nm sl sz l cs e0 e1 e2 e3) (eval_Value.f (k + 1) op v nm sl sz l cs e0 e1 e2 e3)
 | 0 => fun op v nm sl sz l cs e0 e1 e2 e3 r h => by simp [eval_Value.f] at h
 | k + 1 => fun op v nm sl sz l cs e0 e1 e2 e3 => by
  have ih := eval_Value.mono_ k
  unfold eval_Value.f
  repeat' first
   | (with_reducible exact ih _ _ _ _ _ _ _ _ _ _ _)
   | (with_reducible exact LeO.refl _)
   | (with_reducible exact LeO.none _)
   | (with_reducible refine LeO.ite ?_ ?_)
   | (with_reducible refine LeO.bind ?_ (fun _ => ?_))
   | exact ih _ _ _ _ _ _ _ _ _ _ _
   | exact LeO.refl _
   | refine LeO.ite ?_ ?_
   | refine LeO.bind ?_ (fun _ => ?_)

def eval_Value.IH (k : Nat) : Prop := ∀ (op v : Int) (nm : ByteArray) (sl sz : Int) (A : Option Addr) (c : Nat) (l : List S33) (A1 : Option Addr) (c1 : Nat) (cs : List Int) (e0 e1 e2 e3 r : Int) (w : World), Kd.C k33 w A l.length l → l.length ≤ c → Kd.C (Kd.int .i64) w A1 cs.length cs → cs.length ≤ c1 → eval_Value.f k op v nm sl sz l cs e0 e1 e2 e3 = some r →
  Calls Try.prog 11 #[.agg #[.int .i64 op, .int .i64 v, .string nm, .int .i64 sl, .int .i64 sz, .slice A l.length c], .slice A1 cs.length c1, .agg #[.int .i64 e0, .int .i64 e1, .int .i64 e2, .int .i64 e3]] w fun e w' => e = .returned (.int .i64 r) ∧ Below w.heap.size w w'
set_option maxHeartbeats 8000000 in
set_option maxRecDepth 100000 in
theorem eval_Value.arg_ {k : Nat} (ih : eval_Value.IH k) (i : Nat) (op v : Int) (nm : ByteArray) (sl sz : Int) (A : Option Addr) (c : Nat) (l : List S33) (A1 : Option Addr) (c1 : Nat) (cs : List Int) (e0 e1 e2 e3 r : Int) (w : World) (g3 g4 g5 : Nat)
  (h3 : w.heap[g3]? = some (.cells #[.int .i64 op, .int .i64 v, .string nm, .int .i64 sl, .int .i64 sz, .slice A l.length c] 33 (0, 0))) (h4 : w.heap[g4]? = some (.cells #[.slice A1 cs.length c1] 26 (0, 0))) (h5 : w.heap[g5]? = some (.cells #[.int .i64 e0, .int .i64 e1, .int .i64 e2, .int .i64 e3] 36 (0, 0)))
  (hr : Kd.C k33 w A l.length l) (hr1 : Kd.C (Kd.int .i64) w A1 cs.length cs) (hc1 : cs.length ≤ c1)
  (h : (if (l.length : Int) ≤ (i : Int) then some 0 else eval_Value.f k (rd_T33 l i).f0 (rd_T33 l i).f1 (rd_T33 l i).f2 (rd_T33 l i).f3 (rd_T33 l i).f4 (rd_T33 l i).f5 cs e0 e1 e2 e3) = some r) :
  Calls Try.prog 14 #[.int .i64 i, .pointer (some ⟨g3, 0, none⟩), .pointer (some ⟨g4, 0, none⟩), .pointer (some ⟨g5, 0, none⟩)] w fun e w' => e = .returned (.int .i64 r) ∧ Below w.heap.size w w' := by
 have hu1 := Try.underlying33
 have hu2 := Try.underlying36
 have hu3 := Try.underlying26
 have hu4 := Try.underlying31
 have x5 : w.cell? ⟨g3, 5, none⟩ = some (.slice A l.length c) := (blk_cell h3 5).trans rfl
 have y0 : w.cell? ⟨g4, 0, none⟩ = some (.slice A1 cs.length c1) := (blk_cell h4 0).trans rfl
 have z0 : w.cell? ⟨g5, 0, none⟩ = some (.int .i64 e0) := (blk_cell h5 0).trans rfl
 have z1 : w.cell? ⟨g5, 1, none⟩ = some (.int .i64 e1) := (blk_cell h5 1).trans rfl
 have z2 : w.cell? ⟨g5, 2, none⟩ = some (.int .i64 e2) := (blk_cell h5 2).trans rfl
 have z3 : w.cell? ⟨g5, 3, none⟩ = some (.int .i64 e3) := (blk_cell h5 3).trans rfl
 have HR := Aside0.mk hr
 have HR1 := Aside0.mk hr1
 clear h3 h4 h5 hr hr1
 by_cases c : (l.length : Int) ≤ (i : Int)
 ·rw [if_pos c] at h
  obtain rfl := Option.some.inj h
  have cb : decide (l.length ≤ i) = true := decide_eq_true (by omega)
  clear h c
  go_enter Try.func14, Try.ntmps14
  go_wp2
  go_ret
  exact ⟨rfl, Below.refl _ _⟩
 ·rw [if_neg c] at h
  have H := Aside0.mk h
  have cb : decide (l.length ≤ i) = false := decide_eq_false (by omega)
  have qn : (i < l.length) = True := eq_true (by omega)
  obtain ⟨ad, A5, c5, e1, hx0, hx1, hx2, hx3, hx4, hx5, hl5, hr5⟩ := at_T33 HR.out (i : Int) (Int.natCast_nonneg i) (by omega)
  subst e1
  have HL5 := Aside0.mk hl5
  have HR5 := Aside0.mk hr5
  have p1 : (0 ≤ (i : Int)) = True := eq_true (Int.natCast_nonneg i)
  have q1 : ((i : Int) < (l.length : Int)) = True := eq_true (by omega)
  clear h c hl5 hr5
  simp only [Int.toNat_natCast] at hx0 hx1 hx2 hx3 hx4 hx5
  go_enter Try.func14, Try.ntmps14
  go_wp2
  go_region_with (go_at_call 11; refine (ih _ _ _ _ _ _ _ _ _ _ _ _ _ _ _ r _ ?_ HL5.out ?_ hc1 H.out).mono ?_; (repeat (first | exact HR5.out | exact HR1.out | (with_reducible refine Kd.C_alloc ?_ _) | (with_reducible refine Kd.C_drewN ?_ _) | (with_reducible refine Kd.C_drew ?_))); rintro e w5 ⟨rfl, hb⟩)
  all_goals (have HB := Aside0.mk (below_step (bq (Below.refl w.heap.size w)) hb); clear hb; go_wp2; go_ret; exact ⟨rfl, bq HB.out⟩)
theorem eval_Value.three_ (w : World) (a b c : Obj) : (((w.alloc a).alloc b).alloc c).heap[w.heap.size]? = some a ∧ (((w.alloc a).alloc b).alloc c).heap[w.heap.size + 1]? = some b ∧ (((w.alloc a).alloc b).alloc c).heap[w.heap.size + 1 + 1]? = some c := by
 have e1 : (w.alloc a).heap.size = w.heap.size + 1 := Array.size_push _
 have e2 : ((w.alloc a).alloc b).heap.size = w.heap.size + 1 + 1 := (Array.size_push _).trans (by rw [e1])
 refine ⟨?_, ?_, ?_⟩
 ·exact blk_alloc (blk_alloc (heap_alloc_new w a) _) _
 ·rw [← e1]; exact blk_alloc (heap_alloc_new (w.alloc a) b) _
 ·rw [← e2]; exact heap_alloc_new _ c
set_option maxHeartbeats 8000000 in
set_option maxRecDepth 100000 in
theorem eval_Value.const_ (op v : Int) (nm : ByteArray) (sl sz : Int) (A : Option Addr) (c : Nat) (l : List S33) (A1 : Option Addr) (c1 : Nat) (cs : List Int) (e0 e1 e2 e3 r : Int) (w : World) (hr : Kd.C k33 w A l.length l) (hc : l.length ≤ c) (hr1 : Kd.C (Kd.int .i64) w A1 cs.length cs) (hc1 : cs.length ≤ c1) (ho : op = 1) (h : v = r) : Calls Try.prog 11 #[.agg #[.int .i64 op, .int .i64 v, .string nm, .int .i64 sl, .int .i64 sz, .slice A l.length c], .slice A1 cs.length c1, .agg #[.int .i64 e0, .int .i64 e1, .int .i64 e2, .int .i64 e3]] w fun e w' => e = .returned (.int .i64 r) ∧ Below w.heap.size w w' := by
 have hu1 := Try.underlying33
 have hu2 := Try.underlying36
 have hu3 := Try.underlying26
 have hmf : ∀ (fn : Fn) (first cap : Array Value) (w : World), (Instr.makeFunc fn first cap).run Try.prog w = .ok (.func fn first cap) w := fun _ _ _ _ => rfl
 have HR := Aside0.mk hr
 have HR1 := Aside0.mk hr1
 clear hr hr1
 subst ho
 subst h
 go_enter Try.func11, Try.ntmps11
 go_wp2
 go_ret
 exact ⟨rfl, bq (Below.refl w.heap.size w)⟩
set_option maxHeartbeats 8000000 in
set_option maxRecDepth 100000 in
theorem eval_Value.scalar_ (op v : Int) (nm : ByteArray) (sl sz : Int) (A : Option Addr) (c : Nat) (l : List S33) (A1 : Option Addr) (c1 : Nat) (cs : List Int) (e0 e1 e2 e3 r : Int) (w : World) (hr : Kd.C k33 w A l.length l) (hc : l.length ≤ c) (hr1 : Kd.C (Kd.int .i64) w A1 cs.length cs) (hc1 : cs.length ≤ c1) (ho : op = 2) (h : eval_cell.f cs sl = some r) : Calls Try.prog 11 #[.agg #[.int .i64 op, .int .i64 v, .string nm, .int .i64 sl, .int .i64 sz, .slice A l.length c], .slice A1 cs.length c1, .agg #[.int .i64 e0, .int .i64 e1, .int .i64 e2, .int .i64 e3]] w fun e w' => e = .returned (.int .i64 r) ∧ Below w.heap.size w w' := by
 have hu1 := Try.underlying33
 have hu2 := Try.underlying36
 have hu3 := Try.underlying26
 have hmf : ∀ (fn : Fn) (first cap : Array Value) (w : World), (Instr.makeFunc fn first cap).run Try.prog w = .ok (.func fn first cap) w := fun _ _ _ _ => rfl
 have HR := Aside0.mk hr
 have HR1 := Aside0.mk hr1
 clear hr hr1
 subst ho
 have H := Aside0.mk h
 clear h
 go_enter Try.func11, Try.ntmps11
 go_wp2_with (first | (go_at_call 15; refine (eval_cell.calls A1 c1 cs sl r _ (by repeat (first | exact HR1.out | (with_reducible refine Kd.C_alloc ?_ _) | (with_reducible refine Kd.C_drewN ?_ _) | (with_reducible refine Kd.C_drew ?_))) hc1 H.out).mono ?_; rintro e w9 ⟨rfl, ⟨nd, rfl⟩⟩))
 go_ret
 exact ⟨rfl, bq (Below.refl w.heap.size w)⟩
set_option maxHeartbeats 8000000 in
set_option maxRecDepth 100000 in
theorem eval_Value.self_ (op v : Int) (nm : ByteArray) (sl sz : Int) (A : Option Addr) (c : Nat) (l : List S33) (A1 : Option Addr) (c1 : Nat) (cs : List Int) (e0 e1 e2 e3 r : Int) (w : World) (hr : Kd.C k33 w A l.length l) (hc : l.length ≤ c) (hr1 : Kd.C (Kd.int .i64) w A1 cs.length cs) (hc1 : cs.length ≤ c1) (ho : op = 4) (h : e0 = r) : Calls Try.prog 11 #[.agg #[.int .i64 op, .int .i64 v, .string nm, .int .i64 sl, .int .i64 sz, .slice A l.length c], .slice A1 cs.length c1, .agg #[.int .i64 e0, .int .i64 e1, .int .i64 e2, .int .i64 e3]] w fun e w' => e = .returned (.int .i64 r) ∧ Below w.heap.size w w' := by
 have hu1 := Try.underlying33
 have hu2 := Try.underlying36
 have hu3 := Try.underlying26
 have hmf : ∀ (fn : Fn) (first cap : Array Value) (w : World), (Instr.makeFunc fn first cap).run Try.prog w = .ok (.func fn first cap) w := fun _ _ _ _ => rfl
 have HR := Aside0.mk hr
 have HR1 := Aside0.mk hr1
 clear hr hr1
 subst ho
 subst h
 go_enter Try.func11, Try.ntmps11
 go_wp2
 go_ret
 exact ⟨rfl, bq (Below.refl w.heap.size w)⟩
set_option maxHeartbeats 8000000 in
set_option maxRecDepth 100000 in
theorem eval_Value.procs_ (op v : Int) (nm : ByteArray) (sl sz : Int) (A : Option Addr) (c : Nat) (l : List S33) (A1 : Option Addr) (c1 : Nat) (cs : List Int) (e0 e1 e2 e3 r : Int) (w : World) (hr : Kd.C k33 w A l.length l) (hc : l.length ≤ c) (hr1 : Kd.C (Kd.int .i64) w A1 cs.length cs) (hc1 : cs.length ≤ c1) (ho : op = 5) (h : e1 = r) : Calls Try.prog 11 #[.agg #[.int .i64 op, .int .i64 v, .string nm, .int .i64 sl, .int .i64 sz, .slice A l.length c], .slice A1 cs.length c1, .agg #[.int .i64 e0, .int .i64 e1, .int .i64 e2, .int .i64 e3]] w fun e w' => e = .returned (.int .i64 r) ∧ Below w.heap.size w w' := by
 have hu1 := Try.underlying33
 have hu2 := Try.underlying36
 have hu3 := Try.underlying26
 have hmf : ∀ (fn : Fn) (first cap : Array Value) (w : World), (Instr.makeFunc fn first cap).run Try.prog w = .ok (.func fn first cap) w := fun _ _ _ _ => rfl
 have HR := Aside0.mk hr
 have HR1 := Aside0.mk hr1
 clear hr hr1
 subst ho
 subst h
 go_enter Try.func11, Try.ntmps11
 go_wp2
 go_ret
 exact ⟨rfl, bq (Below.refl w.heap.size w)⟩
set_option maxHeartbeats 8000000 in
set_option maxRecDepth 100000 in
theorem eval_Value.from_ (op v : Int) (nm : ByteArray) (sl sz : Int) (A : Option Addr) (c : Nat) (l : List S33) (A1 : Option Addr) (c1 : Nat) (cs : List Int) (e0 e1 e2 e3 r : Int) (w : World) (hr : Kd.C k33 w A l.length l) (hc : l.length ≤ c) (hr1 : Kd.C (Kd.int .i64) w A1 cs.length cs) (hc1 : cs.length ≤ c1) (ho : op = 6) (h : e2 = r) : Calls Try.prog 11 #[.agg #[.int .i64 op, .int .i64 v, .string nm, .int .i64 sl, .int .i64 sz, .slice A l.length c], .slice A1 cs.length c1, .agg #[.int .i64 e0, .int .i64 e1, .int .i64 e2, .int .i64 e3]] w fun e w' => e = .returned (.int .i64 r) ∧ Below w.heap.size w w' := by
 have hu1 := Try.underlying33
 have hu2 := Try.underlying36
 have hu3 := Try.underlying26
 have hmf : ∀ (fn : Fn) (first cap : Array Value) (w : World), (Instr.makeFunc fn first cap).run Try.prog w = .ok (.func fn first cap) w := fun _ _ _ _ => rfl
 have HR := Aside0.mk hr
 have HR1 := Aside0.mk hr1
 clear hr hr1
 subst ho
 subst h
 go_enter Try.func11, Try.ntmps11
 go_wp2
 go_ret
 exact ⟨rfl, bq (Below.refl w.heap.size w)⟩
set_option maxHeartbeats 8000000 in
set_option maxRecDepth 100000 in
theorem eval_Value.value_ (op v : Int) (nm : ByteArray) (sl sz : Int) (A : Option Addr) (c : Nat) (l : List S33) (A1 : Option Addr) (c1 : Nat) (cs : List Int) (e0 e1 e2 e3 r : Int) (w : World) (hr : Kd.C k33 w A l.length l) (hc : l.length ≤ c) (hr1 : Kd.C (Kd.int .i64) w A1 cs.length cs) (hc1 : cs.length ≤ c1) (ho : op = 7) (h : e3 = r) : Calls Try.prog 11 #[.agg #[.int .i64 op, .int .i64 v, .string nm, .int .i64 sl, .int .i64 sz, .slice A l.length c], .slice A1 cs.length c1, .agg #[.int .i64 e0, .int .i64 e1, .int .i64 e2, .int .i64 e3]] w fun e w' => e = .returned (.int .i64 r) ∧ Below w.heap.size w w' := by
 have hu1 := Try.underlying33
 have hu2 := Try.underlying36
 have hu3 := Try.underlying26
 have hmf : ∀ (fn : Fn) (first cap : Array Value) (w : World), (Instr.makeFunc fn first cap).run Try.prog w = .ok (.func fn first cap) w := fun _ _ _ _ => rfl
 have HR := Aside0.mk hr
 have HR1 := Aside0.mk hr1
 clear hr hr1
 subst ho
 subst h
 go_enter Try.func11, Try.ntmps11
 go_wp2
 go_ret
 exact ⟨rfl, bq (Below.refl w.heap.size w)⟩
set_option maxHeartbeats 8000000 in
set_option maxRecDepth 100000 in
theorem eval_Value.neg_ {k : Nat} (ih : eval_Value.IH k) (op v : Int) (nm : ByteArray) (sl sz : Int) (A : Option Addr) (c : Nat) (l : List S33) (A1 : Option Addr) (c1 : Nat) (cs : List Int) (e0 e1 e2 e3 r : Int) (w : World) (x : Int) (hr : Kd.C k33 w A l.length l) (hc : l.length ≤ c) (hr1 : Kd.C (Kd.int .i64) w A1 cs.length cs) (hc1 : cs.length ≤ c1) (ho : op = 3) (h0 : (if (l.length : Int) ≤ ((0 : Nat) : Int) then some 0 else eval_Value.f k (rd_T33 l ((0 : Nat) : Int)).f0 (rd_T33 l ((0 : Nat) : Int)).f1 (rd_T33 l ((0 : Nat) : Int)).f2 (rd_T33 l ((0 : Nat) : Int)).f3 (rd_T33 l ((0 : Nat) : Int)).f4 (rd_T33 l ((0 : Nat) : Int)).f5 cs e0 e1 e2 e3) = some x) (hx : x < 0) (h : (0 : Int) = r) : Calls Try.prog 11 #[.agg #[.int .i64 op, .int .i64 v, .string nm, .int .i64 sl, .int .i64 sz, .slice A l.length c], .slice A1 cs.length c1, .agg #[.int .i64 e0, .int .i64 e1, .int .i64 e2, .int .i64 e3]] w fun e w' => e = .returned (.int .i64 r) ∧ Below w.heap.size w w' := by
 have hu1 := Try.underlying33
 have hu2 := Try.underlying36
 have hu3 := Try.underlying26
 have hmf : ∀ (fn : Fn) (first cap : Array Value) (w : World), (Instr.makeFunc fn first cap).run Try.prog w = .ok (.func fn first cap) w := fun _ _ _ _ => rfl
 have HR := Aside0.mk hr
 have HR1 := Aside0.mk hr1
 clear hr hr1
 subst h
 have H0 := Aside0.mk h0
 have cx : decide (x < 0) = true := decide_eq_true hx
 subst ho
 clear h0 hx
 go_enter Try.func11, Try.ntmps11
 go_wp2_with (first | (go_at_call 14; refine (eval_Value.arg_ ih 0 3 v nm sl sz A c l A1 c1 cs e0 e1 e2 e3 x _ _ _ _ (eval_Value.three_ _ _ _ _).1 (eval_Value.three_ _ _ _ _).2.1 (eval_Value.three_ _ _ _ _).2.2 (by repeat (first | exact HR.out | (with_reducible refine Kd.C_alloc ?_ _) | (with_reducible refine Kd.C_drewN ?_ _) | (with_reducible refine Kd.C_drew ?_))) (by repeat (first | exact HR1.out | (with_reducible refine Kd.C_alloc ?_ _) | (with_reducible refine Kd.C_drewN ?_ _) | (with_reducible refine Kd.C_drew ?_))) hc1 H0.out).mono ?_; rintro e w5 ⟨rfl, hb⟩; have HB := Aside0.mk (below_step (bq (Below.refl w.heap.size w)) hb); have BK3 := blk_below (eval_Value.three_ _ _ _ _).1 hb; have BK4 := blk_below (eval_Value.three_ _ _ _ _).2.1 hb; have BK5 := blk_below (eval_Value.three_ _ _ _ _).2.2 hb; have X3_0 : w5.cell? ⟨(w.heap.size), 0, none⟩ = some (.int .i64 3) := (blk_cell BK3 0).trans rfl; have X3_1 : w5.cell? ⟨(w.heap.size), 1, none⟩ = some (.int .i64 v) := (blk_cell BK3 1).trans rfl; have X3_2 : w5.cell? ⟨(w.heap.size), 2, none⟩ = some (.string nm) := (blk_cell BK3 2).trans rfl; have X3_3 : w5.cell? ⟨(w.heap.size), 3, none⟩ = some (.int .i64 sl) := (blk_cell BK3 3).trans rfl; have X3_4 : w5.cell? ⟨(w.heap.size), 4, none⟩ = some (.int .i64 sz) := (blk_cell BK3 4).trans rfl; have X3_5 : w5.cell? ⟨(w.heap.size), 5, none⟩ = some (.slice A l.length c) := (blk_cell BK3 5).trans rfl; have X4_0 : w5.cell? ⟨(w.heap.size + 1), 0, none⟩ = some (.slice A1 cs.length c1) := (blk_cell BK4 0).trans rfl; have X5_0 : w5.cell? ⟨(w.heap.size + 1 + 1), 0, none⟩ = some (.int .i64 e0) := (blk_cell BK5 0).trans rfl; have X5_1 : w5.cell? ⟨(w.heap.size + 1 + 1), 1, none⟩ = some (.int .i64 e1) := (blk_cell BK5 1).trans rfl; have X5_2 : w5.cell? ⟨(w.heap.size + 1 + 1), 2, none⟩ = some (.int .i64 e2) := (blk_cell BK5 2).trans rfl; have X5_3 : w5.cell? ⟨(w.heap.size + 1 + 1), 3, none⟩ = some (.int .i64 e3) := (blk_cell BK5 3).trans rfl; clear hb BK3 BK4 BK5))
 go_ret
 exact ⟨rfl, bq HB.out⟩
set_option maxHeartbeats 8000000 in
set_option maxRecDepth 100000 in
theorem eval_Value.over_ {k : Nat} (ih : eval_Value.IH k) (op v : Int) (nm : ByteArray) (sl sz : Int) (A : Option Addr) (c : Nat) (l : List S33) (A1 : Option Addr) (c1 : Nat) (cs : List Int) (e0 e1 e2 e3 r : Int) (w : World) (x : Int) (hr : Kd.C k33 w A l.length l) (hc : l.length ≤ c) (hr1 : Kd.C (Kd.int .i64) w A1 cs.length cs) (hc1 : cs.length ≤ c1) (ho : op = 3) (h0 : (if (l.length : Int) ≤ ((0 : Nat) : Int) then some 0 else eval_Value.f k (rd_T33 l ((0 : Nat) : Int)).f0 (rd_T33 l ((0 : Nat) : Int)).f1 (rd_T33 l ((0 : Nat) : Int)).f2 (rd_T33 l ((0 : Nat) : Int)).f3 (rd_T33 l ((0 : Nat) : Int)).f4 (rd_T33 l ((0 : Nat) : Int)).f5 cs e0 e1 e2 e3) = some x) (hx : ¬ x < 0) (hs : sz ≤ x) (h : (0 : Int) = r) : Calls Try.prog 11 #[.agg #[.int .i64 op, .int .i64 v, .string nm, .int .i64 sl, .int .i64 sz, .slice A l.length c], .slice A1 cs.length c1, .agg #[.int .i64 e0, .int .i64 e1, .int .i64 e2, .int .i64 e3]] w fun e w' => e = .returned (.int .i64 r) ∧ Below w.heap.size w w' := by
 have hu1 := Try.underlying33
 have hu2 := Try.underlying36
 have hu3 := Try.underlying26
 have hmf : ∀ (fn : Fn) (first cap : Array Value) (w : World), (Instr.makeFunc fn first cap).run Try.prog w = .ok (.func fn first cap) w := fun _ _ _ _ => rfl
 have HR := Aside0.mk hr
 have HR1 := Aside0.mk hr1
 clear hr hr1
 subst h
 have H0 := Aside0.mk h0
 have cx : decide (x < 0) = false := decide_eq_false hx
 have cs_ : decide (sz ≤ x) = true := decide_eq_true hs
 subst ho
 clear h0 hx hs
 go_enter Try.func11, Try.ntmps11
 go_wp2_with (first | (go_at_call 14; refine (eval_Value.arg_ ih 0 3 v nm sl sz A c l A1 c1 cs e0 e1 e2 e3 x _ _ _ _ (eval_Value.three_ _ _ _ _).1 (eval_Value.three_ _ _ _ _).2.1 (eval_Value.three_ _ _ _ _).2.2 (by repeat (first | exact HR.out | (with_reducible refine Kd.C_alloc ?_ _) | (with_reducible refine Kd.C_drewN ?_ _) | (with_reducible refine Kd.C_drew ?_))) (by repeat (first | exact HR1.out | (with_reducible refine Kd.C_alloc ?_ _) | (with_reducible refine Kd.C_drewN ?_ _) | (with_reducible refine Kd.C_drew ?_))) hc1 H0.out).mono ?_; rintro e w5 ⟨rfl, hb⟩; have HB := Aside0.mk (below_step (bq (Below.refl w.heap.size w)) hb); have BK3 := blk_below (eval_Value.three_ _ _ _ _).1 hb; have BK4 := blk_below (eval_Value.three_ _ _ _ _).2.1 hb; have BK5 := blk_below (eval_Value.three_ _ _ _ _).2.2 hb; have X3_0 : w5.cell? ⟨(w.heap.size), 0, none⟩ = some (.int .i64 3) := (blk_cell BK3 0).trans rfl; have X3_1 : w5.cell? ⟨(w.heap.size), 1, none⟩ = some (.int .i64 v) := (blk_cell BK3 1).trans rfl; have X3_2 : w5.cell? ⟨(w.heap.size), 2, none⟩ = some (.string nm) := (blk_cell BK3 2).trans rfl; have X3_3 : w5.cell? ⟨(w.heap.size), 3, none⟩ = some (.int .i64 sl) := (blk_cell BK3 3).trans rfl; have X3_4 : w5.cell? ⟨(w.heap.size), 4, none⟩ = some (.int .i64 sz) := (blk_cell BK3 4).trans rfl; have X3_5 : w5.cell? ⟨(w.heap.size), 5, none⟩ = some (.slice A l.length c) := (blk_cell BK3 5).trans rfl; have X4_0 : w5.cell? ⟨(w.heap.size + 1), 0, none⟩ = some (.slice A1 cs.length c1) := (blk_cell BK4 0).trans rfl; have X5_0 : w5.cell? ⟨(w.heap.size + 1 + 1), 0, none⟩ = some (.int .i64 e0) := (blk_cell BK5 0).trans rfl; have X5_1 : w5.cell? ⟨(w.heap.size + 1 + 1), 1, none⟩ = some (.int .i64 e1) := (blk_cell BK5 1).trans rfl; have X5_2 : w5.cell? ⟨(w.heap.size + 1 + 1), 2, none⟩ = some (.int .i64 e2) := (blk_cell BK5 2).trans rfl; have X5_3 : w5.cell? ⟨(w.heap.size + 1 + 1), 3, none⟩ = some (.int .i64 e3) := (blk_cell BK5 3).trans rfl; clear hb BK3 BK4 BK5))
 go_ret
 exact ⟨rfl, bq HB.out⟩
set_option maxHeartbeats 8000000 in
set_option maxRecDepth 100000 in
theorem eval_Value.index_ {k : Nat} (ih : eval_Value.IH k) (op v : Int) (nm : ByteArray) (sl sz : Int) (A : Option Addr) (c : Nat) (l : List S33) (A1 : Option Addr) (c1 : Nat) (cs : List Int) (e0 e1 e2 e3 r : Int) (w : World) (x : Int) (hr : Kd.C k33 w A l.length l) (hc : l.length ≤ c) (hr1 : Kd.C (Kd.int .i64) w A1 cs.length cs) (hc1 : cs.length ≤ c1) (ho : op = 3) (h0 : (if (l.length : Int) ≤ ((0 : Nat) : Int) then some 0 else eval_Value.f k (rd_T33 l ((0 : Nat) : Int)).f0 (rd_T33 l ((0 : Nat) : Int)).f1 (rd_T33 l ((0 : Nat) : Int)).f2 (rd_T33 l ((0 : Nat) : Int)).f3 (rd_T33 l ((0 : Nat) : Int)).f4 (rd_T33 l ((0 : Nat) : Int)).f5 cs e0 e1 e2 e3) = some x) (hx : ¬ x < 0) (hs : ¬ sz ≤ x) (h : eval_cell.f cs (wrap64 (sl + x)) = some r) : Calls Try.prog 11 #[.agg #[.int .i64 op, .int .i64 v, .string nm, .int .i64 sl, .int .i64 sz, .slice A l.length c], .slice A1 cs.length c1, .agg #[.int .i64 e0, .int .i64 e1, .int .i64 e2, .int .i64 e3]] w fun e w' => e = .returned (.int .i64 r) ∧ Below w.heap.size w w' := by
 have hu1 := Try.underlying33
 have hu2 := Try.underlying36
 have hu3 := Try.underlying26
 have hmf : ∀ (fn : Fn) (first cap : Array Value) (w : World), (Instr.makeFunc fn first cap).run Try.prog w = .ok (.func fn first cap) w := fun _ _ _ _ => rfl
 have HR := Aside0.mk hr
 have HR1 := Aside0.mk hr1
 clear hr hr1
 have H := Aside0.mk h
 have H0 := Aside0.mk h0
 have cx : decide (x < 0) = false := decide_eq_false hx
 have cs_ : decide (sz ≤ x) = false := decide_eq_false hs
 subst ho
 clear h h0 hx hs
 go_enter Try.func11, Try.ntmps11
 go_wp2_with (first | (go_at_call 14; refine (eval_Value.arg_ ih 0 3 v nm sl sz A c l A1 c1 cs e0 e1 e2 e3 x _ _ _ _ (eval_Value.three_ _ _ _ _).1 (eval_Value.three_ _ _ _ _).2.1 (eval_Value.three_ _ _ _ _).2.2 (by repeat (first | exact HR.out | (with_reducible refine Kd.C_alloc ?_ _) | (with_reducible refine Kd.C_drewN ?_ _) | (with_reducible refine Kd.C_drew ?_))) (by repeat (first | exact HR1.out | (with_reducible refine Kd.C_alloc ?_ _) | (with_reducible refine Kd.C_drewN ?_ _) | (with_reducible refine Kd.C_drew ?_))) hc1 H0.out).mono ?_; rintro e w5 ⟨rfl, hb⟩; have HB := Aside0.mk (below_step (bq (Below.refl w.heap.size w)) hb); have BK3 := blk_below (eval_Value.three_ _ _ _ _).1 hb; have BK4 := blk_below (eval_Value.three_ _ _ _ _).2.1 hb; have BK5 := blk_below (eval_Value.three_ _ _ _ _).2.2 hb; have X3_0 : w5.cell? ⟨(w.heap.size), 0, none⟩ = some (.int .i64 3) := (blk_cell BK3 0).trans rfl; have X3_1 : w5.cell? ⟨(w.heap.size), 1, none⟩ = some (.int .i64 v) := (blk_cell BK3 1).trans rfl; have X3_2 : w5.cell? ⟨(w.heap.size), 2, none⟩ = some (.string nm) := (blk_cell BK3 2).trans rfl; have X3_3 : w5.cell? ⟨(w.heap.size), 3, none⟩ = some (.int .i64 sl) := (blk_cell BK3 3).trans rfl; have X3_4 : w5.cell? ⟨(w.heap.size), 4, none⟩ = some (.int .i64 sz) := (blk_cell BK3 4).trans rfl; have X3_5 : w5.cell? ⟨(w.heap.size), 5, none⟩ = some (.slice A l.length c) := (blk_cell BK3 5).trans rfl; have X4_0 : w5.cell? ⟨(w.heap.size + 1), 0, none⟩ = some (.slice A1 cs.length c1) := (blk_cell BK4 0).trans rfl; have X5_0 : w5.cell? ⟨(w.heap.size + 1 + 1), 0, none⟩ = some (.int .i64 e0) := (blk_cell BK5 0).trans rfl; have X5_1 : w5.cell? ⟨(w.heap.size + 1 + 1), 1, none⟩ = some (.int .i64 e1) := (blk_cell BK5 1).trans rfl; have X5_2 : w5.cell? ⟨(w.heap.size + 1 + 1), 2, none⟩ = some (.int .i64 e2) := (blk_cell BK5 2).trans rfl; have X5_3 : w5.cell? ⟨(w.heap.size + 1 + 1), 3, none⟩ = some (.int .i64 e3) := (blk_cell BK5 3).trans rfl; clear hb BK3 BK4 BK5) | (go_at_call 15; refine (eval_cell.calls A1 c1 cs (wrap64 (sl + x)) r _ (by repeat (first | exact Kd.C_below HR1.out HB.out | (with_reducible refine Kd.C_alloc ?_ _) | (with_reducible refine Kd.C_drewN ?_ _) | (with_reducible refine Kd.C_drew ?_))) hc1 H.out).mono ?_; rintro e w9 ⟨rfl, ⟨nd, rfl⟩⟩))
 go_ret
 exact ⟨rfl, bq HB.out⟩
set_option maxHeartbeats 8000000 in
set_option maxRecDepth 100000 in
theorem eval_Value.low_ (op v : Int) (nm : ByteArray) (sl sz : Int) (A : Option Addr) (c : Nat) (l : List S33) (A1 : Option Addr) (c1 : Nat) (cs : List Int) (e0 e1 e2 e3 r : Int) (w : World) (hr : Kd.C k33 w A l.length l) (hc : l.length ≤ c) (hr1 : Kd.C (Kd.int .i64) w A1 cs.length cs) (hc1 : cs.length ≤ c1) (ho : op < 1 ∨ 7 < op) (hl : op < 8) (h : (0 : Int) = r) : Calls Try.prog 11 #[.agg #[.int .i64 op, .int .i64 v, .string nm, .int .i64 sl, .int .i64 sz, .slice A l.length c], .slice A1 cs.length c1, .agg #[.int .i64 e0, .int .i64 e1, .int .i64 e2, .int .i64 e3]] w fun e w' => e = .returned (.int .i64 r) ∧ Below w.heap.size w w' := by
 have hu1 := Try.underlying33
 have hu2 := Try.underlying36
 have hu3 := Try.underlying26
 have hmf : ∀ (fn : Fn) (first cap : Array Value) (w : World), (Instr.makeFunc fn first cap).run Try.prog w = .ok (.func fn first cap) w := fun _ _ _ _ => rfl
 have HR := Aside0.mk hr
 have HR1 := Aside0.mk hr1
 clear hr hr1
 have f1 : (op == 1) = false := beq_eq_false_iff_ne.2 (by omega)
 have f2 : (op == 2) = false := beq_eq_false_iff_ne.2 (by omega)
 have f3 : (op == 3) = false := beq_eq_false_iff_ne.2 (by omega)
 have f4 : (op == 4) = false := beq_eq_false_iff_ne.2 (by omega)
 have f5 : (op == 5) = false := beq_eq_false_iff_ne.2 (by omega)
 have f6 : (op == 6) = false := beq_eq_false_iff_ne.2 (by omega)
 have f7 : (op == 7) = false := beq_eq_false_iff_ne.2 (by omega)
 have f8 : decide (op < 8) = true := decide_eq_true hl
 subst h
 clear ho hl
 go_enter Try.func11, Try.ntmps11
 go_wp2
 go_ret
 exact ⟨rfl, bq (Below.refl w.heap.size w)⟩
set_option maxHeartbeats 8000000 in
set_option maxRecDepth 100000 in
theorem eval_Value.high_ (op v : Int) (nm : ByteArray) (sl sz : Int) (A : Option Addr) (c : Nat) (l : List S33) (A1 : Option Addr) (c1 : Nat) (cs : List Int) (e0 e1 e2 e3 r : Int) (w : World) (hr : Kd.C k33 w A l.length l) (hc : l.length ≤ c) (hr1 : Kd.C (Kd.int .i64) w A1 cs.length cs) (hc1 : cs.length ≤ c1) (ho : op > 22) (h : (0 : Int) = r) : Calls Try.prog 11 #[.agg #[.int .i64 op, .int .i64 v, .string nm, .int .i64 sl, .int .i64 sz, .slice A l.length c], .slice A1 cs.length c1, .agg #[.int .i64 e0, .int .i64 e1, .int .i64 e2, .int .i64 e3]] w fun e w' => e = .returned (.int .i64 r) ∧ Below w.heap.size w w' := by
 have hu1 := Try.underlying33
 have hu2 := Try.underlying36
 have hu3 := Try.underlying26
 have hmf : ∀ (fn : Fn) (first cap : Array Value) (w : World), (Instr.makeFunc fn first cap).run Try.prog w = .ok (.func fn first cap) w := fun _ _ _ _ => rfl
 have HR := Aside0.mk hr
 have HR1 := Aside0.mk hr1
 clear hr hr1
 have f1 : (op == 1) = false := beq_eq_false_iff_ne.2 (by omega)
 have f2 : (op == 2) = false := beq_eq_false_iff_ne.2 (by omega)
 have f3 : (op == 3) = false := beq_eq_false_iff_ne.2 (by omega)
 have f4 : (op == 4) = false := beq_eq_false_iff_ne.2 (by omega)
 have f5 : (op == 5) = false := beq_eq_false_iff_ne.2 (by omega)
 have f6 : (op == 6) = false := beq_eq_false_iff_ne.2 (by omega)
 have f7 : (op == 7) = false := beq_eq_false_iff_ne.2 (by omega)
 have f8 : decide (op < 8) = false := decide_eq_false (by omega)
 have f9 : decide (22 < op) = true := decide_eq_true ho
 subst h
 clear ho
 go_enter Try.func11, Try.ntmps11
 go_wp2
 go_ret
 exact ⟨rfl, bq (Below.refl w.heap.size w)⟩
theorem eval_Value.all_ : ∀ k, eval_Value.IH k
 | 0 => fun op v nm sl sz A c l A1 c1 cs e0 e1 e2 e3 r w hr hc hr1 hc1 h => by simp [eval_Value.f] at h
 | k + 1 => fun op v nm sl sz A c l A1 c1 cs e0 e1 e2 e3 r w hr hc hr1 hc1 h => by
  have ih := eval_Value.all_ k
  simp only [eval_Value.f] at h
  by_cases o1 : op = 1
  ·rw [if_pos o1] at h; exact eval_Value.const_ op v nm sl sz A c l A1 c1 cs e0 e1 e2 e3 r w hr hc hr1 hc1 o1 (Option.some.inj h)
  rw [if_neg o1] at h
  by_cases o2 : op = 2
  ·rw [if_pos o2] at h; exact eval_Value.scalar_ op v nm sl sz A c l A1 c1 cs e0 e1 e2 e3 r w hr hc hr1 hc1 o2 h
  rw [if_neg o2] at h
  by_cases o3 : op = 3
  ·rw [if_pos o3] at h
   obtain ⟨x, hx, h⟩ := Option.bind_eq_some_iff.1 h
   by_cases x0 : x < 0
   ·rw [if_pos x0] at h; exact eval_Value.neg_ ih op v nm sl sz A c l A1 c1 cs e0 e1 e2 e3 r w x hr hc hr1 hc1 o3 hx x0 (Option.some.inj h)
   rw [if_neg x0] at h
   by_cases x1 : x ≥ sz
   ·rw [if_pos x1] at h; exact eval_Value.over_ ih op v nm sl sz A c l A1 c1 cs e0 e1 e2 e3 r w x hr hc hr1 hc1 o3 hx x0 x1 (Option.some.inj h)
   rw [if_neg x1] at h
   exact eval_Value.index_ ih op v nm sl sz A c l A1 c1 cs e0 e1 e2 e3 r w x hr hc hr1 hc1 o3 hx x0 x1 h
  rw [if_neg o3] at h
  by_cases o4 : op = 4
  ·rw [if_pos o4] at h; exact eval_Value.self_ op v nm sl sz A c l A1 c1 cs e0 e1 e2 e3 r w hr hc hr1 hc1 o4 (Option.some.inj h)
  rw [if_neg o4] at h
  by_cases o5 : op = 5
  ·rw [if_pos o5] at h; exact eval_Value.procs_ op v nm sl sz A c l A1 c1 cs e0 e1 e2 e3 r w hr hc hr1 hc1 o5 (Option.some.inj h)
  rw [if_neg o5] at h
  by_cases o6 : op = 6
  ·rw [if_pos o6] at h; exact eval_Value.from_ op v nm sl sz A c l A1 c1 cs e0 e1 e2 e3 r w hr hc hr1 hc1 o6 (Option.some.inj h)
  rw [if_neg o6] at h
  by_cases o7 : op = 7
  ·rw [if_pos o7] at h; exact eval_Value.value_ op v nm sl sz A c l A1 c1 cs e0 e1 e2 e3 r w hr hc hr1 hc1 o7 (Option.some.inj h)
  rw [if_neg o7] at h
  by_cases o8 : op < 8
  ·rw [if_pos o8] at h; exact eval_Value.low_ op v nm sl sz A c l A1 c1 cs e0 e1 e2 e3 r w hr hc hr1 hc1 (by omega) o8 (Option.some.inj h)
  rw [if_neg o8] at h
  by_cases o9 : op > 22
  ·rw [if_pos o9] at h; exact eval_Value.high_ op v nm sl sz A c l A1 c1 cs e0 e1 e2 e3 r w hr hc hr1 hc1 o9 (Option.some.inj h)
  rw [if_neg o9] at h
  exact absurd h (by simp)
theorem eval_Value.mono : ∀ (op v : Int) (nm : ByteArray) (sl sz : Int) (l : List S33) (cs : List Int) (e0 e1 e2 e3 : Int) (k : Nat), LeO (eval_Value.f k op v nm sl sz l cs e0 e1 e2 e3) (eval_Value.f (k + 1) op v nm sl sz l cs e0 e1 e2 e3) := fun op v nm sl sz l cs e0 e1 e2 e3 k => eval_Value.mono_ k op v nm sl sz l cs e0 e1 e2 e3
theorem eval_Value.calls (k : Nat) (a0_0 : Int) (a0_1 : Int) (a0_2 : ByteArray) (a0_3 : Int) (a0_4 : Int) (A0_5 : Option Addr) (c0_5 : Nat) (l0_5 : List S33) (A1 : Option Addr) (c1 : Nat) (l1 : List Int) (a2_0 : Int) (a2_1 : Int) (a2_2 : Int) (a2_3 : Int) (r : Int) (w : World) (hr0_5 : Kd.C k33 w A0_5 l0_5.length l0_5) (hc0_5 : l0_5.length ≤ c0_5) (hr1 : Kd.C (Kd.int .i64) w A1 l1.length l1) (hc1 : l1.length ≤ c1) (h : eval_Value.f k a0_0 a0_1 a0_2 a0_3 a0_4 l0_5 l1 a2_0 a2_1 a2_2 a2_3 = some r) :
  Calls Try.prog 11 #[.agg #[.int .i64 a0_0, .int .i64 a0_1, .string a0_2, .int .i64 a0_3, .int .i64 a0_4, .slice A0_5 l0_5.length c0_5], .slice A1 l1.length c1, .agg #[.int .i64 a2_0, .int .i64 a2_1, .int .i64 a2_2, .int .i64 a2_3]] w fun e w' => e = .returned (.int .i64 r) ∧ Below w.heap.size w w' :=
 eval_Value.all_ k a0_0 a0_1 a0_2 a0_3 a0_4 A0_5 c0_5 l0_5 A1 c1 l1 a2_0 a2_1 a2_2 a2_3 r w hr0_5 hc0_5 hr1 hc1 h

end Go.Proofs.Ytpklmllikcdacaa.PT04
