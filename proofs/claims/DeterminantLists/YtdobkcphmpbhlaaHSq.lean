import Derived.Test.YtdobkcphmpbhlaaWMore
import Derived.Test.YtdobkcphmpbhlaaWLast
namespace Go.Proofs.YtdobkcphmpbhlaaW.PrintWords
set_option linter.unusedVariables false
set_option linter.unusedSimpArgs false
open Go.RowKit
theorem rq {p q : Prop} (h : q) (s : q → p := by intro h_; (with_reducible repeat (first | apply Kd.R_alloc | apply Kd.R_drewN | apply Kd.R_drew)); exact h_) : p := s h
theorem kq {p q : Prop} (h : q) (s : q → p := by intro h_; (with_reducible repeat (first | refine blk_drewN ?_ _ | refine blk_drew ?_ | refine blk_alloc ?_ _)); exact h_) : p := s h
theorem bq {p q : Prop} (h : q) (s : q → p := by intro h_; repeat (first | (with_reducible first | exact h_ | apply below_alloc | apply pw_below_drewN | apply below_drew1) | exact h_)) : p := s h
theorem bq1 {p q e1 : Prop} (h : q) (g1 : e1) (s : q → e1 → p := by intro h_ a_; repeat (first | (with_reducible first | exact h_ | apply below_alloc | apply pw_below_drewN | apply below_drew1 | refine below_set ?_ a_) | exact h_)) : p := s h g1
theorem bq2 {p q e1 e2 : Prop} (h : q) (g1 : e1) (g2 : e2) (s : q → e1 → e2 → p := by intro h_ a_ b_; repeat (first | (with_reducible first | exact h_ | apply below_alloc | apply pw_below_drewN | apply below_drew1 | refine below_set ?_ a_ | refine below_set ?_ b_) | exact h_)) : p := s h g1 g2
theorem bq3 {p q e1 e2 e3 : Prop} (h : q) (g1 : e1) (g2 : e2) (g3 : e3) (s : q → e1 → e2 → e3 → p := by intro h_ a_ b_ c_; repeat (first | (with_reducible first | exact h_ | apply below_alloc | apply pw_below_drewN | apply below_drew1 | refine below_set ?_ a_ | refine below_set ?_ b_ | refine below_set ?_ c_) | exact h_)) : p := s h g1 g2 g3
theorem bq4 {p q e1 e2 e3 e4 : Prop} (h : q) (g1 : e1) (g2 : e2) (g3 : e3) (g4 : e4) (s : q → e1 → e2 → e3 → e4 → p := by intro h_ a_ b_ c_ d_; repeat (first | (with_reducible first | exact h_ | apply below_alloc | apply pw_below_drewN | apply below_drew1 | refine below_set ?_ a_ | refine below_set ?_ b_ | refine below_set ?_ c_ | refine below_set ?_ d_) | exact h_)) : p := s h g1 g2 g3 g4
theorem off_ {b : Bool} {p : Prop} (h : b = false) (h0 : b = true) : p := absurd (h.symm.trans h0) (by decide)
end Go.Proofs.YtdobkcphmpbhlaaW.PrintWords
