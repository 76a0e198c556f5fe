/- Which nodes acquire, release, are plain (tree's own functions and the document's): walked by hand, by cases. -/
import Derived.Test.YtlpdcdkjmcpfdaaDoorPTx0
namespace Go.Proofs.YtlpdcdkjmcpfdaaDoor.PT
open Go.RowKit Go.Proofs.YtlpdcdkjmcpfdaaDoorW.PrintWords Go.Proofs.YtlpdcdkjmcpfdaaDoorW.PrintLast Go.Proofs.YtlpdcdkjmcpfdaaDoorW.PrintMore
set_option linter.unusedVariables false
set_option linter.unusedSimpArgs false
attribute [local go_sem] cell_set_some
def acqB (n2 n4 : Int) : Bool := (n2 == 2 || n2 == 4) && (n4 == 1 || n4 == 3 || n4 == 4)
def relB (n0 n2 n4 : Int) : Bool := (n2 == 4 || n2 == 3 && decide (0 ≤ n0)) && (n4 == 2 || n4 == 3 || n4 == 4)
def plainB (n0 n2 n4 : Int) (n6 : Bool) : Bool := n2 == 3 && decide (0 ≤ n0) && n4 == 0 && !n6
set_option maxHeartbeats 8000000 in
set_option maxRecDepth 100000 in
theorem acq_t (w : World) (n0 n1 n2 n3 n4 n5 : Int) (n6 n7 : Bool) (A8 : Option Addr) (m8 c8 : Nat) (r : Bool) (h : acqB n2 n4 = r) : Calls Tryd.prog 26 #[.agg #[.int .i64 n0, .int .i64 n1, .int .i64 n2, .int .i64 n3, .int .i64 n4, .int .i64 n5, .bool n6, .bool n7, .slice A8 m8 c8]] w fun e w' => e = .returned (.bool r) ∧ Below w.heap.size w w' := by
  subst h
  have hu53 := Tryd.underlying53
  go_enter Tryd.func26, Tryd.ntmps26
  go_upto_region 1 with ((with_reducible refine gate_dst (N := 1) rfl ?_); refine box_event ?hg (N := 1) ?hd (cs := #[.int .i64 n0, .int .i64 n1, .int .i64 n2, .int .i64 n3, .int .i64 n4, .int .i64 n5, .bool n6, .bool n7, .slice A8 m8 c8]) (t := 53) ?hr ?_; (case hd => rfl); (case hg => rfl); (case hr => first | (go_simp; done) | (go_simp; rfl)); intro g1 hg1 w1 hbox hb1; have HX := Aside0.mk hbox; have HB := Aside0.mk hb1; clear hg1 hb1 hbox)
  have x2 := (blk_cell HX.out 2).trans rfl
  have x4 := (blk_cell HX.out 4).trans rfl
  rcases Bool.eq_false_or_eq_true (n2 == 2) with e0 | e0 <;> rcases Bool.eq_false_or_eq_true (n2 == 4) with e1 | e1 <;> rcases Bool.eq_false_or_eq_true (n4 == 1) with e2 | e2 <;> rcases Bool.eq_false_or_eq_true (n4 == 3) with e3 | e3 <;> rcases Bool.eq_false_or_eq_true (n4 == 4) with e4 | e4
  all_goals
    go_wp2
    go_ret
    exact ⟨by simp only [acqB, e0, e1, e2, e3, e4, Bool.true_or, Bool.or_true, Bool.false_or, Bool.or_false, Bool.true_and, Bool.and_true, Bool.false_and, Bool.and_false, Bool.not_true, Bool.not_false, Bool.not_not] <;> rfl, HB.out⟩
set_option maxHeartbeats 8000000 in
set_option maxRecDepth 100000 in
theorem acq_d (w : World) (n0 n1 n2 n3 n4 n5 : Int) (n6 n7 : Bool) (A8 : Option Addr) (m8 c8 : Nat) (r : Bool) (h : acqB n2 n4 = r) : Calls Tryd.prog 27 #[.agg #[.int .i64 n0, .int .i64 n1, .int .i64 n2, .int .i64 n3, .int .i64 n4, .int .i64 n5, .bool n6, .bool n7, .slice A8 m8 c8]] w fun e w' => e = .returned (.bool r) ∧ Below w.heap.size w w' := by
  subst h
  have hu53 := Tryd.underlying53
  go_enter Tryd.func27, Tryd.ntmps27
  go_upto_region 1 with ((with_reducible refine gate_dst (N := 1) rfl ?_); refine box_event ?hg (N := 1) ?hd (cs := #[.int .i64 n0, .int .i64 n1, .int .i64 n2, .int .i64 n3, .int .i64 n4, .int .i64 n5, .bool n6, .bool n7, .slice A8 m8 c8]) (t := 53) ?hr ?_; (case hd => rfl); (case hg => rfl); (case hr => first | (go_simp; done) | (go_simp; rfl)); intro g1 hg1 w1 hbox hb1; have HX := Aside0.mk hbox; have HB := Aside0.mk hb1; clear hg1 hb1 hbox)
  have x2 := (blk_cell HX.out 2).trans rfl
  have x4 := (blk_cell HX.out 4).trans rfl
  rcases Bool.eq_false_or_eq_true (n2 == 2) with e0 | e0 <;> rcases Bool.eq_false_or_eq_true (n2 == 4) with e1 | e1 <;> rcases Bool.eq_false_or_eq_true (n4 == 1) with e2 | e2 <;> rcases Bool.eq_false_or_eq_true (n4 == 3) with e3 | e3 <;> rcases Bool.eq_false_or_eq_true (n4 == 4) with e4 | e4
  all_goals
    go_wp2
    go_ret
    exact ⟨by simp only [acqB, e0, e1, e2, e3, e4, Bool.true_or, Bool.or_true, Bool.false_or, Bool.or_false, Bool.true_and, Bool.and_true, Bool.false_and, Bool.and_false, Bool.not_true, Bool.not_false, Bool.not_not] <;> rfl, HB.out⟩
set_option maxHeartbeats 8000000 in
set_option maxRecDepth 100000 in
theorem rel_t (w : World) (n0 n1 n2 n3 n4 n5 : Int) (n6 n7 : Bool) (A8 : Option Addr) (m8 c8 : Nat) (r : Bool) (h : relB n0 n2 n4 = r) : Calls Tryd.prog 28 #[.agg #[.int .i64 n0, .int .i64 n1, .int .i64 n2, .int .i64 n3, .int .i64 n4, .int .i64 n5, .bool n6, .bool n7, .slice A8 m8 c8]] w fun e w' => e = .returned (.bool r) ∧ Below w.heap.size w w' := by
  subst h
  have hu53 := Tryd.underlying53
  go_enter Tryd.func28, Tryd.ntmps28
  go_upto_region 1 with ((with_reducible refine gate_dst (N := 1) rfl ?_); refine box_event ?hg (N := 1) ?hd (cs := #[.int .i64 n0, .int .i64 n1, .int .i64 n2, .int .i64 n3, .int .i64 n4, .int .i64 n5, .bool n6, .bool n7, .slice A8 m8 c8]) (t := 53) ?hr ?_; (case hd => rfl); (case hg => rfl); (case hr => first | (go_simp; done) | (go_simp; rfl)); intro g1 hg1 w1 hbox hb1; have HX := Aside0.mk hbox; have HB := Aside0.mk hb1; clear hg1 hb1 hbox)
  have x0 := (blk_cell HX.out 0).trans rfl
  have x2 := (blk_cell HX.out 2).trans rfl
  have x4 := (blk_cell HX.out 4).trans rfl
  rcases Bool.eq_false_or_eq_true (n2 == 4) with e0 | e0 <;> rcases Bool.eq_false_or_eq_true (n2 == 3) with e1 | e1 <;> rcases Bool.eq_false_or_eq_true (decide (0 ≤ n0)) with e2 | e2 <;> rcases Bool.eq_false_or_eq_true (n4 == 2) with e3 | e3 <;> rcases Bool.eq_false_or_eq_true (n4 == 3) with e4 | e4 <;> rcases Bool.eq_false_or_eq_true (n4 == 4) with e5 | e5
  all_goals
    go_wp2
    go_ret
    exact ⟨by simp only [relB, e0, e1, e2, e3, e4, e5, Bool.true_or, Bool.or_true, Bool.false_or, Bool.or_false, Bool.true_and, Bool.and_true, Bool.false_and, Bool.and_false, Bool.not_true, Bool.not_false, Bool.not_not] <;> rfl, HB.out⟩
set_option maxHeartbeats 8000000 in
set_option maxRecDepth 100000 in
theorem rel_d (w : World) (n0 n1 n2 n3 n4 n5 : Int) (n6 n7 : Bool) (A8 : Option Addr) (m8 c8 : Nat) (r : Bool) (h : relB n0 n2 n4 = r) : Calls Tryd.prog 29 #[.agg #[.int .i64 n0, .int .i64 n1, .int .i64 n2, .int .i64 n3, .int .i64 n4, .int .i64 n5, .bool n6, .bool n7, .slice A8 m8 c8]] w fun e w' => e = .returned (.bool r) ∧ Below w.heap.size w w' := by
  subst h
  have hu53 := Tryd.underlying53
  go_enter Tryd.func29, Tryd.ntmps29
  go_upto_region 1 with ((with_reducible refine gate_dst (N := 1) rfl ?_); refine box_event ?hg (N := 1) ?hd (cs := #[.int .i64 n0, .int .i64 n1, .int .i64 n2, .int .i64 n3, .int .i64 n4, .int .i64 n5, .bool n6, .bool n7, .slice A8 m8 c8]) (t := 53) ?hr ?_; (case hd => rfl); (case hg => rfl); (case hr => first | (go_simp; done) | (go_simp; rfl)); intro g1 hg1 w1 hbox hb1; have HX := Aside0.mk hbox; have HB := Aside0.mk hb1; clear hg1 hb1 hbox)
  have x0 := (blk_cell HX.out 0).trans rfl
  have x2 := (blk_cell HX.out 2).trans rfl
  have x4 := (blk_cell HX.out 4).trans rfl
  rcases Bool.eq_false_or_eq_true (n2 == 4) with e0 | e0 <;> rcases Bool.eq_false_or_eq_true (n2 == 3) with e1 | e1 <;> rcases Bool.eq_false_or_eq_true (decide (0 ≤ n0)) with e2 | e2 <;> rcases Bool.eq_false_or_eq_true (n4 == 2) with e3 | e3 <;> rcases Bool.eq_false_or_eq_true (n4 == 3) with e4 | e4 <;> rcases Bool.eq_false_or_eq_true (n4 == 4) with e5 | e5
  all_goals
    go_wp2
    go_ret
    exact ⟨by simp only [relB, e0, e1, e2, e3, e4, e5, Bool.true_or, Bool.or_true, Bool.false_or, Bool.or_false, Bool.true_and, Bool.and_true, Bool.false_and, Bool.and_false, Bool.not_true, Bool.not_false, Bool.not_not] <;> rfl, HB.out⟩
set_option maxHeartbeats 8000000 in
set_option maxRecDepth 100000 in
theorem plain_t (w : World) (n0 n1 n2 n3 n4 n5 : Int) (n6 n7 : Bool) (A8 : Option Addr) (m8 c8 : Nat) (r : Bool) (h : plainB n0 n2 n4 n6 = r) : Calls Tryd.prog 30 #[.agg #[.int .i64 n0, .int .i64 n1, .int .i64 n2, .int .i64 n3, .int .i64 n4, .int .i64 n5, .bool n6, .bool n7, .slice A8 m8 c8]] w fun e w' => e = .returned (.bool r) ∧ Below w.heap.size w w' := by
  subst h
  have hu53 := Tryd.underlying53
  go_enter Tryd.func30, Tryd.ntmps30
  go_upto_region 1 with ((with_reducible refine gate_dst (N := 1) rfl ?_); refine box_event ?hg (N := 1) ?hd (cs := #[.int .i64 n0, .int .i64 n1, .int .i64 n2, .int .i64 n3, .int .i64 n4, .int .i64 n5, .bool n6, .bool n7, .slice A8 m8 c8]) (t := 53) ?hr ?_; (case hd => rfl); (case hg => rfl); (case hr => first | (go_simp; done) | (go_simp; rfl)); intro g1 hg1 w1 hbox hb1; have HX := Aside0.mk hbox; have HB := Aside0.mk hb1; clear hg1 hb1 hbox)
  have x0 := (blk_cell HX.out 0).trans rfl
  have x2 := (blk_cell HX.out 2).trans rfl
  have x4 := (blk_cell HX.out 4).trans rfl
  have x6 := (blk_cell HX.out 6).trans rfl
  rcases Bool.eq_false_or_eq_true (n2 == 3) with e0 | e0 <;> rcases Bool.eq_false_or_eq_true (decide (0 ≤ n0)) with e1 | e1 <;> rcases Bool.eq_false_or_eq_true (n4 == 0) with e2 | e2 <;> rcases Bool.eq_false_or_eq_true (n6) with e3 | e3
  all_goals
    go_wp2
    go_ret
    exact ⟨by simp only [plainB, e0, e1, e2, e3, Bool.true_or, Bool.or_true, Bool.false_or, Bool.or_false, Bool.true_and, Bool.and_true, Bool.false_and, Bool.and_false, Bool.not_true, Bool.not_false, Bool.not_not] <;> rfl, HB.out⟩
set_option maxHeartbeats 8000000 in
set_option maxRecDepth 100000 in
theorem plain_d (w : World) (n0 n1 n2 n3 n4 n5 : Int) (n6 n7 : Bool) (A8 : Option Addr) (m8 c8 : Nat) (r : Bool) (h : plainB n0 n2 n4 n6 = r) : Calls Tryd.prog 31 #[.agg #[.int .i64 n0, .int .i64 n1, .int .i64 n2, .int .i64 n3, .int .i64 n4, .int .i64 n5, .bool n6, .bool n7, .slice A8 m8 c8]] w fun e w' => e = .returned (.bool r) ∧ Below w.heap.size w w' := by
  subst h
  have hu53 := Tryd.underlying53
  go_enter Tryd.func31, Tryd.ntmps31
  go_upto_region 1 with ((with_reducible refine gate_dst (N := 1) rfl ?_); refine box_event ?hg (N := 1) ?hd (cs := #[.int .i64 n0, .int .i64 n1, .int .i64 n2, .int .i64 n3, .int .i64 n4, .int .i64 n5, .bool n6, .bool n7, .slice A8 m8 c8]) (t := 53) ?hr ?_; (case hd => rfl); (case hg => rfl); (case hr => first | (go_simp; done) | (go_simp; rfl)); intro g1 hg1 w1 hbox hb1; have HX := Aside0.mk hbox; have HB := Aside0.mk hb1; clear hg1 hb1 hbox)
  have x0 := (blk_cell HX.out 0).trans rfl
  have x2 := (blk_cell HX.out 2).trans rfl
  have x4 := (blk_cell HX.out 4).trans rfl
  have x6 := (blk_cell HX.out 6).trans rfl
  rcases Bool.eq_false_or_eq_true (n2 == 3) with e0 | e0 <;> rcases Bool.eq_false_or_eq_true (decide (0 ≤ n0)) with e1 | e1 <;> rcases Bool.eq_false_or_eq_true (n4 == 0) with e2 | e2 <;> rcases Bool.eq_false_or_eq_true (n6) with e3 | e3
  all_goals
    go_wp2
    go_ret
    exact ⟨by simp only [plainB, e0, e1, e2, e3, Bool.true_or, Bool.or_true, Bool.false_or, Bool.or_false, Bool.true_and, Bool.and_true, Bool.false_and, Bool.and_false, Bool.not_true, Bool.not_false, Bool.not_not] <;> rfl, HB.out⟩
end Go.Proofs.YtlpdcdkjmcpfdaaDoor.PT
