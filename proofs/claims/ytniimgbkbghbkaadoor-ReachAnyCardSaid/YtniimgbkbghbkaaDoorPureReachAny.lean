/- ReachAny: of rows that may not be nothing is told. For all rows and all sets. -/
import Derived.Test.YtniimgbkbghbkaaDoorRchG
import Derived.Test.YtniimgbkbghbkaaDoorPHx8
import Derived.Test.YtniimgbkbghbkaaDoorBitsR
import Derived.Test.YtniimgbkbghbkaaDoorPHx20
namespace Go.Proofs.YtniimgbkbghbkaaDoor.Pure
open Go.RowKit Go.Proofs.YtniimgbkbghbkaaDoor.PH Go.Proofs.YtniimgbkbghbkaaDoorW.PrintWords Go.Proofs.YtniimgbkbghbkaaDoorW.PrintLast
set_option linter.unusedVariables false
set_option linter.unusedSimpArgs false

theorem order_bad {a : List Int} (ha : Us a) (hm : mayB a = false) : Ev (fun k => reach_Order.f k a) ([], false) := by
  unfold reach_Order.f
  exact Ev.bind (acyclic_bad ha hm) (ev_else (by simp) (Ev.now _))
theorem deep_bad {a : List Int} (ha : Us a) (hm : mayB a = false) : Ev (fun k => reach_Deep.f k a) ([], false) := by
  unfold reach_Deep.f
  exact Ev.bind (order_bad ha hm) (ev_else (by simp) (Ev.now _))
theorem total_bad {a : List Int} (ha : Us a) (hm : mayB a = false) (s : Int) : Ev (fun k => reach_Total.f k a s) false := by
  unfold reach_Total.f
  exact Ev.bind (may_f ha) (ev_else (by rw [hm]; simp) (Ev.now _))
theorem ReachAny : withelaw3_ReachAny.Pure := by
  intro a s
  intros
  refine Ev.rounds ?_
  unfold withelaw3_ReachAny.f
  refine Ev.bind begun_ev (ev_if rfl ?_)
  have stop : Ev (fun k => withelaw3_ReachAny.j0 k a s true) true := Ev.step (fun k => by simp only [withelaw3_ReachAny.j0]; rfl) (ev_if (show true = true from rfl) (Ev.now _))
  refine ev_ite (fun _ => stop) (fun b0 => ?_)
  have ha : Us a := Us_wf (by assumption)
  refine Ev.bind (refMay_f ha) ?_
  cases hm : mayB a with
  | true => exact stop
  | false =>
    refine Ev.step (fun k => by simp only [withelaw3_ReachAny.j0]; rfl) (ev_else (show ¬ (false = true) by decide) ?_)
    refine Ev.bind (order_bad ha hm) (Ev.bind (deep_bad ha hm) (Ev.bind (plus_bad ha hm) (ev_if rfl (Ev.bind (star_bad ha hm) (ev_if rfl (Ev.bind (acyclic_bad ha hm) ?_))))))
    refine ev_else (by decide) (ev_else (by decide) (ev_if rfl (ev_else (by decide) (ev_if rfl (Ev.bind (total_bad ha hm s) ?_)))))
    exact ev_else (by decide) (Ev.bind (down_bad ha hm s) (ev_if rfl (Ev.bind (up_bad ha hm s) (Ev.now _))))
end Go.Proofs.YtniimgbkbghbkaaDoor.Pure
