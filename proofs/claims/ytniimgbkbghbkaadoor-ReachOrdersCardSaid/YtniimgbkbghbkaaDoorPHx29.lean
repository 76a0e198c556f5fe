-- made by fvprint.py over the kit's print
import Derived.Test.YtniimgbkbghbkaaDoorPHx0
import Derived.Test.YtniimgbkbghbkaaDoorPHx1
import Derived.Test.YtniimgbkbghbkaaDoorPHx3
import Derived.Test.YtniimgbkbghbkaaDoorPHx6
import Derived.Test.YtniimgbkbghbkaaDoorPHx7
import Derived.Test.YtniimgbkbghbkaaDoorPHx9
import Derived.Test.YtniimgbkbghbkaaDoorPHx11
import Derived.Test.YtniimgbkbghbkaaDoorPHx12
import Derived.Test.YtniimgbkbghbkaaDoorPHx21
namespace Go.Proofs.YtniimgbkbghbkaaDoor.PH
open Go.RowKit Go.Proofs.YtniimgbkbghbkaaDoorW.PrintWords Go.Proofs.YtniimgbkbghbkaaDoorW.PrintLast Go.Proofs.YtniimgbkbghbkaaDoorW.PrintMore
attribute [local go_sem] max2_int min2_int max_two min_two max_three min_three max_four min_four   -- for this text's walks alone
set_option linter.unusedVariables false
set_option linter.unusedSimpArgs false

attribute [local go_sem] cell_set_some
/-! ### withelaw3_ReachOrders: function 5 -/
mutual
def withelaw3_ReachOrders.j0 : Nat → List Int → List Int → Bool → List Int → Bool → Option (Bool)
 | 0, _, _, _, _, _ => none
 | k + 1, x7, x8, x9, x10, x58 => if x58 = true then (none) else (if x9 = true then (if 0 ≤ (x7.length : Int) then (if ((x7.length : Int) : Int).toNat ≤ 35184372088832 then (withelaw3_ReachOrders.l0 k x7 x8 x10 (List.replicate ((x7.length : Int) : Int).toNat 0) 0) else (none)) else (none)) else (if (x8.length : Int) = 0 then (some ((x10.length : Int) == 0)) else (none)))
def withelaw3_ReachOrders.l0 : Nat → List Int → List Int → List Int → List Int → Int → Option (Bool)
 | 0, _, _, _, _, _ => none
 | k + 1, x7, x8, x10, x12, x13 => if x13 < (x12.length : Int) then (if 0 ≤ x13 then (withelaw3_ReachOrders.l0 k x7 x8 x10 (x12.set (x13 : Int).toNat (-1)) (wrap64 (x13 + 1))) else (none)) else (if (x8.length : Int) = (x7.length : Int) then (withelaw3_ReachOrders.j2 k x7 x8 x10 x12 ((x10.length : Int) != (x7.length : Int))) else (withelaw3_ReachOrders.j2 k x7 x8 x10 x12 true))
def withelaw3_ReachOrders.j2 : Nat → List Int → List Int → List Int → List Int → Bool → Option (Bool)
 | 0, _, _, _, _, _ => none
 | k + 1, x7, x8, x10, x12, x92 => if x92 = true then (none) else (withelaw3_ReachOrders.l1 k x7 x8 x10 x12 0)
def withelaw3_ReachOrders.l1 : Nat → List Int → List Int → List Int → List Int → Int → Option (Bool)
 | 0, _, _, _, _, _ => none
 | k + 1, x7, x8, x10, x12, x14 => if x14 < (x8.length : Int) then (if 0 ≤ x14 then (if (rd x8 x14) < 0 then (none) else (if (rd x8 x14) ≥ (x7.length : Int) then (none) else (if 0 ≤ (rd x8 x14) then (if (rd x8 x14) < (x12.length : Int) then (if (rd x12 (rd x8 x14)) ≥ 0 then (none) else (withelaw3_ReachOrders.l1 k x7 x8 x10 (x12.set ((rd x8 x14) : Int).toNat x14) (wrap64 (x14 + 1)))) else (none)) else (none)))) else (none)) else (withelaw3_ReachOrders.l2 k x7 x8 x10 x12 0)
def withelaw3_ReachOrders.l2 : Nat → List Int → List Int → List Int → List Int → Int → Option (Bool)
 | 0, _, _, _, _, _ => none
 | k + 1, x7, x8, x10, x12, x15 => if x15 < (x7.length : Int) then (withelaw3_ReachOrders.l3 k x7 x8 x10 x12 x15 0 0) else (withelaw3_ReachOrders.l4 k x7 x8 0)
def withelaw3_ReachOrders.l3 : Nat → List Int → List Int → List Int → List Int → Int → Int → Int → Option (Bool)
 | 0, _, _, _, _, _, _, _ => none
 | k + 1, x7, x8, x10, x12, x15, x16, x17 => if x17 < (x7.length : Int) then ((rel_Has.f k x7 x15 x17).bind fun t414 => (if t414 = true then (if 0 ≤ x15 then (if x15 < (x12.length : Int) then (if 0 ≤ x17 then (if x17 < (x12.length : Int) then (if (rd x12 x15) ≥ (rd x12 x17) then (withelaw3_ReachOrders.j6 k x7 x8 x10 x12 x15 x16 x17 true) else (if x17 < (x10.length : Int) then (if x15 < (x10.length : Int) then (withelaw3_ReachOrders.j6 k x7 x8 x10 x12 x15 x16 x17 (decide ((rd x10 x17) < (wrap64 ((rd x10 x15) + 1))))) else (none)) else (none))) else (none)) else (none)) else (none)) else (none)) else (withelaw3_ReachOrders.j6 k x7 x8 x10 x12 x15 x16 x17 false))) else (if 0 ≤ x15 then (if x15 < (x10.length : Int) then (if (rd x10 x15) = x16 then (if x15 < (x12.length : Int) then (if (rd x12 x15) < (rd x10 x15) then (none) else (withelaw3_ReachOrders.l2 k x7 x8 x10 x12 (wrap64 (x15 + 1)))) else (none)) else (none)) else (none)) else (none))
def withelaw3_ReachOrders.j6 : Nat → List Int → List Int → List Int → List Int → Int → Int → Int → Bool → Option (Bool)
 | 0, _, _, _, _, _, _, _, _ => none
 | k + 1, x7, x8, x10, x12, x15, x16, x17, x168 => if x168 = true then (none) else ((rel_Has.f k x7 x17 x15).bind fun t419 => (if t419 = true then (if 0 ≤ x17 then (if x17 < (x10.length : Int) then (if (wrap64 ((rd x10 x17) + 1)) > x16 then (withelaw3_ReachOrders.l3 k x7 x8 x10 x12 x15 (wrap64 ((rd x10 x17) + 1)) (wrap64 (x17 + 1))) else (withelaw3_ReachOrders.l3 k x7 x8 x10 x12 x15 x16 (wrap64 (x17 + 1)))) else (none)) else (none)) else (withelaw3_ReachOrders.l3 k x7 x8 x10 x12 x15 x16 (wrap64 (x17 + 1)))))
def withelaw3_ReachOrders.l4 : Nat → List Int → List Int → Int → Option (Bool)
 | 0, _, _, _ => none
 | k + 1, x7, x8, x18 => if (wrap64 (x18 + 1)) < (x8.length : Int) then (if 0 ≤ x18 then (if x18 < (x8.length : Int) then (if 0 ≤ (wrap64 (x18 + 1)) then (if (rd x8 x18) > (rd x8 (wrap64 (x18 + 1))) then ((rel_Has.f k x7 (rd x8 x18) (rd x8 (wrap64 (x18 + 1)))).bind fun t426 => (if t426 = true then (withelaw3_ReachOrders.l4 k x7 x8 (wrap64 (x18 + 1))) else (none))) else (withelaw3_ReachOrders.l4 k x7 x8 (wrap64 (x18 + 1)))) else (none)) else (none)) else (none)) else (some true)
end
def withelaw3_ReachOrders.f (k : Nat) (l0 : List Int) (a1 : Int) (a2 : Bool) : Option (Bool) := (withelaw3_begun.f k).bind fun t387 => (if t387 = true then (if (l0.length : Int) > 60 then (some true) else ((withelaw3_some.f k l0 a1 a2).bind fun t388 => ((reach_Order.f k t388).bind fun bt391 => ((reach_Deep.f k t388).bind fun bt395 => ((reach_Acyclic.f k t388).bind fun t399 => (if (bt391.2 != t399) = true then (withelaw3_ReachOrders.j0 k t388 bt391.1 bt391.2 bt395.1 true) else (if (bt395.2 != bt391.2) = true then (withelaw3_ReachOrders.j0 k t388 bt391.1 bt391.2 bt395.1 true) else (if a2 = true then ((withelaw3_hasLoop.f k t388).bind fun t400 => (if t400 = true then (withelaw3_ReachOrders.j0 k t388 bt391.1 bt391.2 bt395.1 false) else (withelaw3_ReachOrders.j0 k t388 bt391.1 bt391.2 bt395.1 (!bt391.2)))) else (withelaw3_ReachOrders.j0 k t388 bt391.1 bt391.2 bt395.1 false))))))))) else (none))
theorem withelaw3_ReachOrders.mono_l : ∀ k, (∀ y0 y1 y2 y3 y4, LeO (withelaw3_ReachOrders.j0 k y0 y1 y2 y3 y4) (withelaw3_ReachOrders.j0 (k + 1) y0 y1 y2 y3 y4)) ∧ (∀ y0 y1 y2 y3 y4, LeO (withelaw3_ReachOrders.l0 k y0 y1 y2 y3 y4) (withelaw3_ReachOrders.l0 (k + 1) y0 y1 y2 y3 y4)) ∧ (∀ y0 y1 y2 y3 y4, LeO (withelaw3_ReachOrders.j2 k y0 y1 y2 y3 y4) (withelaw3_ReachOrders.j2 (k + 1) y0 y1 y2 y3 y4)) ∧ (∀ y0 y1 y2 y3 y4, LeO (withelaw3_ReachOrders.l1 k y0 y1 y2 y3 y4) (withelaw3_ReachOrders.l1 (k + 1) y0 y1 y2 y3 y4)) ∧ (∀ y0 y1 y2 y3 y4, LeO (withelaw3_ReachOrders.l2 k y0 y1 y2 y3 y4) (withelaw3_ReachOrders.l2 (k + 1) y0 y1 y2 y3 y4)) ∧ (∀ y0 y1 y2 y3 y4 y5 y6, LeO (withelaw3_ReachOrders.l3 k y0 y1 y2 y3 y4 y5 y6) (withelaw3_ReachOrders.l3 (k + 1) y0 y1 y2 y3 y4 y5 y6)) ∧ (∀ y0 y1 y2 y3 y4 y5 y6 y7, LeO (withelaw3_ReachOrders.j6 k y0 y1 y2 y3 y4 y5 y6 y7) (withelaw3_ReachOrders.j6 (k + 1) y0 y1 y2 y3 y4 y5 y6 y7)) ∧ (∀ y0 y1 y2, LeO (withelaw3_ReachOrders.l4 k y0 y1 y2) (withelaw3_ReachOrders.l4 (k + 1) y0 y1 y2))
 | 0 => ⟨fun _ _ _ _ _ r h => by simp [withelaw3_ReachOrders.j0] at h, fun _ _ _ _ _ r h => by simp [withelaw3_ReachOrders.l0] at h, fun _ _ _ _ _ r h => by simp [withelaw3_ReachOrders.j2] at h, fun _ _ _ _ _ r h => by simp [withelaw3_ReachOrders.l1] at h, fun _ _ _ _ _ r h => by simp [withelaw3_ReachOrders.l2] at h, fun _ _ _ _ _ _ _ r h => by simp [withelaw3_ReachOrders.l3] at h, fun _ _ _ _ _ _ _ _ r h => by simp [withelaw3_ReachOrders.j6] at h, fun _ _ _ r h => by simp [withelaw3_ReachOrders.l4] at h⟩
 | k + 1 => by
  obtain ⟨ih0, ih1, ih2, ih3, ih4, ih5, ih6, ih7⟩ := withelaw3_ReachOrders.mono_l k
  refine ⟨?_, ?_, ?_, ?_, ?_, ?_, ?_, ?_⟩
  ·intro y0 y1 y2 y3 y4
   unfold withelaw3_ReachOrders.j0
   repeat' first
   | (with_reducible exact ih0 _ _ _ _ _)
   | (with_reducible exact ih1 _ _ _ _ _)
   | (with_reducible exact ih2 _ _ _ _ _)
   | (with_reducible exact ih3 _ _ _ _ _)
   | (with_reducible exact ih4 _ _ _ _ _)
   | (with_reducible exact ih5 _ _ _ _ _ _ _)
   | (with_reducible exact ih6 _ _ _ _ _ _ _ _)
   | (with_reducible exact ih7 _ _ _)
   | (with_reducible exact reach_Acyclic.mono _ _)
   | (with_reducible exact reach_Deep.mono _ _)
   | (with_reducible exact reach_Order.mono _ _)
   | (with_reducible exact rel_Has.mono _ _ _ _)
   | (with_reducible exact withelaw3_begun.mono _)
   | (with_reducible exact withelaw3_hasLoop.mono _ _)
   | (with_reducible exact withelaw3_some.mono _ _ _ _)
   | (with_reducible exact LeO.refl _)
   | (with_reducible exact LeO.none _)
   | (with_reducible refine LeO.ite ?_ ?_)
   | (with_reducible refine LeO.bind ?_ (fun _ => ?_))
   | exact ih0 _ _ _ _ _
   | exact ih1 _ _ _ _ _
   | exact ih2 _ _ _ _ _
   | exact ih3 _ _ _ _ _
   | exact ih4 _ _ _ _ _
   | exact ih5 _ _ _ _ _ _ _
   | exact ih6 _ _ _ _ _ _ _ _
   | exact ih7 _ _ _
   | exact reach_Acyclic.mono _ _
   | exact reach_Deep.mono _ _
   | exact reach_Order.mono _ _
   | exact rel_Has.mono _ _ _ _
   | exact withelaw3_begun.mono _
   | exact withelaw3_hasLoop.mono _ _
   | exact withelaw3_some.mono _ _ _ _
   | exact LeO.none _
   | refine LeO.ite ?_ ?_
   | refine LeO.bind ?_ (fun _ => ?_)
  ·intro y0 y1 y2 y3 y4
   unfold withelaw3_ReachOrders.l0
   repeat' first
   | (with_reducible exact ih0 _ _ _ _ _)
   | (with_reducible exact ih1 _ _ _ _ _)
   | (with_reducible exact ih2 _ _ _ _ _)
   | (with_reducible exact ih3 _ _ _ _ _)
   | (with_reducible exact ih4 _ _ _ _ _)
   | (with_reducible exact ih5 _ _ _ _ _ _ _)
   | (with_reducible exact ih6 _ _ _ _ _ _ _ _)
   | (with_reducible exact ih7 _ _ _)
   | (with_reducible exact reach_Acyclic.mono _ _)
   | (with_reducible exact reach_Deep.mono _ _)
   | (with_reducible exact reach_Order.mono _ _)
   | (with_reducible exact rel_Has.mono _ _ _ _)
   | (with_reducible exact withelaw3_begun.mono _)
   | (with_reducible exact withelaw3_hasLoop.mono _ _)
   | (with_reducible exact withelaw3_some.mono _ _ _ _)
   | (with_reducible exact LeO.refl _)
   | (with_reducible exact LeO.none _)
   | (with_reducible refine LeO.ite ?_ ?_)
   | (with_reducible refine LeO.bind ?_ (fun _ => ?_))
   | exact ih0 _ _ _ _ _
   | exact ih1 _ _ _ _ _
   | exact ih2 _ _ _ _ _
   | exact ih3 _ _ _ _ _
   | exact ih4 _ _ _ _ _
   | exact ih5 _ _ _ _ _ _ _
   | exact ih6 _ _ _ _ _ _ _ _
   | exact ih7 _ _ _
   | exact reach_Acyclic.mono _ _
   | exact reach_Deep.mono _ _
   | exact reach_Order.mono _ _
   | exact rel_Has.mono _ _ _ _
   | exact withelaw3_begun.mono _
   | exact withelaw3_hasLoop.mono _ _
   | exact withelaw3_some.mono _ _ _ _
   | exact LeO.none _
   | refine LeO.ite ?_ ?_
   | refine LeO.bind ?_ (fun _ => ?_)
  ·intro y0 y1 y2 y3 y4
   unfold withelaw3_ReachOrders.j2
   repeat' first
   | (with_reducible exact ih0 _ _ _ _ _)
   | (with_reducible exact ih1 _ _ _ _ _)
   | (with_reducible exact ih2 _ _ _ _ _)
   | (with_reducible exact ih3 _ _ _ _ _)
   | (with_reducible exact ih4 _ _ _ _ _)
   | (with_reducible exact ih5 _ _ _ _ _ _ _)
   | (with_reducible exact ih6 _ _ _ _ _ _ _ _)
   | (with_reducible exact ih7 _ _ _)
   | (with_reducible exact reach_Acyclic.mono _ _)
   | (with_reducible exact reach_Deep.mono _ _)
   | (with_reducible exact reach_Order.mono _ _)
   | (with_reducible exact rel_Has.mono _ _ _ _)
   | (with_reducible exact withelaw3_begun.mono _)
   | (with_reducible exact withelaw3_hasLoop.mono _ _)
   | (with_reducible exact withelaw3_some.mono _ _ _ _)
   | (with_reducible exact LeO.refl _)
   | (with_reducible exact LeO.none _)
   | (with_reducible refine LeO.ite ?_ ?_)
   | (with_reducible refine LeO.bind ?_ (fun _ => ?_))
   | exact ih0 _ _ _ _ _
   | exact ih1 _ _ _ _ _
   | exact ih2 _ _ _ _ _
   | exact ih3 _ _ _ _ _
   | exact ih4 _ _ _ _ _
   | exact ih5 _ _ _ _ _ _ _
   | exact ih6 _ _ _ _ _ _ _ _
   | exact ih7 _ _ _
   | exact reach_Acyclic.mono _ _
   | exact reach_Deep.mono _ _
   | exact reach_Order.mono _ _
   | exact rel_Has.mono _ _ _ _
   | exact withelaw3_begun.mono _
   | exact withelaw3_hasLoop.mono _ _
   | exact withelaw3_some.mono _ _ _ _
   | exact LeO.none _
   | refine LeO.ite ?_ ?_
   | refine LeO.bind ?_ (fun _ => ?_)
  ·intro y0 y1 y2 y3 y4
   unfold withelaw3_ReachOrders.l1
   repeat' first
   | (with_reducible exact ih0 _ _ _ _ _)
   | (with_reducible exact ih1 _ _ _ _ _)
   | (with_reducible exact ih2 _ _ _ _ _)
   | (with_reducible exact ih3 _ _ _ _ _)
   | (with_reducible exact ih4 _ _ _ _ _)
   | (with_reducible exact ih5 _ _ _ _ _ _ _)
   | (with_reducible exact ih6 _ _ _ _ _ _ _ _)
   | (with_reducible exact ih7 _ _ _)
   | (with_reducible exact reach_Acyclic.mono _ _)
   | (with_reducible exact reach_Deep.mono _ _)
   | (with_reducible exact reach_Order.mono _ _)
   | (with_reducible exact rel_Has.mono _ _ _ _)
   | (with_reducible exact withelaw3_begun.mono _)
   | (with_reducible exact withelaw3_hasLoop.mono _ _)
   | (with_reducible exact withelaw3_some.mono _ _ _ _)
   | (with_reducible exact LeO.refl _)
   | (with_reducible exact LeO.none _)
   | (with_reducible refine LeO.ite ?_ ?_)
   | (with_reducible refine LeO.bind ?_ (fun _ => ?_))
   | exact ih0 _ _ _ _ _
   | exact ih1 _ _ _ _ _
   | exact ih2 _ _ _ _ _
   | exact ih3 _ _ _ _ _
   | exact ih4 _ _ _ _ _
   | exact ih5 _ _ _ _ _ _ _
   | exact ih6 _ _ _ _ _ _ _ _
   | exact ih7 _ _ _
   | exact reach_Acyclic.mono _ _
   | exact reach_Deep.mono _ _
   | exact reach_Order.mono _ _
   | exact rel_Has.mono _ _ _ _
   | exact withelaw3_begun.mono _
   | exact withelaw3_hasLoop.mono _ _
   | exact withelaw3_some.mono _ _ _ _
   | exact LeO.none _
   | refine LeO.ite ?_ ?_
   | refine LeO.bind ?_ (fun _ => ?_)
  ·intro y0 y1 y2 y3 y4
   unfold withelaw3_ReachOrders.l2
   repeat' first
   | (with_reducible exact ih0 _ _ _ _ _)
   | (with_reducible exact ih1 _ _ _ _ _)
   | (with_reducible exact ih2 _ _ _ _ _)
   | (with_reducible exact ih3 _ _ _ _ _)
   | (with_reducible exact ih4 _ _ _ _ _)
   | (with_reducible exact ih5 _ _ _ _ _ _ _)
   | (with_reducible exact ih6 _ _ _ _ _ _ _ _)
   | (with_reducible exact ih7 _ _ _)
   | (with_reducible exact reach_Acyclic.mono _ _)
   | (with_reducible exact reach_Deep.mono _ _)
   | (with_reducible exact reach_Order.mono _ _)
   | (with_reducible exact rel_Has.mono _ _ _ _)
   | (with_reducible exact withelaw3_begun.mono _)
   | (with_reducible exact withelaw3_hasLoop.mono _ _)
   | (with_reducible exact withelaw3_some.mono _ _ _ _)
   | (with_reducible exact LeO.refl _)
   | (with_reducible exact LeO.none _)
   | (with_reducible refine LeO.ite ?_ ?_)
   | (with_reducible refine LeO.bind ?_ (fun _ => ?_))
   | exact ih0 _ _ _ _ _
   | exact ih1 _ _ _ _ _
   | exact ih2 _ _ _ _ _
   | exact ih3 _ _ _ _ _
   | exact ih4 _ _ _ _ _
   | exact ih5 _ _ _ _ _ _ _
   | exact ih6 _ _ _ _ _ _ _ _
   | exact ih7 _ _ _
   | exact reach_Acyclic.mono _ _
   | exact reach_Deep.mono _ _
   | exact reach_Order.mono _ _
   | exact rel_Has.mono _ _ _ _
   | exact withelaw3_begun.mono _
   | exact withelaw3_hasLoop.mono _ _
   | exact withelaw3_some.mono _ _ _ _
   | exact LeO.none _
   | refine LeO.ite ?_ ?_
   | refine LeO.bind ?_ (fun _ => ?_)
  ·intro y0 y1 y2 y3 y4 y5 y6
   unfold withelaw3_ReachOrders.l3
   repeat' first
   | (with_reducible exact ih0 _ _ _ _ _)
   | (with_reducible exact ih1 _ _ _ _ _)
   | (with_reducible exact ih2 _ _ _ _ _)
   | (with_reducible exact ih3 _ _ _ _ _)
   | (with_reducible exact ih4 _ _ _ _ _)
   | (with_reducible exact ih5 _ _ _ _ _ _ _)
   | (with_reducible exact ih6 _ _ _ _ _ _ _ _)
   | (with_reducible exact ih7 _ _ _)
   | (with_reducible exact reach_Acyclic.mono _ _)
   | (with_reducible exact reach_Deep.mono _ _)
   | (with_reducible exact reach_Order.mono _ _)
   | (with_reducible exact rel_Has.mono _ _ _ _)
   | (with_reducible exact withelaw3_begun.mono _)
   | (with_reducible exact withelaw3_hasLoop.mono _ _)
   | (with_reducible exact withelaw3_some.mono _ _ _ _)
   | (with_reducible exact LeO.refl _)
   | (with_reducible exact LeO.none _)
   | (with_reducible refine LeO.ite ?_ ?_)
   | (with_reducible refine LeO.bind ?_ (fun _ => ?_))
   | exact ih0 _ _ _ _ _
   | exact ih1 _ _ _ _ _
   | exact ih2 _ _ _ _ _
   | exact ih3 _ _ _ _ _
   | exact ih4 _ _ _ _ _
   | exact ih5 _ _ _ _ _ _ _
   | exact ih6 _ _ _ _ _ _ _ _
   | exact ih7 _ _ _
   | exact reach_Acyclic.mono _ _
   | exact reach_Deep.mono _ _
   | exact reach_Order.mono _ _
   | exact rel_Has.mono _ _ _ _
   | exact withelaw3_begun.mono _
   | exact withelaw3_hasLoop.mono _ _
   | exact withelaw3_some.mono _ _ _ _
   | exact LeO.none _
   | refine LeO.ite ?_ ?_
   | refine LeO.bind ?_ (fun _ => ?_)
  ·intro y0 y1 y2 y3 y4 y5 y6 y7
   unfold withelaw3_ReachOrders.j6
   repeat' first
   | (with_reducible exact ih0 _ _ _ _ _)
   | (with_reducible exact ih1 _ _ _ _ _)
   | (with_reducible exact ih2 _ _ _ _ _)
   | (with_reducible exact ih3 _ _ _ _ _)
   | (with_reducible exact ih4 _ _ _ _ _)
   | (with_reducible exact ih5 _ _ _ _ _ _ _)
   | (with_reducible exact ih6 _ _ _ _ _ _ _ _)
   | (with_reducible exact ih7 _ _ _)
   | (with_reducible exact reach_Acyclic.mono _ _)
   | (with_reducible exact reach_Deep.mono _ _)
   | (with_reducible exact reach_Order.mono _ _)
   | (with_reducible exact rel_Has.mono _ _ _ _)
   | (with_reducible exact withelaw3_begun.mono _)
   | (with_reducible exact withelaw3_hasLoop.mono _ _)
   | (with_reducible exact withelaw3_some.mono _ _ _ _)
   | (with_reducible exact LeO.refl _)
   | (with_reducible exact LeO.none _)
   | (with_reducible refine LeO.ite ?_ ?_)
   | (with_reducible refine LeO.bind ?_ (fun _ => ?_))
   | exact ih0 _ _ _ _ _
   | exact ih1 _ _ _ _ _
   | exact ih2 _ _ _ _ _
   | exact ih3 _ _ _ _ _
   | exact ih4 _ _ _ _ _
   | exact ih5 _ _ _ _ _ _ _
   | exact ih6 _ _ _ _ _ _ _ _
   | exact ih7 _ _ _
   | exact reach_Acyclic.mono _ _
   | exact reach_Deep.mono _ _
   | exact reach_Order.mono _ _
   | exact rel_Has.mono _ _ _ _
   | exact withelaw3_begun.mono _
   | exact withelaw3_hasLoop.mono _ _
   | exact withelaw3_some.mono _ _ _ _
   | exact LeO.none _
   | refine LeO.ite ?_ ?_
   | refine LeO.bind ?_ (fun _ => ?_)
  ·intro y0 y1 y2
   unfold withelaw3_ReachOrders.l4
   repeat' first
   | (with_reducible exact ih0 _ _ _ _ _)
   | (with_reducible exact ih1 _ _ _ _ _)
   | (with_reducible exact ih2 _ _ _ _ _)
   | (with_reducible exact ih3 _ _ _ _ _)
   | (with_reducible exact ih4 _ _ _ _ _)
   | (with_reducible exact ih5 _ _ _ _ _ _ _)
   | (with_reducible exact ih6 _ _ _ _ _ _ _ _)
   | (with_reducible exact ih7 _ _ _)
   | (with_reducible exact reach_Acyclic.mono _ _)
   | (with_reducible exact reach_Deep.mono _ _)
   | (with_reducible exact reach_Order.mono _ _)
   | (with_reducible exact rel_Has.mono _ _ _ _)
   | (with_reducible exact withelaw3_begun.mono _)
   | (with_reducible exact withelaw3_hasLoop.mono _ _)
   | (with_reducible exact withelaw3_some.mono _ _ _ _)
   | (with_reducible exact LeO.refl _)
   | (with_reducible exact LeO.none _)
   | (with_reducible refine LeO.ite ?_ ?_)
   | (with_reducible refine LeO.bind ?_ (fun _ => ?_))
   | exact ih0 _ _ _ _ _
   | exact ih1 _ _ _ _ _
   | exact ih2 _ _ _ _ _
   | exact ih3 _ _ _ _ _
   | exact ih4 _ _ _ _ _
   | exact ih5 _ _ _ _ _ _ _
   | exact ih6 _ _ _ _ _ _ _ _
   | exact ih7 _ _ _
   | exact reach_Acyclic.mono _ _
   | exact reach_Deep.mono _ _
   | exact reach_Order.mono _ _
   | exact rel_Has.mono _ _ _ _
   | exact withelaw3_begun.mono _
   | exact withelaw3_hasLoop.mono _ _
   | exact withelaw3_some.mono _ _ _ _
   | exact LeO.none _
   | refine LeO.ite ?_ ?_
   | refine LeO.bind ?_ (fun _ => ?_)
theorem withelaw3_ReachOrders.mono : ∀ a0 a1 a2 k, LeO (withelaw3_ReachOrders.f k a0 a1 a2) (withelaw3_ReachOrders.f (k + 1) a0 a1 a2) := by
 intro a0 a1 a2 k
 obtain ⟨ih0, ih1, ih2, ih3, ih4, ih5, ih6, ih7⟩ := withelaw3_ReachOrders.mono_l k
 unfold withelaw3_ReachOrders.f
 repeat' first
  | (with_reducible exact ih0 _ _ _ _ _)
  | (with_reducible exact ih1 _ _ _ _ _)
  | (with_reducible exact ih2 _ _ _ _ _)
  | (with_reducible exact ih3 _ _ _ _ _)
  | (with_reducible exact ih4 _ _ _ _ _)
  | (with_reducible exact ih5 _ _ _ _ _ _ _)
  | (with_reducible exact ih6 _ _ _ _ _ _ _ _)
  | (with_reducible exact ih7 _ _ _)
  | (with_reducible exact reach_Acyclic.mono _ _)
  | (with_reducible exact reach_Deep.mono _ _)
  | (with_reducible exact reach_Order.mono _ _)
  | (with_reducible exact rel_Has.mono _ _ _ _)
  | (with_reducible exact withelaw3_begun.mono _)
  | (with_reducible exact withelaw3_hasLoop.mono _ _)
  | (with_reducible exact withelaw3_some.mono _ _ _ _)
  | (with_reducible exact LeO.refl _)
  | (with_reducible exact LeO.none _)
  | (with_reducible refine LeO.ite ?_ ?_)
  | (with_reducible refine LeO.bind ?_ (fun _ => ?_))
  | exact ih0 _ _ _ _ _
  | exact ih1 _ _ _ _ _
  | exact ih2 _ _ _ _ _
  | exact ih3 _ _ _ _ _
  | exact ih4 _ _ _ _ _
  | exact ih5 _ _ _ _ _ _ _
  | exact ih6 _ _ _ _ _ _ _ _
  | exact ih7 _ _ _
  | exact reach_Acyclic.mono _ _
  | exact reach_Deep.mono _ _
  | exact reach_Order.mono _ _
  | exact rel_Has.mono _ _ _ _
  | exact withelaw3_begun.mono _
  | exact withelaw3_hasLoop.mono _ _
  | exact withelaw3_some.mono _ _ _ _
  | exact LeO.none _
  | refine LeO.ite ?_ ?_
  | refine LeO.bind ?_ (fun _ => ?_)
def withelaw3_ReachOrders.T32 : Bool × List (List Nat × List Nat) := (true, [([], []), ([], []), ([], []), ([0, 1, 2], [0, 1, 2]), ([3, 3], [3]), ([4], [4]), ([4], [4]), ([5, 6, 4], [4, 5, 6]), ([7, 4], [4, 7]), ([4], [4]), ([4], [4]), ([9, 10, 4], [4, 9, 10]), ([11, 4], [4, 11]), ([8, 12, 4], [4, 8, 12]), ([13, 4, 4], [4, 13]), ([14], [14]), ([14], [14]), ([15, 16, 14], [14, 15, 16]), ([17, 14], [14, 17]), ([14], [14]), ([14], [14]), ([19, 20, 14], [14, 19, 20]), ([21, 14], [14, 21]), ([22, 14], [14, 22]), ([18, 23, 14], [14, 18, 23]), ([14, 24, 4], [4, 14, 24]), ([4, 25], [4, 25])])
def withelaw3_ReachOrders.B32 : List Nat := [0, 0, 0, 7, 15, 31, 31, 127, 255, 31, 31, 1567, 3615, 8191, 16383, 32767, 32767, 131071, 262143, 32767, 32767, 1605631, 3702783, 7897087, 16777215, 33554431, 67108863]
theorem withelaw3_ReachOrders.tab32 : rtab .any (opsOf Tryd.f5 32) = withelaw3_ReachOrders.T32 := by kernel_rfl
theorem withelaw3_ReachOrders.bits32 : waitsOk withelaw3_ReachOrders.T32.2 withelaw3_ReachOrders.B32 = true := by kernel_rfl
def withelaw3_ReachOrders.T36 : Bool × List (List Nat × List Nat) := (true, [([], []), ([], []), ([0, 1], [0, 1]), ([2], [2]), ([], []), ([3, 4], [3, 4]), ([5], [5]), ([6], [6]), ([6], [6]), ([7, 8, 6], [6, 7, 8]), ([9, 6], [6, 9]), ([6], [6]), ([6], [6]), ([11, 12, 6], [6, 11, 12]), ([13, 6], [6, 13]), ([10, 14, 6], [6, 10, 14]), ([6, 15], [6, 15])])
def withelaw3_ReachOrders.B36 : List Nat := [0, 0, 3, 7, 0, 31, 63, 127, 127, 511, 1023, 127, 127, 6271, 14463, 32767, 65535]
theorem withelaw3_ReachOrders.tab36 : rtab .any (opsOf Tryd.f5 36) = withelaw3_ReachOrders.T36 := by kernel_rfl
theorem withelaw3_ReachOrders.bits36 : waitsOk withelaw3_ReachOrders.T36.2 withelaw3_ReachOrders.B36 = true := by kernel_rfl
def withelaw3_ReachOrders.T41 : Bool × List (List Nat × List Nat) := (true, [([], []), ([], []), ([0, 1], [0, 1]), ([2], [2]), ([], []), ([], []), ([5], [5]), ([4, 6], [4, 6]), ([7], [7]), ([3, 8], [3, 8]), ([9], [9]), ([10], [10]), ([10], [10]), ([10], [10]), ([12, 13, 10], [10, 12, 13]), ([14, 10], [10, 14]), ([10], [10]), ([10], [10]), ([17, 10], [10, 17]), ([16, 18, 10], [10, 16, 18]), ([19, 10], [10, 19]), ([11, 15, 20, 10, 10], [10, 11, 15, 20]), ([21, 10], [10, 21]), ([10, 22], [10, 22])])
def withelaw3_ReachOrders.B41 : List Nat := [0, 0, 3, 7, 0, 0, 32, 112, 240, 511, 1023, 2047, 2047, 2047, 14335, 30719, 2047, 2047, 133119, 460799, 985087, 2097151, 4194303, 8388607]
theorem withelaw3_ReachOrders.tab41 : rtab .any (opsOf Tryd.f5 41) = withelaw3_ReachOrders.T41 := by kernel_rfl
theorem withelaw3_ReachOrders.bits41 : waitsOk withelaw3_ReachOrders.T41.2 withelaw3_ReachOrders.B41 = true := by kernel_rfl
set_option maxHeartbeats 8000000 in
set_option maxRecDepth 100000 in
theorem withelaw3_ReachOrders.calls (k : Nat) (A0 : Option Addr) (c0 : Nat) (l0 : List Int) (a1 : Int) (a2 : Bool) (r : Bool) (w : World) (hr0 : Kd.C (Kd.int .u8) w A0 l0.length l0) (hc0 : l0.length ≤ c0) (h : withelaw3_ReachOrders.f k l0 a1 a2 = some r) (hG : GOk w := by first | exact Aside0.out (by assumption) | exact GOk.le (Aside0.out (by assumption)) (by repeat (first | exact Aside0.out (by assumption) | exact Below.refl _ _ | apply below_alloc | apply pw_below_drewN | apply below_drew1 | refine below_set ?_ (Aside0.out (by assumption))))) :
 Calls Tryd.prog 5 #[.slice A0 l0.length c0, .int .u8 a1, .bool a2] w fun e w' => e = .returned (.bool r) ∧ Below w.heap.size w w' := by
 have HR0 := Aside0.mk hr0
 have HC0 := Aside0.mk hc0
 clear hr0 hc0
 have HB := Aside0.mk (Below.refl w.heap.size w)
 have H : ((withelaw3_begun.f k).bind fun t387 => (if t387 = true then (if (l0.length : Int) > 60 then (some true) else ((withelaw3_some.f k l0 a1 a2).bind fun t388 => ((reach_Order.f k t388).bind fun bt391 => ((reach_Deep.f k t388).bind fun bt395 => ((reach_Acyclic.f k t388).bind fun t399 => (if (bt391.2 != t399) = true then (withelaw3_ReachOrders.j0 k t388 bt391.1 bt391.2 bt395.1 true) else (if (bt395.2 != bt391.2) = true then (withelaw3_ReachOrders.j0 k t388 bt391.1 bt391.2 bt395.1 true) else (if a2 = true then ((withelaw3_hasLoop.f k t388).bind fun t400 => (if t400 = true then (withelaw3_ReachOrders.j0 k t388 bt391.1 bt391.2 bt395.1 false) else (withelaw3_ReachOrders.j0 k t388 bt391.1 bt391.2 bt395.1 (!bt391.2)))) else (withelaw3_ReachOrders.j0 k t388 bt391.1 bt391.2 bt395.1 false))))))))) else (none))) = some r := h
 clear h
 have HG := Aside0.mk hG
 clear hG
 replace H := Option.bind_eq_some_iff.mp H
 obtain ⟨t387, A40, H⟩ := H
 replace H : (if t387 = true then (if (l0.length : Int) > 60 then (some true) else ((withelaw3_some.f k l0 a1 a2).bind fun t388 => ((reach_Order.f k t388).bind fun bt391 => ((reach_Deep.f k t388).bind fun bt395 => ((reach_Acyclic.f k t388).bind fun t399 => (if (bt391.2 != t399) = true then (withelaw3_ReachOrders.j0 k t388 bt391.1 bt391.2 bt395.1 true) else (if (bt395.2 != bt391.2) = true then (withelaw3_ReachOrders.j0 k t388 bt391.1 bt391.2 bt395.1 true) else (if a2 = true then ((withelaw3_hasLoop.f k t388).bind fun t400 => (if t400 = true then (withelaw3_ReachOrders.j0 k t388 bt391.1 bt391.2 bt395.1 false) else (withelaw3_ReachOrders.j0 k t388 bt391.1 bt391.2 bt395.1 (!bt391.2)))) else (withelaw3_ReachOrders.j0 k t388 bt391.1 bt391.2 bt395.1 false))))))))) else (none)) = some r := H
 have A4 := Aside0.mk A40
 clear A40
 by_cases c5 : t387 = true
 ·subst c5
  have H1 : (if (l0.length : Int) > 60 then (some true) else ((withelaw3_some.f k l0 a1 a2).bind fun t388 => ((reach_Order.f k t388).bind fun bt391 => ((reach_Deep.f k t388).bind fun bt395 => ((reach_Acyclic.f k t388).bind fun t399 => (if (bt391.2 != t399) = true then (withelaw3_ReachOrders.j0 k t388 bt391.1 bt391.2 bt395.1 true) else (if (bt395.2 != bt391.2) = true then (withelaw3_ReachOrders.j0 k t388 bt391.1 bt391.2 bt395.1 true) else (if a2 = true then ((withelaw3_hasLoop.f k t388).bind fun t400 => (if t400 = true then (withelaw3_ReachOrders.j0 k t388 bt391.1 bt391.2 bt395.1 false) else (withelaw3_ReachOrders.j0 k t388 bt391.1 bt391.2 bt395.1 (!bt391.2)))) else (withelaw3_ReachOrders.j0 k t388 bt391.1 bt391.2 bt395.1 false))))))))) = some r := by rw [if_pos rfl] at H; exact H
  clear H
  have H := H1
  clear H1
  by_cases c6 : (l0.length : Int) > 60
  ·rw [if_pos c6] at H
   have c6b0 : decide (60 < (l0.length : Int)) = true := decide_eq_true c6
   have c6b1 : decide (60 < l0.length) = true := decide_eq_true (by omega)
   clear c6
   obtain rfl := Option.some.inj H
   go_enter Tryd.func5, Tryd.ntmps5
   go_wp2_with (first | ((with_reducible refine gate_callee (f := 8) rfl ?_); refine goesL_ (some 19) rfl rfl Tryd.func8 (by kernel_rfl) rfl #[] rfl (by (try simp only [List.map_toArray, List.map_cons, List.map_nil]); first | done | rfl | (simp only [List.length_drop, List.length_take]; rfl)) ?_; (with_reducible refine (withelaw3_begun.calls k  true _ A4.out).mono ?_); rintro e w7 ⟨rfl, hb⟩; refine ⟨_, rfl, ?_⟩; have n0_ := Aside0.mk (below_step (by repeat (first | (with_reducible first | exact HB.out | apply below_alloc | apply pw_below_drewN | apply below_drew1) | exact HB.out)) hb); clear HB; have HB := n0_; clear n0_; (try clear hb); (try clear hb2); (try clear hk); (try clear hi)))
   go_ret
   exact ⟨by first | rfl | (simp [errW_none, errW_some] <;> rfl) | (simp [*, errW_none, errW_some] <;> rfl), by repeat (first | (with_reducible first | exact HB.out | apply below_alloc | apply pw_below_drewN | apply below_drew1) | exact HB.out)⟩
  ·rw [if_neg c6] at H
   have c6b0 : decide (60 < (l0.length : Int)) = false := decide_eq_false c6
   have c6b1 : decide (60 < l0.length) = false := decide_eq_false (by omega)
   clear c6
   replace H := Option.bind_eq_some_iff.mp H
   obtain ⟨t388, A80, H⟩ := H
   replace H : ((reach_Order.f k t388).bind fun bt391 => ((reach_Deep.f k t388).bind fun bt395 => ((reach_Acyclic.f k t388).bind fun t399 => (if (bt391.2 != t399) = true then (withelaw3_ReachOrders.j0 k t388 bt391.1 bt391.2 bt395.1 true) else (if (bt395.2 != bt391.2) = true then (withelaw3_ReachOrders.j0 k t388 bt391.1 bt391.2 bt395.1 true) else (if a2 = true then ((withelaw3_hasLoop.f k t388).bind fun t400 => (if t400 = true then (withelaw3_ReachOrders.j0 k t388 bt391.1 bt391.2 bt395.1 false) else (withelaw3_ReachOrders.j0 k t388 bt391.1 bt391.2 bt395.1 (!bt391.2)))) else (withelaw3_ReachOrders.j0 k t388 bt391.1 bt391.2 bt395.1 false))))))) = some r := H
   have A8 := Aside0.mk A80
   clear A80
   replace H := Option.bind_eq_some_iff.mp H
   obtain ⟨⟨t391, t392⟩, A90, H⟩ := H
   replace H : ((reach_Deep.f k t388).bind fun bt395 => ((reach_Acyclic.f k t388).bind fun t399 => (if (t392 != t399) = true then (withelaw3_ReachOrders.j0 k t388 t391 t392 bt395.1 true) else (if (bt395.2 != t392) = true then (withelaw3_ReachOrders.j0 k t388 t391 t392 bt395.1 true) else (if a2 = true then ((withelaw3_hasLoop.f k t388).bind fun t400 => (if t400 = true then (withelaw3_ReachOrders.j0 k t388 t391 t392 bt395.1 false) else (withelaw3_ReachOrders.j0 k t388 t391 t392 bt395.1 (!t392)))) else (withelaw3_ReachOrders.j0 k t388 t391 t392 bt395.1 false)))))) = some r := H
   have A9 := Aside0.mk A90
   clear A90
   replace H := Option.bind_eq_some_iff.mp H
   obtain ⟨⟨t395, t396⟩, A100, H⟩ := H
   replace H : ((reach_Acyclic.f k t388).bind fun t399 => (if (t392 != t399) = true then (withelaw3_ReachOrders.j0 k t388 t391 t392 t395 true) else (if (t396 != t392) = true then (withelaw3_ReachOrders.j0 k t388 t391 t392 t395 true) else (if a2 = true then ((withelaw3_hasLoop.f k t388).bind fun t400 => (if t400 = true then (withelaw3_ReachOrders.j0 k t388 t391 t392 t395 false) else (withelaw3_ReachOrders.j0 k t388 t391 t392 t395 (!t392)))) else (withelaw3_ReachOrders.j0 k t388 t391 t392 t395 false))))) = some r := H
   have A10 := Aside0.mk A100
   clear A100
   have HC11 := Aside0.mk H
   clear H
   go_enter Tryd.func5, Tryd.ntmps5
   go_upto_region 8 with (first | ((with_reducible refine gate_callee (f := 8) rfl ?_); refine goesL_ (some 19) rfl rfl Tryd.func8 (by kernel_rfl) rfl #[] rfl (by (try simp only [List.map_toArray, List.map_cons, List.map_nil]); first | done | rfl | (simp only [List.length_drop, List.length_take]; rfl)) ?_; (with_reducible refine (withelaw3_begun.calls k  true _ A4.out).mono ?_); rintro e w12 ⟨rfl, hb⟩; refine ⟨_, rfl, ?_⟩; have n0_ := Aside0.mk (below_step (by repeat (first | (with_reducible first | exact HB.out | apply below_alloc | apply pw_below_drewN | apply below_drew1) | exact HB.out)) hb); clear HB; have HB := n0_; clear n0_; (try clear hb); (try clear hb2); (try clear hk); (try clear hi)) | ((with_reducible refine gate_callee (f := 9) rfl ?_); refine goesL_ (some 27) rfl rfl Tryd.func9 (by kernel_rfl) rfl #[.slice A0 l0.length c0, .int .u8 a1, .bool a2] rfl (by (try simp only [List.map_toArray, List.map_cons, List.map_nil]); first | done | rfl | (simp only [List.length_drop, List.length_take]; rfl)) ?_; (with_reducible refine (withelaw3_some.calls k _ _ l0 a1 a2 t388 _ ?side1 ?side2 A8.out).mono ?_); (case side1 => repeat (first | exact (Kd.C_below HR0.out HB.out) | (with_reducible refine Kd.C_alloc ?_ _) | (with_reducible refine Kd.C_drewN ?_ _) | (with_reducible refine Kd.C_drew ?_))); (case side2 => exact HC0.out); rintro e w13 ⟨v389, rfl, ho0, hb⟩; refine ⟨_, rfl, ?_⟩; have n0_ := Aside0.mk (Kd.R_lower ho0 (below_size (by repeat (first | (with_reducible first | exact HB.out | apply below_alloc | apply pw_below_drewN | apply below_drew1) | exact HB.out)))); have n1_ := Aside0.mk (below_step (by repeat (first | (with_reducible first | exact HB.out | apply below_alloc | apply pw_below_drewN | apply below_drew1) | exact HB.out)) hb); clear HB; have HO390 := n0_; have HB := n1_; clear n0_ n1_; (try clear hb); (try clear hb2); (try clear hk); (try clear hi); (try clear ho0); obtain ⟨Ao14, co14, eo14⟩ := Kd.R_slice HO390.out; subst eo14) | ((with_reducible refine gate_callee (f := 12) rfl ?_); refine goesL_ (some 30) rfl rfl Tryd.func12 (by kernel_rfl) rfl #[.slice Ao14 t388.length co14] rfl (by (try simp only [List.map_toArray, List.map_cons, List.map_nil]); first | done | rfl | (simp only [List.length_drop, List.length_take]; rfl)) ?_; (with_reducible refine (reach_Order.calls k _ _ t388 t391 t392 _ ?side1 ?side2 A9.out).mono ?_); (case side1 => repeat (first | exact (Kd.R_reads' HO390.out).2.2 | (with_reducible refine Kd.C_alloc ?_ _) | (with_reducible refine Kd.C_drewN ?_ _) | (with_reducible refine Kd.C_drew ?_))); (case side2 => exact (Kd.R_reads' HO390.out).2.1); rintro e w15 ⟨v393, rfl, ho0, hb⟩; refine ⟨_, rfl, ?_⟩; have n0_ := Aside0.mk (Kd.R_below (by (with_reducible repeat (first | apply Kd.R_alloc | apply Kd.R_drewN | apply Kd.R_drew)); exact HO390.out) hb); have n1_ := Aside0.mk (Kd.R_lower ho0 (below_size (by repeat (first | (with_reducible first | exact HB.out | apply below_alloc | apply pw_below_drewN | apply below_drew1) | exact HB.out)))); have n2_ := Aside0.mk (below_step (by repeat (first | (with_reducible first | exact HB.out | apply below_alloc | apply pw_below_drewN | apply below_drew1) | exact HB.out)) hb); clear HO390; clear HB; have HO390 := n0_; have HO394 := n1_; have HB := n2_; clear n0_ n1_ n2_; (try clear hb); (try clear hb2); (try clear hk); (try clear hi); (try clear ho0)) | ((with_reducible refine gate_callee (f := 14) rfl ?_); refine goesL_ (some 35) rfl rfl Tryd.func14 (by kernel_rfl) rfl #[.slice Ao14 t388.length co14] rfl (by (try simp only [List.map_toArray, List.map_cons, List.map_nil]); first | done | rfl | (simp only [List.length_drop, List.length_take]; rfl)) ?_; (with_reducible refine (reach_Deep.calls k _ _ t388 t395 t396 _ ?side1 ?side2 A10.out).mono ?_); (case side1 => repeat (first | exact (Kd.R_reads' HO390.out).2.2 | (with_reducible refine Kd.C_alloc ?_ _) | (with_reducible refine Kd.C_drewN ?_ _) | (with_reducible refine Kd.C_drew ?_))); (case side2 => exact (Kd.R_reads' HO390.out).2.1); rintro e w16 ⟨v397, rfl, ho0, hb⟩; refine ⟨_, rfl, ?_⟩; have n0_ := Aside0.mk (Kd.R_below (by (with_reducible repeat (first | apply Kd.R_alloc | apply Kd.R_drewN | apply Kd.R_drew)); exact HO390.out) hb); have n1_ := Aside0.mk (Kd.R_elder' (by (with_reducible repeat (first | apply Kd.R_alloc | apply Kd.R_drewN | apply Kd.R_drew)); exact HO394.out) (Kd.R_base ho0) hb); have n2_ := Aside0.mk (Kd.R_lower (Kd.R_new' ho0 (Kd.R_lt (by (with_reducible repeat (first | apply Kd.R_alloc | apply Kd.R_drewN | apply Kd.R_drew)); exact HO394.out))) (below_size (by repeat (first | (with_reducible first | exact HB.out | apply below_alloc | apply pw_below_drewN | apply below_drew1) | exact HB.out)))); have n3_ := Aside0.mk (below_step (by repeat (first | (with_reducible first | exact HB.out | apply below_alloc | apply pw_below_drewN | apply below_drew1) | exact HB.out)) hb); clear HO390; clear HO394; clear HB; have HO390 := n0_; have HO394 := n1_; have HO398 := n2_; have HB := n3_; clear n0_ n1_ n2_ n3_; (try clear hb); (try clear hb2); (try clear hk); (try clear hi); (try clear ho0)))
   (try simp only [Act.put, List.setIfInBounds_toArray, List.set_cons_zero, List.set_cons_succ])
   go_cut [58] (fun v58 wc => ∃ (kq : Nat) (x58_10 : Bool), v58 = .bool x58_10 ∧ Aside0 (withelaw3_ReachOrders.j0 kq t388 t391 t392 t395 x58_10 = some r) ∧ Aside0 (kq ≤ k) ∧ Aside0 (Kd.R (Kd.int .u64) 23 wc w.heap.size (fun _ => True) (.slice Ao14 t388.length co14) t388) ∧ Aside0 (Kd.R (Kd.int .i64) 3 wc w.heap.size (fun k_ => some k_ ≠ (v397 : Value).ownBlock) v393 t391) ∧ Aside0 (Kd.R (Kd.int .i64) 3 wc w.heap.size (fun k_ => some k_ ≠ (v393 : Value).ownBlock) v397 t395) ∧ Aside0 (Below w.heap.size w wc))
   case first =>
    as_aux_lemma =>
    have H := HC11.out
    clear HC11
    replace H := Option.bind_eq_some_iff.mp H
    obtain ⟨t399, A170, H⟩ := H
    replace H : (if (t392 != t399) = true then (withelaw3_ReachOrders.j0 k t388 t391 t392 t395 true) else (if (t396 != t392) = true then (withelaw3_ReachOrders.j0 k t388 t391 t392 t395 true) else (if a2 = true then ((withelaw3_hasLoop.f k t388).bind fun t400 => (if t400 = true then (withelaw3_ReachOrders.j0 k t388 t391 t392 t395 false) else (withelaw3_ReachOrders.j0 k t388 t391 t392 t395 (!t392)))) else (withelaw3_ReachOrders.j0 k t388 t391 t392 t395 false)))) = some r := H
    have A17 := Aside0.mk A170
    clear A170
    by_cases c18 : (t392 != t399) = true
    ·rw [if_pos c18] at H
     have c18b0 : (t392 != t399) = true := c18
     (try (have c18b1 : decide (t392 = t399) = false := by simpa using c18))
     (try (have c18b2 : (t392 == t399) = false := by simpa using c18))
     (try (have c18b3 : ¬ (t392 = t399) := by simpa using c18))
     clear c18
     (first | rw [c18b0] | (simp only [i64_w, i32_w]; rw [c18b0]) | skip)
     have H' := Aside0.mk H
     clear H
     go_wp2_with (first | ((with_reducible refine gate_callee (f := 17) rfl ?_); refine goesL_ (some 40) rfl rfl Tryd.func17 (by kernel_rfl) rfl #[.slice Ao14 t388.length co14] rfl (by (try simp only [List.map_toArray, List.map_cons, List.map_nil]); first | done | rfl | (simp only [List.length_drop, List.length_take]; rfl)) ?_; (with_reducible refine (reach_Acyclic.calls k _ _ t388 t399 _ ?side1 ?side2 A17.out).mono ?_); (case side1 => repeat (first | exact (Kd.R_reads' HO390.out).2.2 | (with_reducible refine Kd.C_alloc ?_ _) | (with_reducible refine Kd.C_drewN ?_ _) | (with_reducible refine Kd.C_drew ?_))); (case side2 => exact (Kd.R_reads' HO390.out).2.1); rintro e w19 ⟨rfl, hb⟩; refine ⟨_, rfl, ?_⟩; have n0_ := Aside0.mk (Kd.R_below (by (with_reducible repeat (first | apply Kd.R_alloc | apply Kd.R_drewN | apply Kd.R_drew)); exact HO390.out) hb); have n1_ := Aside0.mk (Kd.R_below (by (with_reducible repeat (first | apply Kd.R_alloc | apply Kd.R_drewN | apply Kd.R_drew)); exact HO394.out) hb); have n2_ := Aside0.mk (Kd.R_below (by (with_reducible repeat (first | apply Kd.R_alloc | apply Kd.R_drewN | apply Kd.R_drew)); exact HO398.out) hb); have n3_ := Aside0.mk (below_step (by repeat (first | (with_reducible first | exact HB.out | apply below_alloc | apply pw_below_drewN | apply below_drew1) | exact HB.out)) hb); clear HO390; clear HO394; clear HO398; clear HB; have HO390 := n0_; have HO394 := n1_; have HO398 := n2_; have HB := n3_; clear n0_ n1_ n2_ n3_; (try clear hb); (try clear hb2); (try clear hk); (try clear hi)))
     go_meet
     case rel => exact ⟨_, (true), (by first | rfl | (simp; done) | (simp [*]; done)), H', ⟨by first | omega | exact Nat.le_refl _⟩, ⟨by (with_reducible repeat (first | apply Kd.R_alloc | apply Kd.R_drewN | apply Kd.R_drew)); exact HO390.out⟩, ⟨by (with_reducible repeat (first | apply Kd.R_alloc | apply Kd.R_drewN | apply Kd.R_drew)); exact Kd.R_mono HO394.out (fun _ hk => hk.2)⟩, ⟨by (with_reducible repeat (first | apply Kd.R_alloc | apply Kd.R_drewN | apply Kd.R_drew)); exact Kd.R_mono HO398.out (fun _ hk => hk.2)⟩, ⟨by repeat (first | (with_reducible first | exact HB.out | apply below_alloc | apply pw_below_drewN | apply below_drew1) | exact HB.out)⟩⟩
    ·rw [if_neg c18] at H
     have c18b0 : (t392 != t399) = false := by simpa using c18
     (try (have c18b1 : decide (t392 = t399) = true := by simpa using c18))
     (try (have c18b2 : (t392 == t399) = true := by simpa using c18))
     clear c18
     (first | rw [c18b0] | (simp only [i64_w, i32_w]; rw [c18b0]) | skip)
     by_cases c20 : (t396 != t392) = true
     ·rw [if_pos c20] at H
      have c20b0 : (t396 != t392) = true := c20
      (try (have c20b1 : decide (t396 = t392) = false := by simpa using c20))
      (try (have c20b2 : (t396 == t392) = false := by simpa using c20))
      (try (have c20b3 : ¬ (t396 = t392) := by simpa using c20))
      clear c20
      have H' := Aside0.mk H
      clear H
      go_wp2_with (first | ((with_reducible refine gate_callee (f := 17) rfl ?_); refine goesL_ (some 40) rfl rfl Tryd.func17 (by kernel_rfl) rfl #[.slice Ao14 t388.length co14] rfl (by (try simp only [List.map_toArray, List.map_cons, List.map_nil]); first | done | rfl | (simp only [List.length_drop, List.length_take]; rfl)) ?_; (with_reducible refine (reach_Acyclic.calls k _ _ t388 t399 _ ?side1 ?side2 A17.out).mono ?_); (case side1 => repeat (first | exact (Kd.R_reads' HO390.out).2.2 | (with_reducible refine Kd.C_alloc ?_ _) | (with_reducible refine Kd.C_drewN ?_ _) | (with_reducible refine Kd.C_drew ?_))); (case side2 => exact (Kd.R_reads' HO390.out).2.1); rintro e w21 ⟨rfl, hb⟩; refine ⟨_, rfl, ?_⟩; have n0_ := Aside0.mk (Kd.R_below (by (with_reducible repeat (first | apply Kd.R_alloc | apply Kd.R_drewN | apply Kd.R_drew)); exact HO390.out) hb); have n1_ := Aside0.mk (Kd.R_below (by (with_reducible repeat (first | apply Kd.R_alloc | apply Kd.R_drewN | apply Kd.R_drew)); exact HO394.out) hb); have n2_ := Aside0.mk (Kd.R_below (by (with_reducible repeat (first | apply Kd.R_alloc | apply Kd.R_drewN | apply Kd.R_drew)); exact HO398.out) hb); have n3_ := Aside0.mk (below_step (by repeat (first | (with_reducible first | exact HB.out | apply below_alloc | apply pw_below_drewN | apply below_drew1) | exact HB.out)) hb); clear HO390; clear HO394; clear HO398; clear HB; have HO390 := n0_; have HO394 := n1_; have HO398 := n2_; have HB := n3_; clear n0_ n1_ n2_ n3_; (try clear hb); (try clear hb2); (try clear hk); (try clear hi)))
      go_meet
      case rel => exact ⟨_, (true), (by first | rfl | (simp; done) | (simp [*]; done)), H', ⟨by first | omega | exact Nat.le_refl _⟩, ⟨by (with_reducible repeat (first | apply Kd.R_alloc | apply Kd.R_drewN | apply Kd.R_drew)); exact HO390.out⟩, ⟨by (with_reducible repeat (first | apply Kd.R_alloc | apply Kd.R_drewN | apply Kd.R_drew)); exact Kd.R_mono HO394.out (fun _ hk => hk.2)⟩, ⟨by (with_reducible repeat (first | apply Kd.R_alloc | apply Kd.R_drewN | apply Kd.R_drew)); exact Kd.R_mono HO398.out (fun _ hk => hk.2)⟩, ⟨by repeat (first | (with_reducible first | exact HB.out | apply below_alloc | apply pw_below_drewN | apply below_drew1) | exact HB.out)⟩⟩
     ·rw [if_neg c20] at H
      have c20b0 : (t396 != t392) = false := by simpa using c20
      (try (have c20b1 : decide (t396 = t392) = true := by simpa using c20))
      (try (have c20b2 : (t396 == t392) = true := by simpa using c20))
      clear c20
      by_cases c22 : a2 = true
      ·subst c22
       have H1 : ((withelaw3_hasLoop.f k t388).bind fun t400 => (if t400 = true then (withelaw3_ReachOrders.j0 k t388 t391 t392 t395 false) else (withelaw3_ReachOrders.j0 k t388 t391 t392 t395 (!t392)))) = some r := by rw [if_pos rfl] at H; exact H
       clear H
       have H := H1
       clear H1
       replace H := Option.bind_eq_some_iff.mp H
       obtain ⟨t400, A230, H⟩ := H
       replace H : (if t400 = true then (withelaw3_ReachOrders.j0 k t388 t391 t392 t395 false) else (withelaw3_ReachOrders.j0 k t388 t391 t392 t395 (!t392))) = some r := H
       have A23 := Aside0.mk A230
       clear A230
       by_cases c24 : t400 = true
       ·subst c24
        have H1 : (withelaw3_ReachOrders.j0 k t388 t391 t392 t395 false) = some r := by rw [if_pos rfl] at H; exact H
        clear H
        have H := H1
        clear H1
        have H' := Aside0.mk H
        clear H
        go_wp2_with (first | ((with_reducible refine gate_callee (f := 17) rfl ?_); refine goesL_ (some 40) rfl rfl Tryd.func17 (by kernel_rfl) rfl #[.slice Ao14 t388.length co14] rfl (by (try simp only [List.map_toArray, List.map_cons, List.map_nil]); first | done | rfl | (simp only [List.length_drop, List.length_take]; rfl)) ?_; (with_reducible refine (reach_Acyclic.calls k _ _ t388 t399 _ ?side1 ?side2 A17.out).mono ?_); (case side1 => repeat (first | exact (Kd.R_reads' HO390.out).2.2 | (with_reducible refine Kd.C_alloc ?_ _) | (with_reducible refine Kd.C_drewN ?_ _) | (with_reducible refine Kd.C_drew ?_))); (case side2 => exact (Kd.R_reads' HO390.out).2.1); rintro e w25 ⟨rfl, hb⟩; refine ⟨_, rfl, ?_⟩; have n0_ := Aside0.mk (Kd.R_below (by (with_reducible repeat (first | apply Kd.R_alloc | apply Kd.R_drewN | apply Kd.R_drew)); exact HO390.out) hb); have n1_ := Aside0.mk (Kd.R_below (by (with_reducible repeat (first | apply Kd.R_alloc | apply Kd.R_drewN | apply Kd.R_drew)); exact HO394.out) hb); have n2_ := Aside0.mk (Kd.R_below (by (with_reducible repeat (first | apply Kd.R_alloc | apply Kd.R_drewN | apply Kd.R_drew)); exact HO398.out) hb); have n3_ := Aside0.mk (below_step (by repeat (first | (with_reducible first | exact HB.out | apply below_alloc | apply pw_below_drewN | apply below_drew1) | exact HB.out)) hb); clear HO390; clear HO394; clear HO398; clear HB; have HO390 := n0_; have HO394 := n1_; have HO398 := n2_; have HB := n3_; clear n0_ n1_ n2_ n3_; (try clear hb); (try clear hb2); (try clear hk); (try clear hi)) | ((first | ((with_reducible refine gate_callee (f := 28) rfl ?_); (refine gate_guard (by rfl) ?_; dsimp only); refine goesL_ (some 51) rfl rfl Tryd.func28 (by kernel_rfl) rfl #[.slice Ao14 t388.length co14] rfl (by (try simp only [List.map_toArray, List.map_cons, List.map_nil]); first | done | rfl | (simp only [List.length_drop, List.length_take]; rfl)) ?_; (with_reducible refine (withelaw3_hasLoop.calls k _ _ t388 true _ ?side1 ?side2 A23.out).mono ?_); (case side1 => repeat (first | exact (Kd.R_reads' HO390.out).2.2 | (with_reducible refine Kd.C_alloc ?_ _) | (with_reducible refine Kd.C_drewN ?_ _) | (with_reducible refine Kd.C_drew ?_))); (case side2 => exact (Kd.R_reads' HO390.out).2.1); rintro e w' ⟨rfl, ⟨nd, rfl⟩⟩; refine ⟨_, rfl, ?_⟩) | (go_at_call 28; (with_reducible refine (withelaw3_hasLoop.calls k _ _ t388 true _ ?side1 ?side2 A23.out).mono ?_); (case side1 => repeat (first | exact (Kd.R_reads' HO390.out).2.2 | (with_reducible refine Kd.C_alloc ?_ _) | (with_reducible refine Kd.C_drewN ?_ _) | (with_reducible refine Kd.C_drew ?_))); (case side2 => exact (Kd.R_reads' HO390.out).2.1); rintro e w' ⟨rfl, ⟨nd, rfl⟩⟩))))
        go_meet
        case rel => exact ⟨_, (false), (by first | rfl | (simp; done) | (simp [*]; done)), H', ⟨by first | omega | exact Nat.le_refl _⟩, ⟨by (with_reducible repeat (first | apply Kd.R_alloc | apply Kd.R_drewN | apply Kd.R_drew)); exact HO390.out⟩, ⟨by (with_reducible repeat (first | apply Kd.R_alloc | apply Kd.R_drewN | apply Kd.R_drew)); exact Kd.R_mono HO394.out (fun _ hk => hk.2)⟩, ⟨by (with_reducible repeat (first | apply Kd.R_alloc | apply Kd.R_drewN | apply Kd.R_drew)); exact Kd.R_mono HO398.out (fun _ hk => hk.2)⟩, ⟨by repeat (first | (with_reducible first | exact HB.out | apply below_alloc | apply pw_below_drewN | apply below_drew1) | exact HB.out)⟩⟩
       ·replace c24 := Bool.eq_false_iff.mpr c24
        subst c24
        have H1 : (withelaw3_ReachOrders.j0 k t388 t391 t392 t395 (!t392)) = some r := by rw [if_neg (show ¬ (false = true) by decide)] at H; exact H
        clear H
        have H := H1
        clear H1
        have H' := Aside0.mk H
        clear H
        go_wp2_with (first | ((with_reducible refine gate_callee (f := 17) rfl ?_); refine goesL_ (some 40) rfl rfl Tryd.func17 (by kernel_rfl) rfl #[.slice Ao14 t388.length co14] rfl (by (try simp only [List.map_toArray, List.map_cons, List.map_nil]); first | done | rfl | (simp only [List.length_drop, List.length_take]; rfl)) ?_; (with_reducible refine (reach_Acyclic.calls k _ _ t388 t399 _ ?side1 ?side2 A17.out).mono ?_); (case side1 => repeat (first | exact (Kd.R_reads' HO390.out).2.2 | (with_reducible refine Kd.C_alloc ?_ _) | (with_reducible refine Kd.C_drewN ?_ _) | (with_reducible refine Kd.C_drew ?_))); (case side2 => exact (Kd.R_reads' HO390.out).2.1); rintro e w26 ⟨rfl, hb⟩; refine ⟨_, rfl, ?_⟩; have n0_ := Aside0.mk (Kd.R_below (by (with_reducible repeat (first | apply Kd.R_alloc | apply Kd.R_drewN | apply Kd.R_drew)); exact HO390.out) hb); have n1_ := Aside0.mk (Kd.R_below (by (with_reducible repeat (first | apply Kd.R_alloc | apply Kd.R_drewN | apply Kd.R_drew)); exact HO394.out) hb); have n2_ := Aside0.mk (Kd.R_below (by (with_reducible repeat (first | apply Kd.R_alloc | apply Kd.R_drewN | apply Kd.R_drew)); exact HO398.out) hb); have n3_ := Aside0.mk (below_step (by repeat (first | (with_reducible first | exact HB.out | apply below_alloc | apply pw_below_drewN | apply below_drew1) | exact HB.out)) hb); clear HO390; clear HO394; clear HO398; clear HB; have HO390 := n0_; have HO394 := n1_; have HO398 := n2_; have HB := n3_; clear n0_ n1_ n2_ n3_; (try clear hb); (try clear hb2); (try clear hk); (try clear hi)) | ((first | ((with_reducible refine gate_callee (f := 28) rfl ?_); (refine gate_guard (by rfl) ?_; dsimp only); refine goesL_ (some 51) rfl rfl Tryd.func28 (by kernel_rfl) rfl #[.slice Ao14 t388.length co14] rfl (by (try simp only [List.map_toArray, List.map_cons, List.map_nil]); first | done | rfl | (simp only [List.length_drop, List.length_take]; rfl)) ?_; (with_reducible refine (withelaw3_hasLoop.calls k _ _ t388 false _ ?side1 ?side2 A23.out).mono ?_); (case side1 => repeat (first | exact (Kd.R_reads' HO390.out).2.2 | (with_reducible refine Kd.C_alloc ?_ _) | (with_reducible refine Kd.C_drewN ?_ _) | (with_reducible refine Kd.C_drew ?_))); (case side2 => exact (Kd.R_reads' HO390.out).2.1); rintro e w' ⟨rfl, ⟨nd, rfl⟩⟩; refine ⟨_, rfl, ?_⟩) | (go_at_call 28; (with_reducible refine (withelaw3_hasLoop.calls k _ _ t388 false _ ?side1 ?side2 A23.out).mono ?_); (case side1 => repeat (first | exact (Kd.R_reads' HO390.out).2.2 | (with_reducible refine Kd.C_alloc ?_ _) | (with_reducible refine Kd.C_drewN ?_ _) | (with_reducible refine Kd.C_drew ?_))); (case side2 => exact (Kd.R_reads' HO390.out).2.1); rintro e w' ⟨rfl, ⟨nd, rfl⟩⟩))))
        go_meet
        case rel => exact ⟨_, (!t392), (by first | rfl | (simp; done) | (simp [*]; done)), H', ⟨by first | omega | exact Nat.le_refl _⟩, ⟨by (with_reducible repeat (first | apply Kd.R_alloc | apply Kd.R_drewN | apply Kd.R_drew)); exact HO390.out⟩, ⟨by (with_reducible repeat (first | apply Kd.R_alloc | apply Kd.R_drewN | apply Kd.R_drew)); exact Kd.R_mono HO394.out (fun _ hk => hk.2)⟩, ⟨by (with_reducible repeat (first | apply Kd.R_alloc | apply Kd.R_drewN | apply Kd.R_drew)); exact Kd.R_mono HO398.out (fun _ hk => hk.2)⟩, ⟨by repeat (first | (with_reducible first | exact HB.out | apply below_alloc | apply pw_below_drewN | apply below_drew1) | exact HB.out)⟩⟩
      ·replace c22 := Bool.eq_false_iff.mpr c22
       subst c22
       have H1 : (withelaw3_ReachOrders.j0 k t388 t391 t392 t395 false) = some r := by rw [if_neg (show ¬ (false = true) by decide)] at H; exact H
       clear H
       have H := H1
       clear H1
       have H' := Aside0.mk H
       clear H
       go_wp2_with (first | ((with_reducible refine gate_callee (f := 17) rfl ?_); refine goesL_ (some 40) rfl rfl Tryd.func17 (by kernel_rfl) rfl #[.slice Ao14 t388.length co14] rfl (by (try simp only [List.map_toArray, List.map_cons, List.map_nil]); first | done | rfl | (simp only [List.length_drop, List.length_take]; rfl)) ?_; (with_reducible refine (reach_Acyclic.calls k _ _ t388 t399 _ ?side1 ?side2 A17.out).mono ?_); (case side1 => repeat (first | exact (Kd.R_reads' HO390.out).2.2 | (with_reducible refine Kd.C_alloc ?_ _) | (with_reducible refine Kd.C_drewN ?_ _) | (with_reducible refine Kd.C_drew ?_))); (case side2 => exact (Kd.R_reads' HO390.out).2.1); rintro e w27 ⟨rfl, hb⟩; refine ⟨_, rfl, ?_⟩; have n0_ := Aside0.mk (Kd.R_below (by (with_reducible repeat (first | apply Kd.R_alloc | apply Kd.R_drewN | apply Kd.R_drew)); exact HO390.out) hb); have n1_ := Aside0.mk (Kd.R_below (by (with_reducible repeat (first | apply Kd.R_alloc | apply Kd.R_drewN | apply Kd.R_drew)); exact HO394.out) hb); have n2_ := Aside0.mk (Kd.R_below (by (with_reducible repeat (first | apply Kd.R_alloc | apply Kd.R_drewN | apply Kd.R_drew)); exact HO398.out) hb); have n3_ := Aside0.mk (below_step (by repeat (first | (with_reducible first | exact HB.out | apply below_alloc | apply pw_below_drewN | apply below_drew1) | exact HB.out)) hb); clear HO390; clear HO394; clear HO398; clear HB; have HO390 := n0_; have HO394 := n1_; have HO398 := n2_; have HB := n3_; clear n0_ n1_ n2_ n3_; (try clear hb); (try clear hb2); (try clear hk); (try clear hi)))
       go_meet
       case rel => exact ⟨_, (false), (by first | rfl | (simp; done) | (simp [*]; done)), H', ⟨by first | omega | exact Nat.le_refl _⟩, ⟨by (with_reducible repeat (first | apply Kd.R_alloc | apply Kd.R_drewN | apply Kd.R_drew)); exact HO390.out⟩, ⟨by (with_reducible repeat (first | apply Kd.R_alloc | apply Kd.R_drewN | apply Kd.R_drew)); exact Kd.R_mono HO394.out (fun _ hk => hk.2)⟩, ⟨by (with_reducible repeat (first | apply Kd.R_alloc | apply Kd.R_drewN | apply Kd.R_drew)); exact Kd.R_mono HO398.out (fun _ hk => hk.2)⟩, ⟨by repeat (first | (with_reducible first | exact HB.out | apply below_alloc | apply pw_below_drewN | apply below_drew1) | exact HB.out)⟩⟩
   case rest =>
    as_aux_lemma =>
    clear HC11
    try clear c1
    try clear c2
    try clear p2
    try clear c5
    try clear c6
    try clear c6b0
    try clear c6b1
    try clear c8
    try clear c9
    try clear c12
    try clear c14
    try clear c17
    try clear c18
    try clear c18b0
    try clear c18b1
    try clear c18b2
    try clear c20
    try clear c20b0
    try clear c20b1
    try clear c20b2
    try clear c22
    try clear c24
    obtain ⟨kq, x58_10, rfl, HA, HJ10, HO_7, HO_8, HO_10, HB⟩ := hcut
    cases kq with
    | zero => exact absurd HA.out (by simp [withelaw3_ReachOrders.j0])
    | succ kj10 =>
     have H := HA.out
     clear HA
     simp only [withelaw3_ReachOrders.j0] at H
     by_cases c28 : x58_10 = true
     ·subst c28
      have H1 : (none) = some r := by rw [if_pos rfl] at H; exact H
      clear H
      have H := H1
      clear H1
      exact absurd H (by simp)
     ·replace c28 := Bool.eq_false_iff.mpr c28
      subst c28
      have H1 : (if t392 = true then (if 0 ≤ (t388.length : Int) then (if ((t388.length : Int) : Int).toNat ≤ 35184372088832 then (withelaw3_ReachOrders.l0 kj10 t388 t391 t395 (List.replicate ((t388.length : Int) : Int).toNat 0) 0) else (none)) else (none)) else (if (t391.length : Int) = 0 then (some ((t395.length : Int) == 0)) else (none))) = some r := by rw [if_neg (show ¬ (false = true) by decide)] at H; exact H
      clear H
      have H := H1
      clear H1
      by_cases c29 : t392 = true
      ·subst c29
       have H1 : (if 0 ≤ (t388.length : Int) then (if ((t388.length : Int) : Int).toNat ≤ 35184372088832 then (withelaw3_ReachOrders.l0 kj10 t388 t391 t395 (List.replicate ((t388.length : Int) : Int).toNat 0) 0) else (none)) else (none)) = some r := by rw [if_pos rfl] at H; exact H
       clear H
       have H := H1
       clear H1
       by_cases c30 : 0 ≤ (t388.length : Int)
       ·rw [if_pos c30] at H
        have c30b0 := eq_true c30
        have c30b1 : decide (0 ≤ (t388.length : Int)) = true := decide_eq_true c30
        clear c30
        by_cases c31 : ((t388.length : Int) : Int).toNat ≤ 35184372088832
        ·rw [if_pos c31] at H
         have c31b0 := eq_true c31
         have c31b1 : decide (((t388.length : Int) : Int).toNat ≤ 35184372088832) = true := decide_eq_true c31
         clear c31
         obtain ⟨y401, hy401⟩ : ∃ y_ : List Int, y_ = (List.replicate ((t388.length : Int) : Int).toNat 0) := ⟨_, rfl⟩
         replace H : (withelaw3_ReachOrders.l0 kj10 t388 t391 t395 y401 0) = some r := by first | (rw [hy401]; with_reducible exact H) | (have H2_ := (Option.bind_some _ _).symm.trans H; rw [hy401]; with_reducible exact H2_) | (have H2_ := (Option.bind_some _ _).symm.trans H; with_reducible exact H2_) | with_reducible exact H | (rw [hy401]; exact H) | exact H
         have Ny401 := Aside0.mk hy401
         clear hy401
         have H' := Aside0.mk H
         clear H
         go_wp2_with (first | ((with_reducible refine gate_dst (N := 71) rfl ?_); (try (refine gate_guard (by rfl) ?_; dsimp only)); refine Kd.R_make (Kd.int .i64) _ 3 rfl (N := 71) rfl 28 _ _ rfl (t388.length : Int) rfl rfl Tryd.underlying28 (.int .i64 0) 8 info3 rfl (by decide) (by omega) 0 (ok := fun _ => True) (okp := fun _ => True) rfl (fun _ hk => hk) trivial (of_decide_eq_true (by first | (with_reducible assumption) | assumption)) (Nat.le_trans (Nat.mul_le_mul_right _ (of_decide_eq_true (by first | (with_reducible assumption) | assumption) : (t388.length : Int).toNat ≤ 35184372088832)) (by omega)) (Below.refl _ _) (Nat.le_refl _) ?_; intro v402 w32 ho33 hb hg_ hnew_; clear hg_ hnew_; (first | rw [← Ny401.out] at ho33 | (simp only [Int.reduceToNat] at ho33; rw [← Ny401.out] at ho33)); have n0_ := Aside0.mk (Kd.R_below (by (with_reducible repeat (first | apply Kd.R_alloc | apply Kd.R_drewN | apply Kd.R_drew)); exact HO_7.out) hb); have n1_ := Aside0.mk (Kd.R_elder' (by (with_reducible repeat (first | apply Kd.R_alloc | apply Kd.R_drewN | apply Kd.R_drew)); exact HO_8.out) (Kd.R_base ho33) hb); have n2_ := Aside0.mk (Kd.R_elder' (by (with_reducible repeat (first | apply Kd.R_alloc | apply Kd.R_drewN | apply Kd.R_drew)); exact HO_10.out) (Kd.R_base ho33) hb); have n3_ := Aside0.mk (Kd.R_lower (Kd.R_new' (Kd.R_new' ho33 (Kd.R_lt (by (with_reducible repeat (first | apply Kd.R_alloc | apply Kd.R_drewN | apply Kd.R_drew)); exact HO_8.out))) (Kd.R_lt (by (with_reducible repeat (first | apply Kd.R_alloc | apply Kd.R_drewN | apply Kd.R_drew)); exact HO_10.out))) (below_size (by repeat (first | (with_reducible first | exact HB.out | apply below_alloc | apply pw_below_drewN | apply below_drew1) | exact HB.out)))); have n4_ := Aside0.mk (below_step (by repeat (first | (with_reducible first | exact HB.out | apply below_alloc | apply pw_below_drewN | apply below_drew1) | exact HB.out)) hb); clear HO_7; clear HO_8; clear HO_10; clear HB; have HO_7 := n0_; have HO_8 := n1_; have HO_10 := n2_; have HO403 := n3_; have HB := n4_; clear n0_ n1_ n2_ n3_ n4_; clear hb ho33))
         try go_simp
         go_loopg [13] kj10 (fun kq v13 w' => ∃ (x12_2 : List Int) (x13_2 : Int), v13 = .int .i64 x13_2 ∧ Aside0 (withelaw3_ReachOrders.l0 kq t388 t391 t395 x12_2 x13_2 = some r) ∧ Aside0 (kq ≤ kj10) ∧ Aside0 (Kd.R (Kd.int .u64) 23 w' w.heap.size (fun _ => True) (.slice Ao14 t388.length co14) t388) ∧ Aside0 (Kd.R (Kd.int .i64) 3 w' w.heap.size (fun k_ => some k_ ≠ (v397 : Value).ownBlock ∧ some k_ ≠ (v402 : Value).ownBlock) v393 t391) ∧ Aside0 (Kd.R (Kd.int .i64) 3 w' w.heap.size (fun k_ => some k_ ≠ (v393 : Value).ownBlock ∧ some k_ ≠ (v402 : Value).ownBlock) v397 t395) ∧ Aside0 (Kd.R (Kd.int .i64) 3 w' w.heap.size (fun k_ => some k_ ≠ (v393 : Value).ownBlock ∧ some k_ ≠ (v397 : Value).ownBlock) v402 x12_2) ∧ Aside0 (Below w.heap.size w w'))
         case atStart => exact ⟨(y401), (0), (by first | rfl | (simp; done) | (simp [*]; done)), H', ⟨Nat.le_refl _⟩, ⟨by (with_reducible repeat (first | apply Kd.R_alloc | apply Kd.R_drewN | apply Kd.R_drew)); exact HO_7.out⟩, ⟨by (with_reducible repeat (first | apply Kd.R_alloc | apply Kd.R_drewN | apply Kd.R_drew)); exact HO_8.out⟩, ⟨by (with_reducible repeat (first | apply Kd.R_alloc | apply Kd.R_drewN | apply Kd.R_drew)); exact HO_10.out⟩, ⟨by (with_reducible repeat (first | apply Kd.R_alloc | apply Kd.R_drewN | apply Kd.R_drew)); exact Kd.R_mono HO403.out (fun _ hk => ⟨hk.1.2, hk.2⟩)⟩, ⟨by repeat (first | (with_reducible first | exact HB.out | apply below_alloc | apply pw_below_drewN | apply below_drew1) | exact HB.out)⟩⟩
         case round =>
          as_aux_lemma =>
          clear H'
          try clear c1
          try clear c2
          try clear p2
          try clear c3
          try clear c5
          try clear c6
          try clear c6b0
          try clear c6b1
          try clear c8
          try clear c9
          try clear c12
          try clear c14
          try clear c17
          try clear c18
          try clear c18b0
          try clear c18b1
          try clear c18b2
          try clear c20
          try clear c20b0
          try clear c20b1
          try clear c20b2
          try clear c22
          try clear c24
          try clear c28
          try clear c29
          try clear c30
          try clear c30b0
          try clear c30b1
          try clear c31
          try clear c31b0
          try clear c31b1
          try clear p2
          obtain ⟨x12_2, x13_2, rfl, HA, HK2, HO_7, HO_8, HO_10, HO_12, HB⟩ := hrel
          cases gk with
          | zero => exact absurd HA.out (by simp [withelaw3_ReachOrders.l0])
          | succ k2 =>
           have H := HA.out
           clear HA
           simp only [withelaw3_ReachOrders.l0] at H
           by_cases c34 : x13_2 < (x12_2.length : Int)
           ·rw [if_pos c34] at H
            have c34b0 : decide (x13_2 < (x12_2.length : Int)) = true := decide_eq_true c34
            clear c34
            by_cases c35 : 0 ≤ x13_2
            ·rw [if_pos c35] at H
             have c35b0 : decide (0 ≤ x13_2) = true := decide_eq_true c35
             clear c35
             obtain ⟨y404, hy404⟩ : ∃ y_ : List Int, y_ = (x12_2.set (x13_2 : Int).toNat (-1)) := ⟨_, rfl⟩
             replace H : (withelaw3_ReachOrders.l0 k2 t388 t391 t395 y404 (wrap64 (x13_2 + 1))) = some r := by first | (rw [hy404]; with_reducible exact H) | (have H2_ := (Option.bind_some _ _).symm.trans H; rw [hy404]; with_reducible exact H2_) | (have H2_ := (Option.bind_some _ _).symm.trans H; with_reducible exact H2_) | with_reducible exact H | (rw [hy404]; exact H) | exact H
             have Ny404 := Aside0.mk hy404
             clear hy404
             have H' := Aside0.mk H
             clear H
             obtain ⟨Ao37, co37, eo37⟩ := Kd.R_slice HO_12.out
             subst eo37
             have p36 : 0 ≤ (x13_2 : Int) := of_decide_eq_true (by first | (with_reducible assumption) | assumption)
             have q36 : (x13_2 : Int) < ((x12_2.length : Int) : Int) := of_decide_eq_true (by first | (with_reducible assumption) | assumption)
             obtain ⟨go36, co36, eo36, gb36, gl36, cl36, HG36⟩ := Kd.R_form HO_12.out (by omega)
             (first | cases eo36 | (injection eo36 with ea_ en_ ec_; (first | subst ea_ | (injection ea_ with ea_; subst ea_)); subst ec_; clear en_))
             have GB36 := Aside0.mk gb36
             have GG36 := Aside0.mk HG36
             clear gb36 gl36 HG36
             obtain ⟨hx36_0, hf36_0⟩ := Kd.R_celln 0 HO_12.out (x13_2 : Int) p36 q36
             replace p36 := eq_true p36
             replace q36 := eq_true q36
             have HP38 := Kd.R_putg HO_12.out (x13_2 : Int) (-1)
             go_wp2_with (first | ((with_reducible refine gate_store (t := 3) (p := 80) rfl ?_); refine store_event (t := 3) (p := 80) (v := ?vo_w39) (w1 := (wr.setCell ⟨go36, (x13_2 : Int).toNat, none⟩ (.int .i64 (-1)))) ?hg ?ho ?hn ?hr ?_; (case ho => rfl); (case hg => rfl); (case hn => rfl); (case hr => first | (go_simp; done) | (go_simp; rfl)); intro w39 hw; have hg : wr.grownBy w39 (some go36) := (by rw [hw]; exact HP38.2); have hp_ : Kd.R (Kd.int .i64) 3 w39 w.heap.size (fun k_ => some k_ ≠ (v393 : Value).ownBlock ∧ some k_ ≠ (v397 : Value).ownBlock) (.slice (some ⟨go36, 0, none⟩) x12_2.length co37) y404 := (by rw [hw, Ny404.out]; exact HP38.1); clear HP38; have n0_ := Aside0.mk (Kd.R_over' (v := (.slice (some ⟨go36, 0, none⟩) x12_2.length co37)) (by (with_reducible repeat (first | apply Kd.R_alloc | apply Kd.R_drewN | apply Kd.R_drew)); exact HO_7.out) (Kd.R_typed HO_12.out) (by decide) hg); have n1_ := Aside0.mk (Kd.R_after (v := (.slice (some ⟨go36, 0, none⟩) x12_2.length co37)) (v1 := (.slice (some ⟨go36, 0, none⟩) x12_2.length co37)) (ok := (fun k_ => some k_ ≠ (v397 : Value).ownBlock)) (by (with_reducible repeat (first | apply Kd.R_alloc | apply Kd.R_drewN | apply Kd.R_drew)); exact HO_8.out) hg (.inl rfl)); have n2_ := Aside0.mk (Kd.R_after (v := (.slice (some ⟨go36, 0, none⟩) x12_2.length co37)) (v1 := (.slice (some ⟨go36, 0, none⟩) x12_2.length co37)) (ok := (fun k_ => some k_ ≠ (v393 : Value).ownBlock)) (by (with_reducible repeat (first | apply Kd.R_alloc | apply Kd.R_drewN | apply Kd.R_drew)); exact HO_10.out) hg (.inl rfl)); have n3_ := Aside0.mk (hp_); have n4_ := Aside0.mk ((by rw [hw]; exact below_set (HB.out) GB36.out : Below w.heap.size w w39)); clear HO_7; clear HO_8; clear HO_10; clear HO_12; clear HB; have HO_7 := n0_; have HO_8 := n1_; have HO_10 := n2_; have HO_12 := n3_; have HB := n4_; clear n0_ n1_ n2_ n3_ n4_; clear hg hw hp_))
             go_roundg k2
             case measure => have := HJ10.out; have := HK2.out; omega
             case rel => exact ⟨(y404), (wrap64 (x13_2 + 1)), (by first | rfl | (simp; done) | (simp [*]; done)), H', ⟨by have := HJ10.out; have := HK2.out; omega⟩, ⟨by (with_reducible repeat (first | apply Kd.R_alloc | apply Kd.R_drewN | apply Kd.R_drew)); exact HO_7.out⟩, ⟨by (with_reducible repeat (first | apply Kd.R_alloc | apply Kd.R_drewN | apply Kd.R_drew)); exact HO_8.out⟩, ⟨by (with_reducible repeat (first | apply Kd.R_alloc | apply Kd.R_drewN | apply Kd.R_drew)); exact HO_10.out⟩, ⟨by (with_reducible repeat (first | apply Kd.R_alloc | apply Kd.R_drewN | apply Kd.R_drew)); exact HO_12.out⟩, ⟨by repeat (first | (with_reducible first | exact HB.out | apply below_alloc | apply pw_below_drewN | apply below_drew1) | exact HB.out)⟩⟩
            ·rw [if_neg c35] at H
             exact absurd H (by simp)
           ·rw [if_neg c34] at H
            have c34b0 : decide (x13_2 < (x12_2.length : Int)) = false := decide_eq_false c34
            clear c34
            have HC40 := Aside0.mk H
            clear H
            obtain ⟨Ao41, co41, eo41⟩ := Kd.R_slice HO_12.out
            subst eo41
            go_upto_region 17 with (fail)
            go_cut [92] (fun v92 wc => ∃ (kq : Nat) (x92_39 : Bool), v92 = .bool x92_39 ∧ Aside0 (withelaw3_ReachOrders.j2 kq t388 t391 t395 x12_2 x92_39 = some r) ∧ Aside0 (kq ≤ k2) ∧ Aside0 (Kd.R (Kd.int .u64) 23 wc w.heap.size (fun _ => True) (.slice Ao14 t388.length co14) t388) ∧ Aside0 (Kd.R (Kd.int .i64) 3 wc w.heap.size (fun k_ => some k_ ≠ (v397 : Value).ownBlock ∧ some k_ ≠ ((.slice Ao41 x12_2.length co41) : Value).ownBlock) v393 t391) ∧ Aside0 (Kd.R (Kd.int .i64) 3 wc w.heap.size (fun k_ => some k_ ≠ (v393 : Value).ownBlock ∧ some k_ ≠ ((.slice Ao41 x12_2.length co41) : Value).ownBlock) v397 t395) ∧ Aside0 (Kd.R (Kd.int .i64) 3 wc w.heap.size (fun k_ => some k_ ≠ (v393 : Value).ownBlock ∧ some k_ ≠ (v397 : Value).ownBlock) (.slice Ao41 x12_2.length co41) x12_2) ∧ Aside0 (Below w.heap.size w wc))
            case first =>
             as_aux_lemma =>
             have H := HC40.out
             clear HC40
             by_cases c42 : (t391.length : Int) = (t388.length : Int)
             ·rw [if_pos c42] at H
              have c42b0 : ((t391.length : Int) == (t388.length : Int)) = true := beq_iff_eq.mpr c42
              have c42b1 : ((t391.length : Int) != (t388.length : Int)) = false := bne_eq_false_iff_eq.mpr c42
              have c42b2 : (t391.length == t388.length) = true := by first | simpa using c42 | (simp at c42 ⊢; omega)
              clear c42
              (first | rw [c42b0] | (simp only [i64_w, i32_w]; rw [c42b0]) | skip)
              have H' := Aside0.mk H
              clear H
              obtain ⟨Ao43, co43, eo43⟩ := Kd.R_slice HO_8.out
              subst eo43
              obtain ⟨Ao44, co44, eo44⟩ := Kd.R_slice HO_10.out
              subst eo44
              go_wp2
              go_meet
              case rel => exact ⟨_, (((t395.length : Int) != (t388.length : Int))), (by first | rfl | (simp; done) | (simp [*]; done)), H', ⟨by have := HJ10.out; have := HK2.out; first | omega | exact Nat.le_refl _⟩, ⟨by (with_reducible repeat (first | apply Kd.R_alloc | apply Kd.R_drewN | apply Kd.R_drew)); exact HO_7.out⟩, ⟨by (with_reducible repeat (first | apply Kd.R_alloc | apply Kd.R_drewN | apply Kd.R_drew)); exact HO_8.out⟩, ⟨by (with_reducible repeat (first | apply Kd.R_alloc | apply Kd.R_drewN | apply Kd.R_drew)); exact HO_10.out⟩, ⟨by (with_reducible repeat (first | apply Kd.R_alloc | apply Kd.R_drewN | apply Kd.R_drew)); exact HO_12.out⟩, ⟨by repeat (first | (with_reducible first | exact HB.out | apply below_alloc | apply pw_below_drewN | apply below_drew1) | exact HB.out)⟩⟩
             ·rw [if_neg c42] at H
              have c42b0 : ((t391.length : Int) == (t388.length : Int)) = false := beq_eq_false_iff_ne.mpr c42
              have c42b1 : ((t391.length : Int) != (t388.length : Int)) = true := bne_iff_ne.mpr c42
              have c42b2 : (t391.length == t388.length) = false := by first | simpa using c42 | (simp at c42 ⊢; omega)
              (first | rw [c42b0] | (simp only [i64_w, i32_w]; rw [c42b0]) | skip)
              have H' := Aside0.mk H
              clear H
              obtain ⟨Ao45, co45, eo45⟩ := Kd.R_slice HO_8.out
              subst eo45
              go_wp2
              go_meet
              case rel => exact ⟨_, (true), (by first | rfl | (simp; done) | (simp [*]; done)), H', ⟨by have := HJ10.out; have := HK2.out; first | omega | exact Nat.le_refl _⟩, ⟨by (with_reducible repeat (first | apply Kd.R_alloc | apply Kd.R_drewN | apply Kd.R_drew)); exact HO_7.out⟩, ⟨by (with_reducible repeat (first | apply Kd.R_alloc | apply Kd.R_drewN | apply Kd.R_drew)); exact HO_8.out⟩, ⟨by (with_reducible repeat (first | apply Kd.R_alloc | apply Kd.R_drewN | apply Kd.R_drew)); exact HO_10.out⟩, ⟨by (with_reducible repeat (first | apply Kd.R_alloc | apply Kd.R_drewN | apply Kd.R_drew)); exact HO_12.out⟩, ⟨by repeat (first | (with_reducible first | exact HB.out | apply below_alloc | apply pw_below_drewN | apply below_drew1) | exact HB.out)⟩⟩
            case rest =>
             as_aux_lemma =>
             clear HC40
             try clear c1
             try clear c2
             try clear p2
             try clear c3
             try clear p3
             try clear q3
             try clear hx3
             try clear hf3
             try clear c4
             try clear c5
             try clear c6
             try clear c6b0
             try clear c6b1
             try clear p6
             try clear c8
             try clear c9
             try clear c12
             try clear c14
             try clear c17
             try clear c18
             try clear c18b0
             try clear c18b1
             try clear c18b2
             try clear c20
             try clear c20b0
             try clear c20b1
             try clear c20b2
             try clear c22
             try clear c24
             try clear c28
             try clear c29
             try clear c30
             try clear c30b0
             try clear c30b1
             try clear c31
             try clear c31b0
             try clear c31b1
             try clear c34
             try clear c34b0
             try clear c35
             try clear c35b0
             try clear p36
             try clear q36
             try clear hx36
             try clear hf36
             try clear c42
             try clear c42b0
             try clear c42b1
             try clear c42b2
             try clear hx36_0
             try clear p2
             try clear p36
             try clear q36
             obtain ⟨kq, x92_39, rfl, HA, HJ39, HO_7, HO_8, HO_10, HO_12, HB⟩ := hcut
             cases kq with
             | zero => exact absurd HA.out (by simp [withelaw3_ReachOrders.j2])
             | succ kj39 =>
              have H := HA.out
              clear HA
              simp only [withelaw3_ReachOrders.j2] at H
              by_cases c46 : x92_39 = true
              ·subst c46
               have H1 : (none) = some r := by rw [if_pos rfl] at H; exact H
               clear H
               have H := H1
               clear H1
               exact absurd H (by simp)
              ·replace c46 := Bool.eq_false_iff.mpr c46
               subst c46
               have H1 : (withelaw3_ReachOrders.l1 kj39 t388 t391 t395 x12_2 0) = some r := by rw [if_neg (show ¬ (false = true) by decide)] at H; exact H
               clear H
               have H := H1
               clear H1
               have H' := Aside0.mk H
               clear H
               go_wp2
               try go_simp
               go_loopg [14] kj39 (fun kq v14 w' => ∃ (x12_4 : List Int) (x14_4 : Int), v14 = .int .i64 x14_4 ∧ Aside0 (withelaw3_ReachOrders.l1 kq t388 t391 t395 x12_4 x14_4 = some r) ∧ Aside0 (kq ≤ kj39) ∧ Aside0 (Kd.R (Kd.int .u64) 23 w' w.heap.size (fun _ => True) (.slice Ao14 t388.length co14) t388) ∧ Aside0 (Kd.R (Kd.int .i64) 3 w' w.heap.size (fun k_ => some k_ ≠ (v397 : Value).ownBlock ∧ some k_ ≠ ((.slice Ao41 x12_2.length co41) : Value).ownBlock) v393 t391) ∧ Aside0 (Kd.R (Kd.int .i64) 3 w' w.heap.size (fun k_ => some k_ ≠ (v393 : Value).ownBlock ∧ some k_ ≠ ((.slice Ao41 x12_2.length co41) : Value).ownBlock) v397 t395) ∧ Aside0 (Kd.R (Kd.int .i64) 3 w' w.heap.size (fun k_ => some k_ ≠ (v393 : Value).ownBlock ∧ some k_ ≠ (v397 : Value).ownBlock) (.slice Ao41 x12_2.length co41) x12_4) ∧ Aside0 (Below w.heap.size w w'))
               case atStart => exact ⟨(x12_2), (0), (by first | rfl | (simp; done) | (simp [*]; done)), H', ⟨Nat.le_refl _⟩, ⟨by (with_reducible repeat (first | apply Kd.R_alloc | apply Kd.R_drewN | apply Kd.R_drew)); exact HO_7.out⟩, ⟨by (with_reducible repeat (first | apply Kd.R_alloc | apply Kd.R_drewN | apply Kd.R_drew)); exact HO_8.out⟩, ⟨by (with_reducible repeat (first | apply Kd.R_alloc | apply Kd.R_drewN | apply Kd.R_drew)); exact HO_10.out⟩, ⟨by (with_reducible repeat (first | apply Kd.R_alloc | apply Kd.R_drewN | apply Kd.R_drew)); exact HO_12.out⟩, ⟨by repeat (first | (with_reducible first | exact HB.out | apply below_alloc | apply pw_below_drewN | apply below_drew1) | exact HB.out)⟩⟩
               case round =>
                as_aux_lemma =>
                clear H'
                try clear c1
                try clear c2
                try clear p2
                try clear c3
                try clear p3
                try clear q3
                try clear hx3
                try clear hf3
                try clear c4
                try clear c5
                try clear c6
                try clear c6b0
                try clear c6b1
                try clear p6
                try clear c8
                try clear c9
                try clear c12
                try clear c14
                try clear c17
                try clear c18
                try clear c18b0
                try clear c18b1
                try clear c18b2
                try clear c20
                try clear c20b0
                try clear c20b1
                try clear c20b2
                try clear c22
                try clear c24
                try clear c28
                try clear c29
                try clear c30
                try clear c30b0
                try clear c30b1
                try clear c31
                try clear c31b0
                try clear c31b1
                try clear c34
                try clear c34b0
                try clear c35
                try clear c35b0
                try clear p36
                try clear q36
                try clear hx36
                try clear hf36
                try clear c42
                try clear c42b0
                try clear c42b1
                try clear c42b2
                try clear c46
                try clear hx36_0
                try clear p2
                try clear p3
                try clear p36
                try clear p6
                try clear q3
                try clear q36
                obtain ⟨x12_4, x14_4, rfl, HA, HK4, HO_7, HO_8, HO_10, HO_12, HB⟩ := hrel
                have hl12_4 := (Kd.R_reads' HO_12.out).1
                rw [hl12_4] at HO_12
                (try simp only [hl12_4])
                (try simp only [hl12_4] at HO_7)
                (try simp only [hl12_4] at HO_8)
                (try simp only [hl12_4] at HO_10)
                cases gk with
                | zero => exact absurd HA.out (by simp [withelaw3_ReachOrders.l1])
                | succ k4 =>
                 have H := HA.out
                 clear HA
                 simp only [withelaw3_ReachOrders.l1] at H
                 by_cases c47 : x14_4 < (t391.length : Int)
                 ·rw [if_pos c47] at H
                  have c47b0 : decide (x14_4 < (t391.length : Int)) = true := decide_eq_true c47
                  try (have c47b0h12_4 := c47b0; simp only [hl12_4] at c47b0h12_4)
                  clear c47
                  by_cases c48 : 0 ≤ x14_4
                  ·rw [if_pos c48] at H
                   have c48b0 : decide (0 ≤ x14_4) = true := decide_eq_true c48
                   clear c48
                   by_cases c49 : (rd t391 x14_4) < 0
                   ·rw [if_pos c49] at H
                    exact absurd H (by simp)
                   ·rw [if_neg c49] at H
                    have c49b0 : decide ((rd t391 x14_4) < 0) = false := decide_eq_false c49
                    clear c49
                    by_cases c50 : (rd t391 x14_4) ≥ (t388.length : Int)
                    ·rw [if_pos c50] at H
                     exact absurd H (by simp)
                    ·rw [if_neg c50] at H
                     have c50b0 : decide ((t388.length : Int) ≤ (rd t391 x14_4)) = false := decide_eq_false c50
                     try (have c50b0h12_4 := c50b0; simp only [hl12_4] at c50b0h12_4)
                     clear c50
                     by_cases c51 : 0 ≤ (rd t391 x14_4)
                     ·rw [if_pos c51] at H
                      have c51b0 : decide (0 ≤ (rd t391 x14_4)) = true := decide_eq_true c51
                      clear c51
                      by_cases c52 : (rd t391 x14_4) < (x12_4.length : Int)
                      ·rw [if_pos c52] at H
                       have c52b0 : decide ((rd t391 x14_4) < (x12_4.length : Int)) = true := decide_eq_true c52
                       try (have c52b0h12_4 := c52b0; simp only [hl12_4] at c52b0h12_4)
                       clear c52
                       by_cases c53 : (rd x12_4 (rd t391 x14_4)) ≥ 0
                       ·rw [if_pos c53] at H
                        exact absurd H (by simp)
                       ·rw [if_neg c53] at H
                        have c53b0 : decide (0 ≤ (rd x12_4 (rd t391 x14_4))) = false := decide_eq_false c53
                        clear c53
                        obtain ⟨y410, hy410⟩ : ∃ y_ : List Int, y_ = (x12_4.set ((rd t391 x14_4) : Int).toNat x14_4) := ⟨_, rfl⟩
                        replace H : (withelaw3_ReachOrders.l1 k4 t388 t391 t395 y410 (wrap64 (x14_4 + 1))) = some r := by first | (rw [hy410]; with_reducible exact H) | (have H2_ := (Option.bind_some _ _).symm.trans H; rw [hy410]; with_reducible exact H2_) | (have H2_ := (Option.bind_some _ _).symm.trans H; with_reducible exact H2_) | with_reducible exact H | (rw [hy410]; exact H) | exact H
                        have Ny410 := Aside0.mk hy410
                        clear hy410
                        have H' := Aside0.mk H
                        clear H
                        obtain ⟨Ao55, co55, eo55⟩ := Kd.R_slice HO_8.out
                        subst eo55
                        have p405 : 0 ≤ (x14_4 : Int) := of_decide_eq_true (by first | (with_reducible assumption) | assumption)
                        have q405 : x14_4 < (t391.length : Int) := of_decide_eq_true (by first | (with_reducible assumption) | assumption)
                        obtain ⟨ad405, e405, hx405_0⟩ := Kd.at_int (Kd.R_reads' HO_8.out).2.2 x14_4 p405 q405
                        cases e405
                        replace p405 := eq_true p405
                        replace q405 := eq_true q405
                        have p406 : 0 ≤ (x14_4 : Int) := of_decide_eq_true (by first | (with_reducible assumption) | assumption)
                        have q406 : x14_4 < (t391.length : Int) := of_decide_eq_true (by first | (with_reducible assumption) | assumption)
                        obtain ⟨ad406, e406, hx406_0⟩ := Kd.at_int (Kd.R_reads' HO_8.out).2.2 x14_4 p406 q406
                        obtain rfl : ad405 = ad406 := (by injection e406)
                        replace p406 := eq_true p406
                        replace q406 := eq_true q406
                        have p407 : 0 ≤ (x14_4 : Int) := of_decide_eq_true (by first | (with_reducible assumption) | assumption)
                        have q407 : x14_4 < (t391.length : Int) := of_decide_eq_true (by first | (with_reducible assumption) | assumption)
                        obtain ⟨ad407, e407, hx407_0⟩ := Kd.at_int (Kd.R_reads' HO_8.out).2.2 x14_4 p407 q407
                        obtain rfl : ad405 = ad407 := (by injection e407)
                        replace p407 := eq_true p407
                        replace q407 := eq_true q407
                        have p408 : 0 ≤ ((rd t391 x14_4) : Int) := of_decide_eq_true (by first | (with_reducible assumption) | assumption)
                        have q408 : (rd t391 x14_4) < (x12_4.length : Int) := of_decide_eq_true (by first | (with_reducible assumption) | assumption)
                        obtain ⟨ad408, e408, hx408_0⟩ := Kd.at_int (Kd.R_reads' HO_12.out).2.2 (rd t391 x14_4) p408 q408
                        cases e408
                        replace p408 := eq_true p408
                        replace q408 := eq_true q408
                        have p409 : 0 ≤ (x14_4 : Int) := of_decide_eq_true (by first | (with_reducible assumption) | assumption)
                        have q409 : x14_4 < (t391.length : Int) := of_decide_eq_true (by first | (with_reducible assumption) | assumption)
                        obtain ⟨ad409, e409, hx409_0⟩ := Kd.at_int (Kd.R_reads' HO_8.out).2.2 x14_4 p409 q409
                        obtain rfl : ad405 = ad409 := (by injection e409)
                        replace p409 := eq_true p409
                        replace q409 := eq_true q409
                        have p54 : 0 ≤ ((rd t391 x14_4) : Int) := of_decide_eq_true (by first | (with_reducible assumption) | assumption)
                        have q54 : ((rd t391 x14_4) : Int) < ((x12_4.length : Int) : Int) := of_decide_eq_true (by first | (with_reducible assumption) | assumption)
                        obtain ⟨go54, co54, eo54, gb54, gl54, cl54, HG54⟩ := Kd.R_form HO_12.out (by omega)
                        (first | cases eo54 | (injection eo54 with ea_ en_ ec_; (first | subst ea_ | (injection ea_ with ea_; subst ea_)); subst ec_; clear en_))
                        have GB54 := Aside0.mk gb54
                        have GG54 := Aside0.mk HG54
                        clear gb54 gl54 HG54
                        (first | simp only [add_plain] at hx408_0 | skip)
                        obtain ⟨hx54_0, hf54_0⟩ := Kd.R_celln 0 HO_12.out ((rd t391 x14_4) : Int) p54 q54
                        replace p54 := eq_true p54
                        replace q54 := eq_true q54
                        have HP56 := Kd.R_putg HO_12.out ((rd t391 x14_4) : Int) x14_4
                        go_wp2_with (first | ((with_reducible refine gate_store (t := 3) (p := 129) rfl ?_); refine store_event (t := 3) (p := 129) (v := ?vo_w57) (w1 := (wr.setCell ⟨go54, ((rd t391 x14_4) : Int).toNat, none⟩ (.int .i64 x14_4))) ?hg ?ho ?hn ?hr ?_; (case ho => rfl); (case hg => rfl); (case hn => rfl); (case hr => first | (go_simp; done) | (go_simp; rfl)); intro w57 hw; have hg : wr.grownBy w57 (some go54) := (by rw [hw]; exact HP56.2); have hp_ : Kd.R (Kd.int .i64) 3 w57 w.heap.size (fun k_ => some k_ ≠ (.slice (some ad405) t391.length co55 : Value).ownBlock ∧ some k_ ≠ (v397 : Value).ownBlock) (.slice (some ⟨go54, 0, none⟩) x12_4.length co41) y410 := (by rw [hw, Ny410.out]; exact HP56.1); clear HP56; have n0_ := Aside0.mk (Kd.R_over' (v := (.slice (some ⟨go54, 0, none⟩) x12_4.length co41)) (by (with_reducible repeat (first | apply Kd.R_alloc | apply Kd.R_drewN | apply Kd.R_drew)); exact HO_7.out) (Kd.R_typed HO_12.out) (by decide) hg); have n1_ := Aside0.mk (Kd.R_after (v := (.slice (some ⟨go54, 0, none⟩) x12_4.length co41)) (v1 := (.slice (some ⟨go54, 0, none⟩) x12_4.length co41)) (ok := (fun k_ => some k_ ≠ (v397 : Value).ownBlock)) (by (with_reducible repeat (first | apply Kd.R_alloc | apply Kd.R_drewN | apply Kd.R_drew)); exact HO_8.out) hg (.inl rfl)); have n2_ := Aside0.mk (Kd.R_after (v := (.slice (some ⟨go54, 0, none⟩) x12_4.length co41)) (v1 := (.slice (some ⟨go54, 0, none⟩) x12_4.length co41)) (ok := (fun k_ => some k_ ≠ (.slice (some ad405) t391.length co55 : Value).ownBlock)) (by (with_reducible repeat (first | apply Kd.R_alloc | apply Kd.R_drewN | apply Kd.R_drew)); exact HO_10.out) hg (.inl rfl)); have n3_ := Aside0.mk (hp_); have n4_ := Aside0.mk ((by rw [hw]; exact below_set (HB.out) GB54.out : Below w.heap.size w w57)); clear HO_7; clear HO_8; clear HO_10; clear HO_12; clear HB; have HO_7 := n0_; have HO_8 := n1_; have HO_10 := n2_; have HO_12 := n3_; have HB := n4_; clear n0_ n1_ n2_ n3_ n4_; clear hg hw hp_))
                        (try simp only [← hl12_4])
                        go_roundg k4
                        case measure => have := HJ10.out; have := HK2.out; have := HJ39.out; have := HK4.out; omega
                        case rel => exact ⟨(y410), (wrap64 (x14_4 + 1)), (by first | rfl | (simp; done) | (simp [*]; done)), H', ⟨by have := HJ10.out; have := HK2.out; have := HJ39.out; have := HK4.out; omega⟩, ⟨by (try simp only [hl12_4]); (with_reducible repeat (first | apply Kd.R_alloc | apply Kd.R_drewN | apply Kd.R_drew)); exact HO_7.out⟩, ⟨by (try simp only [hl12_4]); (with_reducible repeat (first | apply Kd.R_alloc | apply Kd.R_drewN | apply Kd.R_drew)); exact HO_8.out⟩, ⟨by (try simp only [hl12_4]); (with_reducible repeat (first | apply Kd.R_alloc | apply Kd.R_drewN | apply Kd.R_drew)); exact HO_10.out⟩, ⟨by (try simp only [hl12_4]); (with_reducible repeat (first | apply Kd.R_alloc | apply Kd.R_drewN | apply Kd.R_drew)); exact HO_12.out⟩, ⟨by repeat (first | (with_reducible first | exact HB.out | apply below_alloc | apply pw_below_drewN | apply below_drew1) | exact HB.out)⟩⟩
                      ·rw [if_neg c52] at H
                       exact absurd H (by simp)
                     ·rw [if_neg c51] at H
                      exact absurd H (by simp)
                  ·rw [if_neg c48] at H
                   exact absurd H (by simp)
                 ·rw [if_neg c47] at H
                  have c47b0 : decide (x14_4 < (t391.length : Int)) = false := decide_eq_false c47
                  try (have c47b0h12_4 := c47b0; simp only [hl12_4] at c47b0h12_4)
                  clear c47
                  have H' := Aside0.mk H
                  clear H
                  obtain ⟨Ao58, co58, eo58⟩ := Kd.R_slice HO_8.out
                  subst eo58
                  go_wp2
                  try go_simp
                  go_loopg [15] k4 (fun kq v15 w' => ∃ (x15_5 : Int), v15 = .int .i64 x15_5 ∧ Aside0 (withelaw3_ReachOrders.l2 kq t388 t391 t395 x12_4 x15_5 = some r) ∧ Aside0 (kq ≤ k4) ∧ Aside0 (Kd.R (Kd.int .u64) 23 w' w.heap.size (fun _ => True) (.slice Ao14 t388.length co14) t388) ∧ Aside0 (Kd.R (Kd.int .i64) 3 w' w.heap.size (fun k_ => some k_ ≠ (v397 : Value).ownBlock ∧ some k_ ≠ ((.slice Ao41 x12_4.length co41) : Value).ownBlock) (.slice Ao58 t391.length co58) t391) ∧ Aside0 (Kd.R (Kd.int .i64) 3 w' w.heap.size (fun k_ => some k_ ≠ ((.slice Ao58 t391.length co58) : Value).ownBlock ∧ some k_ ≠ ((.slice Ao41 x12_4.length co41) : Value).ownBlock) v397 t395) ∧ Aside0 (Kd.R (Kd.int .i64) 3 w' w.heap.size (fun k_ => some k_ ≠ ((.slice Ao58 t391.length co58) : Value).ownBlock ∧ some k_ ≠ (v397 : Value).ownBlock) (.slice Ao41 x12_4.length co41) x12_4) ∧ Aside0 (Below w.heap.size w w'))
                  case atStart => exact ⟨(0), (by first | rfl | (simp; done) | (simp [*]; done)), H', ⟨Nat.le_refl _⟩, ⟨by (try simp only [hl12_4]); (with_reducible repeat (first | apply Kd.R_alloc | apply Kd.R_drewN | apply Kd.R_drew)); exact HO_7.out⟩, ⟨by (try simp only [hl12_4]); (with_reducible repeat (first | apply Kd.R_alloc | apply Kd.R_drewN | apply Kd.R_drew)); exact HO_8.out⟩, ⟨by (try simp only [hl12_4]); (with_reducible repeat (first | apply Kd.R_alloc | apply Kd.R_drewN | apply Kd.R_drew)); exact HO_10.out⟩, ⟨by (try simp only [hl12_4]); (with_reducible repeat (first | apply Kd.R_alloc | apply Kd.R_drewN | apply Kd.R_drew)); exact HO_12.out⟩, ⟨by repeat (first | (with_reducible first | exact HB.out | apply below_alloc | apply pw_below_drewN | apply below_drew1) | exact HB.out)⟩⟩
                  case round =>
                   as_aux_lemma =>
                   clear H'
                   try clear c1
                   try clear c2
                   try clear p2
                   try clear c3
                   try clear p3
                   try clear q3
                   try clear hx3
                   try clear hf3
                   try clear c4
                   try clear p4
                   try clear q4
                   try clear hx4
                   try clear c5
                   try clear p5
                   try clear q5
                   try clear hx5
                   try clear hf5
                   try clear c6
                   try clear c6b0
                   try clear c6b1
                   try clear p6
                   try clear c8
                   try clear c9
                   try clear c12
                   try clear c14
                   try clear c17
                   try clear c18
                   try clear c18b0
                   try clear c18b1
                   try clear c18b2
                   try clear c20
                   try clear c20b0
                   try clear c20b1
                   try clear c20b2
                   try clear c22
                   try clear c24
                   try clear c28
                   try clear c29
                   try clear c30
                   try clear c30b0
                   try clear c30b1
                   try clear c31
                   try clear c31b0
                   try clear c31b1
                   try clear c34
                   try clear c34b0
                   try clear c35
                   try clear c35b0
                   try clear p36
                   try clear q36
                   try clear hx36
                   try clear hf36
                   try clear p40
                   try clear q40
                   try clear hx40
                   try clear c42
                   try clear c42b0
                   try clear c42b1
                   try clear c42b2
                   try clear c46
                   try clear c47
                   try clear c47b0
                   try clear c48
                   try clear c48b0
                   try clear c49
                   try clear c49b0
                   try clear c50
                   try clear c50b0
                   try clear c51
                   try clear c51b0
                   try clear c52
                   try clear c52b0
                   try clear c53
                   try clear c53b0
                   try clear p54
                   try clear q54
                   try clear hx54
                   try clear hf54
                   try clear hx36_0
                   try clear hx405_0
                   try clear hx406_0
                   try clear hx407_0
                   try clear hx408_0
                   try clear hx409_0
                   try clear hx54_0
                   try clear p2
                   try clear p3
                   try clear p36
                   try clear p405
                   try clear p406
                   try clear p407
                   try clear p408
                   try clear p409
                   try clear p54
                   try clear p6
                   try clear q3
                   try clear q36
                   try clear q405
                   try clear q406
                   try clear q407
                   try clear q408
                   try clear q409
                   try clear q54
                   obtain ⟨x15_5, rfl, HA, HK5, HO_7, HO_8, HO_10, HO_12, HB⟩ := hrel
                   cases gk with
                   | zero => exact absurd HA.out (by simp [withelaw3_ReachOrders.l2])
                   | succ k5 =>
                    have H := HA.out
                    clear HA
                    simp only [withelaw3_ReachOrders.l2] at H
                    by_cases c59 : x15_5 < (t388.length : Int)
                    ·rw [if_pos c59] at H
                     have c59b0 : decide (x15_5 < (t388.length : Int)) = true := decide_eq_true c59
                     try (have c59b0h12_4 := c59b0; simp only [hl12_4] at c59b0h12_4)
                     clear c59
                     have H' := Aside0.mk H
                     clear H
                     go_wp2
                     try go_simp
                     go_loopg [16, 17] k5 (fun kq v16 v17 w' => ∃ (x16_6 : Int) (x17_6 : Int), v16 = .int .i64 x16_6 ∧ v17 = .int .i64 x17_6 ∧ Aside0 (withelaw3_ReachOrders.l3 kq t388 t391 t395 x12_4 x15_5 x16_6 x17_6 = some r) ∧ Aside0 (kq ≤ k5) ∧ Aside0 (Kd.R (Kd.int .u64) 23 w' w.heap.size (fun _ => True) (.slice Ao14 t388.length co14) t388) ∧ Aside0 (Kd.R (Kd.int .i64) 3 w' w.heap.size (fun k_ => some k_ ≠ (v397 : Value).ownBlock ∧ some k_ ≠ ((.slice Ao41 x12_4.length co41) : Value).ownBlock) (.slice Ao58 t391.length co58) t391) ∧ Aside0 (Kd.R (Kd.int .i64) 3 w' w.heap.size (fun k_ => some k_ ≠ ((.slice Ao58 t391.length co58) : Value).ownBlock ∧ some k_ ≠ ((.slice Ao41 x12_4.length co41) : Value).ownBlock) v397 t395) ∧ Aside0 (Kd.R (Kd.int .i64) 3 w' w.heap.size (fun k_ => some k_ ≠ ((.slice Ao58 t391.length co58) : Value).ownBlock ∧ some k_ ≠ (v397 : Value).ownBlock) (.slice Ao41 x12_4.length co41) x12_4) ∧ Aside0 (Below w.heap.size w w'))
                     case atStart => exact ⟨(0), (0), (by first | rfl | (simp; done) | (simp [*]; done)), (by first | rfl | (simp; done) | (simp [*]; done)), H', ⟨Nat.le_refl _⟩, ⟨by (try simp only [hl12_4]); (with_reducible repeat (first | apply Kd.R_alloc | apply Kd.R_drewN | apply Kd.R_drew)); exact HO_7.out⟩, ⟨by (try simp only [hl12_4]); (with_reducible repeat (first | apply Kd.R_alloc | apply Kd.R_drewN | apply Kd.R_drew)); exact HO_8.out⟩, ⟨by (try simp only [hl12_4]); (with_reducible repeat (first | apply Kd.R_alloc | apply Kd.R_drewN | apply Kd.R_drew)); exact HO_10.out⟩, ⟨by (try simp only [hl12_4]); (with_reducible repeat (first | apply Kd.R_alloc | apply Kd.R_drewN | apply Kd.R_drew)); exact HO_12.out⟩, ⟨by repeat (first | (with_reducible first | exact HB.out | apply below_alloc | apply pw_below_drewN | apply below_drew1) | exact HB.out)⟩⟩
                     case round =>
                      as_aux_lemma =>
                      clear H'
                      try clear c1
                      try clear c2
                      try clear p2
                      try clear c3
                      try clear p3
                      try clear q3
                      try clear hx3
                      try clear hf3
                      try clear c4
                      try clear p4
                      try clear q4
                      try clear hx4
                      try clear c5
                      try clear p5
                      try clear q5
                      try clear hx5
                      try clear hf5
                      try clear c6
                      try clear c6b0
                      try clear c6b1
                      try clear p6
                      try clear c8
                      try clear c9
                      try clear c12
                      try clear c14
                      try clear c17
                      try clear c18
                      try clear c18b0
                      try clear c18b1
                      try clear c18b2
                      try clear c20
                      try clear c20b0
                      try clear c20b1
                      try clear c20b2
                      try clear c22
                      try clear c24
                      try clear c28
                      try clear c29
                      try clear c30
                      try clear c30b0
                      try clear c30b1
                      try clear c31
                      try clear c31b0
                      try clear c31b1
                      try clear c34
                      try clear c34b0
                      try clear c35
                      try clear c35b0
                      try clear p36
                      try clear q36
                      try clear hx36
                      try clear hf36
                      try clear p40
                      try clear q40
                      try clear hx40
                      try clear c42
                      try clear c42b0
                      try clear c42b1
                      try clear c42b2
                      try clear c46
                      try clear c47
                      try clear c47b0
                      try clear c48
                      try clear c48b0
                      try clear c49
                      try clear c49b0
                      try clear c50
                      try clear c50b0
                      try clear c51
                      try clear c51b0
                      try clear c52
                      try clear c52b0
                      try clear c53
                      try clear c53b0
                      try clear p54
                      try clear q54
                      try clear hx54
                      try clear hf54
                      try clear c59
                      try clear c59b0
                      try clear hx36_0
                      try clear hx405_0
                      try clear hx406_0
                      try clear hx407_0
                      try clear hx408_0
                      try clear hx409_0
                      try clear hx54_0
                      try clear p2
                      try clear p3
                      try clear p36
                      try clear p4
                      try clear p40
                      try clear p405
                      try clear p406
                      try clear p407
                      try clear p408
                      try clear p409
                      try clear p5
                      try clear p54
                      try clear p6
                      try clear q3
                      try clear q36
                      try clear q4
                      try clear q40
                      try clear q405
                      try clear q406
                      try clear q407
                      try clear q408
                      try clear q409
                      try clear q5
                      try clear q54
                      obtain ⟨x16_6, x17_6, rfl, rfl, HA, HK6, HO_7, HO_8, HO_10, HO_12, HB⟩ := hrel
                      cases gk with
                      | zero => exact absurd HA.out (by simp [withelaw3_ReachOrders.l3])
                      | succ k6 =>
                       have H := HA.out
                       clear HA
                       simp only [withelaw3_ReachOrders.l3] at H
                       by_cases c60 : x17_6 < (t388.length : Int)
                       ·rw [if_pos c60] at H
                        have c60b0 : decide (x17_6 < (t388.length : Int)) = true := decide_eq_true c60
                        try (have c60b0h12_4 := c60b0; simp only [hl12_4] at c60b0h12_4)
                        clear c60
                        have HC61 := Aside0.mk H
                        clear H
                        go_upto_region 32 with (fail)
                        go_cut [168] (fun v168 wc => ∃ (kq : Nat) (x168_60 : Bool), v168 = .bool x168_60 ∧ Aside0 (withelaw3_ReachOrders.j6 kq t388 t391 t395 x12_4 x15_5 x16_6 x17_6 x168_60 = some r) ∧ Aside0 (kq ≤ k6) ∧ Aside0 (Kd.R (Kd.int .u64) 23 wc w.heap.size (fun _ => True) (.slice Ao14 t388.length co14) t388) ∧ Aside0 (Kd.R (Kd.int .i64) 3 wc w.heap.size (fun k_ => some k_ ≠ (v397 : Value).ownBlock ∧ some k_ ≠ ((.slice Ao41 x12_4.length co41) : Value).ownBlock) (.slice Ao58 t391.length co58) t391) ∧ Aside0 (Kd.R (Kd.int .i64) 3 wc w.heap.size (fun k_ => some k_ ≠ ((.slice Ao58 t391.length co58) : Value).ownBlock ∧ some k_ ≠ ((.slice Ao41 x12_4.length co41) : Value).ownBlock) v397 t395) ∧ Aside0 (Kd.R (Kd.int .i64) 3 wc w.heap.size (fun k_ => some k_ ≠ ((.slice Ao58 t391.length co58) : Value).ownBlock ∧ some k_ ≠ (v397 : Value).ownBlock) (.slice Ao41 x12_4.length co41) x12_4) ∧ Aside0 (Below w.heap.size w wc))
                        case first =>
                         as_aux_lemma =>
                         have H := HC61.out
                         clear HC61
                         replace H := Option.bind_eq_some_iff.mp H
                         obtain ⟨t414, A620, H⟩ := H
                         replace H : (if t414 = true then (if 0 ≤ x15_5 then (if x15_5 < (x12_4.length : Int) then (if 0 ≤ x17_6 then (if x17_6 < (x12_4.length : Int) then (if (rd x12_4 x15_5) ≥ (rd x12_4 x17_6) then (withelaw3_ReachOrders.j6 k6 t388 t391 t395 x12_4 x15_5 x16_6 x17_6 true) else (if x17_6 < (t395.length : Int) then (if x15_5 < (t395.length : Int) then (withelaw3_ReachOrders.j6 k6 t388 t391 t395 x12_4 x15_5 x16_6 x17_6 (decide ((rd t395 x17_6) < (wrap64 ((rd t395 x15_5) + 1))))) else (none)) else (none))) else (none)) else (none)) else (none)) else (none)) else (withelaw3_ReachOrders.j6 k6 t388 t391 t395 x12_4 x15_5 x16_6 x17_6 false)) = some r := H
                         have A62 := Aside0.mk A620
                         clear A620
                         by_cases c63 : t414 = true
                         ·subst c63
                          have H1 : (if 0 ≤ x15_5 then (if x15_5 < (x12_4.length : Int) then (if 0 ≤ x17_6 then (if x17_6 < (x12_4.length : Int) then (if (rd x12_4 x15_5) ≥ (rd x12_4 x17_6) then (withelaw3_ReachOrders.j6 k6 t388 t391 t395 x12_4 x15_5 x16_6 x17_6 true) else (if x17_6 < (t395.length : Int) then (if x15_5 < (t395.length : Int) then (withelaw3_ReachOrders.j6 k6 t388 t391 t395 x12_4 x15_5 x16_6 x17_6 (decide ((rd t395 x17_6) < (wrap64 ((rd t395 x15_5) + 1))))) else (none)) else (none))) else (none)) else (none)) else (none)) else (none)) = some r := by rw [if_pos rfl] at H; exact H
                          clear H
                          have H := H1
                          clear H1
                          by_cases c64 : 0 ≤ x15_5
                          ·rw [if_pos c64] at H
                           have c64b0 : decide (0 ≤ x15_5) = true := decide_eq_true c64
                           clear c64
                           (first | rw [c64b0] | (simp only [i64_w, i32_w]; rw [c64b0]) | skip)
                           by_cases c65 : x15_5 < (x12_4.length : Int)
                           ·rw [if_pos c65] at H
                            have c65b0 : decide (x15_5 < (x12_4.length : Int)) = true := decide_eq_true c65
                            try (have c65b0h12_4 := c65b0; simp only [hl12_4] at c65b0h12_4)
                            clear c65
                            by_cases c66 : 0 ≤ x17_6
                            ·rw [if_pos c66] at H
                             have c66b0 : decide (0 ≤ x17_6) = true := decide_eq_true c66
                             clear c66
                             by_cases c67 : x17_6 < (x12_4.length : Int)
                             ·rw [if_pos c67] at H
                              have c67b0 : decide (x17_6 < (x12_4.length : Int)) = true := decide_eq_true c67
                              try (have c67b0h12_4 := c67b0; simp only [hl12_4] at c67b0h12_4)
                              clear c67
                              by_cases c68 : (rd x12_4 x15_5) ≥ (rd x12_4 x17_6)
                              ·rw [if_pos c68] at H
                               have c68b0 : decide ((rd x12_4 x17_6) ≤ (rd x12_4 x15_5)) = true := decide_eq_true c68
                               clear c68
                               have H' := Aside0.mk H
                               clear H
                               try go_wp2
                               have n0_ := Aside0.mk (Kd.R_drew HO_7.out)
                               have n1_ := Aside0.mk (Kd.R_drew HO_8.out)
                               have n2_ := Aside0.mk (Kd.R_drew HO_10.out)
                               have n3_ := Aside0.mk (Kd.R_drew HO_12.out)
                               have n4_ := Aside0.mk (below_drew1 HB.out)
                               clear HO_7
                               clear HO_8
                               clear HO_10
                               clear HO_12
                               clear HB
                               have HO_7 := n0_
                               have HO_8 := n1_
                               have HO_10 := n2_
                               have HO_12 := n3_
                               have HB := n4_
                               clear n0_ n1_ n2_ n3_ n4_
                               have p415 : 0 ≤ (x15_5 : Int) := of_decide_eq_true (by first | (with_reducible assumption) | assumption)
                               have q415 : x15_5 < (x12_4.length : Int) := of_decide_eq_true (by first | (with_reducible assumption) | assumption)
                               obtain ⟨ad415, e415, hx415_0⟩ := Kd.at_int (Kd.R_reads' HO_12.out).2.2 x15_5 p415 q415
                               cases e415
                               replace p415 := eq_true p415
                               replace q415 := eq_true q415
                               have p416 : 0 ≤ (x17_6 : Int) := of_decide_eq_true (by first | (with_reducible assumption) | assumption)
                               have q416 : x17_6 < (x12_4.length : Int) := of_decide_eq_true (by first | (with_reducible assumption) | assumption)
                               obtain ⟨ad416, e416, hx416_0⟩ := Kd.at_int (Kd.R_reads' HO_12.out).2.2 x17_6 p416 q416
                               obtain rfl : ad415 = ad416 := (by injection e416)
                               replace p416 := eq_true p416
                               replace q416 := eq_true q416
                               refine start_ (n := 27) (S := fun w' => w'.cell? (ad415.add (x15_5).toNat) = some (.int .i64 (rd x12_4 x15_5)) ∧ w'.cell? (ad415.add (x17_6).toNat) = some (.int .i64 (rd x12_4 x17_6))) (ds := []) #[false, false, false, false, false, false, false, false, false, false, false, false, false, false, false, false, false, false, false, false, false, false, false, false, false, false, false] (by kernel_rfl) rfl rfl ⟨hx415_0, hx416_0⟩ (fun hHeld => ?_); refine with_tabW withelaw3_ReachOrders.tab32 withelaw3_ReachOrders.bits32 (fun HT_ HW_ => ?_)
                               generalize wr.drew = w69 at HO_7 HO_8 HO_10 HO_12 HB hx415_0 hx416_0 hHeld ⊢
                               refine pure_ (i := 0) (N := some 142) (v := ?_) (a' := ?_) #[true, false, false, false, false, false, false, false, false, false, false, false, false, false, false, false, false, false, false, false, false, false, false, false, false, false, false] rfl rfl (any_of HT_.out (by kernel_rfl)) (fun _ _ _ h => h) (Or.inl ⟨by rfl, ?_⟩) ?_ ?_
                               rotate_left
                               ·intro w'
                                go_simp
                                with_reducible rfl
                               rotate_left
                               ·simp only [Act.put, List.setIfInBounds_toArray, List.set_cons_zero, List.set_cons_succ, i64_w, i32_w]
                                rfl
                               refine pure_ (i := 1) (N := some 143) (v := ?_) (a' := ?_) #[true, true, false, false, false, false, false, false, false, false, false, false, false, false, false, false, false, false, false, false, false, false, false, false, false, false, false] rfl rfl (any_of HT_.out (by kernel_rfl)) (fun _ _ _ h => h) (Or.inl ⟨by rfl, ?_⟩) ?_ ?_
                               rotate_left
                               ·intro w'
                                go_simp
                                with_reducible rfl
                               rotate_left
                               ·simp only [Act.put, List.setIfInBounds_toArray, List.set_cons_zero, List.set_cons_succ, i64_w, i32_w]
                                rfl
                               refine pure_ (i := 2) (N := some 144) (v := ?_) (a' := ?_) #[true, true, true, false, false, false, false, false, false, false, false, false, false, false, false, false, false, false, false, false, false, false, false, false, false, false, false] rfl rfl (any_of HT_.out (by kernel_rfl)) (fun _ _ _ h => h) (Or.inl ⟨by rfl, ?_⟩) ?_ ?_
                               rotate_left
                               ·intro w'
                                go_simp
                                with_reducible rfl
                               rotate_left
                               ·simp only [Act.put, List.setIfInBounds_toArray, List.set_cons_zero, List.set_cons_succ, i64_w, i32_w]
                                rfl
                               refine one_ (i := 3) (N := some 145) #[true, true, true, true, false, false, false, false, false, false, false, false, false, false, false, false, false, false, false, false, false, false, false, false, false, false, false] rfl rfl (one_of HT_.out (by kernel_rfl)) (by decide) (fun K hK => ?_)
                               refine goes_ Tryd.func29 (by kernel_rfl) rfl #[.slice Ao14 t388.length co14, .int .i64 x15_5, .int .i64 x17_6] (by rfl) rfl rfl (by (try simp only [List.map_toArray, List.map_cons, List.map_nil]); first | done | rfl | (simp only [List.length_drop, List.length_take]; rfl)) ?_
                               with_reducible refine (rel_Has.calls k6 _ _ t388 x15_5 x17_6 true _ ?side1 ?side2 A62.out).mono ?_
                               (case side1 => repeat (first | exact (Kd.R_reads' HO_7.out).2.2 | (with_reducible refine Kd.C_alloc ?_ _) | (with_reducible refine Kd.C_drewN ?_ _) | (with_reducible refine Kd.C_drew ?_)))
                               (case side2 => exact (Kd.R_reads' HO_7.out).2.1)
                               rintro e w70 ⟨rfl, hb⟩
                               have HS0_ := (hb.cell (World.block_lt_of_cell? _ _ (hHeld.1))).trans (hHeld.1)
                               have HS1_ := (hb.cell (World.block_lt_of_cell? _ _ (hHeld.2))).trans (hHeld.2)
                               refine ⟨_, rfl, ?_⟩
                               have n0_ := Aside0.mk (Kd.R_below (by (with_reducible repeat (first | apply Kd.R_alloc | apply Kd.R_drewN | apply Kd.R_drew)); exact HO_7.out) hb)
                               have n1_ := Aside0.mk (Kd.R_below (by (with_reducible repeat (first | apply Kd.R_alloc | apply Kd.R_drewN | apply Kd.R_drew)); exact HO_8.out) hb)
                               have n2_ := Aside0.mk (Kd.R_below (by (with_reducible repeat (first | apply Kd.R_alloc | apply Kd.R_drewN | apply Kd.R_drew)); exact HO_10.out) hb)
                               have n3_ := Aside0.mk (Kd.R_below (by (with_reducible repeat (first | apply Kd.R_alloc | apply Kd.R_drewN | apply Kd.R_drew)); exact HO_12.out) hb)
                               have n4_ := Aside0.mk (below_step (by repeat (first | (with_reducible first | exact HB.out | apply below_alloc | apply pw_below_drewN | apply below_drew1) | exact HB.out)) hb)
                               clear HO_7
                               clear HO_8
                               clear HO_10
                               clear HO_12
                               clear HB
                               have HO_7 := n0_
                               have HO_8 := n1_
                               have HO_10 := n2_
                               have HO_12 := n3_
                               have HB := n4_
                               clear n0_ n1_ n2_ n3_ n4_
                               (try clear hb)
                               (try clear hb2)
                               (try clear hk)
                               (try clear hi)
                               refine hK.out _ _ ⟨HS0_, HS1_⟩ (fun hHeld => ?_)
                               clear hK K
                               refine norm_ (a' := ?_) ?_ ?_
                               rotate_left
                               ·show Act.put _ (some 145) _ = _
                                simp only [Act.put, List.setIfInBounds_toArray, List.set_cons_zero, List.set_cons_succ, i64_w, i32_w]
                                rfl
                               refine pure_ (i := 4) (N := some 146) (v := ?_) (a' := ?_) #[true, true, true, true, true, false, false, false, false, false, false, false, false, false, false, false, false, false, false, false, false, false, false, false, false, false, false] rfl rfl (any_of HT_.out (by kernel_rfl)) (fun _ _ _ h => h) (Or.inl ⟨by rfl, ?_⟩) ?_ ?_
                               rotate_left
                               ·intro w'
                                go_simp
                                with_reducible rfl
                               rotate_left
                               ·simp only [Act.put, List.setIfInBounds_toArray, List.set_cons_zero, List.set_cons_succ, i64_w, i32_w]
                                rfl
                               refine pure_ (i := 5) (N := some 147) (v := ?_) (a' := ?_) #[true, true, true, true, true, true, false, false, false, false, false, false, false, false, false, false, false, false, false, false, false, false, false, false, false, false, false] rfl rfl (any_of HT_.out (by kernel_rfl)) (fun _ _ _ h => h) (Or.inl ⟨by rfl, ?_⟩) ?_ ?_
                               rotate_left
                               ·intro w'
                                go_simp
                                with_reducible rfl
                               rotate_left
                               ·simp only [Act.put, List.setIfInBounds_toArray, List.set_cons_zero, List.set_cons_succ, i64_w, i32_w]
                                rfl
                               refine pure_ (i := 6) (N := some 148) (v := ?_) (a' := ?_) #[true, true, true, true, true, true, true, false, false, false, false, false, false, false, false, false, false, false, false, false, false, false, false, false, false, false, false] rfl rfl (any_of HT_.out (by kernel_rfl)) (fun _ _ _ h => h) (Or.inl ⟨by rfl, ?_⟩) ?_ ?_
                               rotate_left
                               ·intro w'
                                go_simp
                                with_reducible rfl
                               rotate_left
                               ·simp only [Act.put, List.setIfInBounds_toArray, List.set_cons_zero, List.set_cons_succ, i64_w, i32_w]
                                rfl
                               refine pure_ (i := 7) (N := some 149) (v := ?_) (a' := ?_) #[true, true, true, true, true, true, true, true, false, false, false, false, false, false, false, false, false, false, false, false, false, false, false, false, false, false, false] rfl rfl (any_of HT_.out (by kernel_rfl)) (fun _ _ _ h => h) (Or.inl ⟨by rfl, ?_⟩) ?_ ?_
                               rotate_left
                               ·intro w'
                                go_simp
                                with_reducible rfl
                               rotate_left
                               ·simp only [Act.put, List.setIfInBounds_toArray, List.set_cons_zero, List.set_cons_succ, i64_w, i32_w]
                                rfl
                               refine pure_ (i := 9) (N := some 151) (v := ?_) (a' := ?_) #[true, true, true, true, true, true, true, true, false, true, false, false, false, false, false, false, false, false, false, false, false, false, false, false, false, false, false] rfl rfl (any_of HT_.out (by kernel_rfl)) (fun _ _ _ h => h) (Or.inl ⟨by rfl, ?_⟩) ?_ ?_
                               rotate_left
                               ·intro w'
                                go_simp
                                with_reducible rfl
                               rotate_left
                               ·simp only [Act.put, List.setIfInBounds_toArray, List.set_cons_zero, List.set_cons_succ, i64_w, i32_w]
                                rfl
                               refine pure_ (i := 10) (N := some 152) (v := ?_) (a' := ?_) #[true, true, true, true, true, true, true, true, false, true, true, false, false, false, false, false, false, false, false, false, false, false, false, false, false, false, false] rfl rfl (any_of HT_.out (by kernel_rfl)) (fun _ _ _ h => h) (Or.inl ⟨by rfl, ?_⟩) ?_ ?_
                               rotate_left
                               ·intro w'
                                go_simp
                                with_reducible rfl
                               rotate_left
                               ·simp only [Act.put, List.setIfInBounds_toArray, List.set_cons_zero, List.set_cons_succ, i64_w, i32_w]
                                rfl
                               refine pure_ (i := 11) (N := some 153) (v := ?_) (a' := ?_) #[true, true, true, true, true, true, true, true, false, true, true, true, false, false, false, false, false, false, false, false, false, false, false, false, false, false, false] rfl rfl (any_of HT_.out (by kernel_rfl)) (fun _ _ _ h => h) (Or.inl ⟨by rfl, ?_⟩) ?_ ?_
                               rotate_left
                               ·intro w'
                                go_simp
                                with_reducible rfl
                               rotate_left
                               ·simp only [Act.put, List.setIfInBounds_toArray, List.set_cons_zero, List.set_cons_succ, i64_w, i32_w]
                                rfl
                               refine take_ (i := 8) (N := some 150) (v := ?_) (a' := ?_) #[true, true, true, true, true, true, true, true, true, true, true, true, false, false, false, false, false, false, false, false, false, false, false, false, false, false, false] rfl rfl (take_ofW HT_.out HW_.out (by kernel_rfl)) (fun _ _ _ h => h) (Or.inl ⟨by rfl, ?_⟩) hHeld ?_ ?_
                               rotate_left
                               ·rintro w' ⟨s0, s1⟩
                                go_simp
                                with_reducible rfl
                               rotate_left
                               ·simp only [Act.put, List.setIfInBounds_toArray, List.set_cons_zero, List.set_cons_succ, i64_w, i32_w]
                                rfl
                               refine take_ (i := 12) (N := some 154) (v := ?_) (a' := ?_) #[true, true, true, true, true, true, true, true, true, true, true, true, true, false, false, false, false, false, false, false, false, false, false, false, false, false, false] rfl rfl (take_ofW HT_.out HW_.out (by kernel_rfl)) (fun _ _ _ h => h) (Or.inl ⟨by rfl, ?_⟩) hHeld ?_ ?_
                               rotate_left
                               ·rintro w' ⟨s0, s1⟩
                                go_simp
                                with_reducible rfl
                               rotate_left
                               ·simp only [Act.put, List.setIfInBounds_toArray, List.set_cons_zero, List.set_cons_succ, i64_w, i32_w]
                                rfl
                               refine pure_ (i := 13) (N := some 155) (v := ?_) (a' := ?_) #[true, true, true, true, true, true, true, true, true, true, true, true, true, true, false, false, false, false, false, false, false, false, false, false, false, false, false] rfl rfl (any_of HT_.out (by kernel_rfl)) (fun _ _ _ h => h) (Or.inl ⟨by rfl, ?_⟩) ?_ ?_
                               rotate_left
                               ·intro w'
                                go_simp
                                with_reducible rfl
                               rotate_left
                               ·simp only [Act.put, List.setIfInBounds_toArray, List.set_cons_zero, List.set_cons_succ, i64_w, i32_w]
                                rfl
                               refine pure_ (i := 14) (N := some 156) (v := ?_) (a' := ?_) #[true, true, true, true, true, true, true, true, true, true, true, true, true, true, true, false, false, false, false, false, false, false, false, false, false, false, false] rfl rfl (any_of HT_.out (by kernel_rfl)) (fun _ _ _ h => h) (Or.inl ⟨by rfl, ?_⟩) ?_ ?_
                               rotate_left
                               ·intro w'
                                go_simp
                                with_reducible rfl
                               rotate_left
                               ·simp only [Act.put, List.setIfInBounds_toArray, List.set_cons_zero, List.set_cons_succ, i64_w, i32_w]
                                rfl
                               refine pure_ (i := 15) (N := some 157) (v := undef) (a' := ?_) #[true, true, true, true, true, true, true, true, true, true, true, true, true, true, true, true, false, false, false, false, false, false, false, false, false, false, false] rfl rfl (any_of HT_.out (by kernel_rfl)) (fun _ _ _ h => h) (Or.inr ⟨by rfl, rfl⟩) ?_ ?_
                               rotate_left
                               ·simp only [Act.put, List.setIfInBounds_toArray, List.set_cons_zero, List.set_cons_succ, i64_w, i32_w]
                                rfl
                               refine pure_ (i := 16) (N := some 158) (v := undef) (a' := ?_) #[true, true, true, true, true, true, true, true, true, true, true, true, true, true, true, true, true, false, false, false, false, false, false, false, false, false, false] rfl rfl (any_of HT_.out (by kernel_rfl)) (fun _ _ _ h => h) (Or.inr ⟨by rfl, rfl⟩) ?_ ?_
                               rotate_left
                               ·simp only [Act.put, List.setIfInBounds_toArray, List.set_cons_zero, List.set_cons_succ, i64_w, i32_w]
                                rfl
                               refine pure_ (i := 17) (N := some 159) (v := undef) (a' := ?_) #[true, true, true, true, true, true, true, true, true, true, true, true, true, true, true, true, true, true, false, false, false, false, false, false, false, false, false] rfl rfl (any_of HT_.out (by kernel_rfl)) (fun _ _ _ h => h) (Or.inr ⟨by rfl, rfl⟩) ?_ ?_
                               rotate_left
                               ·simp only [Act.put, List.setIfInBounds_toArray, List.set_cons_zero, List.set_cons_succ, i64_w, i32_w]
                                rfl
                               refine pure_ (i := 18) (N := some 160) (v := undef) (a' := ?_) #[true, true, true, true, true, true, true, true, true, true, true, true, true, true, true, true, true, true, true, false, false, false, false, false, false, false, false] rfl rfl (any_of HT_.out (by kernel_rfl)) (fun _ _ _ h => h) (Or.inr ⟨by rfl, rfl⟩) ?_ ?_
                               rotate_left
                               ·simp only [Act.put, List.setIfInBounds_toArray, List.set_cons_zero, List.set_cons_succ, i64_w, i32_w]
                                rfl
                               refine pure_ (i := 19) (N := some 161) (v := undef) (a' := ?_) #[true, true, true, true, true, true, true, true, true, true, true, true, true, true, true, true, true, true, true, true, false, false, false, false, false, false, false] rfl rfl (any_of HT_.out (by kernel_rfl)) (fun _ _ _ h => h) (Or.inr ⟨by rfl, rfl⟩) ?_ ?_
                               rotate_left
                               ·simp only [Act.put, List.setIfInBounds_toArray, List.set_cons_zero, List.set_cons_succ, i64_w, i32_w]
                                rfl
                               refine pure_ (i := 20) (N := some 162) (v := undef) (a' := ?_) #[true, true, true, true, true, true, true, true, true, true, true, true, true, true, true, true, true, true, true, true, true, false, false, false, false, false, false] rfl rfl (any_of HT_.out (by kernel_rfl)) (fun _ _ _ h => h) (Or.inr ⟨by rfl, rfl⟩) ?_ ?_
                               rotate_left
                               ·simp only [Act.put, List.setIfInBounds_toArray, List.set_cons_zero, List.set_cons_succ, i64_w, i32_w]
                                rfl
                               refine pure_ (i := 21) (N := some 163) (v := undef) (a' := ?_) #[true, true, true, true, true, true, true, true, true, true, true, true, true, true, true, true, true, true, true, true, true, true, false, false, false, false, false] rfl rfl (any_of HT_.out (by kernel_rfl)) (fun _ _ _ h => h) (Or.inr ⟨by rfl, rfl⟩) ?_ ?_
                               rotate_left
                               ·simp only [Act.put, List.setIfInBounds_toArray, List.set_cons_zero, List.set_cons_succ, i64_w, i32_w]
                                rfl
                               refine pure_ (i := 22) (N := some 164) (v := undef) (a' := ?_) #[true, true, true, true, true, true, true, true, true, true, true, true, true, true, true, true, true, true, true, true, true, true, true, false, false, false, false] rfl rfl (any_of HT_.out (by kernel_rfl)) (fun _ _ _ h => h) (Or.inr ⟨by rfl, rfl⟩) ?_ ?_
                               rotate_left
                               ·simp only [Act.put, List.setIfInBounds_toArray, List.set_cons_zero, List.set_cons_succ, i64_w, i32_w]
                                rfl
                               refine pure_ (i := 23) (N := some 165) (v := undef) (a' := ?_) #[true, true, true, true, true, true, true, true, true, true, true, true, true, true, true, true, true, true, true, true, true, true, true, true, false, false, false] rfl rfl (any_of HT_.out (by kernel_rfl)) (fun _ _ _ h => h) (Or.inr ⟨by rfl, rfl⟩) ?_ ?_
                               rotate_left
                               ·simp only [Act.put, List.setIfInBounds_toArray, List.set_cons_zero, List.set_cons_succ, i64_w, i32_w]
                                rfl
                               refine pure_ (i := 24) (N := some 166) (v := undef) (a' := ?_) #[true, true, true, true, true, true, true, true, true, true, true, true, true, true, true, true, true, true, true, true, true, true, true, true, true, false, false] rfl rfl (any_of HT_.out (by kernel_rfl)) (fun _ _ _ h => h) (Or.inr ⟨by rfl, rfl⟩) ?_ ?_
                               rotate_left
                               ·simp only [Act.put, List.setIfInBounds_toArray, List.set_cons_zero, List.set_cons_succ, i64_w, i32_w]
                                rfl
                               refine pure_ (i := 25) (N := some 167) (v := ?_) (a' := ?_) #[true, true, true, true, true, true, true, true, true, true, true, true, true, true, true, true, true, true, true, true, true, true, true, true, true, true, false] rfl rfl (any_of HT_.out (by kernel_rfl)) (fun _ _ _ h => h) (Or.inl ⟨by rfl, ?_⟩) ?_ ?_
                               rotate_left
                               ·intro w'
                                go_simp
                                with_reducible rfl
                               rotate_left
                               ·simp only [Act.put, List.setIfInBounds_toArray, List.set_cons_zero, List.set_cons_succ, i64_w, i32_w]
                                rfl
                               refine pure_ (i := 26) (N := some 168) (v := ?_) (a' := ?_) #[true, true, true, true, true, true, true, true, true, true, true, true, true, true, true, true, true, true, true, true, true, true, true, true, true, true, true] rfl rfl (any_of HT_.out (by kernel_rfl)) (fun _ _ _ h => h) (Or.inl ⟨by rfl, ?_⟩) ?_ ?_
                               rotate_left
                               ·intro w'
                                go_simp
                                with_reducible rfl
                               rotate_left
                               ·simp only [Act.put, List.setIfInBounds_toArray, List.set_cons_zero, List.set_cons_succ, i64_w, i32_w]
                                rfl
                               refine done_ (done_of HT_.out (by kernel_rfl)) ?_
                               try go_wp2
                               go_meet
                               case rel => exact ⟨_, (true), (by first | rfl | (simp; done) | (simp [*]; done)), H', ⟨by have := HJ10.out; have := HK2.out; have := HJ39.out; have := HK4.out; have := HK5.out; have := HK6.out; first | omega | exact Nat.le_refl _⟩, ⟨by (try simp only [hl12_4]); (with_reducible repeat (first | apply Kd.R_alloc | apply Kd.R_drewN | apply Kd.R_drew)); exact HO_7.out⟩, ⟨by (try simp only [hl12_4]); (with_reducible repeat (first | apply Kd.R_alloc | apply Kd.R_drewN | apply Kd.R_drew)); exact HO_8.out⟩, ⟨by (try simp only [hl12_4]); (with_reducible repeat (first | apply Kd.R_alloc | apply Kd.R_drewN | apply Kd.R_drew)); exact HO_10.out⟩, ⟨by (try simp only [hl12_4]); (with_reducible repeat (first | apply Kd.R_alloc | apply Kd.R_drewN | apply Kd.R_drew)); exact HO_12.out⟩, ⟨by repeat (first | (with_reducible first | exact HB.out | apply below_alloc | apply pw_below_drewN | apply below_drew1) | exact HB.out)⟩⟩
                              ·rw [if_neg c68] at H
                               have c68b0 : decide ((rd x12_4 x17_6) ≤ (rd x12_4 x15_5)) = false := decide_eq_false c68
                               clear c68
                               by_cases c71 : x17_6 < (t395.length : Int)
                               ·rw [if_pos c71] at H
                                have c71b0 : decide (x17_6 < (t395.length : Int)) = true := decide_eq_true c71
                                try (have c71b0h12_4 := c71b0; simp only [hl12_4] at c71b0h12_4)
                                clear c71
                                by_cases c72 : x15_5 < (t395.length : Int)
                                ·rw [if_pos c72] at H
                                 have c72b0 : decide (x15_5 < (t395.length : Int)) = true := decide_eq_true c72
                                 try (have c72b0h12_4 := c72b0; simp only [hl12_4] at c72b0h12_4)
                                 clear c72
                                 have H' := Aside0.mk H
                                 clear H
                                 try go_wp2
                                 have n0_ := Aside0.mk (Kd.R_drew HO_7.out)
                                 have n1_ := Aside0.mk (Kd.R_drew HO_8.out)
                                 have n2_ := Aside0.mk (Kd.R_drew HO_10.out)
                                 have n3_ := Aside0.mk (Kd.R_drew HO_12.out)
                                 have n4_ := Aside0.mk (below_drew1 HB.out)
                                 clear HO_7
                                 clear HO_8
                                 clear HO_10
                                 clear HO_12
                                 clear HB
                                 have HO_7 := n0_
                                 have HO_8 := n1_
                                 have HO_10 := n2_
                                 have HO_12 := n3_
                                 have HB := n4_
                                 clear n0_ n1_ n2_ n3_ n4_
                                 have p415 : 0 ≤ (x15_5 : Int) := of_decide_eq_true (by first | (with_reducible assumption) | assumption)
                                 have q415 : x15_5 < (x12_4.length : Int) := of_decide_eq_true (by first | (with_reducible assumption) | assumption)
                                 obtain ⟨ad415, e415, hx415_0⟩ := Kd.at_int (Kd.R_reads' HO_12.out).2.2 x15_5 p415 q415
                                 cases e415
                                 replace p415 := eq_true p415
                                 replace q415 := eq_true q415
                                 have p416 : 0 ≤ (x17_6 : Int) := of_decide_eq_true (by first | (with_reducible assumption) | assumption)
                                 have q416 : x17_6 < (x12_4.length : Int) := of_decide_eq_true (by first | (with_reducible assumption) | assumption)
                                 obtain ⟨ad416, e416, hx416_0⟩ := Kd.at_int (Kd.R_reads' HO_12.out).2.2 x17_6 p416 q416
                                 obtain rfl : ad415 = ad416 := (by injection e416)
                                 replace p416 := eq_true p416
                                 replace q416 := eq_true q416
                                 have p417 : 0 ≤ (x17_6 : Int) := of_decide_eq_true (by first | (with_reducible assumption) | assumption)
                                 have q417 : x17_6 < (t395.length : Int) := of_decide_eq_true (by first | (with_reducible assumption) | assumption)
                                 obtain ⟨Aoz, coz, eoz⟩ := Kd.R_slice HO_10.out
                                 subst eoz
                                 obtain ⟨ad417, e417, hx417_0⟩ := Kd.at_int (Kd.R_reads' HO_10.out).2.2 x17_6 p417 q417
                                 cases e417
                                 replace p417 := eq_true p417
                                 replace q417 := eq_true q417
                                 have p418 : 0 ≤ (x15_5 : Int) := of_decide_eq_true (by first | (with_reducible assumption) | assumption)
                                 have q418 : x15_5 < (t395.length : Int) := of_decide_eq_true (by first | (with_reducible assumption) | assumption)
                                 obtain ⟨ad418, e418, hx418_0⟩ := Kd.at_int (Kd.R_reads' HO_10.out).2.2 x15_5 p418 q418
                                 obtain rfl : ad417 = ad418 := (by injection e418)
                                 replace p418 := eq_true p418
                                 replace q418 := eq_true q418
                                 refine start_ (n := 27) (S := fun w' => w'.cell? (ad415.add (x15_5).toNat) = some (.int .i64 (rd x12_4 x15_5)) ∧ w'.cell? (ad415.add (x17_6).toNat) = some (.int .i64 (rd x12_4 x17_6)) ∧ w'.cell? (ad417.add (x17_6).toNat) = some (.int .i64 (rd t395 x17_6)) ∧ w'.cell? (ad417.add (x15_5).toNat) = some (.int .i64 (rd t395 x15_5))) (ds := []) #[false, false, false, false, false, false, false, false, false, false, false, false, false, false, false, false, false, false, false, false, false, false, false, false, false, false, false] (by kernel_rfl) rfl rfl ⟨hx415_0, hx416_0, hx417_0, hx418_0⟩ (fun hHeld => ?_); refine with_tabW withelaw3_ReachOrders.tab32 withelaw3_ReachOrders.bits32 (fun HT_ HW_ => ?_)
                                 generalize wr.drew = w73 at HO_7 HO_8 HO_10 HO_12 HB hx415_0 hx416_0 hx417_0 hx418_0 hHeld ⊢
                                 refine pure_ (i := 0) (N := some 142) (v := ?_) (a' := ?_) #[true, false, false, false, false, false, false, false, false, false, false, false, false, false, false, false, false, false, false, false, false, false, false, false, false, false, false] rfl rfl (any_of HT_.out (by kernel_rfl)) (fun _ _ _ h => h) (Or.inl ⟨by rfl, ?_⟩) ?_ ?_
                                 rotate_left
                                 ·intro w'
                                  go_simp
                                  with_reducible rfl
                                 rotate_left
                                 ·simp only [Act.put, List.setIfInBounds_toArray, List.set_cons_zero, List.set_cons_succ, i64_w, i32_w]
                                  rfl
                                 refine pure_ (i := 1) (N := some 143) (v := ?_) (a' := ?_) #[true, true, false, false, false, false, false, false, false, false, false, false, false, false, false, false, false, false, false, false, false, false, false, false, false, false, false] rfl rfl (any_of HT_.out (by kernel_rfl)) (fun _ _ _ h => h) (Or.inl ⟨by rfl, ?_⟩) ?_ ?_
                                 rotate_left
                                 ·intro w'
                                  go_simp
                                  with_reducible rfl
                                 rotate_left
                                 ·simp only [Act.put, List.setIfInBounds_toArray, List.set_cons_zero, List.set_cons_succ, i64_w, i32_w]
                                  rfl
                                 refine pure_ (i := 2) (N := some 144) (v := ?_) (a' := ?_) #[true, true, true, false, false, false, false, false, false, false, false, false, false, false, false, false, false, false, false, false, false, false, false, false, false, false, false] rfl rfl (any_of HT_.out (by kernel_rfl)) (fun _ _ _ h => h) (Or.inl ⟨by rfl, ?_⟩) ?_ ?_
                                 rotate_left
                                 ·intro w'
                                  go_simp
                                  with_reducible rfl
                                 rotate_left
                                 ·simp only [Act.put, List.setIfInBounds_toArray, List.set_cons_zero, List.set_cons_succ, i64_w, i32_w]
                                  rfl
                                 refine one_ (i := 3) (N := some 145) #[true, true, true, true, false, false, false, false, false, false, false, false, false, false, false, false, false, false, false, false, false, false, false, false, false, false, false] rfl rfl (one_of HT_.out (by kernel_rfl)) (by decide) (fun K hK => ?_)
                                 refine goes_ Tryd.func29 (by kernel_rfl) rfl #[.slice Ao14 t388.length co14, .int .i64 x15_5, .int .i64 x17_6] (by rfl) rfl rfl (by (try simp only [List.map_toArray, List.map_cons, List.map_nil]); first | done | rfl | (simp only [List.length_drop, List.length_take]; rfl)) ?_
                                 with_reducible refine (rel_Has.calls k6 _ _ t388 x15_5 x17_6 true _ ?side1 ?side2 A62.out).mono ?_
                                 (case side1 => repeat (first | exact (Kd.R_reads' HO_7.out).2.2 | (with_reducible refine Kd.C_alloc ?_ _) | (with_reducible refine Kd.C_drewN ?_ _) | (with_reducible refine Kd.C_drew ?_)))
                                 (case side2 => exact (Kd.R_reads' HO_7.out).2.1)
                                 rintro e w74 ⟨rfl, hb⟩
                                 have HS0_ := (hb.cell (World.block_lt_of_cell? _ _ (hHeld.1))).trans (hHeld.1)
                                 have HS1_ := (hb.cell (World.block_lt_of_cell? _ _ (hHeld.2.1))).trans (hHeld.2.1)
                                 have HS2_ := (hb.cell (World.block_lt_of_cell? _ _ (hHeld.2.2.1))).trans (hHeld.2.2.1)
                                 have HS3_ := (hb.cell (World.block_lt_of_cell? _ _ (hHeld.2.2.2))).trans (hHeld.2.2.2)
                                 refine ⟨_, rfl, ?_⟩
                                 have n0_ := Aside0.mk (Kd.R_below (by (with_reducible repeat (first | apply Kd.R_alloc | apply Kd.R_drewN | apply Kd.R_drew)); exact HO_7.out) hb)
                                 have n1_ := Aside0.mk (Kd.R_below (by (with_reducible repeat (first | apply Kd.R_alloc | apply Kd.R_drewN | apply Kd.R_drew)); exact HO_8.out) hb)
                                 have n2_ := Aside0.mk (Kd.R_below (by (with_reducible repeat (first | apply Kd.R_alloc | apply Kd.R_drewN | apply Kd.R_drew)); exact HO_10.out) hb)
                                 have n3_ := Aside0.mk (Kd.R_below (by (with_reducible repeat (first | apply Kd.R_alloc | apply Kd.R_drewN | apply Kd.R_drew)); exact HO_12.out) hb)
                                 have n4_ := Aside0.mk (below_step (by repeat (first | (with_reducible first | exact HB.out | apply below_alloc | apply pw_below_drewN | apply below_drew1) | exact HB.out)) hb)
                                 clear HO_7
                                 clear HO_8
                                 clear HO_10
                                 clear HO_12
                                 clear HB
                                 have HO_7 := n0_
                                 have HO_8 := n1_
                                 have HO_10 := n2_
                                 have HO_12 := n3_
                                 have HB := n4_
                                 clear n0_ n1_ n2_ n3_ n4_
                                 (try clear hb)
                                 (try clear hb2)
                                 (try clear hk)
                                 (try clear hi)
                                 obtain ⟨Ao75, co75, eo75⟩ := Kd.R_slice HO_10.out
                                 (first | subst eo75 | (injection eo75 with f1_ f2_ f3_; have f4_ := f1_.symm; have f5_ := f3_.symm; clear f1_ f2_ f3_; subst f4_; subst f5_))
                                 refine hK.out _ _ ⟨HS0_, HS1_, HS2_, HS3_⟩ (fun hHeld => ?_)
                                 clear hK K
                                 refine norm_ (a' := ?_) ?_ ?_
                                 rotate_left
                                 ·show Act.put _ (some 145) _ = _
                                  simp only [Act.put, List.setIfInBounds_toArray, List.set_cons_zero, List.set_cons_succ, i64_w, i32_w]
                                  rfl
                                 refine pure_ (i := 4) (N := some 146) (v := ?_) (a' := ?_) #[true, true, true, true, true, false, false, false, false, false, false, false, false, false, false, false, false, false, false, false, false, false, false, false, false, false, false] rfl rfl (any_of HT_.out (by kernel_rfl)) (fun _ _ _ h => h) (Or.inl ⟨by rfl, ?_⟩) ?_ ?_
                                 rotate_left
                                 ·intro w'
                                  go_simp
                                  with_reducible rfl
                                 rotate_left
                                 ·simp only [Act.put, List.setIfInBounds_toArray, List.set_cons_zero, List.set_cons_succ, i64_w, i32_w]
                                  rfl
                                 refine pure_ (i := 5) (N := some 147) (v := ?_) (a' := ?_) #[true, true, true, true, true, true, false, false, false, false, false, false, false, false, false, false, false, false, false, false, false, false, false, false, false, false, false] rfl rfl (any_of HT_.out (by kernel_rfl)) (fun _ _ _ h => h) (Or.inl ⟨by rfl, ?_⟩) ?_ ?_
                                 rotate_left
                                 ·intro w'
                                  go_simp
                                  with_reducible rfl
                                 rotate_left
                                 ·simp only [Act.put, List.setIfInBounds_toArray, List.set_cons_zero, List.set_cons_succ, i64_w, i32_w]
                                  rfl
                                 refine pure_ (i := 6) (N := some 148) (v := ?_) (a' := ?_) #[true, true, true, true, true, true, true, false, false, false, false, false, false, false, false, false, false, false, false, false, false, false, false, false, false, false, false] rfl rfl (any_of HT_.out (by kernel_rfl)) (fun _ _ _ h => h) (Or.inl ⟨by rfl, ?_⟩) ?_ ?_
                                 rotate_left
                                 ·intro w'
                                  go_simp
                                  with_reducible rfl
                                 rotate_left
                                 ·simp only [Act.put, List.setIfInBounds_toArray, List.set_cons_zero, List.set_cons_succ, i64_w, i32_w]
                                  rfl
                                 refine pure_ (i := 7) (N := some 149) (v := ?_) (a' := ?_) #[true, true, true, true, true, true, true, true, false, false, false, false, false, false, false, false, false, false, false, false, false, false, false, false, false, false, false] rfl rfl (any_of HT_.out (by kernel_rfl)) (fun _ _ _ h => h) (Or.inl ⟨by rfl, ?_⟩) ?_ ?_
                                 rotate_left
                                 ·intro w'
                                  go_simp
                                  with_reducible rfl
                                 rotate_left
                                 ·simp only [Act.put, List.setIfInBounds_toArray, List.set_cons_zero, List.set_cons_succ, i64_w, i32_w]
                                  rfl
                                 refine pure_ (i := 9) (N := some 151) (v := ?_) (a' := ?_) #[true, true, true, true, true, true, true, true, false, true, false, false, false, false, false, false, false, false, false, false, false, false, false, false, false, false, false] rfl rfl (any_of HT_.out (by kernel_rfl)) (fun _ _ _ h => h) (Or.inl ⟨by rfl, ?_⟩) ?_ ?_
                                 rotate_left
                                 ·intro w'
                                  go_simp
                                  with_reducible rfl
                                 rotate_left
                                 ·simp only [Act.put, List.setIfInBounds_toArray, List.set_cons_zero, List.set_cons_succ, i64_w, i32_w]
                                  rfl
                                 refine pure_ (i := 10) (N := some 152) (v := ?_) (a' := ?_) #[true, true, true, true, true, true, true, true, false, true, true, false, false, false, false, false, false, false, false, false, false, false, false, false, false, false, false] rfl rfl (any_of HT_.out (by kernel_rfl)) (fun _ _ _ h => h) (Or.inl ⟨by rfl, ?_⟩) ?_ ?_
                                 rotate_left
                                 ·intro w'
                                  go_simp
                                  with_reducible rfl
                                 rotate_left
                                 ·simp only [Act.put, List.setIfInBounds_toArray, List.set_cons_zero, List.set_cons_succ, i64_w, i32_w]
                                  rfl
                                 refine pure_ (i := 11) (N := some 153) (v := ?_) (a' := ?_) #[true, true, true, true, true, true, true, true, false, true, true, true, false, false, false, false, false, false, false, false, false, false, false, false, false, false, false] rfl rfl (any_of HT_.out (by kernel_rfl)) (fun _ _ _ h => h) (Or.inl ⟨by rfl, ?_⟩) ?_ ?_
                                 rotate_left
                                 ·intro w'
                                  go_simp
                                  with_reducible rfl
                                 rotate_left
                                 ·simp only [Act.put, List.setIfInBounds_toArray, List.set_cons_zero, List.set_cons_succ, i64_w, i32_w]
                                  rfl
                                 refine take_ (i := 8) (N := some 150) (v := ?_) (a' := ?_) #[true, true, true, true, true, true, true, true, true, true, true, true, false, false, false, false, false, false, false, false, false, false, false, false, false, false, false] rfl rfl (take_ofW HT_.out HW_.out (by kernel_rfl)) (fun _ _ _ h => h) (Or.inl ⟨by rfl, ?_⟩) hHeld ?_ ?_
                                 rotate_left
                                 ·rintro w' ⟨s0, s1, s2, s3⟩
                                  go_simp
                                  with_reducible rfl
                                 rotate_left
                                 ·simp only [Act.put, List.setIfInBounds_toArray, List.set_cons_zero, List.set_cons_succ, i64_w, i32_w]
                                  rfl
                                 refine take_ (i := 12) (N := some 154) (v := ?_) (a' := ?_) #[true, true, true, true, true, true, true, true, true, true, true, true, true, false, false, false, false, false, false, false, false, false, false, false, false, false, false] rfl rfl (take_ofW HT_.out HW_.out (by kernel_rfl)) (fun _ _ _ h => h) (Or.inl ⟨by rfl, ?_⟩) hHeld ?_ ?_
                                 rotate_left
                                 ·rintro w' ⟨s0, s1, s2, s3⟩
                                  go_simp
                                  with_reducible rfl
                                 rotate_left
                                 ·simp only [Act.put, List.setIfInBounds_toArray, List.set_cons_zero, List.set_cons_succ, i64_w, i32_w]
                                  rfl
                                 refine pure_ (i := 13) (N := some 155) (v := ?_) (a' := ?_) #[true, true, true, true, true, true, true, true, true, true, true, true, true, true, false, false, false, false, false, false, false, false, false, false, false, false, false] rfl rfl (any_of HT_.out (by kernel_rfl)) (fun _ _ _ h => h) (Or.inl ⟨by rfl, ?_⟩) ?_ ?_
                                 rotate_left
                                 ·intro w'
                                  go_simp
                                  with_reducible rfl
                                 rotate_left
                                 ·simp only [Act.put, List.setIfInBounds_toArray, List.set_cons_zero, List.set_cons_succ, i64_w, i32_w]
                                  rfl
                                 refine pure_ (i := 14) (N := some 156) (v := ?_) (a' := ?_) #[true, true, true, true, true, true, true, true, true, true, true, true, true, true, true, false, false, false, false, false, false, false, false, false, false, false, false] rfl rfl (any_of HT_.out (by kernel_rfl)) (fun _ _ _ h => h) (Or.inl ⟨by rfl, ?_⟩) ?_ ?_
                                 rotate_left
                                 ·intro w'
                                  go_simp
                                  with_reducible rfl
                                 rotate_left
                                 ·simp only [Act.put, List.setIfInBounds_toArray, List.set_cons_zero, List.set_cons_succ, i64_w, i32_w]
                                  rfl
                                 refine pure_ (i := 15) (N := some 157) (v := ?_) (a' := ?_) #[true, true, true, true, true, true, true, true, true, true, true, true, true, true, true, true, false, false, false, false, false, false, false, false, false, false, false] rfl rfl (any_of HT_.out (by kernel_rfl)) (fun _ _ _ h => h) (Or.inl ⟨by rfl, ?_⟩) ?_ ?_
                                 rotate_left
                                 ·intro w'
                                  go_simp
                                  with_reducible rfl
                                 rotate_left
                                 ·simp only [Act.put, List.setIfInBounds_toArray, List.set_cons_zero, List.set_cons_succ, i64_w, i32_w]
                                  rfl
                                 refine pure_ (i := 16) (N := some 158) (v := ?_) (a' := ?_) #[true, true, true, true, true, true, true, true, true, true, true, true, true, true, true, true, true, false, false, false, false, false, false, false, false, false, false] rfl rfl (any_of HT_.out (by kernel_rfl)) (fun _ _ _ h => h) (Or.inl ⟨by rfl, ?_⟩) ?_ ?_
                                 rotate_left
                                 ·intro w'
                                  go_simp
                                  with_reducible rfl
                                 rotate_left
                                 ·simp only [Act.put, List.setIfInBounds_toArray, List.set_cons_zero, List.set_cons_succ, i64_w, i32_w]
                                  rfl
                                 refine pure_ (i := 17) (N := some 159) (v := ?_) (a' := ?_) #[true, true, true, true, true, true, true, true, true, true, true, true, true, true, true, true, true, true, false, false, false, false, false, false, false, false, false] rfl rfl (any_of HT_.out (by kernel_rfl)) (fun _ _ _ h => h) (Or.inl ⟨by rfl, ?_⟩) ?_ ?_
                                 rotate_left
                                 ·intro w'
                                  go_simp
                                  with_reducible rfl
                                 rotate_left
                                 ·simp only [Act.put, List.setIfInBounds_toArray, List.set_cons_zero, List.set_cons_succ, i64_w, i32_w]
                                  rfl
                                 refine pure_ (i := 19) (N := some 161) (v := ?_) (a' := ?_) #[true, true, true, true, true, true, true, true, true, true, true, true, true, true, true, true, true, true, false, true, false, false, false, false, false, false, false] rfl rfl (any_of HT_.out (by kernel_rfl)) (fun _ _ _ h => h) (Or.inl ⟨by rfl, ?_⟩) ?_ ?_
                                 rotate_left
                                 ·intro w'
                                  go_simp
                                  with_reducible rfl
                                 rotate_left
                                 ·simp only [Act.put, List.setIfInBounds_toArray, List.set_cons_zero, List.set_cons_succ, i64_w, i32_w]
                                  rfl
                                 refine pure_ (i := 20) (N := some 162) (v := ?_) (a' := ?_) #[true, true, true, true, true, true, true, true, true, true, true, true, true, true, true, true, true, true, false, true, true, false, false, false, false, false, false] rfl rfl (any_of HT_.out (by kernel_rfl)) (fun _ _ _ h => h) (Or.inl ⟨by rfl, ?_⟩) ?_ ?_
                                 rotate_left
                                 ·intro w'
                                  go_simp
                                  with_reducible rfl
                                 rotate_left
                                 ·simp only [Act.put, List.setIfInBounds_toArray, List.set_cons_zero, List.set_cons_succ, i64_w, i32_w]
                                  rfl
                                 refine pure_ (i := 21) (N := some 163) (v := ?_) (a' := ?_) #[true, true, true, true, true, true, true, true, true, true, true, true, true, true, true, true, true, true, false, true, true, true, false, false, false, false, false] rfl rfl (any_of HT_.out (by kernel_rfl)) (fun _ _ _ h => h) (Or.inl ⟨by rfl, ?_⟩) ?_ ?_
                                 rotate_left
                                 ·intro w'
                                  go_simp
                                  with_reducible rfl
                                 rotate_left
                                 ·simp only [Act.put, List.setIfInBounds_toArray, List.set_cons_zero, List.set_cons_succ, i64_w, i32_w]
                                  rfl
                                 refine take_ (i := 18) (N := some 160) (v := ?_) (a' := ?_) #[true, true, true, true, true, true, true, true, true, true, true, true, true, true, true, true, true, true, true, true, true, true, false, false, false, false, false] rfl rfl (take_ofW HT_.out HW_.out (by kernel_rfl)) (fun _ _ _ h => h) (Or.inl ⟨by rfl, ?_⟩) hHeld ?_ ?_
                                 rotate_left
                                 ·rintro w' ⟨s0, s1, s2, s3⟩
                                  go_simp
                                  with_reducible rfl
                                 rotate_left
                                 ·simp only [Act.put, List.setIfInBounds_toArray, List.set_cons_zero, List.set_cons_succ, i64_w, i32_w]
                                  rfl
                                 refine take_ (i := 22) (N := some 164) (v := ?_) (a' := ?_) #[true, true, true, true, true, true, true, true, true, true, true, true, true, true, true, true, true, true, true, true, true, true, true, false, false, false, false] rfl rfl (take_ofW HT_.out HW_.out (by kernel_rfl)) (fun _ _ _ h => h) (Or.inl ⟨by rfl, ?_⟩) hHeld ?_ ?_
                                 rotate_left
                                 ·rintro w' ⟨s0, s1, s2, s3⟩
                                  go_simp
                                  with_reducible rfl
                                 rotate_left
                                 ·simp only [Act.put, List.setIfInBounds_toArray, List.set_cons_zero, List.set_cons_succ, i64_w, i32_w]
                                  rfl
                                 refine pure_ (i := 23) (N := some 165) (v := ?_) (a' := ?_) #[true, true, true, true, true, true, true, true, true, true, true, true, true, true, true, true, true, true, true, true, true, true, true, true, false, false, false] rfl rfl (any_of HT_.out (by kernel_rfl)) (fun _ _ _ h => h) (Or.inl ⟨by rfl, ?_⟩) ?_ ?_
                                 rotate_left
                                 ·intro w'
                                  go_simp
                                  with_reducible rfl
                                 rotate_left
                                 ·simp only [Act.put, List.setIfInBounds_toArray, List.set_cons_zero, List.set_cons_succ, i64_w, i32_w]
                                  rfl
                                 refine pure_ (i := 24) (N := some 166) (v := ?_) (a' := ?_) #[true, true, true, true, true, true, true, true, true, true, true, true, true, true, true, true, true, true, true, true, true, true, true, true, true, false, false] rfl rfl (any_of HT_.out (by kernel_rfl)) (fun _ _ _ h => h) (Or.inl ⟨by rfl, ?_⟩) ?_ ?_
                                 rotate_left
                                 ·intro w'
                                  go_simp
                                  with_reducible rfl
                                 rotate_left
                                 ·simp only [Act.put, List.setIfInBounds_toArray, List.set_cons_zero, List.set_cons_succ, i64_w, i32_w]
                                  rfl
                                 refine pure_ (i := 25) (N := some 167) (v := ?_) (a' := ?_) #[true, true, true, true, true, true, true, true, true, true, true, true, true, true, true, true, true, true, true, true, true, true, true, true, true, true, false] rfl rfl (any_of HT_.out (by kernel_rfl)) (fun _ _ _ h => h) (Or.inl ⟨by rfl, ?_⟩) ?_ ?_
                                 rotate_left
                                 ·intro w'
                                  go_simp
                                  with_reducible rfl
                                 rotate_left
                                 ·simp only [Act.put, List.setIfInBounds_toArray, List.set_cons_zero, List.set_cons_succ, i64_w, i32_w]
                                  rfl
                                 refine pure_ (i := 26) (N := some 168) (v := ?_) (a' := ?_) #[true, true, true, true, true, true, true, true, true, true, true, true, true, true, true, true, true, true, true, true, true, true, true, true, true, true, true] rfl rfl (any_of HT_.out (by kernel_rfl)) (fun _ _ _ h => h) (Or.inl ⟨by rfl, ?_⟩) ?_ ?_
                                 rotate_left
                                 ·intro w'
                                  go_simp
                                  with_reducible rfl
                                 rotate_left
                                 ·simp only [Act.put, List.setIfInBounds_toArray, List.set_cons_zero, List.set_cons_succ, i64_w, i32_w]
                                  rfl
                                 refine done_ (done_of HT_.out (by kernel_rfl)) ?_
                                 try go_wp2
                                 go_meet
                                 case rel => exact ⟨_, (decide ((rd t395 x17_6) < (wrap64 ((rd t395 x15_5) + 1)))), (by first | rfl | (simp; done) | (simp [*]; done)), H', ⟨by have := HJ10.out; have := HK2.out; have := HJ39.out; have := HK4.out; have := HK5.out; have := HK6.out; first | omega | exact Nat.le_refl _⟩, ⟨by (try simp only [hl12_4]); (with_reducible repeat (first | apply Kd.R_alloc | apply Kd.R_drewN | apply Kd.R_drew)); exact HO_7.out⟩, ⟨by (try simp only [hl12_4]); (with_reducible repeat (first | apply Kd.R_alloc | apply Kd.R_drewN | apply Kd.R_drew)); exact HO_8.out⟩, ⟨by (try simp only [hl12_4]); (with_reducible repeat (first | apply Kd.R_alloc | apply Kd.R_drewN | apply Kd.R_drew)); exact HO_10.out⟩, ⟨by (try simp only [hl12_4]); (with_reducible repeat (first | apply Kd.R_alloc | apply Kd.R_drewN | apply Kd.R_drew)); exact HO_12.out⟩, ⟨by repeat (first | (with_reducible first | exact HB.out | apply below_alloc | apply pw_below_drewN | apply below_drew1) | exact HB.out)⟩⟩
                                ·rw [if_neg c72] at H
                                 exact absurd H (by simp)
                               ·rw [if_neg c71] at H
                                exact absurd H (by simp)
                             ·rw [if_neg c67] at H
                              exact absurd H (by simp)
                            ·rw [if_neg c66] at H
                             exact absurd H (by simp)
                           ·rw [if_neg c65] at H
                            exact absurd H (by simp)
                          ·rw [if_neg c64] at H
                           exact absurd H (by simp)
                         ·replace c63 := Bool.eq_false_iff.mpr c63
                          subst c63
                          have H1 : (withelaw3_ReachOrders.j6 k6 t388 t391 t395 x12_4 x15_5 x16_6 x17_6 false) = some r := by rw [if_neg (show ¬ (false = true) by decide)] at H; exact H
                          clear H
                          have H := H1
                          clear H1
                          have H' := Aside0.mk H
                          clear H
                          try go_wp2
                          have n0_ := Aside0.mk (Kd.R_drew HO_7.out)
                          have n1_ := Aside0.mk (Kd.R_drew HO_8.out)
                          have n2_ := Aside0.mk (Kd.R_drew HO_10.out)
                          have n3_ := Aside0.mk (Kd.R_drew HO_12.out)
                          have n4_ := Aside0.mk (below_drew1 HB.out)
                          clear HO_7
                          clear HO_8
                          clear HO_10
                          clear HO_12
                          clear HB
                          have HO_7 := n0_
                          have HO_8 := n1_
                          have HO_10 := n2_
                          have HO_12 := n3_
                          have HB := n4_
                          clear n0_ n1_ n2_ n3_ n4_
                          refine start_ (n := 27) (S := fun w' => True) (ds := []) #[false, false, false, false, false, false, false, false, false, false, false, false, false, false, false, false, false, false, false, false, false, false, false, false, false, false, false] (by kernel_rfl) rfl rfl trivial (fun hHeld => ?_); refine with_tabW withelaw3_ReachOrders.tab32 withelaw3_ReachOrders.bits32 (fun HT_ HW_ => ?_)
                          generalize wr.drew = w76 at HO_7 HO_8 HO_10 HO_12 HB hHeld ⊢
                          refine pure_ (i := 0) (N := some 142) (v := ?_) (a' := ?_) #[true, false, false, false, false, false, false, false, false, false, false, false, false, false, false, false, false, false, false, false, false, false, false, false, false, false, false] rfl rfl (any_of HT_.out (by kernel_rfl)) (fun _ _ _ h => h) (Or.inl ⟨by rfl, ?_⟩) ?_ ?_
                          rotate_left
                          ·intro w'
                           go_simp
                           with_reducible rfl
                          rotate_left
                          ·simp only [Act.put, List.setIfInBounds_toArray, List.set_cons_zero, List.set_cons_succ, i64_w, i32_w]
                           rfl
                          refine pure_ (i := 1) (N := some 143) (v := ?_) (a' := ?_) #[true, true, false, false, false, false, false, false, false, false, false, false, false, false, false, false, false, false, false, false, false, false, false, false, false, false, false] rfl rfl (any_of HT_.out (by kernel_rfl)) (fun _ _ _ h => h) (Or.inl ⟨by rfl, ?_⟩) ?_ ?_
                          rotate_left
                          ·intro w'
                           go_simp
                           with_reducible rfl
                          rotate_left
                          ·simp only [Act.put, List.setIfInBounds_toArray, List.set_cons_zero, List.set_cons_succ, i64_w, i32_w]
                           rfl
                          refine pure_ (i := 2) (N := some 144) (v := ?_) (a' := ?_) #[true, true, true, false, false, false, false, false, false, false, false, false, false, false, false, false, false, false, false, false, false, false, false, false, false, false, false] rfl rfl (any_of HT_.out (by kernel_rfl)) (fun _ _ _ h => h) (Or.inl ⟨by rfl, ?_⟩) ?_ ?_
                          rotate_left
                          ·intro w'
                           go_simp
                           with_reducible rfl
                          rotate_left
                          ·simp only [Act.put, List.setIfInBounds_toArray, List.set_cons_zero, List.set_cons_succ, i64_w, i32_w]
                           rfl
                          refine one_ (i := 3) (N := some 145) #[true, true, true, true, false, false, false, false, false, false, false, false, false, false, false, false, false, false, false, false, false, false, false, false, false, false, false] rfl rfl (one_of HT_.out (by kernel_rfl)) (by decide) (fun K hK => ?_)
                          refine goes_ Tryd.func29 (by kernel_rfl) rfl #[.slice Ao14 t388.length co14, .int .i64 x15_5, .int .i64 x17_6] (by rfl) rfl rfl (by (try simp only [List.map_toArray, List.map_cons, List.map_nil]); first | done | rfl | (simp only [List.length_drop, List.length_take]; rfl)) ?_
                          with_reducible refine (rel_Has.calls k6 _ _ t388 x15_5 x17_6 false _ ?side1 ?side2 A62.out).mono ?_
                          (case side1 => repeat (first | exact (Kd.R_reads' HO_7.out).2.2 | (with_reducible refine Kd.C_alloc ?_ _) | (with_reducible refine Kd.C_drewN ?_ _) | (with_reducible refine Kd.C_drew ?_)))
                          (case side2 => exact (Kd.R_reads' HO_7.out).2.1)
                          rintro e w77 ⟨rfl, hb⟩
                          refine ⟨_, rfl, ?_⟩
                          have n0_ := Aside0.mk (Kd.R_below (by (with_reducible repeat (first | apply Kd.R_alloc | apply Kd.R_drewN | apply Kd.R_drew)); exact HO_7.out) hb)
                          have n1_ := Aside0.mk (Kd.R_below (by (with_reducible repeat (first | apply Kd.R_alloc | apply Kd.R_drewN | apply Kd.R_drew)); exact HO_8.out) hb)
                          have n2_ := Aside0.mk (Kd.R_below (by (with_reducible repeat (first | apply Kd.R_alloc | apply Kd.R_drewN | apply Kd.R_drew)); exact HO_10.out) hb)
                          have n3_ := Aside0.mk (Kd.R_below (by (with_reducible repeat (first | apply Kd.R_alloc | apply Kd.R_drewN | apply Kd.R_drew)); exact HO_12.out) hb)
                          have n4_ := Aside0.mk (below_step (by repeat (first | (with_reducible first | exact HB.out | apply below_alloc | apply pw_below_drewN | apply below_drew1) | exact HB.out)) hb)
                          clear HO_7
                          clear HO_8
                          clear HO_10
                          clear HO_12
                          clear HB
                          have HO_7 := n0_
                          have HO_8 := n1_
                          have HO_10 := n2_
                          have HO_12 := n3_
                          have HB := n4_
                          clear n0_ n1_ n2_ n3_ n4_
                          (try clear hb)
                          (try clear hb2)
                          (try clear hk)
                          (try clear hi)
                          refine hK.out _ _ trivial (fun hHeld => ?_)
                          clear hK K
                          refine norm_ (a' := ?_) ?_ ?_
                          rotate_left
                          ·show Act.put _ (some 145) _ = _
                           simp only [Act.put, List.setIfInBounds_toArray, List.set_cons_zero, List.set_cons_succ, i64_w, i32_w]
                           rfl
                          refine pure_ (i := 4) (N := some 146) (v := ?_) (a' := ?_) #[true, true, true, true, true, false, false, false, false, false, false, false, false, false, false, false, false, false, false, false, false, false, false, false, false, false, false] rfl rfl (any_of HT_.out (by kernel_rfl)) (fun _ _ _ h => h) (Or.inl ⟨by rfl, ?_⟩) ?_ ?_
                          rotate_left
                          ·intro w'
                           go_simp
                           with_reducible rfl
                          rotate_left
                          ·simp only [Act.put, List.setIfInBounds_toArray, List.set_cons_zero, List.set_cons_succ, i64_w, i32_w]
                           rfl
                          refine pure_ (i := 5) (N := some 147) (v := undef) (a' := ?_) #[true, true, true, true, true, true, false, false, false, false, false, false, false, false, false, false, false, false, false, false, false, false, false, false, false, false, false] rfl rfl (any_of HT_.out (by kernel_rfl)) (fun _ _ _ h => h) (Or.inr ⟨by rfl, rfl⟩) ?_ ?_
                          rotate_left
                          ·simp only [Act.put, List.setIfInBounds_toArray, List.set_cons_zero, List.set_cons_succ, i64_w, i32_w]
                           rfl
                          refine pure_ (i := 6) (N := some 148) (v := undef) (a' := ?_) #[true, true, true, true, true, true, true, false, false, false, false, false, false, false, false, false, false, false, false, false, false, false, false, false, false, false, false] rfl rfl (any_of HT_.out (by kernel_rfl)) (fun _ _ _ h => h) (Or.inr ⟨by rfl, rfl⟩) ?_ ?_
                          rotate_left
                          ·simp only [Act.put, List.setIfInBounds_toArray, List.set_cons_zero, List.set_cons_succ, i64_w, i32_w]
                           rfl
                          refine pure_ (i := 7) (N := some 149) (v := undef) (a' := ?_) #[true, true, true, true, true, true, true, true, false, false, false, false, false, false, false, false, false, false, false, false, false, false, false, false, false, false, false] rfl rfl (any_of HT_.out (by kernel_rfl)) (fun _ _ _ h => h) (Or.inr ⟨by rfl, rfl⟩) ?_ ?_
                          rotate_left
                          ·simp only [Act.put, List.setIfInBounds_toArray, List.set_cons_zero, List.set_cons_succ, i64_w, i32_w]
                           rfl
                          refine pure_ (i := 8) (N := some 150) (v := undef) (a' := ?_) #[true, true, true, true, true, true, true, true, true, false, false, false, false, false, false, false, false, false, false, false, false, false, false, false, false, false, false] rfl rfl (any_of HT_.out (by kernel_rfl)) (fun _ _ _ h => h) (Or.inr ⟨by rfl, rfl⟩) ?_ ?_
                          rotate_left
                          ·simp only [Act.put, List.setIfInBounds_toArray, List.set_cons_zero, List.set_cons_succ, i64_w, i32_w]
                           rfl
                          refine pure_ (i := 9) (N := some 151) (v := undef) (a' := ?_) #[true, true, true, true, true, true, true, true, true, true, false, false, false, false, false, false, false, false, false, false, false, false, false, false, false, false, false] rfl rfl (any_of HT_.out (by kernel_rfl)) (fun _ _ _ h => h) (Or.inr ⟨by rfl, rfl⟩) ?_ ?_
                          rotate_left
                          ·simp only [Act.put, List.setIfInBounds_toArray, List.set_cons_zero, List.set_cons_succ, i64_w, i32_w]
                           rfl
                          refine pure_ (i := 10) (N := some 152) (v := undef) (a' := ?_) #[true, true, true, true, true, true, true, true, true, true, true, false, false, false, false, false, false, false, false, false, false, false, false, false, false, false, false] rfl rfl (any_of HT_.out (by kernel_rfl)) (fun _ _ _ h => h) (Or.inr ⟨by rfl, rfl⟩) ?_ ?_
                          rotate_left
                          ·simp only [Act.put, List.setIfInBounds_toArray, List.set_cons_zero, List.set_cons_succ, i64_w, i32_w]
                           rfl
                          refine pure_ (i := 11) (N := some 153) (v := undef) (a' := ?_) #[true, true, true, true, true, true, true, true, true, true, true, true, false, false, false, false, false, false, false, false, false, false, false, false, false, false, false] rfl rfl (any_of HT_.out (by kernel_rfl)) (fun _ _ _ h => h) (Or.inr ⟨by rfl, rfl⟩) ?_ ?_
                          rotate_left
                          ·simp only [Act.put, List.setIfInBounds_toArray, List.set_cons_zero, List.set_cons_succ, i64_w, i32_w]
                           rfl
                          refine pure_ (i := 12) (N := some 154) (v := undef) (a' := ?_) #[true, true, true, true, true, true, true, true, true, true, true, true, true, false, false, false, false, false, false, false, false, false, false, false, false, false, false] rfl rfl (any_of HT_.out (by kernel_rfl)) (fun _ _ _ h => h) (Or.inr ⟨by rfl, rfl⟩) ?_ ?_
                          rotate_left
                          ·simp only [Act.put, List.setIfInBounds_toArray, List.set_cons_zero, List.set_cons_succ, i64_w, i32_w]
                           rfl
                          refine pure_ (i := 13) (N := some 155) (v := undef) (a' := ?_) #[true, true, true, true, true, true, true, true, true, true, true, true, true, true, false, false, false, false, false, false, false, false, false, false, false, false, false] rfl rfl (any_of HT_.out (by kernel_rfl)) (fun _ _ _ h => h) (Or.inr ⟨by rfl, rfl⟩) ?_ ?_
                          rotate_left
                          ·simp only [Act.put, List.setIfInBounds_toArray, List.set_cons_zero, List.set_cons_succ, i64_w, i32_w]
                           rfl
                          refine pure_ (i := 14) (N := some 156) (v := undef) (a' := ?_) #[true, true, true, true, true, true, true, true, true, true, true, true, true, true, true, false, false, false, false, false, false, false, false, false, false, false, false] rfl rfl (any_of HT_.out (by kernel_rfl)) (fun _ _ _ h => h) (Or.inr ⟨by rfl, rfl⟩) ?_ ?_
                          rotate_left
                          ·simp only [Act.put, List.setIfInBounds_toArray, List.set_cons_zero, List.set_cons_succ, i64_w, i32_w]
                           rfl
                          refine pure_ (i := 15) (N := some 157) (v := undef) (a' := ?_) #[true, true, true, true, true, true, true, true, true, true, true, true, true, true, true, true, false, false, false, false, false, false, false, false, false, false, false] rfl rfl (any_of HT_.out (by kernel_rfl)) (fun _ _ _ h => h) (Or.inr ⟨by rfl, rfl⟩) ?_ ?_
                          rotate_left
                          ·simp only [Act.put, List.setIfInBounds_toArray, List.set_cons_zero, List.set_cons_succ, i64_w, i32_w]
                           rfl
                          refine pure_ (i := 16) (N := some 158) (v := undef) (a' := ?_) #[true, true, true, true, true, true, true, true, true, true, true, true, true, true, true, true, true, false, false, false, false, false, false, false, false, false, false] rfl rfl (any_of HT_.out (by kernel_rfl)) (fun _ _ _ h => h) (Or.inr ⟨by rfl, rfl⟩) ?_ ?_
                          rotate_left
                          ·simp only [Act.put, List.setIfInBounds_toArray, List.set_cons_zero, List.set_cons_succ, i64_w, i32_w]
                           rfl
                          refine pure_ (i := 17) (N := some 159) (v := undef) (a' := ?_) #[true, true, true, true, true, true, true, true, true, true, true, true, true, true, true, true, true, true, false, false, false, false, false, false, false, false, false] rfl rfl (any_of HT_.out (by kernel_rfl)) (fun _ _ _ h => h) (Or.inr ⟨by rfl, rfl⟩) ?_ ?_
                          rotate_left
                          ·simp only [Act.put, List.setIfInBounds_toArray, List.set_cons_zero, List.set_cons_succ, i64_w, i32_w]
                           rfl
                          refine pure_ (i := 18) (N := some 160) (v := undef) (a' := ?_) #[true, true, true, true, true, true, true, true, true, true, true, true, true, true, true, true, true, true, true, false, false, false, false, false, false, false, false] rfl rfl (any_of HT_.out (by kernel_rfl)) (fun _ _ _ h => h) (Or.inr ⟨by rfl, rfl⟩) ?_ ?_
                          rotate_left
                          ·simp only [Act.put, List.setIfInBounds_toArray, List.set_cons_zero, List.set_cons_succ, i64_w, i32_w]
                           rfl
                          refine pure_ (i := 19) (N := some 161) (v := undef) (a' := ?_) #[true, true, true, true, true, true, true, true, true, true, true, true, true, true, true, true, true, true, true, true, false, false, false, false, false, false, false] rfl rfl (any_of HT_.out (by kernel_rfl)) (fun _ _ _ h => h) (Or.inr ⟨by rfl, rfl⟩) ?_ ?_
                          rotate_left
                          ·simp only [Act.put, List.setIfInBounds_toArray, List.set_cons_zero, List.set_cons_succ, i64_w, i32_w]
                           rfl
                          refine pure_ (i := 20) (N := some 162) (v := undef) (a' := ?_) #[true, true, true, true, true, true, true, true, true, true, true, true, true, true, true, true, true, true, true, true, true, false, false, false, false, false, false] rfl rfl (any_of HT_.out (by kernel_rfl)) (fun _ _ _ h => h) (Or.inr ⟨by rfl, rfl⟩) ?_ ?_
                          rotate_left
                          ·simp only [Act.put, List.setIfInBounds_toArray, List.set_cons_zero, List.set_cons_succ, i64_w, i32_w]
                           rfl
                          refine pure_ (i := 21) (N := some 163) (v := undef) (a' := ?_) #[true, true, true, true, true, true, true, true, true, true, true, true, true, true, true, true, true, true, true, true, true, true, false, false, false, false, false] rfl rfl (any_of HT_.out (by kernel_rfl)) (fun _ _ _ h => h) (Or.inr ⟨by rfl, rfl⟩) ?_ ?_
                          rotate_left
                          ·simp only [Act.put, List.setIfInBounds_toArray, List.set_cons_zero, List.set_cons_succ, i64_w, i32_w]
                           rfl
                          refine pure_ (i := 22) (N := some 164) (v := undef) (a' := ?_) #[true, true, true, true, true, true, true, true, true, true, true, true, true, true, true, true, true, true, true, true, true, true, true, false, false, false, false] rfl rfl (any_of HT_.out (by kernel_rfl)) (fun _ _ _ h => h) (Or.inr ⟨by rfl, rfl⟩) ?_ ?_
                          rotate_left
                          ·simp only [Act.put, List.setIfInBounds_toArray, List.set_cons_zero, List.set_cons_succ, i64_w, i32_w]
                           rfl
                          refine pure_ (i := 23) (N := some 165) (v := undef) (a' := ?_) #[true, true, true, true, true, true, true, true, true, true, true, true, true, true, true, true, true, true, true, true, true, true, true, true, false, false, false] rfl rfl (any_of HT_.out (by kernel_rfl)) (fun _ _ _ h => h) (Or.inr ⟨by rfl, rfl⟩) ?_ ?_
                          rotate_left
                          ·simp only [Act.put, List.setIfInBounds_toArray, List.set_cons_zero, List.set_cons_succ, i64_w, i32_w]
                           rfl
                          refine pure_ (i := 24) (N := some 166) (v := undef) (a' := ?_) #[true, true, true, true, true, true, true, true, true, true, true, true, true, true, true, true, true, true, true, true, true, true, true, true, true, false, false] rfl rfl (any_of HT_.out (by kernel_rfl)) (fun _ _ _ h => h) (Or.inr ⟨by rfl, rfl⟩) ?_ ?_
                          rotate_left
                          ·simp only [Act.put, List.setIfInBounds_toArray, List.set_cons_zero, List.set_cons_succ, i64_w, i32_w]
                           rfl
                          refine pure_ (i := 25) (N := some 167) (v := undef) (a' := ?_) #[true, true, true, true, true, true, true, true, true, true, true, true, true, true, true, true, true, true, true, true, true, true, true, true, true, true, false] rfl rfl (any_of HT_.out (by kernel_rfl)) (fun _ _ _ h => h) (Or.inr ⟨by rfl, rfl⟩) ?_ ?_
                          rotate_left
                          ·simp only [Act.put, List.setIfInBounds_toArray, List.set_cons_zero, List.set_cons_succ, i64_w, i32_w]
                           rfl
                          refine pure_ (i := 26) (N := some 168) (v := ?_) (a' := ?_) #[true, true, true, true, true, true, true, true, true, true, true, true, true, true, true, true, true, true, true, true, true, true, true, true, true, true, true] rfl rfl (any_of HT_.out (by kernel_rfl)) (fun _ _ _ h => h) (Or.inl ⟨by rfl, ?_⟩) ?_ ?_
                          rotate_left
                          ·intro w'
                           go_simp
                           with_reducible rfl
                          rotate_left
                          ·simp only [Act.put, List.setIfInBounds_toArray, List.set_cons_zero, List.set_cons_succ, i64_w, i32_w]
                           rfl
                          refine done_ (done_of HT_.out (by kernel_rfl)) ?_
                          try go_wp2
                          go_meet
                          case rel => exact ⟨_, (false), (by first | rfl | (simp; done) | (simp [*]; done)), H', ⟨by have := HJ10.out; have := HK2.out; have := HJ39.out; have := HK4.out; have := HK5.out; have := HK6.out; first | omega | exact Nat.le_refl _⟩, ⟨by (try simp only [hl12_4]); (with_reducible repeat (first | apply Kd.R_alloc | apply Kd.R_drewN | apply Kd.R_drew)); exact HO_7.out⟩, ⟨by (try simp only [hl12_4]); (with_reducible repeat (first | apply Kd.R_alloc | apply Kd.R_drewN | apply Kd.R_drew)); exact HO_8.out⟩, ⟨by (try simp only [hl12_4]); (with_reducible repeat (first | apply Kd.R_alloc | apply Kd.R_drewN | apply Kd.R_drew)); exact HO_10.out⟩, ⟨by (try simp only [hl12_4]); (with_reducible repeat (first | apply Kd.R_alloc | apply Kd.R_drewN | apply Kd.R_drew)); exact HO_12.out⟩, ⟨by repeat (first | (with_reducible first | exact HB.out | apply below_alloc | apply pw_below_drewN | apply below_drew1) | exact HB.out)⟩⟩
                        case rest =>
                         as_aux_lemma =>
                         clear HC61
                         try clear c2
                         try clear p2
                         try clear p4
                         try clear q4
                         try clear hx4
                         try clear c6
                         try clear p6
                         try clear c7
                         try clear c29
                         try clear p41
                         try clear q41
                         try clear hx41
                         try clear c63
                         try clear c64
                         try clear p64
                         try clear c65
                         try clear c66
                         try clear c67
                         try clear c68
                         try clear c68b0
                         try clear c71
                         try clear c71b0
                         try clear c72
                         try clear c72b0
                         try clear hx415_0
                         try clear hx416_0
                         try clear hx417_0
                         try clear hx418_0
                         try clear p415
                         try clear p416
                         try clear p417
                         try clear p418
                         try clear q415
                         try clear q416
                         try clear q417
                         try clear q418
                         obtain ⟨kq, x168_60, rfl, HA, HJ60, HO_7, HO_8, HO_10, HO_12, HB⟩ := hcut
                         cases kq with
                         | zero => exact absurd HA.out (by simp [withelaw3_ReachOrders.j6])
                         | succ kj60 =>
                          have H := HA.out
                          clear HA
                          simp only [withelaw3_ReachOrders.j6] at H
                          by_cases c78 : x168_60 = true
                          ·subst c78
                           have H1 : (none) = some r := by rw [if_pos rfl] at H; exact H
                           clear H
                           have H := H1
                           clear H1
                           exact absurd H (by simp)
                          ·replace c78 := Bool.eq_false_iff.mpr c78
                           subst c78
                           have H1 : ((rel_Has.f kj60 t388 x17_6 x15_5).bind fun t419 => (if t419 = true then (if 0 ≤ x17_6 then (if x17_6 < (t395.length : Int) then (if (wrap64 ((rd t395 x17_6) + 1)) > x16_6 then (withelaw3_ReachOrders.l3 kj60 t388 t391 t395 x12_4 x15_5 (wrap64 ((rd t395 x17_6) + 1)) (wrap64 (x17_6 + 1))) else (withelaw3_ReachOrders.l3 kj60 t388 t391 t395 x12_4 x15_5 x16_6 (wrap64 (x17_6 + 1)))) else (none)) else (none)) else (withelaw3_ReachOrders.l3 kj60 t388 t391 t395 x12_4 x15_5 x16_6 (wrap64 (x17_6 + 1))))) = some r := by rw [if_neg (show ¬ (false = true) by decide)] at H; exact H
                           clear H
                           have H := H1
                           clear H1
                           replace H := Option.bind_eq_some_iff.mp H
                           obtain ⟨t419, A790, H⟩ := H
                           replace H : (if t419 = true then (if 0 ≤ x17_6 then (if x17_6 < (t395.length : Int) then (if (wrap64 ((rd t395 x17_6) + 1)) > x16_6 then (withelaw3_ReachOrders.l3 kj60 t388 t391 t395 x12_4 x15_5 (wrap64 ((rd t395 x17_6) + 1)) (wrap64 (x17_6 + 1))) else (withelaw3_ReachOrders.l3 kj60 t388 t391 t395 x12_4 x15_5 x16_6 (wrap64 (x17_6 + 1)))) else (none)) else (none)) else (withelaw3_ReachOrders.l3 kj60 t388 t391 t395 x12_4 x15_5 x16_6 (wrap64 (x17_6 + 1)))) = some r := H
                           have A79 := Aside0.mk A790
                           clear A790
                           by_cases c80 : t419 = true
                           ·subst c80
                            have H1 : (if 0 ≤ x17_6 then (if x17_6 < (t395.length : Int) then (if (wrap64 ((rd t395 x17_6) + 1)) > x16_6 then (withelaw3_ReachOrders.l3 kj60 t388 t391 t395 x12_4 x15_5 (wrap64 ((rd t395 x17_6) + 1)) (wrap64 (x17_6 + 1))) else (withelaw3_ReachOrders.l3 kj60 t388 t391 t395 x12_4 x15_5 x16_6 (wrap64 (x17_6 + 1)))) else (none)) else (none)) = some r := by rw [if_pos rfl] at H; exact H
                            clear H
                            have H := H1
                            clear H1
                            by_cases c81 : 0 ≤ x17_6
                            ·rw [if_pos c81] at H
                             have c81b0 : decide (0 ≤ x17_6) = true := decide_eq_true c81
                             clear c81
                             by_cases c82 : x17_6 < (t395.length : Int)
                             ·rw [if_pos c82] at H
                              have c82b0 : decide (x17_6 < (t395.length : Int)) = true := decide_eq_true c82
                              try (have c82b0h12_4 := c82b0; simp only [hl12_4] at c82b0h12_4)
                              clear c82
                              by_cases c83 : (wrap64 ((rd t395 x17_6) + 1)) > x16_6
                              ·rw [if_pos c83] at H
                               have c83b0 : decide (x16_6 < (wrap64 ((rd t395 x17_6) + 1))) = true := decide_eq_true c83
                               try (have c83b0i : decide (x16_6 < (IntKind.i64.wrap ((rd t395 x17_6) + 1))) = true := by simpa only [i64_w] using c83b0)
                               clear c83
                               have H' := Aside0.mk H
                               clear H
                               go_wp2_with (first | ((with_reducible refine gate_callee (f := 29) rfl ?_); refine goesL_ (some 172) rfl rfl Tryd.func29 (by kernel_rfl) rfl #[.slice Ao14 t388.length co14, .int .i64 x17_6, .int .i64 x15_5] rfl (by (try simp only [List.map_toArray, List.map_cons, List.map_nil]); first | done | rfl | (simp only [List.length_drop, List.length_take]; rfl)) ?_; (with_reducible refine (rel_Has.calls kj60 _ _ t388 x17_6 x15_5 true _ ?side1 ?side2 A79.out).mono ?_); (case side1 => repeat (first | exact (Kd.R_reads' HO_7.out).2.2 | (with_reducible refine Kd.C_alloc ?_ _) | (with_reducible refine Kd.C_drewN ?_ _) | (with_reducible refine Kd.C_drew ?_))); (case side2 => exact (Kd.R_reads' HO_7.out).2.1); rintro e w84 ⟨rfl, hb⟩; refine ⟨_, rfl, ?_⟩; have n0_ := Aside0.mk (Kd.R_below (by (with_reducible repeat (first | apply Kd.R_alloc | apply Kd.R_drewN | apply Kd.R_drew)); exact HO_7.out) hb); have n1_ := Aside0.mk (Kd.R_below (by (with_reducible repeat (first | apply Kd.R_alloc | apply Kd.R_drewN | apply Kd.R_drew)); exact HO_8.out) hb); have n2_ := Aside0.mk (Kd.R_below (by (with_reducible repeat (first | apply Kd.R_alloc | apply Kd.R_drewN | apply Kd.R_drew)); exact HO_10.out) hb); have n3_ := Aside0.mk (Kd.R_below (by (with_reducible repeat (first | apply Kd.R_alloc | apply Kd.R_drewN | apply Kd.R_drew)); exact HO_12.out) hb); have n4_ := Aside0.mk (below_step (by repeat (first | (with_reducible first | exact HB.out | apply below_alloc | apply pw_below_drewN | apply below_drew1) | exact HB.out)) hb); clear HO_7; clear HO_8; clear HO_10; clear HO_12; clear HB; have HO_7 := n0_; have HO_8 := n1_; have HO_10 := n2_; have HO_12 := n3_; have HB := n4_; clear n0_ n1_ n2_ n3_ n4_; (try clear hb); (try clear hb2); (try clear hk); (try clear hi); obtain ⟨Ao85, co85, eo85⟩ := Kd.R_slice HO_10.out; subst eo85; have p420 : 0 ≤ (x17_6 : Int) := of_decide_eq_true (by first | (with_reducible assumption) | assumption); have q420 : x17_6 < (t395.length : Int) := of_decide_eq_true (by first | (with_reducible assumption) | assumption); obtain ⟨ad420, e420, hx420_0⟩ := Kd.at_int (Kd.R_reads' HO_10.out).2.2 x17_6 p420 q420; cases e420; replace p420 := eq_true p420; replace q420 := eq_true q420; have p421 : 0 ≤ (x17_6 : Int) := of_decide_eq_true (by first | (with_reducible assumption) | assumption); have q421 : x17_6 < (t395.length : Int) := of_decide_eq_true (by first | (with_reducible assumption) | assumption); obtain ⟨ad421, e421, hx421_0⟩ := Kd.at_int (Kd.R_reads' HO_10.out).2.2 x17_6 p421 q421; obtain rfl : ad420 = ad421 := (by injection e421); replace p421 := eq_true p421; replace q421 := eq_true q421))
                               go_roundg kj60
                               case measure => have := HJ10.out; have := HK2.out; have := HJ39.out; have := HK4.out; have := HK5.out; have := HK6.out; have := HJ60.out; omega
                               case rel => exact ⟨(wrap64 ((rd t395 x17_6) + 1)), (wrap64 (x17_6 + 1)), (by first | rfl | (simp; done) | (simp [*]; done)), (by first | rfl | (simp; done) | (simp [*]; done)), H', ⟨by have := HJ10.out; have := HK2.out; have := HJ39.out; have := HK4.out; have := HK5.out; have := HK6.out; have := HJ60.out; omega⟩, ⟨by (try simp only [hl12_4]); (with_reducible repeat (first | apply Kd.R_alloc | apply Kd.R_drewN | apply Kd.R_drew)); exact HO_7.out⟩, ⟨by (try simp only [hl12_4]); (with_reducible repeat (first | apply Kd.R_alloc | apply Kd.R_drewN | apply Kd.R_drew)); exact HO_8.out⟩, ⟨by (try simp only [hl12_4]); (with_reducible repeat (first | apply Kd.R_alloc | apply Kd.R_drewN | apply Kd.R_drew)); exact HO_10.out⟩, ⟨by (try simp only [hl12_4]); (with_reducible repeat (first | apply Kd.R_alloc | apply Kd.R_drewN | apply Kd.R_drew)); exact HO_12.out⟩, ⟨by repeat (first | (with_reducible first | exact HB.out | apply below_alloc | apply pw_below_drewN | apply below_drew1) | exact HB.out)⟩⟩
                              ·rw [if_neg c83] at H
                               have c83b0 : decide (x16_6 < (wrap64 ((rd t395 x17_6) + 1))) = false := decide_eq_false c83
                               try (have c83b0i : decide (x16_6 < (IntKind.i64.wrap ((rd t395 x17_6) + 1))) = false := by simpa only [i64_w] using c83b0)
                               clear c83
                               have H' := Aside0.mk H
                               clear H
                               go_wp2_with (first | ((with_reducible refine gate_callee (f := 29) rfl ?_); refine goesL_ (some 172) rfl rfl Tryd.func29 (by kernel_rfl) rfl #[.slice Ao14 t388.length co14, .int .i64 x17_6, .int .i64 x15_5] rfl (by (try simp only [List.map_toArray, List.map_cons, List.map_nil]); first | done | rfl | (simp only [List.length_drop, List.length_take]; rfl)) ?_; (with_reducible refine (rel_Has.calls kj60 _ _ t388 x17_6 x15_5 true _ ?side1 ?side2 A79.out).mono ?_); (case side1 => repeat (first | exact (Kd.R_reads' HO_7.out).2.2 | (with_reducible refine Kd.C_alloc ?_ _) | (with_reducible refine Kd.C_drewN ?_ _) | (with_reducible refine Kd.C_drew ?_))); (case side2 => exact (Kd.R_reads' HO_7.out).2.1); rintro e w86 ⟨rfl, hb⟩; refine ⟨_, rfl, ?_⟩; have n0_ := Aside0.mk (Kd.R_below (by (with_reducible repeat (first | apply Kd.R_alloc | apply Kd.R_drewN | apply Kd.R_drew)); exact HO_7.out) hb); have n1_ := Aside0.mk (Kd.R_below (by (with_reducible repeat (first | apply Kd.R_alloc | apply Kd.R_drewN | apply Kd.R_drew)); exact HO_8.out) hb); have n2_ := Aside0.mk (Kd.R_below (by (with_reducible repeat (first | apply Kd.R_alloc | apply Kd.R_drewN | apply Kd.R_drew)); exact HO_10.out) hb); have n3_ := Aside0.mk (Kd.R_below (by (with_reducible repeat (first | apply Kd.R_alloc | apply Kd.R_drewN | apply Kd.R_drew)); exact HO_12.out) hb); have n4_ := Aside0.mk (below_step (by repeat (first | (with_reducible first | exact HB.out | apply below_alloc | apply pw_below_drewN | apply below_drew1) | exact HB.out)) hb); clear HO_7; clear HO_8; clear HO_10; clear HO_12; clear HB; have HO_7 := n0_; have HO_8 := n1_; have HO_10 := n2_; have HO_12 := n3_; have HB := n4_; clear n0_ n1_ n2_ n3_ n4_; (try clear hb); (try clear hb2); (try clear hk); (try clear hi); obtain ⟨Ao87, co87, eo87⟩ := Kd.R_slice HO_10.out; subst eo87; have p420 : 0 ≤ (x17_6 : Int) := of_decide_eq_true (by first | (with_reducible assumption) | assumption); have q420 : x17_6 < (t395.length : Int) := of_decide_eq_true (by first | (with_reducible assumption) | assumption); obtain ⟨ad420, e420, hx420_0⟩ := Kd.at_int (Kd.R_reads' HO_10.out).2.2 x17_6 p420 q420; cases e420; replace p420 := eq_true p420; replace q420 := eq_true q420))
                               go_roundg kj60
                               case measure => have := HJ10.out; have := HK2.out; have := HJ39.out; have := HK4.out; have := HK5.out; have := HK6.out; have := HJ60.out; omega
                               case rel => exact ⟨(x16_6), (wrap64 (x17_6 + 1)), (by first | rfl | (simp; done) | (simp [*]; done)), (by first | rfl | (simp; done) | (simp [*]; done)), H', ⟨by have := HJ10.out; have := HK2.out; have := HJ39.out; have := HK4.out; have := HK5.out; have := HK6.out; have := HJ60.out; omega⟩, ⟨by (try simp only [hl12_4]); (with_reducible repeat (first | apply Kd.R_alloc | apply Kd.R_drewN | apply Kd.R_drew)); exact HO_7.out⟩, ⟨by (try simp only [hl12_4]); (with_reducible repeat (first | apply Kd.R_alloc | apply Kd.R_drewN | apply Kd.R_drew)); exact HO_8.out⟩, ⟨by (try simp only [hl12_4]); (with_reducible repeat (first | apply Kd.R_alloc | apply Kd.R_drewN | apply Kd.R_drew)); exact HO_10.out⟩, ⟨by (try simp only [hl12_4]); (with_reducible repeat (first | apply Kd.R_alloc | apply Kd.R_drewN | apply Kd.R_drew)); exact HO_12.out⟩, ⟨by repeat (first | (with_reducible first | exact HB.out | apply below_alloc | apply pw_below_drewN | apply below_drew1) | exact HB.out)⟩⟩
                             ·rw [if_neg c82] at H
                              exact absurd H (by simp)
                            ·rw [if_neg c81] at H
                             exact absurd H (by simp)
                           ·replace c80 := Bool.eq_false_iff.mpr c80
                            subst c80
                            have H1 : (withelaw3_ReachOrders.l3 kj60 t388 t391 t395 x12_4 x15_5 x16_6 (wrap64 (x17_6 + 1))) = some r := by rw [if_neg (show ¬ (false = true) by decide)] at H; exact H
                            clear H
                            have H := H1
                            clear H1
                            have H' := Aside0.mk H
                            clear H
                            go_wp2_with (first | ((with_reducible refine gate_callee (f := 29) rfl ?_); refine goesL_ (some 172) rfl rfl Tryd.func29 (by kernel_rfl) rfl #[.slice Ao14 t388.length co14, .int .i64 x17_6, .int .i64 x15_5] rfl (by (try simp only [List.map_toArray, List.map_cons, List.map_nil]); first | done | rfl | (simp only [List.length_drop, List.length_take]; rfl)) ?_; (with_reducible refine (rel_Has.calls kj60 _ _ t388 x17_6 x15_5 false _ ?side1 ?side2 A79.out).mono ?_); (case side1 => repeat (first | exact (Kd.R_reads' HO_7.out).2.2 | (with_reducible refine Kd.C_alloc ?_ _) | (with_reducible refine Kd.C_drewN ?_ _) | (with_reducible refine Kd.C_drew ?_))); (case side2 => exact (Kd.R_reads' HO_7.out).2.1); rintro e w88 ⟨rfl, hb⟩; refine ⟨_, rfl, ?_⟩; have n0_ := Aside0.mk (Kd.R_below (by (with_reducible repeat (first | apply Kd.R_alloc | apply Kd.R_drewN | apply Kd.R_drew)); exact HO_7.out) hb); have n1_ := Aside0.mk (Kd.R_below (by (with_reducible repeat (first | apply Kd.R_alloc | apply Kd.R_drewN | apply Kd.R_drew)); exact HO_8.out) hb); have n2_ := Aside0.mk (Kd.R_below (by (with_reducible repeat (first | apply Kd.R_alloc | apply Kd.R_drewN | apply Kd.R_drew)); exact HO_10.out) hb); have n3_ := Aside0.mk (Kd.R_below (by (with_reducible repeat (first | apply Kd.R_alloc | apply Kd.R_drewN | apply Kd.R_drew)); exact HO_12.out) hb); have n4_ := Aside0.mk (below_step (by repeat (first | (with_reducible first | exact HB.out | apply below_alloc | apply pw_below_drewN | apply below_drew1) | exact HB.out)) hb); clear HO_7; clear HO_8; clear HO_10; clear HO_12; clear HB; have HO_7 := n0_; have HO_8 := n1_; have HO_10 := n2_; have HO_12 := n3_; have HB := n4_; clear n0_ n1_ n2_ n3_ n4_; (try clear hb); (try clear hb2); (try clear hk); (try clear hi)))
                            go_roundg kj60
                            case measure => have := HJ10.out; have := HK2.out; have := HJ39.out; have := HK4.out; have := HK5.out; have := HK6.out; have := HJ60.out; omega
                            case rel => exact ⟨(x16_6), (wrap64 (x17_6 + 1)), (by first | rfl | (simp; done) | (simp [*]; done)), (by first | rfl | (simp; done) | (simp [*]; done)), H', ⟨by have := HJ10.out; have := HK2.out; have := HJ39.out; have := HK4.out; have := HK5.out; have := HK6.out; have := HJ60.out; omega⟩, ⟨by (try simp only [hl12_4]); (with_reducible repeat (first | apply Kd.R_alloc | apply Kd.R_drewN | apply Kd.R_drew)); exact HO_7.out⟩, ⟨by (try simp only [hl12_4]); (with_reducible repeat (first | apply Kd.R_alloc | apply Kd.R_drewN | apply Kd.R_drew)); exact HO_8.out⟩, ⟨by (try simp only [hl12_4]); (with_reducible repeat (first | apply Kd.R_alloc | apply Kd.R_drewN | apply Kd.R_drew)); exact HO_10.out⟩, ⟨by (try simp only [hl12_4]); (with_reducible repeat (first | apply Kd.R_alloc | apply Kd.R_drewN | apply Kd.R_drew)); exact HO_12.out⟩, ⟨by repeat (first | (with_reducible first | exact HB.out | apply below_alloc | apply pw_below_drewN | apply below_drew1) | exact HB.out)⟩⟩
                       ·rw [if_neg c60] at H
                        have c60b0 : decide (x17_6 < (t388.length : Int)) = false := decide_eq_false c60
                        try (have c60b0h12_4 := c60b0; simp only [hl12_4] at c60b0h12_4)
                        clear c60
                        by_cases c89 : 0 ≤ x15_5
                        ·rw [if_pos c89] at H
                         have c89b0 : decide (0 ≤ x15_5) = true := decide_eq_true c89
                         clear c89
                         by_cases c90 : x15_5 < (t395.length : Int)
                         ·rw [if_pos c90] at H
                          have c90b0 : decide (x15_5 < (t395.length : Int)) = true := decide_eq_true c90
                          try (have c90b0h12_4 := c90b0; simp only [hl12_4] at c90b0h12_4)
                          clear c90
                          by_cases c91 : (rd t395 x15_5) = x16_6
                          ·rw [if_pos c91] at H
                           have c91b0 : ((rd t395 x15_5) == x16_6) = true := beq_iff_eq.mpr c91
                           have c91b1 : ((rd t395 x15_5) != x16_6) = false := bne_eq_false_iff_eq.mpr c91
                           clear c91
                           by_cases c92 : x15_5 < (x12_4.length : Int)
                           ·rw [if_pos c92] at H
                            have c92b0 : decide (x15_5 < (x12_4.length : Int)) = true := decide_eq_true c92
                            try (have c92b0h12_4 := c92b0; simp only [hl12_4] at c92b0h12_4)
                            clear c92
                            by_cases c93 : (rd x12_4 x15_5) < (rd t395 x15_5)
                            ·rw [if_pos c93] at H
                             exact absurd H (by simp)
                            ·rw [if_neg c93] at H
                             have c93b0 : decide ((rd x12_4 x15_5) < (rd t395 x15_5)) = false := decide_eq_false c93
                             clear c93
                             have H' := Aside0.mk H
                             clear H
                             try go_wp2
                             have n0_ := Aside0.mk (Kd.R_drew HO_7.out)
                             have n1_ := Aside0.mk (Kd.R_drew HO_8.out)
                             have n2_ := Aside0.mk (Kd.R_drew HO_10.out)
                             have n3_ := Aside0.mk (Kd.R_drew HO_12.out)
                             have n4_ := Aside0.mk (below_drew1 HB.out)
                             clear HO_7
                             clear HO_8
                             clear HO_10
                             clear HO_12
                             clear HB
                             have HO_7 := n0_
                             have HO_8 := n1_
                             have HO_10 := n2_
                             have HO_12 := n3_
                             have HB := n4_
                             clear n0_ n1_ n2_ n3_ n4_
                             obtain ⟨Ao95, co95, eo95⟩ := Kd.R_slice HO_10.out
                             (first | subst eo95 | (injection eo95 with f1_ f2_ f3_; have f4_ := f1_.symm; have f5_ := f3_.symm; clear f1_ f2_ f3_; subst f4_; subst f5_))
                             have p411 : 0 ≤ (x15_5 : Int) := of_decide_eq_true (by first | (with_reducible assumption) | assumption)
                             have q411 : x15_5 < (t395.length : Int) := of_decide_eq_true (by first | (with_reducible assumption) | assumption)
                             obtain ⟨ad411, e411, hx411_0⟩ := Kd.at_int (Kd.R_reads' HO_10.out).2.2 x15_5 p411 q411
                             cases e411
                             replace p411 := eq_true p411
                             replace q411 := eq_true q411
                             have p412 : 0 ≤ (x15_5 : Int) := of_decide_eq_true (by first | (with_reducible assumption) | assumption)
                             have q412 : x15_5 < (x12_4.length : Int) := of_decide_eq_true (by first | (with_reducible assumption) | assumption)
                             obtain ⟨ad412, e412, hx412_0⟩ := Kd.at_int (Kd.R_reads' HO_12.out).2.2 x15_5 p412 q412
                             cases e412
                             replace p412 := eq_true p412
                             replace q412 := eq_true q412
                             have p413 : 0 ≤ (x15_5 : Int) := of_decide_eq_true (by first | (with_reducible assumption) | assumption)
                             have q413 : x15_5 < (t395.length : Int) := of_decide_eq_true (by first | (with_reducible assumption) | assumption)
                             obtain ⟨ad413, e413, hx413_0⟩ := Kd.at_int (Kd.R_reads' HO_10.out).2.2 x15_5 p413 q413
                             obtain rfl : ad411 = ad413 := (by injection e413)
                             replace p413 := eq_true p413
                             replace q413 := eq_true q413
                             refine start_ (n := 17) (S := fun w' => w'.cell? (ad411.add (x15_5).toNat) = some (.int .i64 (rd t395 x15_5)) ∧ w'.cell? (ad412.add (x15_5).toNat) = some (.int .i64 (rd x12_4 x15_5)) ∧ w'.cell? (ad411.add (x15_5).toNat) = some (.int .i64 (rd t395 x15_5))) (ds := []) #[false, false, false, false, false, false, false, false, false, false, false, false, false, false, false, false, false] (by kernel_rfl) rfl rfl ⟨hx411_0, hx412_0, hx413_0⟩ (fun hHeld => ?_); refine with_tabW withelaw3_ReachOrders.tab36 withelaw3_ReachOrders.bits36 (fun HT_ HW_ => ?_)
                             generalize wr.drew = w94 at HO_7 HO_8 HO_10 HO_12 HB hx411_0 hx412_0 hx413_0 hHeld ⊢
                             refine pure_ (i := 0) (N := some 187) (v := ?_) (a' := ?_) #[true, false, false, false, false, false, false, false, false, false, false, false, false, false, false, false, false] rfl rfl (any_of HT_.out (by kernel_rfl)) (fun _ _ _ h => h) (Or.inl ⟨by rfl, ?_⟩) ?_ ?_
                             rotate_left
                             ·intro w'
                              go_simp
                              with_reducible rfl
                             rotate_left
                             ·simp only [Act.put, List.setIfInBounds_toArray, List.set_cons_zero, List.set_cons_succ, i64_w, i32_w]
                              rfl
                             refine pure_ (i := 1) (N := some 188) (v := ?_) (a' := ?_) #[true, true, false, false, false, false, false, false, false, false, false, false, false, false, false, false, false] rfl rfl (any_of HT_.out (by kernel_rfl)) (fun _ _ _ h => h) (Or.inl ⟨by rfl, ?_⟩) ?_ ?_
                             rotate_left
                             ·intro w'
                              go_simp
                              with_reducible rfl
                             rotate_left
                             ·simp only [Act.put, List.setIfInBounds_toArray, List.set_cons_zero, List.set_cons_succ, i64_w, i32_w]
                              rfl
                             refine pure_ (i := 2) (N := some 189) (v := ?_) (a' := ?_) #[true, true, true, false, false, false, false, false, false, false, false, false, false, false, false, false, false] rfl rfl (any_of HT_.out (by kernel_rfl)) (fun _ _ _ h => h) (Or.inl ⟨by rfl, ?_⟩) ?_ ?_
                             rotate_left
                             ·intro w'
                              go_simp
                              with_reducible rfl
                             rotate_left
                             ·simp only [Act.put, List.setIfInBounds_toArray, List.set_cons_zero, List.set_cons_succ, i64_w, i32_w]
                              rfl
                             refine pure_ (i := 4) (N := some 191) (v := ?_) (a' := ?_) #[true, true, true, false, true, false, false, false, false, false, false, false, false, false, false, false, false] rfl rfl (any_of HT_.out (by kernel_rfl)) (fun _ _ _ h => h) (Or.inl ⟨by rfl, ?_⟩) ?_ ?_
                             rotate_left
                             ·intro w'
                              go_simp
                              with_reducible rfl
                             rotate_left
                             ·simp only [Act.put, List.setIfInBounds_toArray, List.set_cons_zero, List.set_cons_succ, i64_w, i32_w]
                              rfl
                             refine take_ (i := 3) (N := some 190) (v := ?_) (a' := ?_) #[true, true, true, true, true, false, false, false, false, false, false, false, false, false, false, false, false] rfl rfl (take_ofW HT_.out HW_.out (by kernel_rfl)) (fun _ _ _ h => h) (Or.inl ⟨by rfl, ?_⟩) hHeld ?_ ?_
                             rotate_left
                             ·rintro w' ⟨s0, s1, s2⟩
                              go_simp
                              with_reducible rfl
                             rotate_left
                             ·simp only [Act.put, List.setIfInBounds_toArray, List.set_cons_zero, List.set_cons_succ, i64_w, i32_w]
                              rfl
                             refine pure_ (i := 5) (N := some 192) (v := ?_) (a' := ?_) #[true, true, true, true, true, true, false, false, false, false, false, false, false, false, false, false, false] rfl rfl (any_of HT_.out (by kernel_rfl)) (fun _ _ _ h => h) (Or.inl ⟨by rfl, ?_⟩) ?_ ?_
                             rotate_left
                             ·intro w'
                              go_simp
                              with_reducible rfl
                             rotate_left
                             ·simp only [Act.put, List.setIfInBounds_toArray, List.set_cons_zero, List.set_cons_succ, i64_w, i32_w]
                              rfl
                             refine pure_ (i := 6) (N := some 193) (v := ?_) (a' := ?_) #[true, true, true, true, true, true, true, false, false, false, false, false, false, false, false, false, false] rfl rfl (any_of HT_.out (by kernel_rfl)) (fun _ _ _ h => h) (Or.inl ⟨by rfl, ?_⟩) ?_ ?_
                             rotate_left
                             ·intro w'
                              go_simp
                              with_reducible rfl
                             rotate_left
                             ·simp only [Act.put, List.setIfInBounds_toArray, List.set_cons_zero, List.set_cons_succ, i64_w, i32_w]
                              rfl
                             refine pure_ (i := 7) (N := some 194) (v := ?_) (a' := ?_) #[true, true, true, true, true, true, true, true, false, false, false, false, false, false, false, false, false] rfl rfl (any_of HT_.out (by kernel_rfl)) (fun _ _ _ h => h) (Or.inl ⟨by rfl, ?_⟩) ?_ ?_
                             rotate_left
                             ·intro w'
                              go_simp
                              with_reducible rfl
                             rotate_left
                             ·simp only [Act.put, List.setIfInBounds_toArray, List.set_cons_zero, List.set_cons_succ, i64_w, i32_w]
                              rfl
                             refine pure_ (i := 8) (N := some 195) (v := ?_) (a' := ?_) #[true, true, true, true, true, true, true, true, true, false, false, false, false, false, false, false, false] rfl rfl (any_of HT_.out (by kernel_rfl)) (fun _ _ _ h => h) (Or.inl ⟨by rfl, ?_⟩) ?_ ?_
                             rotate_left
                             ·intro w'
                              go_simp
                              with_reducible rfl
                             rotate_left
                             ·simp only [Act.put, List.setIfInBounds_toArray, List.set_cons_zero, List.set_cons_succ, i64_w, i32_w]
                              rfl
                             refine pure_ (i := 9) (N := some 196) (v := ?_) (a' := ?_) #[true, true, true, true, true, true, true, true, true, true, false, false, false, false, false, false, false] rfl rfl (any_of HT_.out (by kernel_rfl)) (fun _ _ _ h => h) (Or.inl ⟨by rfl, ?_⟩) ?_ ?_
                             rotate_left
                             ·intro w'
                              go_simp
                              with_reducible rfl
                             rotate_left
                             ·simp only [Act.put, List.setIfInBounds_toArray, List.set_cons_zero, List.set_cons_succ, i64_w, i32_w]
                              rfl
                             refine pure_ (i := 11) (N := some 198) (v := ?_) (a' := ?_) #[true, true, true, true, true, true, true, true, true, true, false, true, false, false, false, false, false] rfl rfl (any_of HT_.out (by kernel_rfl)) (fun _ _ _ h => h) (Or.inl ⟨by rfl, ?_⟩) ?_ ?_
                             rotate_left
                             ·intro w'
                              go_simp
                              with_reducible rfl
                             rotate_left
                             ·simp only [Act.put, List.setIfInBounds_toArray, List.set_cons_zero, List.set_cons_succ, i64_w, i32_w]
                              rfl
                             refine pure_ (i := 12) (N := some 199) (v := ?_) (a' := ?_) #[true, true, true, true, true, true, true, true, true, true, false, true, true, false, false, false, false] rfl rfl (any_of HT_.out (by kernel_rfl)) (fun _ _ _ h => h) (Or.inl ⟨by rfl, ?_⟩) ?_ ?_
                             rotate_left
                             ·intro w'
                              go_simp
                              with_reducible rfl
                             rotate_left
                             ·simp only [Act.put, List.setIfInBounds_toArray, List.set_cons_zero, List.set_cons_succ, i64_w, i32_w]
                              rfl
                             refine pure_ (i := 13) (N := some 200) (v := ?_) (a' := ?_) #[true, true, true, true, true, true, true, true, true, true, false, true, true, true, false, false, false] rfl rfl (any_of HT_.out (by kernel_rfl)) (fun _ _ _ h => h) (Or.inl ⟨by rfl, ?_⟩) ?_ ?_
                             rotate_left
                             ·intro w'
                              go_simp
                              with_reducible rfl
                             rotate_left
                             ·simp only [Act.put, List.setIfInBounds_toArray, List.set_cons_zero, List.set_cons_succ, i64_w, i32_w]
                              rfl
                             refine take_ (i := 10) (N := some 197) (v := ?_) (a' := ?_) #[true, true, true, true, true, true, true, true, true, true, true, true, true, true, false, false, false] rfl rfl (take_ofW HT_.out HW_.out (by kernel_rfl)) (fun _ _ _ h => h) (Or.inl ⟨by rfl, ?_⟩) hHeld ?_ ?_
                             rotate_left
                             ·rintro w' ⟨s0, s1, s2⟩
                              go_simp
                              with_reducible rfl
                             rotate_left
                             ·simp only [Act.put, List.setIfInBounds_toArray, List.set_cons_zero, List.set_cons_succ, i64_w, i32_w]
                              rfl
                             refine take_ (i := 14) (N := some 201) (v := ?_) (a' := ?_) #[true, true, true, true, true, true, true, true, true, true, true, true, true, true, true, false, false] rfl rfl (take_ofW HT_.out HW_.out (by kernel_rfl)) (fun _ _ _ h => h) (Or.inl ⟨by rfl, ?_⟩) hHeld ?_ ?_
                             rotate_left
                             ·rintro w' ⟨s0, s1, s2⟩
                              go_simp
                              with_reducible rfl
                             rotate_left
                             ·simp only [Act.put, List.setIfInBounds_toArray, List.set_cons_zero, List.set_cons_succ, i64_w, i32_w]
                              rfl
                             refine pure_ (i := 15) (N := some 202) (v := ?_) (a' := ?_) #[true, true, true, true, true, true, true, true, true, true, true, true, true, true, true, true, false] rfl rfl (any_of HT_.out (by kernel_rfl)) (fun _ _ _ h => h) (Or.inl ⟨by rfl, ?_⟩) ?_ ?_
                             rotate_left
                             ·intro w'
                              go_simp
                              with_reducible rfl
                             rotate_left
                             ·simp only [Act.put, List.setIfInBounds_toArray, List.set_cons_zero, List.set_cons_succ, i64_w, i32_w]
                              rfl
                             refine pure_ (i := 16) (N := some 203) (v := ?_) (a' := ?_) #[true, true, true, true, true, true, true, true, true, true, true, true, true, true, true, true, true] rfl rfl (any_of HT_.out (by kernel_rfl)) (fun _ _ _ h => h) (Or.inl ⟨by rfl, ?_⟩) ?_ ?_
                             rotate_left
                             ·intro w'
                              go_simp
                              with_reducible rfl
                             rotate_left
                             ·simp only [Act.put, List.setIfInBounds_toArray, List.set_cons_zero, List.set_cons_succ, i64_w, i32_w]
                              rfl
                             refine done_ (done_of HT_.out (by kernel_rfl)) ?_
                             try go_wp2
                             go_roundg k6
                             case measure => have := HJ10.out; have := HK2.out; have := HJ39.out; have := HK4.out; have := HK5.out; have := HK6.out; omega
                             case rel => exact ⟨(wrap64 (x15_5 + 1)), (by first | rfl | (simp; done) | (simp [*]; done)), H', ⟨by have := HJ10.out; have := HK2.out; have := HJ39.out; have := HK4.out; have := HK5.out; have := HK6.out; omega⟩, ⟨by (try simp only [hl12_4]); (with_reducible repeat (first | apply Kd.R_alloc | apply Kd.R_drewN | apply Kd.R_drew)); exact HO_7.out⟩, ⟨by (try simp only [hl12_4]); (with_reducible repeat (first | apply Kd.R_alloc | apply Kd.R_drewN | apply Kd.R_drew)); exact HO_8.out⟩, ⟨by (try simp only [hl12_4]); (with_reducible repeat (first | apply Kd.R_alloc | apply Kd.R_drewN | apply Kd.R_drew)); exact HO_10.out⟩, ⟨by (try simp only [hl12_4]); (with_reducible repeat (first | apply Kd.R_alloc | apply Kd.R_drewN | apply Kd.R_drew)); exact HO_12.out⟩, ⟨by repeat (first | (with_reducible first | exact HB.out | apply below_alloc | apply pw_below_drewN | apply below_drew1) | exact HB.out)⟩⟩
                           ·rw [if_neg c92] at H
                            exact absurd H (by simp)
                          ·rw [if_neg c91] at H
                           exact absurd H (by simp)
                         ·rw [if_neg c90] at H
                          exact absurd H (by simp)
                        ·rw [if_neg c89] at H
                         exact absurd H (by simp)
                    ·rw [if_neg c59] at H
                     have c59b0 : decide (x15_5 < (t388.length : Int)) = false := decide_eq_false c59
                     try (have c59b0h12_4 := c59b0; simp only [hl12_4] at c59b0h12_4)
                     clear c59
                     have H' := Aside0.mk H
                     clear H
                     go_wp2
                     try go_simp
                     go_loopg [18] k5 (fun kq v18 w' => ∃ (x18_6 : Int), v18 = .int .i64 x18_6 ∧ Aside0 (withelaw3_ReachOrders.l4 kq t388 t391 x18_6 = some r) ∧ Aside0 (kq ≤ k5) ∧ Aside0 (Kd.R (Kd.int .u64) 23 w' w.heap.size (fun _ => True) (.slice Ao14 t388.length co14) t388) ∧ Aside0 (Kd.R (Kd.int .i64) 3 w' w.heap.size (fun _ => True) (.slice Ao58 t391.length co58) t391) ∧ Aside0 (Below w.heap.size w w'))
                     case atStart => exact ⟨(0), (by first | rfl | (simp; done) | (simp [*]; done)), H', ⟨Nat.le_refl _⟩, ⟨by (try simp only [hl12_4]); (with_reducible repeat (first | apply Kd.R_alloc | apply Kd.R_drewN | apply Kd.R_drew)); exact HO_7.out⟩, ⟨by (try simp only [hl12_4]); (with_reducible repeat (first | apply Kd.R_alloc | apply Kd.R_drewN | apply Kd.R_drew)); exact Kd.R_mono HO_8.out (fun _ hk => trivial)⟩, ⟨by repeat (first | (with_reducible first | exact HB.out | apply below_alloc | apply pw_below_drewN | apply below_drew1) | exact HB.out)⟩⟩
                     case round =>
                      as_aux_lemma =>
                      clear H'
                      try clear c2
                      try clear p2
                      try clear p4
                      try clear q4
                      try clear hx4
                      try clear c5
                      try clear c6
                      try clear p6
                      try clear c7
                      try clear c8
                      try clear c9
                      try clear c29
                      try clear p41
                      try clear q41
                      try clear hx41
                      try clear p42
                      try clear q42
                      try clear hx42
                      try clear c59
                      try clear c59b0
                      try clear c60
                      try clear c60b0
                      try clear c63
                      try clear c64
                      try clear p64
                      try clear c65
                      try clear c66
                      try clear c67
                      try clear c68
                      try clear c68b0
                      try clear c71
                      try clear c71b0
                      try clear c72
                      try clear c72b0
                      try clear c78
                      try clear c80
                      try clear c81
                      try clear c81b0
                      try clear c82
                      try clear c82b0
                      try clear c83
                      try clear c83b0
                      try clear c89
                      try clear c89b0
                      try clear c90
                      try clear c90b0
                      try clear c91
                      try clear c91b0
                      try clear c91b1
                      try clear c92
                      try clear c92b0
                      try clear c93
                      try clear c93b0
                      try clear hx411_0
                      try clear hx412_0
                      try clear hx413_0
                      try clear hx415_0
                      try clear hx416_0
                      try clear hx417_0
                      try clear hx418_0
                      try clear hx420_0
                      try clear hx421_0
                      try clear p2
                      try clear p4
                      try clear p41
                      try clear p411
                      try clear p412
                      try clear p413
                      try clear p415
                      try clear p416
                      try clear p417
                      try clear p418
                      try clear p420
                      try clear p421
                      try clear p6
                      try clear p64
                      try clear q4
                      try clear q41
                      try clear q411
                      try clear q412
                      try clear q413
                      try clear q415
                      try clear q416
                      try clear q417
                      try clear q418
                      try clear q420
                      try clear q421
                      obtain ⟨x18_6, rfl, HA, HK6, HO_7, HO_8, HB⟩ := hrel
                      cases gk with
                      | zero => exact absurd HA.out (by simp [withelaw3_ReachOrders.l4])
                      | succ k6 =>
                       have H := HA.out
                       clear HA
                       simp only [withelaw3_ReachOrders.l4] at H
                       by_cases c96 : (wrap64 (x18_6 + 1)) < (t391.length : Int)
                       ·rw [if_pos c96] at H
                        have c96b0 : decide ((wrap64 (x18_6 + 1)) < (t391.length : Int)) = true := decide_eq_true c96
                        try (have c96b0h12_4 := c96b0; simp only [hl12_4] at c96b0h12_4)
                        clear c96
                        by_cases c97 : 0 ≤ x18_6
                        ·rw [if_pos c97] at H
                         have c97b0 : decide (0 ≤ x18_6) = true := decide_eq_true c97
                         clear c97
                         by_cases c98 : x18_6 < (t391.length : Int)
                         ·rw [if_pos c98] at H
                          have c98b0 : decide (x18_6 < (t391.length : Int)) = true := decide_eq_true c98
                          try (have c98b0h12_4 := c98b0; simp only [hl12_4] at c98b0h12_4)
                          clear c98
                          obtain ⟨ji99, hji99⟩ : ∃ j_ : Int, (wrap64 (x18_6 + 1)) = j_ := ⟨_, rfl⟩
                          replace H : (if 0 ≤ (ji99) then (if (rd t391 x18_6) > (rd t391 (ji99)) then ((rel_Has.f k6 t388 (rd t391 x18_6) (rd t391 (ji99))).bind fun t426 => (if t426 = true then (withelaw3_ReachOrders.l4 k6 t388 t391 ji99) else (none))) else (withelaw3_ReachOrders.l4 k6 t388 t391 ji99)) else (none)) = some r := by first | (rw [hji99] at H; exact H) | (simp only [hji99] at H ⊢; exact H)
                          (try rw [hji99] at c96b0)
                          have hji99w : (IntKind.i64.wrap (x18_6 + 1)) = ji99 := (i64_w _).trans hji99
                          by_cases c100 : 0 ≤ (ji99)
                          ·rw [if_pos c100] at H
                           have c100b0 : decide (0 ≤ (ji99)) = true := decide_eq_true c100
                           clear c100
                           by_cases c101 : (rd t391 x18_6) > (rd t391 (ji99))
                           ·rw [if_pos c101] at H
                            have c101b0 : decide ((rd t391 (ji99)) < (rd t391 x18_6)) = true := decide_eq_true c101
                            clear c101
                            replace H := Option.bind_eq_some_iff.mp H
                            obtain ⟨t426, A1020, H⟩ := H
                            replace H : (if t426 = true then (withelaw3_ReachOrders.l4 k6 t388 t391 ji99) else (none)) = some r := H
                            have A102 := Aside0.mk A1020
                            clear A1020
                            by_cases c103 : t426 = true
                            ·subst c103
                             have H1 : (withelaw3_ReachOrders.l4 k6 t388 t391 ji99) = some r := by rw [if_pos rfl] at H; exact H
                             clear H
                             have H := H1
                             clear H1
                             have H' := Aside0.mk H
                             clear H
                             try go_wp2
                             have n0_ := Aside0.mk (Kd.R_drew HO_7.out)
                             have n1_ := Aside0.mk (Kd.R_drew HO_8.out)
                             have n2_ := Aside0.mk (below_drew1 HB.out)
                             clear HO_7
                             clear HO_8
                             clear HB
                             have HO_7 := n0_
                             have HO_8 := n1_
                             have HB := n2_
                             clear n0_ n1_ n2_
                             have p422 : 0 ≤ (x18_6 : Int) := of_decide_eq_true (by first | (with_reducible assumption) | assumption)
                             have q422 : x18_6 < (t391.length : Int) := of_decide_eq_true (by first | (with_reducible assumption) | assumption)
                             obtain ⟨ad422, e422, hx422_0⟩ := Kd.at_int (Kd.R_reads' HO_8.out).2.2 x18_6 p422 q422
                             cases e422
                             replace p422 := eq_true p422
                             replace q422 := eq_true q422
                             have p423 : 0 ≤ ((ji99) : Int) := of_decide_eq_true (by first | (with_reducible assumption) | assumption)
                             have q423 : (ji99) < (t391.length : Int) := of_decide_eq_true (by first | (with_reducible assumption) | assumption)
                             obtain ⟨ad423, e423, hx423_0⟩ := Kd.at_int (Kd.R_reads' HO_8.out).2.2 (ji99) p423 q423
                             obtain rfl : ad422 = ad423 := (by injection e423)
                             replace p423 := eq_true p423
                             replace q423 := eq_true q423
                             have p424 : 0 ≤ (x18_6 : Int) := of_decide_eq_true (by first | (with_reducible assumption) | assumption)
                             have q424 : x18_6 < (t391.length : Int) := of_decide_eq_true (by first | (with_reducible assumption) | assumption)
                             obtain ⟨ad424, e424, hx424_0⟩ := Kd.at_int (Kd.R_reads' HO_8.out).2.2 x18_6 p424 q424
                             obtain rfl : ad422 = ad424 := (by injection e424)
                             replace p424 := eq_true p424
                             replace q424 := eq_true q424
                             have p425 : 0 ≤ ((ji99) : Int) := of_decide_eq_true (by first | (with_reducible assumption) | assumption)
                             have q425 : (ji99) < (t391.length : Int) := of_decide_eq_true (by first | (with_reducible assumption) | assumption)
                             obtain ⟨ad425, e425, hx425_0⟩ := Kd.at_int (Kd.R_reads' HO_8.out).2.2 (ji99) p425 q425
                             obtain rfl : ad422 = ad425 := (by injection e425)
                             replace p425 := eq_true p425
                             replace q425 := eq_true q425
                             refine start_ (n := 24) (S := fun w' => w'.cell? (ad422.add (x18_6).toNat) = some (.int .i64 (rd t391 x18_6)) ∧ w'.cell? (ad422.add ((ji99)).toNat) = some (.int .i64 (rd t391 (ji99))) ∧ w'.cell? (ad422.add (x18_6).toNat) = some (.int .i64 (rd t391 x18_6)) ∧ w'.cell? (ad422.add ((ji99)).toNat) = some (.int .i64 (rd t391 (ji99)))) (ds := []) #[false, false, false, false, false, false, false, false, false, false, false, false, false, false, false, false, false, false, false, false, false, false, false, false] (by kernel_rfl) rfl rfl ⟨hx422_0, hx423_0, hx424_0, hx425_0⟩ (fun hHeld => ?_); refine with_tabW withelaw3_ReachOrders.tab41 withelaw3_ReachOrders.bits41 (fun HT_ HW_ => ?_)
                             generalize wr.drew = w104 at HO_7 HO_8 HB hx422_0 hx423_0 hx424_0 hx425_0 hHeld ⊢
                             refine pure_ (i := 0) (N := some 211) (v := ?_) (a' := ?_) #[true, false, false, false, false, false, false, false, false, false, false, false, false, false, false, false, false, false, false, false, false, false, false, false] rfl rfl (any_of HT_.out (by kernel_rfl)) (fun _ _ _ h => h) (Or.inl ⟨by rfl, ?_⟩) ?_ ?_
                             rotate_left
                             ·intro w'
                              go_simp
                              with_reducible rfl
                             rotate_left
                             ·simp only [Act.put, List.setIfInBounds_toArray, List.set_cons_zero, List.set_cons_succ, i64_w, i32_w]
                              rfl
                             refine pure_ (i := 1) (N := some 212) (v := ?_) (a' := ?_) #[true, true, false, false, false, false, false, false, false, false, false, false, false, false, false, false, false, false, false, false, false, false, false, false] rfl rfl (any_of HT_.out (by kernel_rfl)) (fun _ _ _ h => h) (Or.inl ⟨by rfl, ?_⟩) ?_ ?_
                             rotate_left
                             ·intro w'
                              go_simp
                              with_reducible rfl
                             rotate_left
                             ·simp only [Act.put, List.setIfInBounds_toArray, List.set_cons_zero, List.set_cons_succ, i64_w, i32_w]
                              rfl
                             refine pure_ (i := 2) (N := some 213) (v := ?_) (a' := ?_) #[true, true, true, false, false, false, false, false, false, false, false, false, false, false, false, false, false, false, false, false, false, false, false, false] rfl rfl (any_of HT_.out (by kernel_rfl)) (fun _ _ _ h => h) (Or.inl ⟨by rfl, ?_⟩) ?_ ?_
                             rotate_left
                             ·intro w'
                              go_simp
                              with_reducible rfl
                             rotate_left
                             ·simp only [Act.put, List.setIfInBounds_toArray, List.set_cons_zero, List.set_cons_succ, i64_w, i32_w]
                              rfl
                             refine pure_ (i := 4) (N := some 215) (v := ?_) (a' := ?_) #[true, true, true, false, true, false, false, false, false, false, false, false, false, false, false, false, false, false, false, false, false, false, false, false] rfl rfl (any_of HT_.out (by kernel_rfl)) (fun _ _ _ h => h) (Or.inl ⟨by rfl, ?_⟩) ?_ ?_
                             rotate_left
                             ·intro w'
                              go_simp
                              with_reducible rfl
                             rotate_left
                             ·simp only [Act.put, List.setIfInBounds_toArray, List.set_cons_zero, List.set_cons_succ, i64_w, i32_w]
                              rfl
                             refine pure_ (i := 5) (N := some 216) (v := ?_) (a' := ?_) #[true, true, true, false, true, true, false, false, false, false, false, false, false, false, false, false, false, false, false, false, false, false, false, false] rfl rfl (any_of HT_.out (by kernel_rfl)) (fun _ _ _ h => h) (Or.inl ⟨by rfl, ?_⟩) ?_ ?_
                             rotate_left
                             ·intro w'
                              go_simp
                              with_reducible rfl
                             rotate_left
                             ·simp only [Act.put, List.setIfInBounds_toArray, List.set_cons_zero, List.set_cons_succ, i64_w, i32_w]
                              rfl
                             refine pure_ (i := 6) (N := some 217) (v := ?_) (a' := ?_) #[true, true, true, false, true, true, true, false, false, false, false, false, false, false, false, false, false, false, false, false, false, false, false, false] rfl rfl (any_of HT_.out (by kernel_rfl)) (fun _ _ _ h => h) (Or.inl ⟨by rfl, ?_⟩) ?_ ?_
                             rotate_left
                             ·intro w'
                              go_simp
                              with_reducible rfl
                             rotate_left
                             ·simp only [Act.put, List.setIfInBounds_toArray, List.set_cons_zero, List.set_cons_succ, i64_w, i32_w]
                              rfl
                             refine pure_ (i := 7) (N := some 218) (v := ?_) (a' := ?_) #[true, true, true, false, true, true, true, true, false, false, false, false, false, false, false, false, false, false, false, false, false, false, false, false] rfl rfl (any_of HT_.out (by kernel_rfl)) (fun _ _ _ h => h) (Or.inl ⟨by rfl, ?_⟩) ?_ ?_
                             rotate_left
                             ·intro w'
                              go_simp
                              with_reducible rfl
                             rotate_left
                             ·simp only [Act.put, List.setIfInBounds_toArray, List.set_cons_zero, List.set_cons_succ, i64_w, i32_w]
                              rfl
                             refine take_ (i := 3) (N := some 214) (v := ?_) (a' := ?_) #[true, true, true, true, true, true, true, true, false, false, false, false, false, false, false, false, false, false, false, false, false, false, false, false] rfl rfl (take_ofW HT_.out HW_.out (by kernel_rfl)) (fun _ _ _ h => h) (Or.inl ⟨by rfl, ?_⟩) hHeld ?_ ?_
                             rotate_left
                             ·rintro w' ⟨s0, s1, s2, s3⟩
                              go_simp
                              with_reducible rfl
                             rotate_left
                             ·simp only [Act.put, List.setIfInBounds_toArray, List.set_cons_zero, List.set_cons_succ, i64_w, i32_w]
                              rfl
                             refine take_ (i := 8) (N := some 219) (v := ?_) (a' := ?_) #[true, true, true, true, true, true, true, true, true, false, false, false, false, false, false, false, false, false, false, false, false, false, false, false] rfl rfl (take_ofW HT_.out HW_.out (by kernel_rfl)) (fun _ _ _ h => h) (Or.inl ⟨by rfl, ?_⟩) hHeld ?_ ?_
                             rotate_left
                             ·rintro w' ⟨s0, s1, s2, s3⟩
                              go_simp
                              with_reducible rfl
                             rotate_left
                             ·simp only [Act.put, List.setIfInBounds_toArray, List.set_cons_zero, List.set_cons_succ, i64_w, i32_w]
                              rfl
                             refine pure_ (i := 9) (N := some 220) (v := ?_) (a' := ?_) #[true, true, true, true, true, true, true, true, true, true, false, false, false, false, false, false, false, false, false, false, false, false, false, false] rfl rfl (any_of HT_.out (by kernel_rfl)) (fun _ _ _ h => h) (Or.inl ⟨by rfl, ?_⟩) ?_ ?_
                             rotate_left
                             ·intro w'
                              go_simp
                              with_reducible rfl
                             rotate_left
                             ·simp only [Act.put, List.setIfInBounds_toArray, List.set_cons_zero, List.set_cons_succ, i64_w, i32_w]
                              rfl
                             refine pure_ (i := 10) (N := some 221) (v := ?_) (a' := ?_) #[true, true, true, true, true, true, true, true, true, true, true, false, false, false, false, false, false, false, false, false, false, false, false, false] rfl rfl (any_of HT_.out (by kernel_rfl)) (fun _ _ _ h => h) (Or.inl ⟨by rfl, ?_⟩) ?_ ?_
                             rotate_left
                             ·intro w'
                              go_simp
                              with_reducible rfl
                             rotate_left
                             ·simp only [Act.put, List.setIfInBounds_toArray, List.set_cons_zero, List.set_cons_succ, i64_w, i32_w]
                              rfl
                             refine pure_ (i := 11) (N := some 222) (v := ?_) (a' := ?_) #[true, true, true, true, true, true, true, true, true, true, true, true, false, false, false, false, false, false, false, false, false, false, false, false] rfl rfl (any_of HT_.out (by kernel_rfl)) (fun _ _ _ h => h) (Or.inl ⟨by rfl, ?_⟩) ?_ ?_
                             rotate_left
                             ·intro w'
                              go_simp
                              with_reducible rfl
                             rotate_left
                             ·simp only [Act.put, List.setIfInBounds_toArray, List.set_cons_zero, List.set_cons_succ, i64_w, i32_w]
                              rfl
                             refine pure_ (i := 12) (N := some 223) (v := ?_) (a' := ?_) #[true, true, true, true, true, true, true, true, true, true, true, true, true, false, false, false, false, false, false, false, false, false, false, false] rfl rfl (any_of HT_.out (by kernel_rfl)) (fun _ _ _ h => h) (Or.inl ⟨by rfl, ?_⟩) ?_ ?_
                             rotate_left
                             ·intro w'
                              go_simp
                              with_reducible rfl
                             rotate_left
                             ·simp only [Act.put, List.setIfInBounds_toArray, List.set_cons_zero, List.set_cons_succ, i64_w, i32_w]
                              rfl
                             refine pure_ (i := 13) (N := some 224) (v := ?_) (a' := ?_) #[true, true, true, true, true, true, true, true, true, true, true, true, true, true, false, false, false, false, false, false, false, false, false, false] rfl rfl (any_of HT_.out (by kernel_rfl)) (fun _ _ _ h => h) (Or.inl ⟨by rfl, ?_⟩) ?_ ?_
                             rotate_left
                             ·intro w'
                              go_simp
                              with_reducible rfl
                             rotate_left
                             ·simp only [Act.put, List.setIfInBounds_toArray, List.set_cons_zero, List.set_cons_succ, i64_w, i32_w]
                              rfl
                             refine pure_ (i := 14) (N := some 225) (v := ?_) (a' := ?_) #[true, true, true, true, true, true, true, true, true, true, true, true, true, true, true, false, false, false, false, false, false, false, false, false] rfl rfl (any_of HT_.out (by kernel_rfl)) (fun _ _ _ h => h) (Or.inl ⟨by rfl, ?_⟩) ?_ ?_
                             rotate_left
                             ·intro w'
                              go_simp
                              with_reducible rfl
                             rotate_left
                             ·simp only [Act.put, List.setIfInBounds_toArray, List.set_cons_zero, List.set_cons_succ, i64_w, i32_w]
                              rfl
                             refine pure_ (i := 16) (N := some 227) (v := ?_) (a' := ?_) #[true, true, true, true, true, true, true, true, true, true, true, true, true, true, true, false, true, false, false, false, false, false, false, false] rfl rfl (any_of HT_.out (by kernel_rfl)) (fun _ _ _ h => h) (Or.inl ⟨by rfl, ?_⟩) ?_ ?_
                             rotate_left
                             ·intro w'
                              go_simp
                              with_reducible rfl
                             rotate_left
                             ·simp only [Act.put, List.setIfInBounds_toArray, List.set_cons_zero, List.set_cons_succ, i64_w, i32_w]
                              rfl
                             refine pure_ (i := 17) (N := some 228) (v := ?_) (a' := ?_) #[true, true, true, true, true, true, true, true, true, true, true, true, true, true, true, false, true, true, false, false, false, false, false, false] rfl rfl (any_of HT_.out (by kernel_rfl)) (fun _ _ _ h => h) (Or.inl ⟨by rfl, ?_⟩) ?_ ?_
                             rotate_left
                             ·intro w'
                              go_simp
                              with_reducible rfl
                             rotate_left
                             ·simp only [Act.put, List.setIfInBounds_toArray, List.set_cons_zero, List.set_cons_succ, i64_w, i32_w]
                              rfl
                             refine pure_ (i := 18) (N := some 229) (v := ?_) (a' := ?_) #[true, true, true, true, true, true, true, true, true, true, true, true, true, true, true, false, true, true, true, false, false, false, false, false] rfl rfl (any_of HT_.out (by kernel_rfl)) (fun _ _ _ h => h) (Or.inl ⟨by rfl, ?_⟩) ?_ ?_
                             rotate_left
                             ·intro w'
                              go_simp
                              with_reducible rfl
                             rotate_left
                             ·simp only [Act.put, List.setIfInBounds_toArray, List.set_cons_zero, List.set_cons_succ, i64_w, i32_w]
                              rfl
                             refine pure_ (i := 19) (N := some 230) (v := ?_) (a' := ?_) #[true, true, true, true, true, true, true, true, true, true, true, true, true, true, true, false, true, true, true, true, false, false, false, false] rfl rfl (any_of HT_.out (by kernel_rfl)) (fun _ _ _ h => h) (Or.inl ⟨by rfl, ?_⟩) ?_ ?_
                             rotate_left
                             ·intro w'
                              go_simp
                              with_reducible rfl
                             rotate_left
                             ·simp only [Act.put, List.setIfInBounds_toArray, List.set_cons_zero, List.set_cons_succ, i64_w, i32_w]
                              rfl
                             refine take_ (i := 15) (N := some 226) (v := ?_) (a' := ?_) #[true, true, true, true, true, true, true, true, true, true, true, true, true, true, true, true, true, true, true, true, false, false, false, false] rfl rfl (take_ofW HT_.out HW_.out (by kernel_rfl)) (fun _ _ _ h => h) (Or.inl ⟨by rfl, ?_⟩) hHeld ?_ ?_
                             rotate_left
                             ·rintro w' ⟨s0, s1, s2, s3⟩
                              go_simp
                              with_reducible rfl
                             rotate_left
                             ·simp only [Act.put, List.setIfInBounds_toArray, List.set_cons_zero, List.set_cons_succ, i64_w, i32_w]
                              rfl
                             refine take_ (i := 20) (N := some 231) (v := ?_) (a' := ?_) #[true, true, true, true, true, true, true, true, true, true, true, true, true, true, true, true, true, true, true, true, true, false, false, false] rfl rfl (take_ofW HT_.out HW_.out (by kernel_rfl)) (fun _ _ _ h => h) (Or.inl ⟨by rfl, ?_⟩) hHeld ?_ ?_
                             rotate_left
                             ·rintro w' ⟨s0, s1, s2, s3⟩
                              go_simp
                              with_reducible rfl
                             rotate_left
                             ·simp only [Act.put, List.setIfInBounds_toArray, List.set_cons_zero, List.set_cons_succ, i64_w, i32_w]
                              rfl
                             refine one_ (i := 21) (N := some 232) #[true, true, true, true, true, true, true, true, true, true, true, true, true, true, true, true, true, true, true, true, true, true, false, false] rfl rfl (one_of HT_.out (by kernel_rfl)) (by decide) (fun K hK => ?_)
                             refine goes_ Tryd.func29 (by kernel_rfl) rfl #[.slice Ao14 t388.length co14, .int .i64 (rd t391 x18_6), .int .i64 (rd t391 (ji99))] (by rfl) rfl rfl (by (try simp only [List.map_toArray, List.map_cons, List.map_nil]); first | done | (simp only [hji99]; rfl) | rfl | (simp only [List.length_drop, List.length_take]; rfl)) ?_
                             with_reducible refine (rel_Has.calls k6 _ _ t388 (rd t391 x18_6) (rd t391 (ji99)) true _ ?side1 ?side2 A102.out).mono ?_
                             (case side1 => repeat (first | exact (Kd.R_reads' HO_7.out).2.2 | (with_reducible refine Kd.C_alloc ?_ _) | (with_reducible refine Kd.C_drewN ?_ _) | (with_reducible refine Kd.C_drew ?_)))
                             (case side2 => exact (Kd.R_reads' HO_7.out).2.1)
                             rintro e w105 ⟨rfl, hb⟩
                             have HS0_ := (hb.cell (World.block_lt_of_cell? _ _ (hHeld.1))).trans (hHeld.1)
                             have HS1_ := (hb.cell (World.block_lt_of_cell? _ _ (hHeld.2.1))).trans (hHeld.2.1)
                             have HS2_ := (hb.cell (World.block_lt_of_cell? _ _ (hHeld.2.2.1))).trans (hHeld.2.2.1)
                             have HS3_ := (hb.cell (World.block_lt_of_cell? _ _ (hHeld.2.2.2))).trans (hHeld.2.2.2)
                             refine ⟨_, rfl, ?_⟩
                             have n0_ := Aside0.mk (Kd.R_below (by (with_reducible repeat (first | apply Kd.R_alloc | apply Kd.R_drewN | apply Kd.R_drew)); exact HO_7.out) hb)
                             have n1_ := Aside0.mk (Kd.R_below (by (with_reducible repeat (first | apply Kd.R_alloc | apply Kd.R_drewN | apply Kd.R_drew)); exact HO_8.out) hb)
                             have n2_ := Aside0.mk (below_step (by repeat (first | (with_reducible first | exact HB.out | apply below_alloc | apply pw_below_drewN | apply below_drew1) | exact HB.out)) hb)
                             clear HO_7
                             clear HO_8
                             clear HB
                             have HO_7 := n0_
                             have HO_8 := n1_
                             have HB := n2_
                             clear n0_ n1_ n2_
                             (try clear hb)
                             (try clear hb2)
                             (try clear hk)
                             (try clear hi)
                             refine hK.out _ _ ⟨HS0_, HS1_, HS2_, HS3_⟩ (fun hHeld => ?_)
                             clear hK K
                             refine norm_ (a' := ?_) ?_ ?_
                             rotate_left
                             ·show Act.put _ (some 232) _ = _
                              simp only [Act.put, List.setIfInBounds_toArray, List.set_cons_zero, List.set_cons_succ, i64_w, i32_w]
                              rfl
                             refine pure_ (i := 22) (N := some 233) (v := ?_) (a' := ?_) #[true, true, true, true, true, true, true, true, true, true, true, true, true, true, true, true, true, true, true, true, true, true, true, false] rfl rfl (any_of HT_.out (by kernel_rfl)) (fun _ _ _ h => h) (Or.inl ⟨by rfl, ?_⟩) ?_ ?_
                             rotate_left
                             ·intro w'
                              go_simp
                              with_reducible rfl
                             rotate_left
                             ·simp only [Act.put, List.setIfInBounds_toArray, List.set_cons_zero, List.set_cons_succ, i64_w, i32_w]
                              rfl
                             refine pure_ (i := 23) (N := some 234) (v := ?_) (a' := ?_) #[true, true, true, true, true, true, true, true, true, true, true, true, true, true, true, true, true, true, true, true, true, true, true, true] rfl rfl (any_of HT_.out (by kernel_rfl)) (fun _ _ _ h => h) (Or.inl ⟨by rfl, ?_⟩) ?_ ?_
                             rotate_left
                             ·intro w'
                              go_simp
                              with_reducible rfl
                             rotate_left
                             ·simp only [Act.put, List.setIfInBounds_toArray, List.set_cons_zero, List.set_cons_succ, i64_w, i32_w]
                              rfl
                             refine done_ (done_of HT_.out (by kernel_rfl)) ?_
                             try go_wp2
                             go_roundg k6
                             case measure => have := HJ10.out; have := HK2.out; have := HJ39.out; have := HK4.out; have := HK5.out; have := HK6.out; omega
                             case rel => exact ⟨(ji99), (by first | rfl | (simp; done) | (simp only [← hji99] <;> (first | rfl | simp)) | (simp [*]; done)), H', ⟨by have := HJ10.out; have := HK2.out; have := HJ39.out; have := HK4.out; have := HK5.out; have := HK6.out; omega⟩, ⟨by (try simp only [hl12_4]); (with_reducible repeat (first | apply Kd.R_alloc | apply Kd.R_drewN | apply Kd.R_drew)); exact HO_7.out⟩, ⟨by (try simp only [hl12_4]); (with_reducible repeat (first | apply Kd.R_alloc | apply Kd.R_drewN | apply Kd.R_drew)); exact HO_8.out⟩, ⟨by repeat (first | (with_reducible first | exact HB.out | apply below_alloc | apply pw_below_drewN | apply below_drew1) | exact HB.out)⟩⟩
                            ·replace c103 := Bool.eq_false_iff.mpr c103
                             subst c103
                             have H1 : (none) = some r := by rw [if_neg (show ¬ (false = true) by decide)] at H; exact H
                             clear H
                             have H := H1
                             clear H1
                             exact absurd H (by simp)
                           ·rw [if_neg c101] at H
                            have c101b0 : decide ((rd t391 (ji99)) < (rd t391 x18_6)) = false := decide_eq_false c101
                            clear c101
                            have H' := Aside0.mk H
                            clear H
                            try go_wp2
                            have n0_ := Aside0.mk (Kd.R_drew HO_7.out)
                            have n1_ := Aside0.mk (Kd.R_drew HO_8.out)
                            have n2_ := Aside0.mk (below_drew1 HB.out)
                            clear HO_7
                            clear HO_8
                            clear HB
                            have HO_7 := n0_
                            have HO_8 := n1_
                            have HB := n2_
                            clear n0_ n1_ n2_
                            have p422 : 0 ≤ (x18_6 : Int) := of_decide_eq_true (by first | (with_reducible assumption) | assumption)
                            have q422 : x18_6 < (t391.length : Int) := of_decide_eq_true (by first | (with_reducible assumption) | assumption)
                            obtain ⟨ad422, e422, hx422_0⟩ := Kd.at_int (Kd.R_reads' HO_8.out).2.2 x18_6 p422 q422
                            cases e422
                            replace p422 := eq_true p422
                            replace q422 := eq_true q422
                            have p423 : 0 ≤ ((ji99) : Int) := of_decide_eq_true (by first | (with_reducible assumption) | assumption)
                            have q423 : (ji99) < (t391.length : Int) := of_decide_eq_true (by first | (with_reducible assumption) | assumption)
                            obtain ⟨ad423, e423, hx423_0⟩ := Kd.at_int (Kd.R_reads' HO_8.out).2.2 (ji99) p423 q423
                            obtain rfl : ad422 = ad423 := (by injection e423)
                            replace p423 := eq_true p423
                            replace q423 := eq_true q423
                            refine start_ (n := 24) (S := fun w' => w'.cell? (ad422.add (x18_6).toNat) = some (.int .i64 (rd t391 x18_6)) ∧ w'.cell? (ad422.add ((ji99)).toNat) = some (.int .i64 (rd t391 (ji99)))) (ds := []) #[false, false, false, false, false, false, false, false, false, false, false, false, false, false, false, false, false, false, false, false, false, false, false, false] (by kernel_rfl) rfl rfl ⟨hx422_0, hx423_0⟩ (fun hHeld => ?_); refine with_tabW withelaw3_ReachOrders.tab41 withelaw3_ReachOrders.bits41 (fun HT_ HW_ => ?_)
                            generalize wr.drew = w106 at HO_7 HO_8 HB hx422_0 hx423_0 hHeld ⊢
                            refine pure_ (i := 0) (N := some 211) (v := ?_) (a' := ?_) #[true, false, false, false, false, false, false, false, false, false, false, false, false, false, false, false, false, false, false, false, false, false, false, false] rfl rfl (any_of HT_.out (by kernel_rfl)) (fun _ _ _ h => h) (Or.inl ⟨by rfl, ?_⟩) ?_ ?_
                            rotate_left
                            ·intro w'
                             go_simp
                             with_reducible rfl
                            rotate_left
                            ·simp only [Act.put, List.setIfInBounds_toArray, List.set_cons_zero, List.set_cons_succ, i64_w, i32_w]
                             rfl
                            refine pure_ (i := 1) (N := some 212) (v := ?_) (a' := ?_) #[true, true, false, false, false, false, false, false, false, false, false, false, false, false, false, false, false, false, false, false, false, false, false, false] rfl rfl (any_of HT_.out (by kernel_rfl)) (fun _ _ _ h => h) (Or.inl ⟨by rfl, ?_⟩) ?_ ?_
                            rotate_left
                            ·intro w'
                             go_simp
                             with_reducible rfl
                            rotate_left
                            ·simp only [Act.put, List.setIfInBounds_toArray, List.set_cons_zero, List.set_cons_succ, i64_w, i32_w]
                             rfl
                            refine pure_ (i := 2) (N := some 213) (v := ?_) (a' := ?_) #[true, true, true, false, false, false, false, false, false, false, false, false, false, false, false, false, false, false, false, false, false, false, false, false] rfl rfl (any_of HT_.out (by kernel_rfl)) (fun _ _ _ h => h) (Or.inl ⟨by rfl, ?_⟩) ?_ ?_
                            rotate_left
                            ·intro w'
                             go_simp
                             with_reducible rfl
                            rotate_left
                            ·simp only [Act.put, List.setIfInBounds_toArray, List.set_cons_zero, List.set_cons_succ, i64_w, i32_w]
                             rfl
                            refine pure_ (i := 4) (N := some 215) (v := ?_) (a' := ?_) #[true, true, true, false, true, false, false, false, false, false, false, false, false, false, false, false, false, false, false, false, false, false, false, false] rfl rfl (any_of HT_.out (by kernel_rfl)) (fun _ _ _ h => h) (Or.inl ⟨by rfl, ?_⟩) ?_ ?_
                            rotate_left
                            ·intro w'
                             go_simp
                             with_reducible rfl
                            rotate_left
                            ·simp only [Act.put, List.setIfInBounds_toArray, List.set_cons_zero, List.set_cons_succ, i64_w, i32_w]
                             rfl
                            refine pure_ (i := 5) (N := some 216) (v := ?_) (a' := ?_) #[true, true, true, false, true, true, false, false, false, false, false, false, false, false, false, false, false, false, false, false, false, false, false, false] rfl rfl (any_of HT_.out (by kernel_rfl)) (fun _ _ _ h => h) (Or.inl ⟨by rfl, ?_⟩) ?_ ?_
                            rotate_left
                            ·intro w'
                             go_simp
                             with_reducible rfl
                            rotate_left
                            ·simp only [Act.put, List.setIfInBounds_toArray, List.set_cons_zero, List.set_cons_succ, i64_w, i32_w]
                             rfl
                            refine pure_ (i := 6) (N := some 217) (v := ?_) (a' := ?_) #[true, true, true, false, true, true, true, false, false, false, false, false, false, false, false, false, false, false, false, false, false, false, false, false] rfl rfl (any_of HT_.out (by kernel_rfl)) (fun _ _ _ h => h) (Or.inl ⟨by rfl, ?_⟩) ?_ ?_
                            rotate_left
                            ·intro w'
                             go_simp
                             with_reducible rfl
                            rotate_left
                            ·simp only [Act.put, List.setIfInBounds_toArray, List.set_cons_zero, List.set_cons_succ, i64_w, i32_w]
                             rfl
                            refine pure_ (i := 7) (N := some 218) (v := ?_) (a' := ?_) #[true, true, true, false, true, true, true, true, false, false, false, false, false, false, false, false, false, false, false, false, false, false, false, false] rfl rfl (any_of HT_.out (by kernel_rfl)) (fun _ _ _ h => h) (Or.inl ⟨by rfl, ?_⟩) ?_ ?_
                            rotate_left
                            ·intro w'
                             go_simp
                             with_reducible rfl
                            rotate_left
                            ·simp only [Act.put, List.setIfInBounds_toArray, List.set_cons_zero, List.set_cons_succ, i64_w, i32_w]
                             rfl
                            refine take_ (i := 3) (N := some 214) (v := ?_) (a' := ?_) #[true, true, true, true, true, true, true, true, false, false, false, false, false, false, false, false, false, false, false, false, false, false, false, false] rfl rfl (take_ofW HT_.out HW_.out (by kernel_rfl)) (fun _ _ _ h => h) (Or.inl ⟨by rfl, ?_⟩) hHeld ?_ ?_
                            rotate_left
                            ·rintro w' ⟨s0, s1⟩
                             go_simp
                             with_reducible rfl
                            rotate_left
                            ·simp only [Act.put, List.setIfInBounds_toArray, List.set_cons_zero, List.set_cons_succ, i64_w, i32_w]
                             rfl
                            refine take_ (i := 8) (N := some 219) (v := ?_) (a' := ?_) #[true, true, true, true, true, true, true, true, true, false, false, false, false, false, false, false, false, false, false, false, false, false, false, false] rfl rfl (take_ofW HT_.out HW_.out (by kernel_rfl)) (fun _ _ _ h => h) (Or.inl ⟨by rfl, ?_⟩) hHeld ?_ ?_
                            rotate_left
                            ·rintro w' ⟨s0, s1⟩
                             go_simp
                             with_reducible rfl
                            rotate_left
                            ·simp only [Act.put, List.setIfInBounds_toArray, List.set_cons_zero, List.set_cons_succ, i64_w, i32_w]
                             rfl
                            refine pure_ (i := 9) (N := some 220) (v := ?_) (a' := ?_) #[true, true, true, true, true, true, true, true, true, true, false, false, false, false, false, false, false, false, false, false, false, false, false, false] rfl rfl (any_of HT_.out (by kernel_rfl)) (fun _ _ _ h => h) (Or.inl ⟨by rfl, ?_⟩) ?_ ?_
                            rotate_left
                            ·intro w'
                             go_simp
                             with_reducible rfl
                            rotate_left
                            ·simp only [Act.put, List.setIfInBounds_toArray, List.set_cons_zero, List.set_cons_succ, i64_w, i32_w]
                             rfl
                            refine pure_ (i := 10) (N := some 221) (v := ?_) (a' := ?_) #[true, true, true, true, true, true, true, true, true, true, true, false, false, false, false, false, false, false, false, false, false, false, false, false] rfl rfl (any_of HT_.out (by kernel_rfl)) (fun _ _ _ h => h) (Or.inl ⟨by rfl, ?_⟩) ?_ ?_
                            rotate_left
                            ·intro w'
                             go_simp
                             with_reducible rfl
                            rotate_left
                            ·simp only [Act.put, List.setIfInBounds_toArray, List.set_cons_zero, List.set_cons_succ, i64_w, i32_w]
                             rfl
                            refine pure_ (i := 11) (N := some 222) (v := undef) (a' := ?_) #[true, true, true, true, true, true, true, true, true, true, true, true, false, false, false, false, false, false, false, false, false, false, false, false] rfl rfl (any_of HT_.out (by kernel_rfl)) (fun _ _ _ h => h) (Or.inr ⟨by rfl, rfl⟩) ?_ ?_
                            rotate_left
                            ·simp only [Act.put, List.setIfInBounds_toArray, List.set_cons_zero, List.set_cons_succ, i64_w, i32_w]
                             rfl
                            refine pure_ (i := 12) (N := some 223) (v := undef) (a' := ?_) #[true, true, true, true, true, true, true, true, true, true, true, true, true, false, false, false, false, false, false, false, false, false, false, false] rfl rfl (any_of HT_.out (by kernel_rfl)) (fun _ _ _ h => h) (Or.inr ⟨by rfl, rfl⟩) ?_ ?_
                            rotate_left
                            ·simp only [Act.put, List.setIfInBounds_toArray, List.set_cons_zero, List.set_cons_succ, i64_w, i32_w]
                             rfl
                            refine pure_ (i := 13) (N := some 224) (v := undef) (a' := ?_) #[true, true, true, true, true, true, true, true, true, true, true, true, true, true, false, false, false, false, false, false, false, false, false, false] rfl rfl (any_of HT_.out (by kernel_rfl)) (fun _ _ _ h => h) (Or.inr ⟨by rfl, rfl⟩) ?_ ?_
                            rotate_left
                            ·simp only [Act.put, List.setIfInBounds_toArray, List.set_cons_zero, List.set_cons_succ, i64_w, i32_w]
                             rfl
                            refine pure_ (i := 14) (N := some 225) (v := undef) (a' := ?_) #[true, true, true, true, true, true, true, true, true, true, true, true, true, true, true, false, false, false, false, false, false, false, false, false] rfl rfl (any_of HT_.out (by kernel_rfl)) (fun _ _ _ h => h) (Or.inr ⟨by rfl, rfl⟩) ?_ ?_
                            rotate_left
                            ·simp only [Act.put, List.setIfInBounds_toArray, List.set_cons_zero, List.set_cons_succ, i64_w, i32_w]
                             rfl
                            refine pure_ (i := 15) (N := some 226) (v := undef) (a' := ?_) #[true, true, true, true, true, true, true, true, true, true, true, true, true, true, true, true, false, false, false, false, false, false, false, false] rfl rfl (any_of HT_.out (by kernel_rfl)) (fun _ _ _ h => h) (Or.inr ⟨by rfl, rfl⟩) ?_ ?_
                            rotate_left
                            ·simp only [Act.put, List.setIfInBounds_toArray, List.set_cons_zero, List.set_cons_succ, i64_w, i32_w]
                             rfl
                            refine pure_ (i := 16) (N := some 227) (v := undef) (a' := ?_) #[true, true, true, true, true, true, true, true, true, true, true, true, true, true, true, true, true, false, false, false, false, false, false, false] rfl rfl (any_of HT_.out (by kernel_rfl)) (fun _ _ _ h => h) (Or.inr ⟨by rfl, rfl⟩) ?_ ?_
                            rotate_left
                            ·simp only [Act.put, List.setIfInBounds_toArray, List.set_cons_zero, List.set_cons_succ, i64_w, i32_w]
                             rfl
                            refine pure_ (i := 17) (N := some 228) (v := undef) (a' := ?_) #[true, true, true, true, true, true, true, true, true, true, true, true, true, true, true, true, true, true, false, false, false, false, false, false] rfl rfl (any_of HT_.out (by kernel_rfl)) (fun _ _ _ h => h) (Or.inr ⟨by rfl, rfl⟩) ?_ ?_
                            rotate_left
                            ·simp only [Act.put, List.setIfInBounds_toArray, List.set_cons_zero, List.set_cons_succ, i64_w, i32_w]
                             rfl
                            refine pure_ (i := 18) (N := some 229) (v := undef) (a' := ?_) #[true, true, true, true, true, true, true, true, true, true, true, true, true, true, true, true, true, true, true, false, false, false, false, false] rfl rfl (any_of HT_.out (by kernel_rfl)) (fun _ _ _ h => h) (Or.inr ⟨by rfl, rfl⟩) ?_ ?_
                            rotate_left
                            ·simp only [Act.put, List.setIfInBounds_toArray, List.set_cons_zero, List.set_cons_succ, i64_w, i32_w]
                             rfl
                            refine pure_ (i := 19) (N := some 230) (v := undef) (a' := ?_) #[true, true, true, true, true, true, true, true, true, true, true, true, true, true, true, true, true, true, true, true, false, false, false, false] rfl rfl (any_of HT_.out (by kernel_rfl)) (fun _ _ _ h => h) (Or.inr ⟨by rfl, rfl⟩) ?_ ?_
                            rotate_left
                            ·simp only [Act.put, List.setIfInBounds_toArray, List.set_cons_zero, List.set_cons_succ, i64_w, i32_w]
                             rfl
                            refine pure_ (i := 20) (N := some 231) (v := undef) (a' := ?_) #[true, true, true, true, true, true, true, true, true, true, true, true, true, true, true, true, true, true, true, true, true, false, false, false] rfl rfl (any_of HT_.out (by kernel_rfl)) (fun _ _ _ h => h) (Or.inr ⟨by rfl, rfl⟩) ?_ ?_
                            rotate_left
                            ·simp only [Act.put, List.setIfInBounds_toArray, List.set_cons_zero, List.set_cons_succ, i64_w, i32_w]
                             rfl
                            refine pure_ (i := 21) (N := some 232) (v := undef) (a' := ?_) #[true, true, true, true, true, true, true, true, true, true, true, true, true, true, true, true, true, true, true, true, true, true, false, false] rfl rfl (any_of HT_.out (by kernel_rfl)) (fun _ _ _ h => h) (Or.inr ⟨by rfl, rfl⟩) ?_ ?_
                            rotate_left
                            ·simp only [Act.put, List.setIfInBounds_toArray, List.set_cons_zero, List.set_cons_succ, i64_w, i32_w]
                             rfl
                            refine pure_ (i := 22) (N := some 233) (v := undef) (a' := ?_) #[true, true, true, true, true, true, true, true, true, true, true, true, true, true, true, true, true, true, true, true, true, true, true, false] rfl rfl (any_of HT_.out (by kernel_rfl)) (fun _ _ _ h => h) (Or.inr ⟨by rfl, rfl⟩) ?_ ?_
                            rotate_left
                            ·simp only [Act.put, List.setIfInBounds_toArray, List.set_cons_zero, List.set_cons_succ, i64_w, i32_w]
                             rfl
                            refine pure_ (i := 23) (N := some 234) (v := ?_) (a' := ?_) #[true, true, true, true, true, true, true, true, true, true, true, true, true, true, true, true, true, true, true, true, true, true, true, true] rfl rfl (any_of HT_.out (by kernel_rfl)) (fun _ _ _ h => h) (Or.inl ⟨by rfl, ?_⟩) ?_ ?_
                            rotate_left
                            ·intro w'
                             go_simp
                             with_reducible rfl
                            rotate_left
                            ·simp only [Act.put, List.setIfInBounds_toArray, List.set_cons_zero, List.set_cons_succ, i64_w, i32_w]
                             rfl
                            refine done_ (done_of HT_.out (by kernel_rfl)) ?_
                            try go_wp2
                            go_roundg k6
                            case measure => have := HJ10.out; have := HK2.out; have := HJ39.out; have := HK4.out; have := HK5.out; have := HK6.out; omega
                            case rel => exact ⟨(ji99), (by first | rfl | (simp; done) | (simp only [← hji99] <;> (first | rfl | simp)) | (simp [*]; done)), H', ⟨by have := HJ10.out; have := HK2.out; have := HJ39.out; have := HK4.out; have := HK5.out; have := HK6.out; omega⟩, ⟨by (try simp only [hl12_4]); (with_reducible repeat (first | apply Kd.R_alloc | apply Kd.R_drewN | apply Kd.R_drew)); exact HO_7.out⟩, ⟨by (try simp only [hl12_4]); (with_reducible repeat (first | apply Kd.R_alloc | apply Kd.R_drewN | apply Kd.R_drew)); exact HO_8.out⟩, ⟨by repeat (first | (with_reducible first | exact HB.out | apply below_alloc | apply pw_below_drewN | apply below_drew1) | exact HB.out)⟩⟩
                          ·rw [if_neg c100] at H
                           exact absurd H (by simp)
                         ·rw [if_neg c98] at H
                          exact absurd H (by simp)
                        ·rw [if_neg c97] at H
                         exact absurd H (by simp)
                       ·rw [if_neg c96] at H
                        have c96b0 : decide ((wrap64 (x18_6 + 1)) < (t391.length : Int)) = false := decide_eq_false c96
                        try (have c96b0h12_4 := c96b0; simp only [hl12_4] at c96b0h12_4)
                        clear c96
                        obtain rfl := Option.some.inj H
                        go_wp2
                        go_ret
                        exact ⟨by first | rfl | (simp [errW_none, errW_some] <;> rfl) | (simp [*, errW_none, errW_some] <;> rfl), by repeat (first | (with_reducible first | exact HB.out | apply below_alloc | apply pw_below_drewN | apply below_drew1) | exact HB.out)⟩
        ·rw [if_neg c31] at H
         exact absurd H (by simp)
       ·rw [if_neg c30] at H
        exact absurd H (by simp)
      ·replace c29 := Bool.eq_false_iff.mpr c29
       subst c29
       have H1 : (if (t391.length : Int) = 0 then (some ((t395.length : Int) == 0)) else (none)) = some r := by rw [if_neg (show ¬ (false = true) by decide)] at H; exact H
       clear H
       have H := H1
       clear H1
       by_cases c107 : (t391.length : Int) = 0
       ·rw [if_pos c107] at H
        have c107b0 : ((t391.length : Int) == 0) = true := beq_iff_eq.mpr c107
        try (have c107b0h12_4 := c107b0; simp only [hl12_4] at c107b0h12_4)
        have c107b1 : ((t391.length : Int) != 0) = false := bne_eq_false_iff_eq.mpr c107
        try (have c107b1h12_4 := c107b1; simp only [hl12_4] at c107b1h12_4)
        clear c107
        obtain rfl := Option.some.inj H
        obtain ⟨Ao108, co108, eo108⟩ := Kd.R_slice HO_8.out
        subst eo108
        obtain ⟨Ao109, co109, eo109⟩ := Kd.R_slice HO_10.out
        subst eo109
        go_wp2
        go_ret
        exact ⟨by first | rfl | (simp [errW_none, errW_some] <;> rfl) | (simp [*, errW_none, errW_some] <;> rfl), by repeat (first | (with_reducible first | exact HB.out | apply below_alloc | apply pw_below_drewN | apply below_drew1) | exact HB.out)⟩
       ·rw [if_neg c107] at H
        exact absurd H (by simp)
 ·replace c5 := Bool.eq_false_iff.mpr c5
  subst c5
  have H1 : (none) = some r := by rw [if_neg (show ¬ (false = true) by decide)] at H; exact H
  clear H
  have H := H1
  clear H1
  exact absurd H (by simp)

/-- THE ONE PURE STATEMENT of withelaw3_ReachOrders: yours. -/
def withelaw3_ReachOrders.Pure : Prop := ∀ (l0 : List Int) (a1 : Int) (a2 : Bool), l0.length ≤ maxLen → l0.length * 1 ≤ 140737488351232 → (∀ x ∈ l0, (Lit.int .u8 x).wf = true) → (Lit.int .u8 a1).wf = true → ∃ k, withelaw3_ReachOrders.f k l0 a1 a2 = some true
theorem withelaw3_ReachOrders.walk (P : withelaw3_ReachOrders.Pure) (a0 : Option Addr) (len0 cap0 : Nat) (z0 : List Int) (a1 : Int) (a2 : Bool) (w : World) (hG : GOk w) (w0 : (a0 = none ∧ len0 = 0 ∧ cap0 = 0 ∧ z0 = []) ∨ ∃ x, a0 = some x ∧ len0 ≤ cap0 ∧ cap0 ≤ maxLen ∧ z0.length = cap0 ∧ (∀ i, i < z0.length → w.cell? (x.add i) = some (.int .u8 (z0.getD i 0))) ∧ ∀ n ∈ z0, (Lit.int .u8 n).wf = true) (y0 : len0 * 1 ≤ 140737488351232) (w1 : (Lit.int .u8 a1).wf = true) :
 Calls Tryd.prog 5 #[.slice a0 len0 cap0, .int .u8 a1, .bool a2] w fun e w' => e = .returned (.bool true) ∧ Below w.heap.size w w' := by
 obtain ⟨l0, rfl, hr0, hm0, hw0, hc0⟩ := ReadsInt.ofRowC w0
 have HG := Aside0.mk hG
 obtain ⟨k, h⟩ := P l0 a1 a2 hm0 y0 hw0 w1
 refine (withelaw3_ReachOrders.calls k _ _ l0 a1 a2 true w (Kd.C_of_reads (d := (0 : Int)) (h1 := fun _ => rfl) hr0) hc0 h).mono ?_
 rintro e w' ⟨rfl, hd⟩
 exact ⟨rfl, hd⟩

end Go.Proofs.YtniimgbkbghbkaaDoor.PH
