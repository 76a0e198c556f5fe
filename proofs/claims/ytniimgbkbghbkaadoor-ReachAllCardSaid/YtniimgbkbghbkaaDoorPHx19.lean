-- made by fvprint.py over the kit's print
import Derived.Test.YtniimgbkbghbkaaDoorPHx0
import Derived.Test.YtniimgbkbghbkaaDoorPHx1
import Derived.Test.YtniimgbkbghbkaaDoorPHx3
import Derived.Test.YtniimgbkbghbkaaDoorPHx6
import Derived.Test.YtniimgbkbghbkaaDoorPHx7
import Derived.Test.YtniimgbkbghbkaaDoorPHx8
import Derived.Test.YtniimgbkbghbkaaDoorPHx9
import Derived.Test.YtniimgbkbghbkaaDoorPHx11
import Derived.Test.YtniimgbkbghbkaaDoorPHx12
import Derived.Test.YtniimgbkbghbkaaDoorPHx13
import Derived.Test.YtniimgbkbghbkaaDoorPHx14
import Derived.Test.YtniimgbkbghbkaaDoorPHx15
import Derived.Test.YtniimgbkbghbkaaDoorPHx16
import Derived.Test.YtniimgbkbghbkaaDoorPHx17
import Derived.Test.YtniimgbkbghbkaaDoorPHx18
namespace Go.Proofs.YtniimgbkbghbkaaDoor.PH
open Go.RowKit Go.Proofs.YtniimgbkbghbkaaDoorW.PrintWords Go.Proofs.YtniimgbkbghbkaaDoorW.PrintLast Go.Proofs.YtniimgbkbghbkaaDoorW.PrintMore
attribute [local go_sem] max2_int min2_int max_two min_two max_three min_three max_four min_four   -- for this text's walks alone
set_option linter.unusedVariables false
set_option linter.unusedSimpArgs false

attribute [local go_sem] cell_set_some
/-! ### withelaw3_ReachAll: function 3 -/
mutual
def withelaw3_ReachAll.j0 : Nat → Int → List Int → List Int → Bool → Option (Bool)
  | 0, _, _, _, _ => none
  | k + 1, x3, x9, x10, x89 => if x89 = true then (none) else (withelaw3_ReachAll.l0 k x3 x9 x10 true 0 0 0)
def withelaw3_ReachAll.l0 : Nat → Int → List Int → List Int → Bool → Int → Int → Int → Option (Bool)
  | 0, _, _, _, _, _, _, _ => none
  | k + 1, x3, x9, x10, x19, x20, x21, x22 => if x22 < (x9.length : Int) then (if 0 ≤ x22 then (if x22 < (x10.length : Int) then ((witheref1_Put.f k (rd x10 x22) x22).bind fun t347 => (withelaw3_ReachAll.l0 k x3 x9 (x10.set (x22 : Int).toNat t347) x19 x20 x21 (wrap64 (x22 + 1)))) else (none)) else (none)) else (withelaw3_ReachAll.l1 k x3 x9 x10 x19 x20 x21 0)
def withelaw3_ReachAll.l1 : Nat → Int → List Int → List Int → Bool → Int → Int → Int → Option (Bool)
  | 0, _, _, _, _, _, _, _ => none
  | k + 1, x3, x9, x10, x19, x20, x21, x23 => if x23 < (x9.length : Int) then (withelaw3_ReachAll.l2 k x3 x9 x10 x19 x20 x21 x23 0) else ((reach_Star.f k x9).bind fun t359 => ((witheref1_SameRel.f k t359 x10).bind fun t362 => (if t362 = true then ((reach_Total.f k x9 x3).bind fun t363 => (if (t363 == x19) = true then ((reach_Down.f k x9 x3).bind fun t364 => (if t364 = x20 then ((reach_Up.f k x9 x3).bind fun t365 => (some (t365 == x21))) else (none))) else (none))) else (none))))
def withelaw3_ReachAll.l2 : Nat → Int → List Int → List Int → Bool → Int → Int → Int → Int → Option (Bool)
  | 0, _, _, _, _, _, _, _, _ => none
  | k + 1, x3, x9, x10, x19, x20, x21, x23, x24 => if x24 < (x9.length : Int) then (if x23 = x24 then (withelaw3_ReachAll.j4 k x3 x9 x10 x19 x20 x21 x23 x24 false) else ((witheref1_Has.f x3 x23).bind fun t349 => (if t349 = true then ((witheref1_Has.f x3 x24).bind fun t350 => (if t350 = true then ((witheref1_At.f x9 x23 x24).bind fun t351 => (if t351 = true then (withelaw3_ReachAll.j4 k x3 x9 x10 x19 x20 x21 x23 x24 false) else ((witheref1_At.f x9 x24 x23).bind fun t352 => (withelaw3_ReachAll.j4 k x3 x9 x10 x19 x20 x21 x23 x24 (!t352))))) else (withelaw3_ReachAll.j4 k x3 x9 x10 x19 x20 x21 x23 x24 false))) else (withelaw3_ReachAll.j4 k x3 x9 x10 x19 x20 x21 x23 x24 false)))) else (withelaw3_ReachAll.l1 k x3 x9 x10 x19 x20 x21 (wrap64 (x23 + 1)))
def withelaw3_ReachAll.j4 : Nat → Int → List Int → List Int → Bool → Int → Int → Int → Int → Bool → Option (Bool)
  | 0, _, _, _, _, _, _, _, _, _ => none
  | k + 1, x3, x9, x10, x19, x20, x21, x23, x24, x143 => if x143 = true then (withelaw3_ReachAll.j5 k x3 x9 x10 false x20 x21 x23 x24) else (withelaw3_ReachAll.j5 k x3 x9 x10 x19 x20 x21 x23 x24)
def withelaw3_ReachAll.j5 : Nat → Int → List Int → List Int → Bool → Int → Int → Int → Int → Option (Bool)
  | 0, _, _, _, _, _, _, _, _ => none
  | k + 1, x3, x9, x10, x19, x20, x21, x23, x24 => (witheref1_At.f x10 x23 x24).bind fun t353 => (if t353 = true then ((witheref1_Has.f x3 x24).bind fun t354 => (withelaw3_ReachAll.j6 k x3 x9 x10 x19 x20 x21 x23 x24 t354)) else (withelaw3_ReachAll.j6 k x3 x9 x10 x19 x20 x21 x23 x24 false))
def withelaw3_ReachAll.j6 : Nat → Int → List Int → List Int → Bool → Int → Int → Int → Int → Bool → Option (Bool)
  | 0, _, _, _, _, _, _, _, _, _ => none
  | k + 1, x3, x9, x10, x19, x20, x21, x23, x24, x152 => if x152 = true then ((witheref1_Put.f k x20 x23).bind fun t355 => (withelaw3_ReachAll.j7 k x3 x9 x10 x19 t355 x21 x23 x24)) else (withelaw3_ReachAll.j7 k x3 x9 x10 x19 x20 x21 x23 x24)
def withelaw3_ReachAll.j7 : Nat → Int → List Int → List Int → Bool → Int → Int → Int → Int → Option (Bool)
  | 0, _, _, _, _, _, _, _, _ => none
  | k + 1, x3, x9, x10, x19, x20, x21, x23, x24 => (witheref1_At.f x10 x23 x24).bind fun t356 => (if t356 = true then ((witheref1_Has.f x3 x23).bind fun t357 => (if t357 = true then ((witheref1_Put.f k x21 x24).bind fun t358 => (withelaw3_ReachAll.l2 k x3 x9 x10 x19 x20 t358 x23 (wrap64 (x24 + 1)))) else (withelaw3_ReachAll.l2 k x3 x9 x10 x19 x20 x21 x23 (wrap64 (x24 + 1))))) else (withelaw3_ReachAll.l2 k x3 x9 x10 x19 x20 x21 x23 (wrap64 (x24 + 1))))
end
def withelaw3_ReachAll.f (k : Nat) (l0 : List Int) (a1 : Int) (a2 : Bool) (a3 : Int) : Option (Bool) := (withelaw3_begun.f k).bind fun t315 => (if t315 = true then (if (l0.length : Int) > 60 then (some true) else ((withelaw3_some.f k l0 a1 a2).bind fun t316 => ((witheref1_Plus.f k t316).bind fun t319 => ((withelaw3_order.f k t316).bind fun bt322 => ((reach_Order.f k t316).bind fun bt326 => ((withelaw3_deep.f k t316).bind fun bt330 => ((reach_Deep.f k t316).bind fun bt334 => ((reach_Plus.f k t316).bind fun t338 => ((witheref1_SameRel.f k t338 t319).bind fun t341 => (if t341 = true then ((reach_Acyclic.f k t316).bind fun t342 => ((witheref1_Acyclic.f k t316).bind fun t343 => (if (t342 != t343) = true then (withelaw3_ReachAll.j0 k a3 t316 t319 true) else (if (bt322.2 != bt326.2) = true then (withelaw3_ReachAll.j0 k a3 t316 t319 true) else ((witheref1_SameInts.f k bt322.1 bt326.1).bind fun t344 => (if t344 = true then (if (bt330.2 != bt334.2) = true then (withelaw3_ReachAll.j0 k a3 t316 t319 true) else ((witheref1_SameInts.f k bt330.1 bt334.1).bind fun t345 => (withelaw3_ReachAll.j0 k a3 t316 t319 (!t345)))) else (withelaw3_ReachAll.j0 k a3 t316 t319 true))))))) else (withelaw3_ReachAll.j0 k a3 t316 t319 true))))))))))) else (none))
theorem withelaw3_ReachAll.mono_l : ∀ k, (∀ y0 y1 y2 y3, LeO (withelaw3_ReachAll.j0 k y0 y1 y2 y3) (withelaw3_ReachAll.j0 (k + 1) y0 y1 y2 y3)) ∧ (∀ y0 y1 y2 y3 y4 y5 y6, LeO (withelaw3_ReachAll.l0 k y0 y1 y2 y3 y4 y5 y6) (withelaw3_ReachAll.l0 (k + 1) y0 y1 y2 y3 y4 y5 y6)) ∧ (∀ y0 y1 y2 y3 y4 y5 y6, LeO (withelaw3_ReachAll.l1 k y0 y1 y2 y3 y4 y5 y6) (withelaw3_ReachAll.l1 (k + 1) y0 y1 y2 y3 y4 y5 y6)) ∧ (∀ y0 y1 y2 y3 y4 y5 y6 y7, LeO (withelaw3_ReachAll.l2 k y0 y1 y2 y3 y4 y5 y6 y7) (withelaw3_ReachAll.l2 (k + 1) y0 y1 y2 y3 y4 y5 y6 y7)) ∧ (∀ y0 y1 y2 y3 y4 y5 y6 y7 y8, LeO (withelaw3_ReachAll.j4 k y0 y1 y2 y3 y4 y5 y6 y7 y8) (withelaw3_ReachAll.j4 (k + 1) y0 y1 y2 y3 y4 y5 y6 y7 y8)) ∧ (∀ y0 y1 y2 y3 y4 y5 y6 y7, LeO (withelaw3_ReachAll.j5 k y0 y1 y2 y3 y4 y5 y6 y7) (withelaw3_ReachAll.j5 (k + 1) y0 y1 y2 y3 y4 y5 y6 y7)) ∧ (∀ y0 y1 y2 y3 y4 y5 y6 y7 y8, LeO (withelaw3_ReachAll.j6 k y0 y1 y2 y3 y4 y5 y6 y7 y8) (withelaw3_ReachAll.j6 (k + 1) y0 y1 y2 y3 y4 y5 y6 y7 y8)) ∧ (∀ y0 y1 y2 y3 y4 y5 y6 y7, LeO (withelaw3_ReachAll.j7 k y0 y1 y2 y3 y4 y5 y6 y7) (withelaw3_ReachAll.j7 (k + 1) y0 y1 y2 y3 y4 y5 y6 y7))
  | 0 => ⟨fun _ _ _ _ r h => by simp [withelaw3_ReachAll.j0] at h, fun _ _ _ _ _ _ _ r h => by simp [withelaw3_ReachAll.l0] at h, fun _ _ _ _ _ _ _ r h => by simp [withelaw3_ReachAll.l1] at h, fun _ _ _ _ _ _ _ _ r h => by simp [withelaw3_ReachAll.l2] at h, fun _ _ _ _ _ _ _ _ _ r h => by simp [withelaw3_ReachAll.j4] at h, fun _ _ _ _ _ _ _ _ r h => by simp [withelaw3_ReachAll.j5] at h, fun _ _ _ _ _ _ _ _ _ r h => by simp [withelaw3_ReachAll.j6] at h, fun _ _ _ _ _ _ _ _ r h => by simp [withelaw3_ReachAll.j7] at h⟩
  | k + 1 => by
    obtain ⟨ih0, ih1, ih2, ih3, ih4, ih5, ih6, ih7⟩ := withelaw3_ReachAll.mono_l k
    refine ⟨?_, ?_, ?_, ?_, ?_, ?_, ?_, ?_⟩
    · intro y0 y1 y2 y3
      unfold withelaw3_ReachAll.j0
      repeat' first
      | (with_reducible exact ih0 _ _ _ _)
      | (with_reducible exact ih1 _ _ _ _ _ _ _)
      | (with_reducible exact ih2 _ _ _ _ _ _ _)
      | (with_reducible exact ih3 _ _ _ _ _ _ _ _)
      | (with_reducible exact ih4 _ _ _ _ _ _ _ _ _)
      | (with_reducible exact ih5 _ _ _ _ _ _ _ _)
      | (with_reducible exact ih6 _ _ _ _ _ _ _ _ _)
      | (with_reducible exact ih7 _ _ _ _ _ _ _ _)
      | (with_reducible exact reach_Acyclic.mono _ _)
      | (with_reducible exact reach_Deep.mono _ _)
      | (with_reducible exact reach_Down.mono _ _ _)
      | (with_reducible exact reach_Order.mono _ _)
      | (with_reducible exact reach_Plus.mono _ _)
      | (with_reducible exact reach_Star.mono _ _)
      | (with_reducible exact reach_Total.mono _ _ _)
      | (with_reducible exact reach_Up.mono _ _ _)
      | (with_reducible exact withelaw3_begun.mono _)
      | (with_reducible exact withelaw3_deep.mono _ _)
      | (with_reducible exact withelaw3_order.mono _ _)
      | (with_reducible exact withelaw3_some.mono _ _ _ _)
      | (with_reducible exact witheref1_Acyclic.mono _ _)
      | (with_reducible exact witheref1_Plus.mono _ _)
      | (with_reducible exact witheref1_Put.mono _ _ _)
      | (with_reducible exact witheref1_SameInts.mono _ _ _)
      | (with_reducible exact witheref1_SameRel.mono _ _ _)
      | (with_reducible exact LeO.refl _)
      | (with_reducible exact LeO.none _)
      | (with_reducible refine LeO.ite ?_ ?_)
      | (with_reducible refine LeO.bind ?_ (fun _ => ?_))
      | exact ih0 _ _ _ _
      | exact ih1 _ _ _ _ _ _ _
      | exact ih2 _ _ _ _ _ _ _
      | exact ih3 _ _ _ _ _ _ _ _
      | exact ih4 _ _ _ _ _ _ _ _ _
      | exact ih5 _ _ _ _ _ _ _ _
      | exact ih6 _ _ _ _ _ _ _ _ _
      | exact ih7 _ _ _ _ _ _ _ _
      | exact reach_Acyclic.mono _ _
      | exact reach_Deep.mono _ _
      | exact reach_Down.mono _ _ _
      | exact reach_Order.mono _ _
      | exact reach_Plus.mono _ _
      | exact reach_Star.mono _ _
      | exact reach_Total.mono _ _ _
      | exact reach_Up.mono _ _ _
      | exact withelaw3_begun.mono _
      | exact withelaw3_deep.mono _ _
      | exact withelaw3_order.mono _ _
      | exact withelaw3_some.mono _ _ _ _
      | exact witheref1_Acyclic.mono _ _
      | exact witheref1_Plus.mono _ _
      | exact witheref1_Put.mono _ _ _
      | exact witheref1_SameInts.mono _ _ _
      | exact witheref1_SameRel.mono _ _ _
      | exact LeO.none _
      | refine LeO.ite ?_ ?_
      | refine LeO.bind ?_ (fun _ => ?_)
    · intro y0 y1 y2 y3 y4 y5 y6
      unfold withelaw3_ReachAll.l0
      repeat' first
      | (with_reducible exact ih0 _ _ _ _)
      | (with_reducible exact ih1 _ _ _ _ _ _ _)
      | (with_reducible exact ih2 _ _ _ _ _ _ _)
      | (with_reducible exact ih3 _ _ _ _ _ _ _ _)
      | (with_reducible exact ih4 _ _ _ _ _ _ _ _ _)
      | (with_reducible exact ih5 _ _ _ _ _ _ _ _)
      | (with_reducible exact ih6 _ _ _ _ _ _ _ _ _)
      | (with_reducible exact ih7 _ _ _ _ _ _ _ _)
      | (with_reducible exact reach_Acyclic.mono _ _)
      | (with_reducible exact reach_Deep.mono _ _)
      | (with_reducible exact reach_Down.mono _ _ _)
      | (with_reducible exact reach_Order.mono _ _)
      | (with_reducible exact reach_Plus.mono _ _)
      | (with_reducible exact reach_Star.mono _ _)
      | (with_reducible exact reach_Total.mono _ _ _)
      | (with_reducible exact reach_Up.mono _ _ _)
      | (with_reducible exact withelaw3_begun.mono _)
      | (with_reducible exact withelaw3_deep.mono _ _)
      | (with_reducible exact withelaw3_order.mono _ _)
      | (with_reducible exact withelaw3_some.mono _ _ _ _)
      | (with_reducible exact witheref1_Acyclic.mono _ _)
      | (with_reducible exact witheref1_Plus.mono _ _)
      | (with_reducible exact witheref1_Put.mono _ _ _)
      | (with_reducible exact witheref1_SameInts.mono _ _ _)
      | (with_reducible exact witheref1_SameRel.mono _ _ _)
      | (with_reducible exact LeO.refl _)
      | (with_reducible exact LeO.none _)
      | (with_reducible refine LeO.ite ?_ ?_)
      | (with_reducible refine LeO.bind ?_ (fun _ => ?_))
      | exact ih0 _ _ _ _
      | exact ih1 _ _ _ _ _ _ _
      | exact ih2 _ _ _ _ _ _ _
      | exact ih3 _ _ _ _ _ _ _ _
      | exact ih4 _ _ _ _ _ _ _ _ _
      | exact ih5 _ _ _ _ _ _ _ _
      | exact ih6 _ _ _ _ _ _ _ _ _
      | exact ih7 _ _ _ _ _ _ _ _
      | exact reach_Acyclic.mono _ _
      | exact reach_Deep.mono _ _
      | exact reach_Down.mono _ _ _
      | exact reach_Order.mono _ _
      | exact reach_Plus.mono _ _
      | exact reach_Star.mono _ _
      | exact reach_Total.mono _ _ _
      | exact reach_Up.mono _ _ _
      | exact withelaw3_begun.mono _
      | exact withelaw3_deep.mono _ _
      | exact withelaw3_order.mono _ _
      | exact withelaw3_some.mono _ _ _ _
      | exact witheref1_Acyclic.mono _ _
      | exact witheref1_Plus.mono _ _
      | exact witheref1_Put.mono _ _ _
      | exact witheref1_SameInts.mono _ _ _
      | exact witheref1_SameRel.mono _ _ _
      | exact LeO.none _
      | refine LeO.ite ?_ ?_
      | refine LeO.bind ?_ (fun _ => ?_)
    · intro y0 y1 y2 y3 y4 y5 y6
      unfold withelaw3_ReachAll.l1
      repeat' first
      | (with_reducible exact ih0 _ _ _ _)
      | (with_reducible exact ih1 _ _ _ _ _ _ _)
      | (with_reducible exact ih2 _ _ _ _ _ _ _)
      | (with_reducible exact ih3 _ _ _ _ _ _ _ _)
      | (with_reducible exact ih4 _ _ _ _ _ _ _ _ _)
      | (with_reducible exact ih5 _ _ _ _ _ _ _ _)
      | (with_reducible exact ih6 _ _ _ _ _ _ _ _ _)
      | (with_reducible exact ih7 _ _ _ _ _ _ _ _)
      | (with_reducible exact reach_Acyclic.mono _ _)
      | (with_reducible exact reach_Deep.mono _ _)
      | (with_reducible exact reach_Down.mono _ _ _)
      | (with_reducible exact reach_Order.mono _ _)
      | (with_reducible exact reach_Plus.mono _ _)
      | (with_reducible exact reach_Star.mono _ _)
      | (with_reducible exact reach_Total.mono _ _ _)
      | (with_reducible exact reach_Up.mono _ _ _)
      | (with_reducible exact withelaw3_begun.mono _)
      | (with_reducible exact withelaw3_deep.mono _ _)
      | (with_reducible exact withelaw3_order.mono _ _)
      | (with_reducible exact withelaw3_some.mono _ _ _ _)
      | (with_reducible exact witheref1_Acyclic.mono _ _)
      | (with_reducible exact witheref1_Plus.mono _ _)
      | (with_reducible exact witheref1_Put.mono _ _ _)
      | (with_reducible exact witheref1_SameInts.mono _ _ _)
      | (with_reducible exact witheref1_SameRel.mono _ _ _)
      | (with_reducible exact LeO.refl _)
      | (with_reducible exact LeO.none _)
      | (with_reducible refine LeO.ite ?_ ?_)
      | (with_reducible refine LeO.bind ?_ (fun _ => ?_))
      | exact ih0 _ _ _ _
      | exact ih1 _ _ _ _ _ _ _
      | exact ih2 _ _ _ _ _ _ _
      | exact ih3 _ _ _ _ _ _ _ _
      | exact ih4 _ _ _ _ _ _ _ _ _
      | exact ih5 _ _ _ _ _ _ _ _
      | exact ih6 _ _ _ _ _ _ _ _ _
      | exact ih7 _ _ _ _ _ _ _ _
      | exact reach_Acyclic.mono _ _
      | exact reach_Deep.mono _ _
      | exact reach_Down.mono _ _ _
      | exact reach_Order.mono _ _
      | exact reach_Plus.mono _ _
      | exact reach_Star.mono _ _
      | exact reach_Total.mono _ _ _
      | exact reach_Up.mono _ _ _
      | exact withelaw3_begun.mono _
      | exact withelaw3_deep.mono _ _
      | exact withelaw3_order.mono _ _
      | exact withelaw3_some.mono _ _ _ _
      | exact witheref1_Acyclic.mono _ _
      | exact witheref1_Plus.mono _ _
      | exact witheref1_Put.mono _ _ _
      | exact witheref1_SameInts.mono _ _ _
      | exact witheref1_SameRel.mono _ _ _
      | exact LeO.none _
      | refine LeO.ite ?_ ?_
      | refine LeO.bind ?_ (fun _ => ?_)
    · intro y0 y1 y2 y3 y4 y5 y6 y7
      unfold withelaw3_ReachAll.l2
      repeat' first
      | (with_reducible exact ih0 _ _ _ _)
      | (with_reducible exact ih1 _ _ _ _ _ _ _)
      | (with_reducible exact ih2 _ _ _ _ _ _ _)
      | (with_reducible exact ih3 _ _ _ _ _ _ _ _)
      | (with_reducible exact ih4 _ _ _ _ _ _ _ _ _)
      | (with_reducible exact ih5 _ _ _ _ _ _ _ _)
      | (with_reducible exact ih6 _ _ _ _ _ _ _ _ _)
      | (with_reducible exact ih7 _ _ _ _ _ _ _ _)
      | (with_reducible exact reach_Acyclic.mono _ _)
      | (with_reducible exact reach_Deep.mono _ _)
      | (with_reducible exact reach_Down.mono _ _ _)
      | (with_reducible exact reach_Order.mono _ _)
      | (with_reducible exact reach_Plus.mono _ _)
      | (with_reducible exact reach_Star.mono _ _)
      | (with_reducible exact reach_Total.mono _ _ _)
      | (with_reducible exact reach_Up.mono _ _ _)
      | (with_reducible exact withelaw3_begun.mono _)
      | (with_reducible exact withelaw3_deep.mono _ _)
      | (with_reducible exact withelaw3_order.mono _ _)
      | (with_reducible exact withelaw3_some.mono _ _ _ _)
      | (with_reducible exact witheref1_Acyclic.mono _ _)
      | (with_reducible exact witheref1_Plus.mono _ _)
      | (with_reducible exact witheref1_Put.mono _ _ _)
      | (with_reducible exact witheref1_SameInts.mono _ _ _)
      | (with_reducible exact witheref1_SameRel.mono _ _ _)
      | (with_reducible exact LeO.refl _)
      | (with_reducible exact LeO.none _)
      | (with_reducible refine LeO.ite ?_ ?_)
      | (with_reducible refine LeO.bind ?_ (fun _ => ?_))
      | exact ih0 _ _ _ _
      | exact ih1 _ _ _ _ _ _ _
      | exact ih2 _ _ _ _ _ _ _
      | exact ih3 _ _ _ _ _ _ _ _
      | exact ih4 _ _ _ _ _ _ _ _ _
      | exact ih5 _ _ _ _ _ _ _ _
      | exact ih6 _ _ _ _ _ _ _ _ _
      | exact ih7 _ _ _ _ _ _ _ _
      | exact reach_Acyclic.mono _ _
      | exact reach_Deep.mono _ _
      | exact reach_Down.mono _ _ _
      | exact reach_Order.mono _ _
      | exact reach_Plus.mono _ _
      | exact reach_Star.mono _ _
      | exact reach_Total.mono _ _ _
      | exact reach_Up.mono _ _ _
      | exact withelaw3_begun.mono _
      | exact withelaw3_deep.mono _ _
      | exact withelaw3_order.mono _ _
      | exact withelaw3_some.mono _ _ _ _
      | exact witheref1_Acyclic.mono _ _
      | exact witheref1_Plus.mono _ _
      | exact witheref1_Put.mono _ _ _
      | exact witheref1_SameInts.mono _ _ _
      | exact witheref1_SameRel.mono _ _ _
      | exact LeO.none _
      | refine LeO.ite ?_ ?_
      | refine LeO.bind ?_ (fun _ => ?_)
    · intro y0 y1 y2 y3 y4 y5 y6 y7 y8
      unfold withelaw3_ReachAll.j4
      repeat' first
      | (with_reducible exact ih0 _ _ _ _)
      | (with_reducible exact ih1 _ _ _ _ _ _ _)
      | (with_reducible exact ih2 _ _ _ _ _ _ _)
      | (with_reducible exact ih3 _ _ _ _ _ _ _ _)
      | (with_reducible exact ih4 _ _ _ _ _ _ _ _ _)
      | (with_reducible exact ih5 _ _ _ _ _ _ _ _)
      | (with_reducible exact ih6 _ _ _ _ _ _ _ _ _)
      | (with_reducible exact ih7 _ _ _ _ _ _ _ _)
      | (with_reducible exact reach_Acyclic.mono _ _)
      | (with_reducible exact reach_Deep.mono _ _)
      | (with_reducible exact reach_Down.mono _ _ _)
      | (with_reducible exact reach_Order.mono _ _)
      | (with_reducible exact reach_Plus.mono _ _)
      | (with_reducible exact reach_Star.mono _ _)
      | (with_reducible exact reach_Total.mono _ _ _)
      | (with_reducible exact reach_Up.mono _ _ _)
      | (with_reducible exact withelaw3_begun.mono _)
      | (with_reducible exact withelaw3_deep.mono _ _)
      | (with_reducible exact withelaw3_order.mono _ _)
      | (with_reducible exact withelaw3_some.mono _ _ _ _)
      | (with_reducible exact witheref1_Acyclic.mono _ _)
      | (with_reducible exact witheref1_Plus.mono _ _)
      | (with_reducible exact witheref1_Put.mono _ _ _)
      | (with_reducible exact witheref1_SameInts.mono _ _ _)
      | (with_reducible exact witheref1_SameRel.mono _ _ _)
      | (with_reducible exact LeO.refl _)
      | (with_reducible exact LeO.none _)
      | (with_reducible refine LeO.ite ?_ ?_)
      | (with_reducible refine LeO.bind ?_ (fun _ => ?_))
      | exact ih0 _ _ _ _
      | exact ih1 _ _ _ _ _ _ _
      | exact ih2 _ _ _ _ _ _ _
      | exact ih3 _ _ _ _ _ _ _ _
      | exact ih4 _ _ _ _ _ _ _ _ _
      | exact ih5 _ _ _ _ _ _ _ _
      | exact ih6 _ _ _ _ _ _ _ _ _
      | exact ih7 _ _ _ _ _ _ _ _
      | exact reach_Acyclic.mono _ _
      | exact reach_Deep.mono _ _
      | exact reach_Down.mono _ _ _
      | exact reach_Order.mono _ _
      | exact reach_Plus.mono _ _
      | exact reach_Star.mono _ _
      | exact reach_Total.mono _ _ _
      | exact reach_Up.mono _ _ _
      | exact withelaw3_begun.mono _
      | exact withelaw3_deep.mono _ _
      | exact withelaw3_order.mono _ _
      | exact withelaw3_some.mono _ _ _ _
      | exact witheref1_Acyclic.mono _ _
      | exact witheref1_Plus.mono _ _
      | exact witheref1_Put.mono _ _ _
      | exact witheref1_SameInts.mono _ _ _
      | exact witheref1_SameRel.mono _ _ _
      | exact LeO.none _
      | refine LeO.ite ?_ ?_
      | refine LeO.bind ?_ (fun _ => ?_)
    · intro y0 y1 y2 y3 y4 y5 y6 y7
      unfold withelaw3_ReachAll.j5
      repeat' first
      | (with_reducible exact ih0 _ _ _ _)
      | (with_reducible exact ih1 _ _ _ _ _ _ _)
      | (with_reducible exact ih2 _ _ _ _ _ _ _)
      | (with_reducible exact ih3 _ _ _ _ _ _ _ _)
      | (with_reducible exact ih4 _ _ _ _ _ _ _ _ _)
      | (with_reducible exact ih5 _ _ _ _ _ _ _ _)
      | (with_reducible exact ih6 _ _ _ _ _ _ _ _ _)
      | (with_reducible exact ih7 _ _ _ _ _ _ _ _)
      | (with_reducible exact reach_Acyclic.mono _ _)
      | (with_reducible exact reach_Deep.mono _ _)
      | (with_reducible exact reach_Down.mono _ _ _)
      | (with_reducible exact reach_Order.mono _ _)
      | (with_reducible exact reach_Plus.mono _ _)
      | (with_reducible exact reach_Star.mono _ _)
      | (with_reducible exact reach_Total.mono _ _ _)
      | (with_reducible exact reach_Up.mono _ _ _)
      | (with_reducible exact withelaw3_begun.mono _)
      | (with_reducible exact withelaw3_deep.mono _ _)
      | (with_reducible exact withelaw3_order.mono _ _)
      | (with_reducible exact withelaw3_some.mono _ _ _ _)
      | (with_reducible exact witheref1_Acyclic.mono _ _)
      | (with_reducible exact witheref1_Plus.mono _ _)
      | (with_reducible exact witheref1_Put.mono _ _ _)
      | (with_reducible exact witheref1_SameInts.mono _ _ _)
      | (with_reducible exact witheref1_SameRel.mono _ _ _)
      | (with_reducible exact LeO.refl _)
      | (with_reducible exact LeO.none _)
      | (with_reducible refine LeO.ite ?_ ?_)
      | (with_reducible refine LeO.bind ?_ (fun _ => ?_))
      | exact ih0 _ _ _ _
      | exact ih1 _ _ _ _ _ _ _
      | exact ih2 _ _ _ _ _ _ _
      | exact ih3 _ _ _ _ _ _ _ _
      | exact ih4 _ _ _ _ _ _ _ _ _
      | exact ih5 _ _ _ _ _ _ _ _
      | exact ih6 _ _ _ _ _ _ _ _ _
      | exact ih7 _ _ _ _ _ _ _ _
      | exact reach_Acyclic.mono _ _
      | exact reach_Deep.mono _ _
      | exact reach_Down.mono _ _ _
      | exact reach_Order.mono _ _
      | exact reach_Plus.mono _ _
      | exact reach_Star.mono _ _
      | exact reach_Total.mono _ _ _
      | exact reach_Up.mono _ _ _
      | exact withelaw3_begun.mono _
      | exact withelaw3_deep.mono _ _
      | exact withelaw3_order.mono _ _
      | exact withelaw3_some.mono _ _ _ _
      | exact witheref1_Acyclic.mono _ _
      | exact witheref1_Plus.mono _ _
      | exact witheref1_Put.mono _ _ _
      | exact witheref1_SameInts.mono _ _ _
      | exact witheref1_SameRel.mono _ _ _
      | exact LeO.none _
      | refine LeO.ite ?_ ?_
      | refine LeO.bind ?_ (fun _ => ?_)
    · intro y0 y1 y2 y3 y4 y5 y6 y7 y8
      unfold withelaw3_ReachAll.j6
      repeat' first
      | (with_reducible exact ih0 _ _ _ _)
      | (with_reducible exact ih1 _ _ _ _ _ _ _)
      | (with_reducible exact ih2 _ _ _ _ _ _ _)
      | (with_reducible exact ih3 _ _ _ _ _ _ _ _)
      | (with_reducible exact ih4 _ _ _ _ _ _ _ _ _)
      | (with_reducible exact ih5 _ _ _ _ _ _ _ _)
      | (with_reducible exact ih6 _ _ _ _ _ _ _ _ _)
      | (with_reducible exact ih7 _ _ _ _ _ _ _ _)
      | (with_reducible exact reach_Acyclic.mono _ _)
      | (with_reducible exact reach_Deep.mono _ _)
      | (with_reducible exact reach_Down.mono _ _ _)
      | (with_reducible exact reach_Order.mono _ _)
      | (with_reducible exact reach_Plus.mono _ _)
      | (with_reducible exact reach_Star.mono _ _)
      | (with_reducible exact reach_Total.mono _ _ _)
      | (with_reducible exact reach_Up.mono _ _ _)
      | (with_reducible exact withelaw3_begun.mono _)
      | (with_reducible exact withelaw3_deep.mono _ _)
      | (with_reducible exact withelaw3_order.mono _ _)
      | (with_reducible exact withelaw3_some.mono _ _ _ _)
      | (with_reducible exact witheref1_Acyclic.mono _ _)
      | (with_reducible exact witheref1_Plus.mono _ _)
      | (with_reducible exact witheref1_Put.mono _ _ _)
      | (with_reducible exact witheref1_SameInts.mono _ _ _)
      | (with_reducible exact witheref1_SameRel.mono _ _ _)
      | (with_reducible exact LeO.refl _)
      | (with_reducible exact LeO.none _)
      | (with_reducible refine LeO.ite ?_ ?_)
      | (with_reducible refine LeO.bind ?_ (fun _ => ?_))
      | exact ih0 _ _ _ _
      | exact ih1 _ _ _ _ _ _ _
      | exact ih2 _ _ _ _ _ _ _
      | exact ih3 _ _ _ _ _ _ _ _
      | exact ih4 _ _ _ _ _ _ _ _ _
      | exact ih5 _ _ _ _ _ _ _ _
      | exact ih6 _ _ _ _ _ _ _ _ _
      | exact ih7 _ _ _ _ _ _ _ _
      | exact reach_Acyclic.mono _ _
      | exact reach_Deep.mono _ _
      | exact reach_Down.mono _ _ _
      | exact reach_Order.mono _ _
      | exact reach_Plus.mono _ _
      | exact reach_Star.mono _ _
      | exact reach_Total.mono _ _ _
      | exact reach_Up.mono _ _ _
      | exact withelaw3_begun.mono _
      | exact withelaw3_deep.mono _ _
      | exact withelaw3_order.mono _ _
      | exact withelaw3_some.mono _ _ _ _
      | exact witheref1_Acyclic.mono _ _
      | exact witheref1_Plus.mono _ _
      | exact witheref1_Put.mono _ _ _
      | exact witheref1_SameInts.mono _ _ _
      | exact witheref1_SameRel.mono _ _ _
      | exact LeO.none _
      | refine LeO.ite ?_ ?_
      | refine LeO.bind ?_ (fun _ => ?_)
    · intro y0 y1 y2 y3 y4 y5 y6 y7
      unfold withelaw3_ReachAll.j7
      repeat' first
      | (with_reducible exact ih0 _ _ _ _)
      | (with_reducible exact ih1 _ _ _ _ _ _ _)
      | (with_reducible exact ih2 _ _ _ _ _ _ _)
      | (with_reducible exact ih3 _ _ _ _ _ _ _ _)
      | (with_reducible exact ih4 _ _ _ _ _ _ _ _ _)
      | (with_reducible exact ih5 _ _ _ _ _ _ _ _)
      | (with_reducible exact ih6 _ _ _ _ _ _ _ _ _)
      | (with_reducible exact ih7 _ _ _ _ _ _ _ _)
      | (with_reducible exact reach_Acyclic.mono _ _)
      | (with_reducible exact reach_Deep.mono _ _)
      | (with_reducible exact reach_Down.mono _ _ _)
      | (with_reducible exact reach_Order.mono _ _)
      | (with_reducible exact reach_Plus.mono _ _)
      | (with_reducible exact reach_Star.mono _ _)
      | (with_reducible exact reach_Total.mono _ _ _)
      | (with_reducible exact reach_Up.mono _ _ _)
      | (with_reducible exact withelaw3_begun.mono _)
      | (with_reducible exact withelaw3_deep.mono _ _)
      | (with_reducible exact withelaw3_order.mono _ _)
      | (with_reducible exact withelaw3_some.mono _ _ _ _)
      | (with_reducible exact witheref1_Acyclic.mono _ _)
      | (with_reducible exact witheref1_Plus.mono _ _)
      | (with_reducible exact witheref1_Put.mono _ _ _)
      | (with_reducible exact witheref1_SameInts.mono _ _ _)
      | (with_reducible exact witheref1_SameRel.mono _ _ _)
      | (with_reducible exact LeO.refl _)
      | (with_reducible exact LeO.none _)
      | (with_reducible refine LeO.ite ?_ ?_)
      | (with_reducible refine LeO.bind ?_ (fun _ => ?_))
      | exact ih0 _ _ _ _
      | exact ih1 _ _ _ _ _ _ _
      | exact ih2 _ _ _ _ _ _ _
      | exact ih3 _ _ _ _ _ _ _ _
      | exact ih4 _ _ _ _ _ _ _ _ _
      | exact ih5 _ _ _ _ _ _ _ _
      | exact ih6 _ _ _ _ _ _ _ _ _
      | exact ih7 _ _ _ _ _ _ _ _
      | exact reach_Acyclic.mono _ _
      | exact reach_Deep.mono _ _
      | exact reach_Down.mono _ _ _
      | exact reach_Order.mono _ _
      | exact reach_Plus.mono _ _
      | exact reach_Star.mono _ _
      | exact reach_Total.mono _ _ _
      | exact reach_Up.mono _ _ _
      | exact withelaw3_begun.mono _
      | exact withelaw3_deep.mono _ _
      | exact withelaw3_order.mono _ _
      | exact withelaw3_some.mono _ _ _ _
      | exact witheref1_Acyclic.mono _ _
      | exact witheref1_Plus.mono _ _
      | exact witheref1_Put.mono _ _ _
      | exact witheref1_SameInts.mono _ _ _
      | exact witheref1_SameRel.mono _ _ _
      | exact LeO.none _
      | refine LeO.ite ?_ ?_
      | refine LeO.bind ?_ (fun _ => ?_)
theorem withelaw3_ReachAll.mono : ∀ a0 a1 a2 a3 k, LeO (withelaw3_ReachAll.f k a0 a1 a2 a3) (withelaw3_ReachAll.f (k + 1) a0 a1 a2 a3) := by
  intro a0 a1 a2 a3 k
  obtain ⟨ih0, ih1, ih2, ih3, ih4, ih5, ih6, ih7⟩ := withelaw3_ReachAll.mono_l k
  unfold withelaw3_ReachAll.f
  repeat' first
      | (with_reducible exact ih0 _ _ _ _)
      | (with_reducible exact ih1 _ _ _ _ _ _ _)
      | (with_reducible exact ih2 _ _ _ _ _ _ _)
      | (with_reducible exact ih3 _ _ _ _ _ _ _ _)
      | (with_reducible exact ih4 _ _ _ _ _ _ _ _ _)
      | (with_reducible exact ih5 _ _ _ _ _ _ _ _)
      | (with_reducible exact ih6 _ _ _ _ _ _ _ _ _)
      | (with_reducible exact ih7 _ _ _ _ _ _ _ _)
      | (with_reducible exact reach_Acyclic.mono _ _)
      | (with_reducible exact reach_Deep.mono _ _)
      | (with_reducible exact reach_Down.mono _ _ _)
      | (with_reducible exact reach_Order.mono _ _)
      | (with_reducible exact reach_Plus.mono _ _)
      | (with_reducible exact reach_Star.mono _ _)
      | (with_reducible exact reach_Total.mono _ _ _)
      | (with_reducible exact reach_Up.mono _ _ _)
      | (with_reducible exact withelaw3_begun.mono _)
      | (with_reducible exact withelaw3_deep.mono _ _)
      | (with_reducible exact withelaw3_order.mono _ _)
      | (with_reducible exact withelaw3_some.mono _ _ _ _)
      | (with_reducible exact witheref1_Acyclic.mono _ _)
      | (with_reducible exact witheref1_Plus.mono _ _)
      | (with_reducible exact witheref1_Put.mono _ _ _)
      | (with_reducible exact witheref1_SameInts.mono _ _ _)
      | (with_reducible exact witheref1_SameRel.mono _ _ _)
      | (with_reducible exact LeO.refl _)
      | (with_reducible exact LeO.none _)
      | (with_reducible refine LeO.ite ?_ ?_)
      | (with_reducible refine LeO.bind ?_ (fun _ => ?_))
      | exact ih0 _ _ _ _
      | exact ih1 _ _ _ _ _ _ _
      | exact ih2 _ _ _ _ _ _ _
      | exact ih3 _ _ _ _ _ _ _ _
      | exact ih4 _ _ _ _ _ _ _ _ _
      | exact ih5 _ _ _ _ _ _ _ _
      | exact ih6 _ _ _ _ _ _ _ _ _
      | exact ih7 _ _ _ _ _ _ _ _
      | exact reach_Acyclic.mono _ _
      | exact reach_Deep.mono _ _
      | exact reach_Down.mono _ _ _
      | exact reach_Order.mono _ _
      | exact reach_Plus.mono _ _
      | exact reach_Star.mono _ _
      | exact reach_Total.mono _ _ _
      | exact reach_Up.mono _ _ _
      | exact withelaw3_begun.mono _
      | exact withelaw3_deep.mono _ _
      | exact withelaw3_order.mono _ _
      | exact withelaw3_some.mono _ _ _ _
      | exact witheref1_Acyclic.mono _ _
      | exact witheref1_Plus.mono _ _
      | exact witheref1_Put.mono _ _ _
      | exact witheref1_SameInts.mono _ _ _
      | exact witheref1_SameRel.mono _ _ _
      | exact LeO.none _
      | refine LeO.ite ?_ ?_
      | refine LeO.bind ?_ (fun _ => ?_)
set_option maxHeartbeats 8000000 in
set_option maxRecDepth 100000 in
theorem withelaw3_ReachAll.calls (k : Nat) (A0 : Option Addr) (c0 : Nat) (l0 : List Int) (a1 : Int) (a2 : Bool) (a3 : Int) (r : Bool) (w : World) (hr0 : Kd.C (Kd.int .u8) w A0 l0.length l0) (hc0 : l0.length ≤ c0) (h : withelaw3_ReachAll.f k l0 a1 a2 a3 = some r) (hG : GOk w := by first | exact Aside0.out (by assumption) | exact GOk.le (Aside0.out (by assumption)) (by repeat (first | exact Aside0.out (by assumption) | exact Below.refl _ _ | apply below_alloc | apply pw_below_drewN | apply below_drew1 | refine below_set ?_ (Aside0.out (by assumption))))) :
    Calls Tryd.prog 3 #[.slice A0 l0.length c0, .int .u8 a1, .bool a2, .int .u64 a3] w fun e w' => e = .returned (.bool r) ∧ Below w.heap.size w w' := by
  have HR0 := Aside0.mk hr0
  have HC0 := Aside0.mk hc0
  clear hr0 hc0
  have HB := Aside0.mk (Below.refl w.heap.size w)
  have H : ((withelaw3_begun.f k).bind fun t315 => (if t315 = true then (if (l0.length : Int) > 60 then (some true) else ((withelaw3_some.f k l0 a1 a2).bind fun t316 => ((witheref1_Plus.f k t316).bind fun t319 => ((withelaw3_order.f k t316).bind fun bt322 => ((reach_Order.f k t316).bind fun bt326 => ((withelaw3_deep.f k t316).bind fun bt330 => ((reach_Deep.f k t316).bind fun bt334 => ((reach_Plus.f k t316).bind fun t338 => ((witheref1_SameRel.f k t338 t319).bind fun t341 => (if t341 = true then ((reach_Acyclic.f k t316).bind fun t342 => ((witheref1_Acyclic.f k t316).bind fun t343 => (if (t342 != t343) = true then (withelaw3_ReachAll.j0 k a3 t316 t319 true) else (if (bt322.2 != bt326.2) = true then (withelaw3_ReachAll.j0 k a3 t316 t319 true) else ((witheref1_SameInts.f k bt322.1 bt326.1).bind fun t344 => (if t344 = true then (if (bt330.2 != bt334.2) = true then (withelaw3_ReachAll.j0 k a3 t316 t319 true) else ((witheref1_SameInts.f k bt330.1 bt334.1).bind fun t345 => (withelaw3_ReachAll.j0 k a3 t316 t319 (!t345)))) else (withelaw3_ReachAll.j0 k a3 t316 t319 true))))))) else (withelaw3_ReachAll.j0 k a3 t316 t319 true))))))))))) else (none))) = some r := h
  clear h
  have HG := Aside0.mk hG
  clear hG
  replace H := Option.bind_eq_some_iff.mp H
  obtain ⟨t315, A50, H⟩ := H
  replace H : (if t315 = true then (if (l0.length : Int) > 60 then (some true) else ((withelaw3_some.f k l0 a1 a2).bind fun t316 => ((witheref1_Plus.f k t316).bind fun t319 => ((withelaw3_order.f k t316).bind fun bt322 => ((reach_Order.f k t316).bind fun bt326 => ((withelaw3_deep.f k t316).bind fun bt330 => ((reach_Deep.f k t316).bind fun bt334 => ((reach_Plus.f k t316).bind fun t338 => ((witheref1_SameRel.f k t338 t319).bind fun t341 => (if t341 = true then ((reach_Acyclic.f k t316).bind fun t342 => ((witheref1_Acyclic.f k t316).bind fun t343 => (if (t342 != t343) = true then (withelaw3_ReachAll.j0 k a3 t316 t319 true) else (if (bt322.2 != bt326.2) = true then (withelaw3_ReachAll.j0 k a3 t316 t319 true) else ((witheref1_SameInts.f k bt322.1 bt326.1).bind fun t344 => (if t344 = true then (if (bt330.2 != bt334.2) = true then (withelaw3_ReachAll.j0 k a3 t316 t319 true) else ((witheref1_SameInts.f k bt330.1 bt334.1).bind fun t345 => (withelaw3_ReachAll.j0 k a3 t316 t319 (!t345)))) else (withelaw3_ReachAll.j0 k a3 t316 t319 true))))))) else (withelaw3_ReachAll.j0 k a3 t316 t319 true))))))))))) else (none)) = some r := H
  have A5 := Aside0.mk A50
  clear A50
  by_cases c6 : t315 = true
  · subst c6
    have H1 : (if (l0.length : Int) > 60 then (some true) else ((withelaw3_some.f k l0 a1 a2).bind fun t316 => ((witheref1_Plus.f k t316).bind fun t319 => ((withelaw3_order.f k t316).bind fun bt322 => ((reach_Order.f k t316).bind fun bt326 => ((withelaw3_deep.f k t316).bind fun bt330 => ((reach_Deep.f k t316).bind fun bt334 => ((reach_Plus.f k t316).bind fun t338 => ((witheref1_SameRel.f k t338 t319).bind fun t341 => (if t341 = true then ((reach_Acyclic.f k t316).bind fun t342 => ((witheref1_Acyclic.f k t316).bind fun t343 => (if (t342 != t343) = true then (withelaw3_ReachAll.j0 k a3 t316 t319 true) else (if (bt322.2 != bt326.2) = true then (withelaw3_ReachAll.j0 k a3 t316 t319 true) else ((witheref1_SameInts.f k bt322.1 bt326.1).bind fun t344 => (if t344 = true then (if (bt330.2 != bt334.2) = true then (withelaw3_ReachAll.j0 k a3 t316 t319 true) else ((witheref1_SameInts.f k bt330.1 bt334.1).bind fun t345 => (withelaw3_ReachAll.j0 k a3 t316 t319 (!t345)))) else (withelaw3_ReachAll.j0 k a3 t316 t319 true))))))) else (withelaw3_ReachAll.j0 k a3 t316 t319 true))))))))))) = some r := by rw [if_pos rfl] at H; exact H
    clear H
    have H := H1
    clear H1
    by_cases c7 : (l0.length : Int) > 60
    · rw [if_pos c7] at H
      have c7b0 : decide (60 < (l0.length : Int)) = true := decide_eq_true c7
      have c7b1 : decide (60 < l0.length) = true := decide_eq_true (by omega)
      clear c7
      obtain rfl := Option.some.inj H
      go_enter Tryd.func3, Tryd.ntmps3
      go_wp2_with (first | ((with_reducible refine gate_callee (f := 8) rfl ?_); refine goesL_ (some 25) rfl rfl Tryd.func8 (by kernel_rfl) rfl #[] rfl (by (try simp only [List.map_toArray, List.map_cons, List.map_nil]); first | done | rfl | (simp only [List.length_drop, List.length_take]; rfl)) ?_; (with_reducible refine (withelaw3_begun.calls k  true _ A5.out).mono ?_); rintro e w8 ⟨rfl, hb⟩; refine ⟨_, rfl, ?_⟩; have n0_ := Aside0.mk (below_step (by repeat (first | (with_reducible first | exact HB.out | apply below_alloc | apply pw_below_drewN | apply below_drew1) | exact HB.out)) hb); clear HB; have HB := n0_; clear n0_; (try clear hb); (try clear hb2); (try clear hk); (try clear hi)))
      go_ret
      exact ⟨by first | rfl | (simp [errW_none, errW_some] <;> rfl) | (simp [*, errW_none, errW_some] <;> rfl), by repeat (first | (with_reducible first | exact HB.out | apply below_alloc | apply pw_below_drewN | apply below_drew1) | exact HB.out)⟩
    · rw [if_neg c7] at H
      have c7b0 : decide (60 < (l0.length : Int)) = false := decide_eq_false c7
      have c7b1 : decide (60 < l0.length) = false := decide_eq_false (by omega)
      clear c7
      replace H := Option.bind_eq_some_iff.mp H
      obtain ⟨t316, A90, H⟩ := H
      replace H : ((witheref1_Plus.f k t316).bind fun t319 => ((withelaw3_order.f k t316).bind fun bt322 => ((reach_Order.f k t316).bind fun bt326 => ((withelaw3_deep.f k t316).bind fun bt330 => ((reach_Deep.f k t316).bind fun bt334 => ((reach_Plus.f k t316).bind fun t338 => ((witheref1_SameRel.f k t338 t319).bind fun t341 => (if t341 = true then ((reach_Acyclic.f k t316).bind fun t342 => ((witheref1_Acyclic.f k t316).bind fun t343 => (if (t342 != t343) = true then (withelaw3_ReachAll.j0 k a3 t316 t319 true) else (if (bt322.2 != bt326.2) = true then (withelaw3_ReachAll.j0 k a3 t316 t319 true) else ((witheref1_SameInts.f k bt322.1 bt326.1).bind fun t344 => (if t344 = true then (if (bt330.2 != bt334.2) = true then (withelaw3_ReachAll.j0 k a3 t316 t319 true) else ((witheref1_SameInts.f k bt330.1 bt334.1).bind fun t345 => (withelaw3_ReachAll.j0 k a3 t316 t319 (!t345)))) else (withelaw3_ReachAll.j0 k a3 t316 t319 true))))))) else (withelaw3_ReachAll.j0 k a3 t316 t319 true))))))))) = some r := H
      have A9 := Aside0.mk A90
      clear A90
      replace H := Option.bind_eq_some_iff.mp H
      obtain ⟨t319, A100, H⟩ := H
      replace H : ((withelaw3_order.f k t316).bind fun bt322 => ((reach_Order.f k t316).bind fun bt326 => ((withelaw3_deep.f k t316).bind fun bt330 => ((reach_Deep.f k t316).bind fun bt334 => ((reach_Plus.f k t316).bind fun t338 => ((witheref1_SameRel.f k t338 t319).bind fun t341 => (if t341 = true then ((reach_Acyclic.f k t316).bind fun t342 => ((witheref1_Acyclic.f k t316).bind fun t343 => (if (t342 != t343) = true then (withelaw3_ReachAll.j0 k a3 t316 t319 true) else (if (bt322.2 != bt326.2) = true then (withelaw3_ReachAll.j0 k a3 t316 t319 true) else ((witheref1_SameInts.f k bt322.1 bt326.1).bind fun t344 => (if t344 = true then (if (bt330.2 != bt334.2) = true then (withelaw3_ReachAll.j0 k a3 t316 t319 true) else ((witheref1_SameInts.f k bt330.1 bt334.1).bind fun t345 => (withelaw3_ReachAll.j0 k a3 t316 t319 (!t345)))) else (withelaw3_ReachAll.j0 k a3 t316 t319 true))))))) else (withelaw3_ReachAll.j0 k a3 t316 t319 true)))))))) = some r := H
      have A10 := Aside0.mk A100
      clear A100
      replace H := Option.bind_eq_some_iff.mp H
      obtain ⟨⟨t322, t323⟩, A110, H⟩ := H
      replace H : ((reach_Order.f k t316).bind fun bt326 => ((withelaw3_deep.f k t316).bind fun bt330 => ((reach_Deep.f k t316).bind fun bt334 => ((reach_Plus.f k t316).bind fun t338 => ((witheref1_SameRel.f k t338 t319).bind fun t341 => (if t341 = true then ((reach_Acyclic.f k t316).bind fun t342 => ((witheref1_Acyclic.f k t316).bind fun t343 => (if (t342 != t343) = true then (withelaw3_ReachAll.j0 k a3 t316 t319 true) else (if (t323 != bt326.2) = true then (withelaw3_ReachAll.j0 k a3 t316 t319 true) else ((witheref1_SameInts.f k t322 bt326.1).bind fun t344 => (if t344 = true then (if (bt330.2 != bt334.2) = true then (withelaw3_ReachAll.j0 k a3 t316 t319 true) else ((witheref1_SameInts.f k bt330.1 bt334.1).bind fun t345 => (withelaw3_ReachAll.j0 k a3 t316 t319 (!t345)))) else (withelaw3_ReachAll.j0 k a3 t316 t319 true))))))) else (withelaw3_ReachAll.j0 k a3 t316 t319 true))))))) = some r := H
      have A11 := Aside0.mk A110
      clear A110
      replace H := Option.bind_eq_some_iff.mp H
      obtain ⟨⟨t326, t327⟩, A120, H⟩ := H
      replace H : ((withelaw3_deep.f k t316).bind fun bt330 => ((reach_Deep.f k t316).bind fun bt334 => ((reach_Plus.f k t316).bind fun t338 => ((witheref1_SameRel.f k t338 t319).bind fun t341 => (if t341 = true then ((reach_Acyclic.f k t316).bind fun t342 => ((witheref1_Acyclic.f k t316).bind fun t343 => (if (t342 != t343) = true then (withelaw3_ReachAll.j0 k a3 t316 t319 true) else (if (t323 != t327) = true then (withelaw3_ReachAll.j0 k a3 t316 t319 true) else ((witheref1_SameInts.f k t322 t326).bind fun t344 => (if t344 = true then (if (bt330.2 != bt334.2) = true then (withelaw3_ReachAll.j0 k a3 t316 t319 true) else ((witheref1_SameInts.f k bt330.1 bt334.1).bind fun t345 => (withelaw3_ReachAll.j0 k a3 t316 t319 (!t345)))) else (withelaw3_ReachAll.j0 k a3 t316 t319 true))))))) else (withelaw3_ReachAll.j0 k a3 t316 t319 true)))))) = some r := H
      have A12 := Aside0.mk A120
      clear A120
      replace H := Option.bind_eq_some_iff.mp H
      obtain ⟨⟨t330, t331⟩, A130, H⟩ := H
      replace H : ((reach_Deep.f k t316).bind fun bt334 => ((reach_Plus.f k t316).bind fun t338 => ((witheref1_SameRel.f k t338 t319).bind fun t341 => (if t341 = true then ((reach_Acyclic.f k t316).bind fun t342 => ((witheref1_Acyclic.f k t316).bind fun t343 => (if (t342 != t343) = true then (withelaw3_ReachAll.j0 k a3 t316 t319 true) else (if (t323 != t327) = true then (withelaw3_ReachAll.j0 k a3 t316 t319 true) else ((witheref1_SameInts.f k t322 t326).bind fun t344 => (if t344 = true then (if (t331 != bt334.2) = true then (withelaw3_ReachAll.j0 k a3 t316 t319 true) else ((witheref1_SameInts.f k t330 bt334.1).bind fun t345 => (withelaw3_ReachAll.j0 k a3 t316 t319 (!t345)))) else (withelaw3_ReachAll.j0 k a3 t316 t319 true))))))) else (withelaw3_ReachAll.j0 k a3 t316 t319 true))))) = some r := H
      have A13 := Aside0.mk A130
      clear A130
      replace H := Option.bind_eq_some_iff.mp H
      obtain ⟨⟨t334, t335⟩, A140, H⟩ := H
      replace H : ((reach_Plus.f k t316).bind fun t338 => ((witheref1_SameRel.f k t338 t319).bind fun t341 => (if t341 = true then ((reach_Acyclic.f k t316).bind fun t342 => ((witheref1_Acyclic.f k t316).bind fun t343 => (if (t342 != t343) = true then (withelaw3_ReachAll.j0 k a3 t316 t319 true) else (if (t323 != t327) = true then (withelaw3_ReachAll.j0 k a3 t316 t319 true) else ((witheref1_SameInts.f k t322 t326).bind fun t344 => (if t344 = true then (if (t331 != t335) = true then (withelaw3_ReachAll.j0 k a3 t316 t319 true) else ((witheref1_SameInts.f k t330 t334).bind fun t345 => (withelaw3_ReachAll.j0 k a3 t316 t319 (!t345)))) else (withelaw3_ReachAll.j0 k a3 t316 t319 true))))))) else (withelaw3_ReachAll.j0 k a3 t316 t319 true)))) = some r := H
      have A14 := Aside0.mk A140
      clear A140
      have HC15 := Aside0.mk H
      clear H
      go_enter Tryd.func3, Tryd.ntmps3
      go_upto_region 11 with (first | ((with_reducible refine gate_callee (f := 8) rfl ?_); refine goesL_ (some 25) rfl rfl Tryd.func8 (by kernel_rfl) rfl #[] rfl (by (try simp only [List.map_toArray, List.map_cons, List.map_nil]); first | done | rfl | (simp only [List.length_drop, List.length_take]; rfl)) ?_; (with_reducible refine (withelaw3_begun.calls k  true _ A5.out).mono ?_); rintro e w16 ⟨rfl, hb⟩; refine ⟨_, rfl, ?_⟩; have n0_ := Aside0.mk (below_step (by repeat (first | (with_reducible first | exact HB.out | apply below_alloc | apply pw_below_drewN | apply below_drew1) | exact HB.out)) hb); clear HB; have HB := n0_; clear n0_; (try clear hb); (try clear hb2); (try clear hk); (try clear hi)) | ((with_reducible refine gate_callee (f := 9) rfl ?_); refine goesL_ (some 33) rfl rfl Tryd.func9 (by kernel_rfl) rfl #[.slice A0 l0.length c0, .int .u8 a1, .bool a2] rfl (by (try simp only [List.map_toArray, List.map_cons, List.map_nil]); first | done | rfl | (simp only [List.length_drop, List.length_take]; rfl)) ?_; (with_reducible refine (withelaw3_some.calls k _ _ l0 a1 a2 t316 _ ?side1 ?side2 A9.out).mono ?_); (case side1 => repeat (first | exact (Kd.C_below HR0.out HB.out) | (with_reducible refine Kd.C_alloc ?_ _) | (with_reducible refine Kd.C_drewN ?_ _) | (with_reducible refine Kd.C_drew ?_))); (case side2 => exact HC0.out); rintro e w17 ⟨v317, rfl, ho0, hb⟩; refine ⟨_, rfl, ?_⟩; have n0_ := Aside0.mk (Kd.R_lower ho0 (below_size (by repeat (first | (with_reducible first | exact HB.out | apply below_alloc | apply pw_below_drewN | apply below_drew1) | exact HB.out)))); have n1_ := Aside0.mk (below_step (by repeat (first | (with_reducible first | exact HB.out | apply below_alloc | apply pw_below_drewN | apply below_drew1) | exact HB.out)) hb); clear HB; have HO318 := n0_; have HB := n1_; clear n0_ n1_; (try clear hb); (try clear hb2); (try clear hk); (try clear hi); (try clear ho0); obtain ⟨Ao18, co18, eo18⟩ := Kd.R_slice HO318.out; subst eo18) | ((with_reducible refine gate_callee (f := 10) rfl ?_); refine goesL_ (some 35) rfl rfl Tryd.func10 (by kernel_rfl) rfl #[.slice Ao18 t316.length co18] rfl (by (try simp only [List.map_toArray, List.map_cons, List.map_nil]); first | done | rfl | (simp only [List.length_drop, List.length_take]; rfl)) ?_; (with_reducible refine (witheref1_Plus.calls k _ _ t316 t319 _ ?side1 ?side2 A10.out).mono ?_); (case side1 => repeat (first | exact (Kd.R_reads' HO318.out).2.2 | (with_reducible refine Kd.C_alloc ?_ _) | (with_reducible refine Kd.C_drewN ?_ _) | (with_reducible refine Kd.C_drew ?_))); (case side2 => exact (Kd.R_reads' HO318.out).2.1); rintro e w19 ⟨v320, rfl, ho0, hb⟩; refine ⟨_, rfl, ?_⟩; have n0_ := Aside0.mk (Kd.R_elder' (by (with_reducible repeat (first | apply Kd.R_alloc | apply Kd.R_drewN | apply Kd.R_drew)); exact HO318.out) (Kd.R_base ho0) hb); have n1_ := Aside0.mk (Kd.R_lower (Kd.R_new' ho0 (Kd.R_lt (by (with_reducible repeat (first | apply Kd.R_alloc | apply Kd.R_drewN | apply Kd.R_drew)); exact HO318.out))) (below_size (by repeat (first | (with_reducible first | exact HB.out | apply below_alloc | apply pw_below_drewN | apply below_drew1) | exact HB.out)))); have n2_ := Aside0.mk (below_step (by repeat (first | (with_reducible first | exact HB.out | apply below_alloc | apply pw_below_drewN | apply below_drew1) | exact HB.out)) hb); clear HO318; clear HB; have HO318 := n0_; have HO321 := n1_; have HB := n2_; clear n0_ n1_ n2_; (try clear hb); (try clear hb2); (try clear hk); (try clear hi); (try clear ho0)) | ((with_reducible refine gate_callee (f := 11) rfl ?_); refine goesL_ (some 38) rfl rfl Tryd.func11 (by kernel_rfl) rfl #[.slice Ao18 t316.length co18] rfl (by (try simp only [List.map_toArray, List.map_cons, List.map_nil]); first | done | rfl | (simp only [List.length_drop, List.length_take]; rfl)) ?_; (with_reducible refine (withelaw3_order.calls k _ _ t316 t322 t323 _ ?side1 ?side2 A11.out).mono ?_); (case side1 => repeat (first | exact (Kd.R_reads' HO318.out).2.2 | (with_reducible refine Kd.C_alloc ?_ _) | (with_reducible refine Kd.C_drewN ?_ _) | (with_reducible refine Kd.C_drew ?_))); (case side2 => exact (Kd.R_reads' HO318.out).2.1); rintro e w20 ⟨v324, rfl, ho0, hb⟩; refine ⟨_, rfl, ?_⟩; have n0_ := Aside0.mk (Kd.R_below (by (with_reducible repeat (first | apply Kd.R_alloc | apply Kd.R_drewN | apply Kd.R_drew)); exact HO318.out) hb); have n1_ := Aside0.mk (Kd.R_below (by (with_reducible repeat (first | apply Kd.R_alloc | apply Kd.R_drewN | apply Kd.R_drew)); exact HO321.out) hb); have n2_ := Aside0.mk (Kd.R_lower ho0 (below_size (by repeat (first | (with_reducible first | exact HB.out | apply below_alloc | apply pw_below_drewN | apply below_drew1) | exact HB.out)))); have n3_ := Aside0.mk (below_step (by repeat (first | (with_reducible first | exact HB.out | apply below_alloc | apply pw_below_drewN | apply below_drew1) | exact HB.out)) hb); clear HO318; clear HO321; clear HB; have HO318 := n0_; have HO321 := n1_; have HO325 := n2_; have HB := n3_; clear n0_ n1_ n2_ n3_; (try clear hb); (try clear hb2); (try clear hk); (try clear hi); (try clear ho0)) | ((with_reducible refine gate_callee (f := 12) rfl ?_); refine goesL_ (some 43) rfl rfl Tryd.func12 (by kernel_rfl) rfl #[.slice Ao18 t316.length co18] rfl (by (try simp only [List.map_toArray, List.map_cons, List.map_nil]); first | done | rfl | (simp only [List.length_drop, List.length_take]; rfl)) ?_; (with_reducible refine (reach_Order.calls k _ _ t316 t326 t327 _ ?side1 ?side2 A12.out).mono ?_); (case side1 => repeat (first | exact (Kd.R_reads' HO318.out).2.2 | (with_reducible refine Kd.C_alloc ?_ _) | (with_reducible refine Kd.C_drewN ?_ _) | (with_reducible refine Kd.C_drew ?_))); (case side2 => exact (Kd.R_reads' HO318.out).2.1); rintro e w21 ⟨v328, rfl, ho0, hb⟩; refine ⟨_, rfl, ?_⟩; have n0_ := Aside0.mk (Kd.R_below (by (with_reducible repeat (first | apply Kd.R_alloc | apply Kd.R_drewN | apply Kd.R_drew)); exact HO318.out) hb); have n1_ := Aside0.mk (Kd.R_below (by (with_reducible repeat (first | apply Kd.R_alloc | apply Kd.R_drewN | apply Kd.R_drew)); exact HO321.out) hb); have n2_ := Aside0.mk (Kd.R_elder' (by (with_reducible repeat (first | apply Kd.R_alloc | apply Kd.R_drewN | apply Kd.R_drew)); exact HO325.out) (Kd.R_base ho0) hb); have n3_ := Aside0.mk (Kd.R_lower (Kd.R_new' ho0 (Kd.R_lt (by (with_reducible repeat (first | apply Kd.R_alloc | apply Kd.R_drewN | apply Kd.R_drew)); exact HO325.out))) (below_size (by repeat (first | (with_reducible first | exact HB.out | apply below_alloc | apply pw_below_drewN | apply below_drew1) | exact HB.out)))); have n4_ := Aside0.mk (below_step (by repeat (first | (with_reducible first | exact HB.out | apply below_alloc | apply pw_below_drewN | apply below_drew1) | exact HB.out)) hb); clear HO318; clear HO321; clear HO325; clear HB; have HO318 := n0_; have HO321 := n1_; have HO325 := n2_; have HO329 := n3_; have HB := n4_; clear n0_ n1_ n2_ n3_ n4_; (try clear hb); (try clear hb2); (try clear hk); (try clear hi); (try clear ho0)) | ((with_reducible refine gate_callee (f := 13) rfl ?_); refine goesL_ (some 48) rfl rfl Tryd.func13 (by kernel_rfl) rfl #[.slice Ao18 t316.length co18] rfl (by (try simp only [List.map_toArray, List.map_cons, List.map_nil]); first | done | rfl | (simp only [List.length_drop, List.length_take]; rfl)) ?_; (with_reducible refine (withelaw3_deep.calls k _ _ t316 t330 t331 _ ?side1 ?side2 A13.out).mono ?_); (case side1 => repeat (first | exact (Kd.R_reads' HO318.out).2.2 | (with_reducible refine Kd.C_alloc ?_ _) | (with_reducible refine Kd.C_drewN ?_ _) | (with_reducible refine Kd.C_drew ?_))); (case side2 => exact (Kd.R_reads' HO318.out).2.1); rintro e w22 ⟨v332, rfl, ho0, hb⟩; refine ⟨_, rfl, ?_⟩; have n0_ := Aside0.mk (Kd.R_below (by (with_reducible repeat (first | apply Kd.R_alloc | apply Kd.R_drewN | apply Kd.R_drew)); exact HO318.out) hb); have n1_ := Aside0.mk (Kd.R_below (by (with_reducible repeat (first | apply Kd.R_alloc | apply Kd.R_drewN | apply Kd.R_drew)); exact HO321.out) hb); have n2_ := Aside0.mk (Kd.R_elder' (by (with_reducible repeat (first | apply Kd.R_alloc | apply Kd.R_drewN | apply Kd.R_drew)); exact HO325.out) (Kd.R_base ho0) hb); have n3_ := Aside0.mk (Kd.R_elder' (by (with_reducible repeat (first | apply Kd.R_alloc | apply Kd.R_drewN | apply Kd.R_drew)); exact HO329.out) (Kd.R_base ho0) hb); have n4_ := Aside0.mk (Kd.R_lower (Kd.R_new' (Kd.R_new' ho0 (Kd.R_lt (by (with_reducible repeat (first | apply Kd.R_alloc | apply Kd.R_drewN | apply Kd.R_drew)); exact HO325.out))) (Kd.R_lt (by (with_reducible repeat (first | apply Kd.R_alloc | apply Kd.R_drewN | apply Kd.R_drew)); exact HO329.out))) (below_size (by repeat (first | (with_reducible first | exact HB.out | apply below_alloc | apply pw_below_drewN | apply below_drew1) | exact HB.out)))); have n5_ := Aside0.mk (below_step (by repeat (first | (with_reducible first | exact HB.out | apply below_alloc | apply pw_below_drewN | apply below_drew1) | exact HB.out)) hb); clear HO318; clear HO321; clear HO325; clear HO329; clear HB; have HO318 := n0_; have HO321 := n1_; have HO325 := n2_; have HO329 := n3_; have HO333 := n4_; have HB := n5_; clear n0_ n1_ n2_ n3_ n4_ n5_; (try clear hb); (try clear hb2); (try clear hk); (try clear hi); (try clear ho0)) | ((with_reducible refine gate_callee (f := 14) rfl ?_); refine goesL_ (some 53) rfl rfl Tryd.func14 (by kernel_rfl) rfl #[.slice Ao18 t316.length co18] rfl (by (try simp only [List.map_toArray, List.map_cons, List.map_nil]); first | done | rfl | (simp only [List.length_drop, List.length_take]; rfl)) ?_; (with_reducible refine (reach_Deep.calls k _ _ t316 t334 t335 _ ?side1 ?side2 A14.out).mono ?_); (case side1 => repeat (first | exact (Kd.R_reads' HO318.out).2.2 | (with_reducible refine Kd.C_alloc ?_ _) | (with_reducible refine Kd.C_drewN ?_ _) | (with_reducible refine Kd.C_drew ?_))); (case side2 => exact (Kd.R_reads' HO318.out).2.1); rintro e w23 ⟨v336, rfl, ho0, hb⟩; refine ⟨_, rfl, ?_⟩; have n0_ := Aside0.mk (Kd.R_below (by (with_reducible repeat (first | apply Kd.R_alloc | apply Kd.R_drewN | apply Kd.R_drew)); exact HO318.out) hb); have n1_ := Aside0.mk (Kd.R_below (by (with_reducible repeat (first | apply Kd.R_alloc | apply Kd.R_drewN | apply Kd.R_drew)); exact HO321.out) hb); have n2_ := Aside0.mk (Kd.R_elder' (by (with_reducible repeat (first | apply Kd.R_alloc | apply Kd.R_drewN | apply Kd.R_drew)); exact HO325.out) (Kd.R_base ho0) hb); have n3_ := Aside0.mk (Kd.R_elder' (by (with_reducible repeat (first | apply Kd.R_alloc | apply Kd.R_drewN | apply Kd.R_drew)); exact HO329.out) (Kd.R_base ho0) hb); have n4_ := Aside0.mk (Kd.R_elder' (by (with_reducible repeat (first | apply Kd.R_alloc | apply Kd.R_drewN | apply Kd.R_drew)); exact HO333.out) (Kd.R_base ho0) hb); have n5_ := Aside0.mk (Kd.R_lower (Kd.R_new' (Kd.R_new' (Kd.R_new' ho0 (Kd.R_lt (by (with_reducible repeat (first | apply Kd.R_alloc | apply Kd.R_drewN | apply Kd.R_drew)); exact HO325.out))) (Kd.R_lt (by (with_reducible repeat (first | apply Kd.R_alloc | apply Kd.R_drewN | apply Kd.R_drew)); exact HO329.out))) (Kd.R_lt (by (with_reducible repeat (first | apply Kd.R_alloc | apply Kd.R_drewN | apply Kd.R_drew)); exact HO333.out))) (below_size (by repeat (first | (with_reducible first | exact HB.out | apply below_alloc | apply pw_below_drewN | apply below_drew1) | exact HB.out)))); have n6_ := Aside0.mk (below_step (by repeat (first | (with_reducible first | exact HB.out | apply below_alloc | apply pw_below_drewN | apply below_drew1) | exact HB.out)) hb); clear HO318; clear HO321; clear HO325; clear HO329; clear HO333; clear HB; have HO318 := n0_; have HO321 := n1_; have HO325 := n2_; have HO329 := n3_; have HO333 := n4_; have HO337 := n5_; have HB := n6_; clear n0_ n1_ n2_ n3_ n4_ n5_ n6_; (try clear hb); (try clear hb2); (try clear hk); (try clear hi); (try clear ho0)))
      (try simp only [Act.put, List.setIfInBounds_toArray, List.set_cons_zero, List.set_cons_succ])
      go_cut [89] (fun v89 wc => ∃ (kq : Nat) (x89_14 : Bool), v89 = .bool x89_14 ∧ Aside0 (withelaw3_ReachAll.j0 kq a3 t316 t319 x89_14 = some r) ∧ Aside0 (kq ≤ k) ∧ Aside0 (Kd.R (Kd.int .u64) 23 wc w.heap.size (fun k_ => some k_ ≠ (v320 : Value).ownBlock) (.slice Ao18 t316.length co18) t316) ∧ Aside0 (Kd.R (Kd.int .u64) 23 wc w.heap.size (fun k_ => some k_ ≠ ((.slice Ao18 t316.length co18) : Value).ownBlock) v320 t319) ∧ Aside0 (Below w.heap.size w wc))
      case first =>
        have H := HC15.out
        clear HC15
        replace H := Option.bind_eq_some_iff.mp H
        obtain ⟨t338, A240, H⟩ := H
        replace H : ((witheref1_SameRel.f k t338 t319).bind fun t341 => (if t341 = true then ((reach_Acyclic.f k t316).bind fun t342 => ((witheref1_Acyclic.f k t316).bind fun t343 => (if (t342 != t343) = true then (withelaw3_ReachAll.j0 k a3 t316 t319 true) else (if (t323 != t327) = true then (withelaw3_ReachAll.j0 k a3 t316 t319 true) else ((witheref1_SameInts.f k t322 t326).bind fun t344 => (if t344 = true then (if (t331 != t335) = true then (withelaw3_ReachAll.j0 k a3 t316 t319 true) else ((witheref1_SameInts.f k t330 t334).bind fun t345 => (withelaw3_ReachAll.j0 k a3 t316 t319 (!t345)))) else (withelaw3_ReachAll.j0 k a3 t316 t319 true))))))) else (withelaw3_ReachAll.j0 k a3 t316 t319 true))) = some r := H
        have A24 := Aside0.mk A240
        clear A240
        replace H := Option.bind_eq_some_iff.mp H
        obtain ⟨t341, A250, H⟩ := H
        replace H : (if t341 = true then ((reach_Acyclic.f k t316).bind fun t342 => ((witheref1_Acyclic.f k t316).bind fun t343 => (if (t342 != t343) = true then (withelaw3_ReachAll.j0 k a3 t316 t319 true) else (if (t323 != t327) = true then (withelaw3_ReachAll.j0 k a3 t316 t319 true) else ((witheref1_SameInts.f k t322 t326).bind fun t344 => (if t344 = true then (if (t331 != t335) = true then (withelaw3_ReachAll.j0 k a3 t316 t319 true) else ((witheref1_SameInts.f k t330 t334).bind fun t345 => (withelaw3_ReachAll.j0 k a3 t316 t319 (!t345)))) else (withelaw3_ReachAll.j0 k a3 t316 t319 true))))))) else (withelaw3_ReachAll.j0 k a3 t316 t319 true)) = some r := H
        have A25 := Aside0.mk A250
        clear A250
        by_cases c26 : t341 = true
        · subst c26
          have H1 : ((reach_Acyclic.f k t316).bind fun t342 => ((witheref1_Acyclic.f k t316).bind fun t343 => (if (t342 != t343) = true then (withelaw3_ReachAll.j0 k a3 t316 t319 true) else (if (t323 != t327) = true then (withelaw3_ReachAll.j0 k a3 t316 t319 true) else ((witheref1_SameInts.f k t322 t326).bind fun t344 => (if t344 = true then (if (t331 != t335) = true then (withelaw3_ReachAll.j0 k a3 t316 t319 true) else ((witheref1_SameInts.f k t330 t334).bind fun t345 => (withelaw3_ReachAll.j0 k a3 t316 t319 (!t345)))) else (withelaw3_ReachAll.j0 k a3 t316 t319 true))))))) = some r := by rw [if_pos rfl] at H; exact H
          clear H
          have H := H1
          clear H1
          replace H := Option.bind_eq_some_iff.mp H
          obtain ⟨t342, A270, H⟩ := H
          replace H : ((witheref1_Acyclic.f k t316).bind fun t343 => (if (t342 != t343) = true then (withelaw3_ReachAll.j0 k a3 t316 t319 true) else (if (t323 != t327) = true then (withelaw3_ReachAll.j0 k a3 t316 t319 true) else ((witheref1_SameInts.f k t322 t326).bind fun t344 => (if t344 = true then (if (t331 != t335) = true then (withelaw3_ReachAll.j0 k a3 t316 t319 true) else ((witheref1_SameInts.f k t330 t334).bind fun t345 => (withelaw3_ReachAll.j0 k a3 t316 t319 (!t345)))) else (withelaw3_ReachAll.j0 k a3 t316 t319 true)))))) = some r := H
          have A27 := Aside0.mk A270
          clear A270
          replace H := Option.bind_eq_some_iff.mp H
          obtain ⟨t343, A280, H⟩ := H
          replace H : (if (t342 != t343) = true then (withelaw3_ReachAll.j0 k a3 t316 t319 true) else (if (t323 != t327) = true then (withelaw3_ReachAll.j0 k a3 t316 t319 true) else ((witheref1_SameInts.f k t322 t326).bind fun t344 => (if t344 = true then (if (t331 != t335) = true then (withelaw3_ReachAll.j0 k a3 t316 t319 true) else ((witheref1_SameInts.f k t330 t334).bind fun t345 => (withelaw3_ReachAll.j0 k a3 t316 t319 (!t345)))) else (withelaw3_ReachAll.j0 k a3 t316 t319 true))))) = some r := H
          have A28 := Aside0.mk A280
          clear A280
          by_cases c29 : (t342 != t343) = true
          · rw [if_pos c29] at H
            have c29b0 : (t342 != t343) = true := c29
            (try (have c29b1 : decide (t342 = t343) = false := by simpa using c29))
            (try (have c29b2 : (t342 == t343) = false := by simpa using c29))
            (try (have c29b3 : ¬ (t342 = t343) := by simpa using c29))
            clear c29
            (first | rw [c29b0] | (simp only [i64_w, i32_w]; rw [c29b0]) | skip)
            have H' := Aside0.mk H
            clear H
            go_wp2_with (first | ((with_reducible refine gate_callee (f := 16) rfl ?_); refine goesL_ (some 57) rfl rfl Tryd.func16 (by kernel_rfl) rfl #[.slice Ao18 t316.length co18] rfl (by (try simp only [List.map_toArray, List.map_cons, List.map_nil]); first | done | rfl | (simp only [List.length_drop, List.length_take]; rfl)) ?_; (with_reducible refine (reach_Plus.calls k _ _ t316 t338 _ ?side1 ?side2 A24.out).mono ?_); (case side1 => repeat (first | exact (Kd.R_reads' HO318.out).2.2 | (with_reducible refine Kd.C_alloc ?_ _) | (with_reducible refine Kd.C_drewN ?_ _) | (with_reducible refine Kd.C_drew ?_))); (case side2 => exact (Kd.R_reads' HO318.out).2.1); rintro e w30 ⟨v339, rfl, ho0, hb⟩; refine ⟨_, rfl, ?_⟩; have n0_ := Aside0.mk (Kd.R_elder' (by (with_reducible repeat (first | apply Kd.R_alloc | apply Kd.R_drewN | apply Kd.R_drew)); exact HO318.out) (Kd.R_base ho0) hb); have n1_ := Aside0.mk (Kd.R_elder' (by (with_reducible repeat (first | apply Kd.R_alloc | apply Kd.R_drewN | apply Kd.R_drew)); exact HO321.out) (Kd.R_base ho0) hb); have n2_ := Aside0.mk (Kd.R_below (by (with_reducible repeat (first | apply Kd.R_alloc | apply Kd.R_drewN | apply Kd.R_drew)); exact HO325.out) hb); have n3_ := Aside0.mk (Kd.R_below (by (with_reducible repeat (first | apply Kd.R_alloc | apply Kd.R_drewN | apply Kd.R_drew)); exact HO329.out) hb); have n4_ := Aside0.mk (Kd.R_below (by (with_reducible repeat (first | apply Kd.R_alloc | apply Kd.R_drewN | apply Kd.R_drew)); exact HO333.out) hb); have n5_ := Aside0.mk (Kd.R_below (by (with_reducible repeat (first | apply Kd.R_alloc | apply Kd.R_drewN | apply Kd.R_drew)); exact HO337.out) hb); have n6_ := Aside0.mk (Kd.R_lower (Kd.R_new' (Kd.R_new' ho0 (Kd.R_lt (by (with_reducible repeat (first | apply Kd.R_alloc | apply Kd.R_drewN | apply Kd.R_drew)); exact HO318.out))) (Kd.R_lt (by (with_reducible repeat (first | apply Kd.R_alloc | apply Kd.R_drewN | apply Kd.R_drew)); exact HO321.out))) (below_size (by repeat (first | (with_reducible first | exact HB.out | apply below_alloc | apply pw_below_drewN | apply below_drew1) | exact HB.out)))); have n7_ := Aside0.mk (below_step (by repeat (first | (with_reducible first | exact HB.out | apply below_alloc | apply pw_below_drewN | apply below_drew1) | exact HB.out)) hb); clear HO318; clear HO321; clear HO325; clear HO329; clear HO333; clear HO337; clear HB; have HO318 := n0_; have HO321 := n1_; have HO325 := n2_; have HO329 := n3_; have HO333 := n4_; have HO337 := n5_; have HO340 := n6_; have HB := n7_; clear n0_ n1_ n2_ n3_ n4_ n5_ n6_ n7_; (try clear hb); (try clear hb2); (try clear hk); (try clear hi); (try clear ho0); obtain ⟨Ao31, co31, eo31⟩ := Kd.R_slice HO340.out; subst eo31; obtain ⟨Ao32, co32, eo32⟩ := Kd.R_slice HO321.out; subst eo32) | ((with_reducible refine gate_callee (f := 15) rfl ?_); refine goesL_ (some 59) rfl rfl Tryd.func15 (by kernel_rfl) rfl #[.slice Ao31 t338.length co31, .slice Ao32 t319.length co32] rfl (by (try simp only [List.map_toArray, List.map_cons, List.map_nil]); first | done | rfl | (simp only [List.length_drop, List.length_take]; rfl)) ?_; (with_reducible refine (witheref1_SameRel.calls k _ _ t338 _ _ t319 true _ ?side1 ?side2 ?side3 ?side4 A25.out).mono ?_); (case side1 => repeat (first | exact (Kd.R_reads' HO340.out).2.2 | (with_reducible refine Kd.C_alloc ?_ _) | (with_reducible refine Kd.C_drewN ?_ _) | (with_reducible refine Kd.C_drew ?_))); (case side2 => exact (Kd.R_reads' HO340.out).2.1); (case side3 => repeat (first | exact (Kd.R_reads' HO321.out).2.2 | (with_reducible refine Kd.C_alloc ?_ _) | (with_reducible refine Kd.C_drewN ?_ _) | (with_reducible refine Kd.C_drew ?_))); (case side4 => exact (Kd.R_reads' HO321.out).2.1); rintro e w' ⟨rfl, ⟨nd, rfl⟩⟩; refine ⟨_, rfl, ?_⟩) | ((first | ((with_reducible refine gate_callee (f := 17) rfl ?_); (refine gate_guard (by rfl) ?_; dsimp only); refine goesL_ (some 63) rfl rfl Tryd.func17 (by kernel_rfl) rfl #[.slice Ao18 t316.length co18] rfl (by (try simp only [List.map_toArray, List.map_cons, List.map_nil]); first | done | rfl | (simp only [List.length_drop, List.length_take]; rfl)) ?_; (with_reducible refine (reach_Acyclic.calls k _ _ t316 t342 _ ?side1 ?side2 A27.out).mono ?_); (case side1 => repeat (first | exact (Kd.R_reads' HO318.out).2.2 | (with_reducible refine Kd.C_alloc ?_ _) | (with_reducible refine Kd.C_drewN ?_ _) | (with_reducible refine Kd.C_drew ?_))); (case side2 => exact (Kd.R_reads' HO318.out).2.1); rintro e w33 ⟨rfl, hb⟩; refine ⟨_, rfl, ?_⟩; have n0_ := Aside0.mk (Kd.R_below (by (with_reducible repeat (first | apply Kd.R_alloc | apply Kd.R_drewN | apply Kd.R_drew)); exact HO318.out) hb); have n1_ := Aside0.mk (Kd.R_below (by (with_reducible repeat (first | apply Kd.R_alloc | apply Kd.R_drewN | apply Kd.R_drew)); exact HO321.out) hb); have n2_ := Aside0.mk (Kd.R_below (by (with_reducible repeat (first | apply Kd.R_alloc | apply Kd.R_drewN | apply Kd.R_drew)); exact HO325.out) hb); have n3_ := Aside0.mk (Kd.R_below (by (with_reducible repeat (first | apply Kd.R_alloc | apply Kd.R_drewN | apply Kd.R_drew)); exact HO329.out) hb); have n4_ := Aside0.mk (Kd.R_below (by (with_reducible repeat (first | apply Kd.R_alloc | apply Kd.R_drewN | apply Kd.R_drew)); exact HO333.out) hb); have n5_ := Aside0.mk (Kd.R_below (by (with_reducible repeat (first | apply Kd.R_alloc | apply Kd.R_drewN | apply Kd.R_drew)); exact HO337.out) hb); have n6_ := Aside0.mk (Kd.R_below (by (with_reducible repeat (first | apply Kd.R_alloc | apply Kd.R_drewN | apply Kd.R_drew)); exact HO340.out) hb); have n7_ := Aside0.mk (below_step (by repeat (first | (with_reducible first | exact HB.out | apply below_alloc | apply pw_below_drewN | apply below_drew1) | exact HB.out)) hb); clear HO318; clear HO321; clear HO325; clear HO329; clear HO333; clear HO337; clear HO340; clear HB; have HO318 := n0_; have HO321 := n1_; have HO325 := n2_; have HO329 := n3_; have HO333 := n4_; have HO337 := n5_; have HO340 := n6_; have HB := n7_; clear n0_ n1_ n2_ n3_ n4_ n5_ n6_ n7_; (try clear hb); (try clear hb2); (try clear hk); (try clear hi)) | (go_at_call 17; (with_reducible refine (reach_Acyclic.calls k _ _ t316 t342 _ ?side1 ?side2 A27.out).mono ?_); (case side1 => repeat (first | exact (Kd.R_reads' HO318.out).2.2 | (with_reducible refine Kd.C_alloc ?_ _) | (with_reducible refine Kd.C_drewN ?_ _) | (with_reducible refine Kd.C_drew ?_))); (case side2 => exact (Kd.R_reads' HO318.out).2.1); rintro e w33 ⟨rfl, hb⟩; have n0_ := Aside0.mk (Kd.R_below (by (with_reducible repeat (first | apply Kd.R_alloc | apply Kd.R_drewN | apply Kd.R_drew)); exact HO318.out) hb); have n1_ := Aside0.mk (Kd.R_below (by (with_reducible repeat (first | apply Kd.R_alloc | apply Kd.R_drewN | apply Kd.R_drew)); exact HO321.out) hb); have n2_ := Aside0.mk (Kd.R_below (by (with_reducible repeat (first | apply Kd.R_alloc | apply Kd.R_drewN | apply Kd.R_drew)); exact HO325.out) hb); have n3_ := Aside0.mk (Kd.R_below (by (with_reducible repeat (first | apply Kd.R_alloc | apply Kd.R_drewN | apply Kd.R_drew)); exact HO329.out) hb); have n4_ := Aside0.mk (Kd.R_below (by (with_reducible repeat (first | apply Kd.R_alloc | apply Kd.R_drewN | apply Kd.R_drew)); exact HO333.out) hb); have n5_ := Aside0.mk (Kd.R_below (by (with_reducible repeat (first | apply Kd.R_alloc | apply Kd.R_drewN | apply Kd.R_drew)); exact HO337.out) hb); have n6_ := Aside0.mk (Kd.R_below (by (with_reducible repeat (first | apply Kd.R_alloc | apply Kd.R_drewN | apply Kd.R_drew)); exact HO340.out) hb); have n7_ := Aside0.mk (below_step (by repeat (first | (with_reducible first | exact HB.out | apply below_alloc | apply pw_below_drewN | apply below_drew1) | exact HB.out)) hb); clear HO318; clear HO321; clear HO325; clear HO329; clear HO333; clear HO337; clear HO340; clear HB; have HO318 := n0_; have HO321 := n1_; have HO325 := n2_; have HO329 := n3_; have HO333 := n4_; have HO337 := n5_; have HO340 := n6_; have HB := n7_; clear n0_ n1_ n2_ n3_ n4_ n5_ n6_ n7_; (try clear hb); (try clear hb2); (try clear hk); (try clear hi)))) | ((first | ((with_reducible refine gate_callee (f := 18) rfl ?_); (refine gate_guard (by rfl) ?_; dsimp only); refine goesL_ (some 65) rfl rfl Tryd.func18 (by kernel_rfl) rfl #[.slice Ao18 t316.length co18] rfl (by (try simp only [List.map_toArray, List.map_cons, List.map_nil]); first | done | rfl | (simp only [List.length_drop, List.length_take]; rfl)) ?_; (with_reducible refine (witheref1_Acyclic.calls k _ _ t316 t343 _ ?side1 ?side2 A28.out).mono ?_); (case side1 => repeat (first | exact (Kd.R_reads' HO318.out).2.2 | (with_reducible refine Kd.C_alloc ?_ _) | (with_reducible refine Kd.C_drewN ?_ _) | (with_reducible refine Kd.C_drew ?_))); (case side2 => exact (Kd.R_reads' HO318.out).2.1); rintro e w34 ⟨rfl, hb⟩; refine ⟨_, rfl, ?_⟩; have n0_ := Aside0.mk (Kd.R_below (by (with_reducible repeat (first | apply Kd.R_alloc | apply Kd.R_drewN | apply Kd.R_drew)); exact HO318.out) hb); have n1_ := Aside0.mk (Kd.R_below (by (with_reducible repeat (first | apply Kd.R_alloc | apply Kd.R_drewN | apply Kd.R_drew)); exact HO321.out) hb); have n2_ := Aside0.mk (Kd.R_below (by (with_reducible repeat (first | apply Kd.R_alloc | apply Kd.R_drewN | apply Kd.R_drew)); exact HO325.out) hb); have n3_ := Aside0.mk (Kd.R_below (by (with_reducible repeat (first | apply Kd.R_alloc | apply Kd.R_drewN | apply Kd.R_drew)); exact HO329.out) hb); have n4_ := Aside0.mk (Kd.R_below (by (with_reducible repeat (first | apply Kd.R_alloc | apply Kd.R_drewN | apply Kd.R_drew)); exact HO333.out) hb); have n5_ := Aside0.mk (Kd.R_below (by (with_reducible repeat (first | apply Kd.R_alloc | apply Kd.R_drewN | apply Kd.R_drew)); exact HO337.out) hb); have n6_ := Aside0.mk (Kd.R_below (by (with_reducible repeat (first | apply Kd.R_alloc | apply Kd.R_drewN | apply Kd.R_drew)); exact HO340.out) hb); have n7_ := Aside0.mk (below_step (by repeat (first | (with_reducible first | exact HB.out | apply below_alloc | apply pw_below_drewN | apply below_drew1) | exact HB.out)) hb); clear HO318; clear HO321; clear HO325; clear HO329; clear HO333; clear HO337; clear HO340; clear HB; have HO318 := n0_; have HO321 := n1_; have HO325 := n2_; have HO329 := n3_; have HO333 := n4_; have HO337 := n5_; have HO340 := n6_; have HB := n7_; clear n0_ n1_ n2_ n3_ n4_ n5_ n6_ n7_; (try clear hb); (try clear hb2); (try clear hk); (try clear hi)) | (go_at_call 18; (with_reducible refine (witheref1_Acyclic.calls k _ _ t316 t343 _ ?side1 ?side2 A28.out).mono ?_); (case side1 => repeat (first | exact (Kd.R_reads' HO318.out).2.2 | (with_reducible refine Kd.C_alloc ?_ _) | (with_reducible refine Kd.C_drewN ?_ _) | (with_reducible refine Kd.C_drew ?_))); (case side2 => exact (Kd.R_reads' HO318.out).2.1); rintro e w34 ⟨rfl, hb⟩; have n0_ := Aside0.mk (Kd.R_below (by (with_reducible repeat (first | apply Kd.R_alloc | apply Kd.R_drewN | apply Kd.R_drew)); exact HO318.out) hb); have n1_ := Aside0.mk (Kd.R_below (by (with_reducible repeat (first | apply Kd.R_alloc | apply Kd.R_drewN | apply Kd.R_drew)); exact HO321.out) hb); have n2_ := Aside0.mk (Kd.R_below (by (with_reducible repeat (first | apply Kd.R_alloc | apply Kd.R_drewN | apply Kd.R_drew)); exact HO325.out) hb); have n3_ := Aside0.mk (Kd.R_below (by (with_reducible repeat (first | apply Kd.R_alloc | apply Kd.R_drewN | apply Kd.R_drew)); exact HO329.out) hb); have n4_ := Aside0.mk (Kd.R_below (by (with_reducible repeat (first | apply Kd.R_alloc | apply Kd.R_drewN | apply Kd.R_drew)); exact HO333.out) hb); have n5_ := Aside0.mk (Kd.R_below (by (with_reducible repeat (first | apply Kd.R_alloc | apply Kd.R_drewN | apply Kd.R_drew)); exact HO337.out) hb); have n6_ := Aside0.mk (Kd.R_below (by (with_reducible repeat (first | apply Kd.R_alloc | apply Kd.R_drewN | apply Kd.R_drew)); exact HO340.out) hb); have n7_ := Aside0.mk (below_step (by repeat (first | (with_reducible first | exact HB.out | apply below_alloc | apply pw_below_drewN | apply below_drew1) | exact HB.out)) hb); clear HO318; clear HO321; clear HO325; clear HO329; clear HO333; clear HO337; clear HO340; clear HB; have HO318 := n0_; have HO321 := n1_; have HO325 := n2_; have HO329 := n3_; have HO333 := n4_; have HO337 := n5_; have HO340 := n6_; have HB := n7_; clear n0_ n1_ n2_ n3_ n4_ n5_ n6_ n7_; (try clear hb); (try clear hb2); (try clear hk); (try clear hi)))))
            go_meet
            case rel => exact ⟨_, (true), (by first | rfl | (simp; done) | (simp [*]; done)), H', ⟨by first | omega | exact Nat.le_refl _⟩, ⟨by (with_reducible repeat (first | apply Kd.R_alloc | apply Kd.R_drewN | apply Kd.R_drew)); exact Kd.R_mono HO318.out (fun _ hk => hk.1.2)⟩, ⟨by (with_reducible repeat (first | apply Kd.R_alloc | apply Kd.R_drewN | apply Kd.R_drew)); exact Kd.R_mono HO321.out (fun _ hk => hk.1.2)⟩, ⟨by repeat (first | (with_reducible first | exact HB.out | apply below_alloc | apply pw_below_drewN | apply below_drew1) | exact HB.out)⟩⟩
          · rw [if_neg c29] at H
            have c29b0 : (t342 != t343) = false := by simpa using c29
            (try (have c29b1 : decide (t342 = t343) = true := by simpa using c29))
            (try (have c29b2 : (t342 == t343) = true := by simpa using c29))
            clear c29
            (first | rw [c29b0] | (simp only [i64_w, i32_w]; rw [c29b0]) | skip)
            by_cases c35 : (t323 != t327) = true
            · rw [if_pos c35] at H
              have c35b0 : (t323 != t327) = true := c35
              (try (have c35b1 : decide (t323 = t327) = false := by simpa using c35))
              (try (have c35b2 : (t323 == t327) = false := by simpa using c35))
              (try (have c35b3 : ¬ (t323 = t327) := by simpa using c35))
              clear c35
              have H' := Aside0.mk H
              clear H
              go_wp2_with (first | ((with_reducible refine gate_callee (f := 16) rfl ?_); refine goesL_ (some 57) rfl rfl Tryd.func16 (by kernel_rfl) rfl #[.slice Ao18 t316.length co18] rfl (by (try simp only [List.map_toArray, List.map_cons, List.map_nil]); first | done | rfl | (simp only [List.length_drop, List.length_take]; rfl)) ?_; (with_reducible refine (reach_Plus.calls k _ _ t316 t338 _ ?side1 ?side2 A24.out).mono ?_); (case side1 => repeat (first | exact (Kd.R_reads' HO318.out).2.2 | (with_reducible refine Kd.C_alloc ?_ _) | (with_reducible refine Kd.C_drewN ?_ _) | (with_reducible refine Kd.C_drew ?_))); (case side2 => exact (Kd.R_reads' HO318.out).2.1); rintro e w36 ⟨v339, rfl, ho0, hb⟩; refine ⟨_, rfl, ?_⟩; have n0_ := Aside0.mk (Kd.R_elder' (by (with_reducible repeat (first | apply Kd.R_alloc | apply Kd.R_drewN | apply Kd.R_drew)); exact HO318.out) (Kd.R_base ho0) hb); have n1_ := Aside0.mk (Kd.R_elder' (by (with_reducible repeat (first | apply Kd.R_alloc | apply Kd.R_drewN | apply Kd.R_drew)); exact HO321.out) (Kd.R_base ho0) hb); have n2_ := Aside0.mk (Kd.R_below (by (with_reducible repeat (first | apply Kd.R_alloc | apply Kd.R_drewN | apply Kd.R_drew)); exact HO325.out) hb); have n3_ := Aside0.mk (Kd.R_below (by (with_reducible repeat (first | apply Kd.R_alloc | apply Kd.R_drewN | apply Kd.R_drew)); exact HO329.out) hb); have n4_ := Aside0.mk (Kd.R_below (by (with_reducible repeat (first | apply Kd.R_alloc | apply Kd.R_drewN | apply Kd.R_drew)); exact HO333.out) hb); have n5_ := Aside0.mk (Kd.R_below (by (with_reducible repeat (first | apply Kd.R_alloc | apply Kd.R_drewN | apply Kd.R_drew)); exact HO337.out) hb); have n6_ := Aside0.mk (Kd.R_lower (Kd.R_new' (Kd.R_new' ho0 (Kd.R_lt (by (with_reducible repeat (first | apply Kd.R_alloc | apply Kd.R_drewN | apply Kd.R_drew)); exact HO318.out))) (Kd.R_lt (by (with_reducible repeat (first | apply Kd.R_alloc | apply Kd.R_drewN | apply Kd.R_drew)); exact HO321.out))) (below_size (by repeat (first | (with_reducible first | exact HB.out | apply below_alloc | apply pw_below_drewN | apply below_drew1) | exact HB.out)))); have n7_ := Aside0.mk (below_step (by repeat (first | (with_reducible first | exact HB.out | apply below_alloc | apply pw_below_drewN | apply below_drew1) | exact HB.out)) hb); clear HO318; clear HO321; clear HO325; clear HO329; clear HO333; clear HO337; clear HB; have HO318 := n0_; have HO321 := n1_; have HO325 := n2_; have HO329 := n3_; have HO333 := n4_; have HO337 := n5_; have HO340 := n6_; have HB := n7_; clear n0_ n1_ n2_ n3_ n4_ n5_ n6_ n7_; (try clear hb); (try clear hb2); (try clear hk); (try clear hi); (try clear ho0); obtain ⟨Ao37, co37, eo37⟩ := Kd.R_slice HO340.out; subst eo37; obtain ⟨Ao38, co38, eo38⟩ := Kd.R_slice HO321.out; subst eo38) | ((with_reducible refine gate_callee (f := 15) rfl ?_); refine goesL_ (some 59) rfl rfl Tryd.func15 (by kernel_rfl) rfl #[.slice Ao37 t338.length co37, .slice Ao38 t319.length co38] rfl (by (try simp only [List.map_toArray, List.map_cons, List.map_nil]); first | done | rfl | (simp only [List.length_drop, List.length_take]; rfl)) ?_; (with_reducible refine (witheref1_SameRel.calls k _ _ t338 _ _ t319 true _ ?side1 ?side2 ?side3 ?side4 A25.out).mono ?_); (case side1 => repeat (first | exact (Kd.R_reads' HO340.out).2.2 | (with_reducible refine Kd.C_alloc ?_ _) | (with_reducible refine Kd.C_drewN ?_ _) | (with_reducible refine Kd.C_drew ?_))); (case side2 => exact (Kd.R_reads' HO340.out).2.1); (case side3 => repeat (first | exact (Kd.R_reads' HO321.out).2.2 | (with_reducible refine Kd.C_alloc ?_ _) | (with_reducible refine Kd.C_drewN ?_ _) | (with_reducible refine Kd.C_drew ?_))); (case side4 => exact (Kd.R_reads' HO321.out).2.1); rintro e w' ⟨rfl, ⟨nd, rfl⟩⟩; refine ⟨_, rfl, ?_⟩) | ((first | ((with_reducible refine gate_callee (f := 17) rfl ?_); (refine gate_guard (by rfl) ?_; dsimp only); refine goesL_ (some 63) rfl rfl Tryd.func17 (by kernel_rfl) rfl #[.slice Ao18 t316.length co18] rfl (by (try simp only [List.map_toArray, List.map_cons, List.map_nil]); first | done | rfl | (simp only [List.length_drop, List.length_take]; rfl)) ?_; (with_reducible refine (reach_Acyclic.calls k _ _ t316 t342 _ ?side1 ?side2 A27.out).mono ?_); (case side1 => repeat (first | exact (Kd.R_reads' HO318.out).2.2 | (with_reducible refine Kd.C_alloc ?_ _) | (with_reducible refine Kd.C_drewN ?_ _) | (with_reducible refine Kd.C_drew ?_))); (case side2 => exact (Kd.R_reads' HO318.out).2.1); rintro e w39 ⟨rfl, hb⟩; refine ⟨_, rfl, ?_⟩; have n0_ := Aside0.mk (Kd.R_below (by (with_reducible repeat (first | apply Kd.R_alloc | apply Kd.R_drewN | apply Kd.R_drew)); exact HO318.out) hb); have n1_ := Aside0.mk (Kd.R_below (by (with_reducible repeat (first | apply Kd.R_alloc | apply Kd.R_drewN | apply Kd.R_drew)); exact HO321.out) hb); have n2_ := Aside0.mk (Kd.R_below (by (with_reducible repeat (first | apply Kd.R_alloc | apply Kd.R_drewN | apply Kd.R_drew)); exact HO325.out) hb); have n3_ := Aside0.mk (Kd.R_below (by (with_reducible repeat (first | apply Kd.R_alloc | apply Kd.R_drewN | apply Kd.R_drew)); exact HO329.out) hb); have n4_ := Aside0.mk (Kd.R_below (by (with_reducible repeat (first | apply Kd.R_alloc | apply Kd.R_drewN | apply Kd.R_drew)); exact HO333.out) hb); have n5_ := Aside0.mk (Kd.R_below (by (with_reducible repeat (first | apply Kd.R_alloc | apply Kd.R_drewN | apply Kd.R_drew)); exact HO337.out) hb); have n6_ := Aside0.mk (Kd.R_below (by (with_reducible repeat (first | apply Kd.R_alloc | apply Kd.R_drewN | apply Kd.R_drew)); exact HO340.out) hb); have n7_ := Aside0.mk (below_step (by repeat (first | (with_reducible first | exact HB.out | apply below_alloc | apply pw_below_drewN | apply below_drew1) | exact HB.out)) hb); clear HO318; clear HO321; clear HO325; clear HO329; clear HO333; clear HO337; clear HO340; clear HB; have HO318 := n0_; have HO321 := n1_; have HO325 := n2_; have HO329 := n3_; have HO333 := n4_; have HO337 := n5_; have HO340 := n6_; have HB := n7_; clear n0_ n1_ n2_ n3_ n4_ n5_ n6_ n7_; (try clear hb); (try clear hb2); (try clear hk); (try clear hi)) | (go_at_call 17; (with_reducible refine (reach_Acyclic.calls k _ _ t316 t342 _ ?side1 ?side2 A27.out).mono ?_); (case side1 => repeat (first | exact (Kd.R_reads' HO318.out).2.2 | (with_reducible refine Kd.C_alloc ?_ _) | (with_reducible refine Kd.C_drewN ?_ _) | (with_reducible refine Kd.C_drew ?_))); (case side2 => exact (Kd.R_reads' HO318.out).2.1); rintro e w39 ⟨rfl, hb⟩; have n0_ := Aside0.mk (Kd.R_below (by (with_reducible repeat (first | apply Kd.R_alloc | apply Kd.R_drewN | apply Kd.R_drew)); exact HO318.out) hb); have n1_ := Aside0.mk (Kd.R_below (by (with_reducible repeat (first | apply Kd.R_alloc | apply Kd.R_drewN | apply Kd.R_drew)); exact HO321.out) hb); have n2_ := Aside0.mk (Kd.R_below (by (with_reducible repeat (first | apply Kd.R_alloc | apply Kd.R_drewN | apply Kd.R_drew)); exact HO325.out) hb); have n3_ := Aside0.mk (Kd.R_below (by (with_reducible repeat (first | apply Kd.R_alloc | apply Kd.R_drewN | apply Kd.R_drew)); exact HO329.out) hb); have n4_ := Aside0.mk (Kd.R_below (by (with_reducible repeat (first | apply Kd.R_alloc | apply Kd.R_drewN | apply Kd.R_drew)); exact HO333.out) hb); have n5_ := Aside0.mk (Kd.R_below (by (with_reducible repeat (first | apply Kd.R_alloc | apply Kd.R_drewN | apply Kd.R_drew)); exact HO337.out) hb); have n6_ := Aside0.mk (Kd.R_below (by (with_reducible repeat (first | apply Kd.R_alloc | apply Kd.R_drewN | apply Kd.R_drew)); exact HO340.out) hb); have n7_ := Aside0.mk (below_step (by repeat (first | (with_reducible first | exact HB.out | apply below_alloc | apply pw_below_drewN | apply below_drew1) | exact HB.out)) hb); clear HO318; clear HO321; clear HO325; clear HO329; clear HO333; clear HO337; clear HO340; clear HB; have HO318 := n0_; have HO321 := n1_; have HO325 := n2_; have HO329 := n3_; have HO333 := n4_; have HO337 := n5_; have HO340 := n6_; have HB := n7_; clear n0_ n1_ n2_ n3_ n4_ n5_ n6_ n7_; (try clear hb); (try clear hb2); (try clear hk); (try clear hi)))) | ((first | ((with_reducible refine gate_callee (f := 18) rfl ?_); (refine gate_guard (by rfl) ?_; dsimp only); refine goesL_ (some 65) rfl rfl Tryd.func18 (by kernel_rfl) rfl #[.slice Ao18 t316.length co18] rfl (by (try simp only [List.map_toArray, List.map_cons, List.map_nil]); first | done | rfl | (simp only [List.length_drop, List.length_take]; rfl)) ?_; (with_reducible refine (witheref1_Acyclic.calls k _ _ t316 t343 _ ?side1 ?side2 A28.out).mono ?_); (case side1 => repeat (first | exact (Kd.R_reads' HO318.out).2.2 | (with_reducible refine Kd.C_alloc ?_ _) | (with_reducible refine Kd.C_drewN ?_ _) | (with_reducible refine Kd.C_drew ?_))); (case side2 => exact (Kd.R_reads' HO318.out).2.1); rintro e w40 ⟨rfl, hb⟩; refine ⟨_, rfl, ?_⟩; have n0_ := Aside0.mk (Kd.R_below (by (with_reducible repeat (first | apply Kd.R_alloc | apply Kd.R_drewN | apply Kd.R_drew)); exact HO318.out) hb); have n1_ := Aside0.mk (Kd.R_below (by (with_reducible repeat (first | apply Kd.R_alloc | apply Kd.R_drewN | apply Kd.R_drew)); exact HO321.out) hb); have n2_ := Aside0.mk (Kd.R_below (by (with_reducible repeat (first | apply Kd.R_alloc | apply Kd.R_drewN | apply Kd.R_drew)); exact HO325.out) hb); have n3_ := Aside0.mk (Kd.R_below (by (with_reducible repeat (first | apply Kd.R_alloc | apply Kd.R_drewN | apply Kd.R_drew)); exact HO329.out) hb); have n4_ := Aside0.mk (Kd.R_below (by (with_reducible repeat (first | apply Kd.R_alloc | apply Kd.R_drewN | apply Kd.R_drew)); exact HO333.out) hb); have n5_ := Aside0.mk (Kd.R_below (by (with_reducible repeat (first | apply Kd.R_alloc | apply Kd.R_drewN | apply Kd.R_drew)); exact HO337.out) hb); have n6_ := Aside0.mk (Kd.R_below (by (with_reducible repeat (first | apply Kd.R_alloc | apply Kd.R_drewN | apply Kd.R_drew)); exact HO340.out) hb); have n7_ := Aside0.mk (below_step (by repeat (first | (with_reducible first | exact HB.out | apply below_alloc | apply pw_below_drewN | apply below_drew1) | exact HB.out)) hb); clear HO318; clear HO321; clear HO325; clear HO329; clear HO333; clear HO337; clear HO340; clear HB; have HO318 := n0_; have HO321 := n1_; have HO325 := n2_; have HO329 := n3_; have HO333 := n4_; have HO337 := n5_; have HO340 := n6_; have HB := n7_; clear n0_ n1_ n2_ n3_ n4_ n5_ n6_ n7_; (try clear hb); (try clear hb2); (try clear hk); (try clear hi)) | (go_at_call 18; (with_reducible refine (witheref1_Acyclic.calls k _ _ t316 t343 _ ?side1 ?side2 A28.out).mono ?_); (case side1 => repeat (first | exact (Kd.R_reads' HO318.out).2.2 | (with_reducible refine Kd.C_alloc ?_ _) | (with_reducible refine Kd.C_drewN ?_ _) | (with_reducible refine Kd.C_drew ?_))); (case side2 => exact (Kd.R_reads' HO318.out).2.1); rintro e w40 ⟨rfl, hb⟩; have n0_ := Aside0.mk (Kd.R_below (by (with_reducible repeat (first | apply Kd.R_alloc | apply Kd.R_drewN | apply Kd.R_drew)); exact HO318.out) hb); have n1_ := Aside0.mk (Kd.R_below (by (with_reducible repeat (first | apply Kd.R_alloc | apply Kd.R_drewN | apply Kd.R_drew)); exact HO321.out) hb); have n2_ := Aside0.mk (Kd.R_below (by (with_reducible repeat (first | apply Kd.R_alloc | apply Kd.R_drewN | apply Kd.R_drew)); exact HO325.out) hb); have n3_ := Aside0.mk (Kd.R_below (by (with_reducible repeat (first | apply Kd.R_alloc | apply Kd.R_drewN | apply Kd.R_drew)); exact HO329.out) hb); have n4_ := Aside0.mk (Kd.R_below (by (with_reducible repeat (first | apply Kd.R_alloc | apply Kd.R_drewN | apply Kd.R_drew)); exact HO333.out) hb); have n5_ := Aside0.mk (Kd.R_below (by (with_reducible repeat (first | apply Kd.R_alloc | apply Kd.R_drewN | apply Kd.R_drew)); exact HO337.out) hb); have n6_ := Aside0.mk (Kd.R_below (by (with_reducible repeat (first | apply Kd.R_alloc | apply Kd.R_drewN | apply Kd.R_drew)); exact HO340.out) hb); have n7_ := Aside0.mk (below_step (by repeat (first | (with_reducible first | exact HB.out | apply below_alloc | apply pw_below_drewN | apply below_drew1) | exact HB.out)) hb); clear HO318; clear HO321; clear HO325; clear HO329; clear HO333; clear HO337; clear HO340; clear HB; have HO318 := n0_; have HO321 := n1_; have HO325 := n2_; have HO329 := n3_; have HO333 := n4_; have HO337 := n5_; have HO340 := n6_; have HB := n7_; clear n0_ n1_ n2_ n3_ n4_ n5_ n6_ n7_; (try clear hb); (try clear hb2); (try clear hk); (try clear hi)))))
              go_meet
              case rel => exact ⟨_, (true), (by first | rfl | (simp; done) | (simp [*]; done)), H', ⟨by first | omega | exact Nat.le_refl _⟩, ⟨by (with_reducible repeat (first | apply Kd.R_alloc | apply Kd.R_drewN | apply Kd.R_drew)); exact Kd.R_mono HO318.out (fun _ hk => hk.1.2)⟩, ⟨by (with_reducible repeat (first | apply Kd.R_alloc | apply Kd.R_drewN | apply Kd.R_drew)); exact Kd.R_mono HO321.out (fun _ hk => hk.1.2)⟩, ⟨by repeat (first | (with_reducible first | exact HB.out | apply below_alloc | apply pw_below_drewN | apply below_drew1) | exact HB.out)⟩⟩
            · rw [if_neg c35] at H
              have c35b0 : (t323 != t327) = false := by simpa using c35
              (try (have c35b1 : decide (t323 = t327) = true := by simpa using c35))
              (try (have c35b2 : (t323 == t327) = true := by simpa using c35))
              clear c35
              replace H := Option.bind_eq_some_iff.mp H
              obtain ⟨t344, A410, H⟩ := H
              replace H : (if t344 = true then (if (t331 != t335) = true then (withelaw3_ReachAll.j0 k a3 t316 t319 true) else ((witheref1_SameInts.f k t330 t334).bind fun t345 => (withelaw3_ReachAll.j0 k a3 t316 t319 (!t345)))) else (withelaw3_ReachAll.j0 k a3 t316 t319 true)) = some r := H
              have A41 := Aside0.mk A410
              clear A410
              by_cases c42 : t344 = true
              · subst c42
                have H1 : (if (t331 != t335) = true then (withelaw3_ReachAll.j0 k a3 t316 t319 true) else ((witheref1_SameInts.f k t330 t334).bind fun t345 => (withelaw3_ReachAll.j0 k a3 t316 t319 (!t345)))) = some r := by rw [if_pos rfl] at H; exact H
                clear H
                have H := H1
                clear H1
                by_cases c43 : (t331 != t335) = true
                · rw [if_pos c43] at H
                  have c43b0 : (t331 != t335) = true := c43
                  (try (have c43b1 : decide (t331 = t335) = false := by simpa using c43))
                  (try (have c43b2 : (t331 == t335) = false := by simpa using c43))
                  (try (have c43b3 : ¬ (t331 = t335) := by simpa using c43))
                  clear c43
                  have H' := Aside0.mk H
                  clear H
                  go_wp2_with (first | ((with_reducible refine gate_callee (f := 16) rfl ?_); refine goesL_ (some 57) rfl rfl Tryd.func16 (by kernel_rfl) rfl #[.slice Ao18 t316.length co18] rfl (by (try simp only [List.map_toArray, List.map_cons, List.map_nil]); first | done | rfl | (simp only [List.length_drop, List.length_take]; rfl)) ?_; (with_reducible refine (reach_Plus.calls k _ _ t316 t338 _ ?side1 ?side2 A24.out).mono ?_); (case side1 => repeat (first | exact (Kd.R_reads' HO318.out).2.2 | (with_reducible refine Kd.C_alloc ?_ _) | (with_reducible refine Kd.C_drewN ?_ _) | (with_reducible refine Kd.C_drew ?_))); (case side2 => exact (Kd.R_reads' HO318.out).2.1); rintro e w44 ⟨v339, rfl, ho0, hb⟩; refine ⟨_, rfl, ?_⟩; have n0_ := Aside0.mk (Kd.R_elder' (by (with_reducible repeat (first | apply Kd.R_alloc | apply Kd.R_drewN | apply Kd.R_drew)); exact HO318.out) (Kd.R_base ho0) hb); have n1_ := Aside0.mk (Kd.R_elder' (by (with_reducible repeat (first | apply Kd.R_alloc | apply Kd.R_drewN | apply Kd.R_drew)); exact HO321.out) (Kd.R_base ho0) hb); have n2_ := Aside0.mk (Kd.R_below (by (with_reducible repeat (first | apply Kd.R_alloc | apply Kd.R_drewN | apply Kd.R_drew)); exact HO325.out) hb); have n3_ := Aside0.mk (Kd.R_below (by (with_reducible repeat (first | apply Kd.R_alloc | apply Kd.R_drewN | apply Kd.R_drew)); exact HO329.out) hb); have n4_ := Aside0.mk (Kd.R_below (by (with_reducible repeat (first | apply Kd.R_alloc | apply Kd.R_drewN | apply Kd.R_drew)); exact HO333.out) hb); have n5_ := Aside0.mk (Kd.R_below (by (with_reducible repeat (first | apply Kd.R_alloc | apply Kd.R_drewN | apply Kd.R_drew)); exact HO337.out) hb); have n6_ := Aside0.mk (Kd.R_lower (Kd.R_new' (Kd.R_new' ho0 (Kd.R_lt (by (with_reducible repeat (first | apply Kd.R_alloc | apply Kd.R_drewN | apply Kd.R_drew)); exact HO318.out))) (Kd.R_lt (by (with_reducible repeat (first | apply Kd.R_alloc | apply Kd.R_drewN | apply Kd.R_drew)); exact HO321.out))) (below_size (by repeat (first | (with_reducible first | exact HB.out | apply below_alloc | apply pw_below_drewN | apply below_drew1) | exact HB.out)))); have n7_ := Aside0.mk (below_step (by repeat (first | (with_reducible first | exact HB.out | apply below_alloc | apply pw_below_drewN | apply below_drew1) | exact HB.out)) hb); clear HO318; clear HO321; clear HO325; clear HO329; clear HO333; clear HO337; clear HB; have HO318 := n0_; have HO321 := n1_; have HO325 := n2_; have HO329 := n3_; have HO333 := n4_; have HO337 := n5_; have HO340 := n6_; have HB := n7_; clear n0_ n1_ n2_ n3_ n4_ n5_ n6_ n7_; (try clear hb); (try clear hb2); (try clear hk); (try clear hi); (try clear ho0); obtain ⟨Ao45, co45, eo45⟩ := Kd.R_slice HO340.out; subst eo45; obtain ⟨Ao46, co46, eo46⟩ := Kd.R_slice HO321.out; subst eo46) | ((with_reducible refine gate_callee (f := 15) rfl ?_); refine goesL_ (some 59) rfl rfl Tryd.func15 (by kernel_rfl) rfl #[.slice Ao45 t338.length co45, .slice Ao46 t319.length co46] rfl (by (try simp only [List.map_toArray, List.map_cons, List.map_nil]); first | done | rfl | (simp only [List.length_drop, List.length_take]; rfl)) ?_; (with_reducible refine (witheref1_SameRel.calls k _ _ t338 _ _ t319 true _ ?side1 ?side2 ?side3 ?side4 A25.out).mono ?_); (case side1 => repeat (first | exact (Kd.R_reads' HO340.out).2.2 | (with_reducible refine Kd.C_alloc ?_ _) | (with_reducible refine Kd.C_drewN ?_ _) | (with_reducible refine Kd.C_drew ?_))); (case side2 => exact (Kd.R_reads' HO340.out).2.1); (case side3 => repeat (first | exact (Kd.R_reads' HO321.out).2.2 | (with_reducible refine Kd.C_alloc ?_ _) | (with_reducible refine Kd.C_drewN ?_ _) | (with_reducible refine Kd.C_drew ?_))); (case side4 => exact (Kd.R_reads' HO321.out).2.1); rintro e w' ⟨rfl, ⟨nd, rfl⟩⟩; refine ⟨_, rfl, ?_⟩) | ((first | ((with_reducible refine gate_callee (f := 17) rfl ?_); (refine gate_guard (by rfl) ?_; dsimp only); refine goesL_ (some 63) rfl rfl Tryd.func17 (by kernel_rfl) rfl #[.slice Ao18 t316.length co18] rfl (by (try simp only [List.map_toArray, List.map_cons, List.map_nil]); first | done | rfl | (simp only [List.length_drop, List.length_take]; rfl)) ?_; (with_reducible refine (reach_Acyclic.calls k _ _ t316 t342 _ ?side1 ?side2 A27.out).mono ?_); (case side1 => repeat (first | exact (Kd.R_reads' HO318.out).2.2 | (with_reducible refine Kd.C_alloc ?_ _) | (with_reducible refine Kd.C_drewN ?_ _) | (with_reducible refine Kd.C_drew ?_))); (case side2 => exact (Kd.R_reads' HO318.out).2.1); rintro e w47 ⟨rfl, hb⟩; refine ⟨_, rfl, ?_⟩; have n0_ := Aside0.mk (Kd.R_below (by (with_reducible repeat (first | apply Kd.R_alloc | apply Kd.R_drewN | apply Kd.R_drew)); exact HO318.out) hb); have n1_ := Aside0.mk (Kd.R_below (by (with_reducible repeat (first | apply Kd.R_alloc | apply Kd.R_drewN | apply Kd.R_drew)); exact HO321.out) hb); have n2_ := Aside0.mk (Kd.R_below (by (with_reducible repeat (first | apply Kd.R_alloc | apply Kd.R_drewN | apply Kd.R_drew)); exact HO325.out) hb); have n3_ := Aside0.mk (Kd.R_below (by (with_reducible repeat (first | apply Kd.R_alloc | apply Kd.R_drewN | apply Kd.R_drew)); exact HO329.out) hb); have n4_ := Aside0.mk (Kd.R_below (by (with_reducible repeat (first | apply Kd.R_alloc | apply Kd.R_drewN | apply Kd.R_drew)); exact HO333.out) hb); have n5_ := Aside0.mk (Kd.R_below (by (with_reducible repeat (first | apply Kd.R_alloc | apply Kd.R_drewN | apply Kd.R_drew)); exact HO337.out) hb); have n6_ := Aside0.mk (Kd.R_below (by (with_reducible repeat (first | apply Kd.R_alloc | apply Kd.R_drewN | apply Kd.R_drew)); exact HO340.out) hb); have n7_ := Aside0.mk (below_step (by repeat (first | (with_reducible first | exact HB.out | apply below_alloc | apply pw_below_drewN | apply below_drew1) | exact HB.out)) hb); clear HO318; clear HO321; clear HO325; clear HO329; clear HO333; clear HO337; clear HO340; clear HB; have HO318 := n0_; have HO321 := n1_; have HO325 := n2_; have HO329 := n3_; have HO333 := n4_; have HO337 := n5_; have HO340 := n6_; have HB := n7_; clear n0_ n1_ n2_ n3_ n4_ n5_ n6_ n7_; (try clear hb); (try clear hb2); (try clear hk); (try clear hi)) | (go_at_call 17; (with_reducible refine (reach_Acyclic.calls k _ _ t316 t342 _ ?side1 ?side2 A27.out).mono ?_); (case side1 => repeat (first | exact (Kd.R_reads' HO318.out).2.2 | (with_reducible refine Kd.C_alloc ?_ _) | (with_reducible refine Kd.C_drewN ?_ _) | (with_reducible refine Kd.C_drew ?_))); (case side2 => exact (Kd.R_reads' HO318.out).2.1); rintro e w47 ⟨rfl, hb⟩; have n0_ := Aside0.mk (Kd.R_below (by (with_reducible repeat (first | apply Kd.R_alloc | apply Kd.R_drewN | apply Kd.R_drew)); exact HO318.out) hb); have n1_ := Aside0.mk (Kd.R_below (by (with_reducible repeat (first | apply Kd.R_alloc | apply Kd.R_drewN | apply Kd.R_drew)); exact HO321.out) hb); have n2_ := Aside0.mk (Kd.R_below (by (with_reducible repeat (first | apply Kd.R_alloc | apply Kd.R_drewN | apply Kd.R_drew)); exact HO325.out) hb); have n3_ := Aside0.mk (Kd.R_below (by (with_reducible repeat (first | apply Kd.R_alloc | apply Kd.R_drewN | apply Kd.R_drew)); exact HO329.out) hb); have n4_ := Aside0.mk (Kd.R_below (by (with_reducible repeat (first | apply Kd.R_alloc | apply Kd.R_drewN | apply Kd.R_drew)); exact HO333.out) hb); have n5_ := Aside0.mk (Kd.R_below (by (with_reducible repeat (first | apply Kd.R_alloc | apply Kd.R_drewN | apply Kd.R_drew)); exact HO337.out) hb); have n6_ := Aside0.mk (Kd.R_below (by (with_reducible repeat (first | apply Kd.R_alloc | apply Kd.R_drewN | apply Kd.R_drew)); exact HO340.out) hb); have n7_ := Aside0.mk (below_step (by repeat (first | (with_reducible first | exact HB.out | apply below_alloc | apply pw_below_drewN | apply below_drew1) | exact HB.out)) hb); clear HO318; clear HO321; clear HO325; clear HO329; clear HO333; clear HO337; clear HO340; clear HB; have HO318 := n0_; have HO321 := n1_; have HO325 := n2_; have HO329 := n3_; have HO333 := n4_; have HO337 := n5_; have HO340 := n6_; have HB := n7_; clear n0_ n1_ n2_ n3_ n4_ n5_ n6_ n7_; (try clear hb); (try clear hb2); (try clear hk); (try clear hi)))) | ((first | ((with_reducible refine gate_callee (f := 18) rfl ?_); (refine gate_guard (by rfl) ?_; dsimp only); refine goesL_ (some 65) rfl rfl Tryd.func18 (by kernel_rfl) rfl #[.slice Ao18 t316.length co18] rfl (by (try simp only [List.map_toArray, List.map_cons, List.map_nil]); first | done | rfl | (simp only [List.length_drop, List.length_take]; rfl)) ?_; (with_reducible refine (witheref1_Acyclic.calls k _ _ t316 t343 _ ?side1 ?side2 A28.out).mono ?_); (case side1 => repeat (first | exact (Kd.R_reads' HO318.out).2.2 | (with_reducible refine Kd.C_alloc ?_ _) | (with_reducible refine Kd.C_drewN ?_ _) | (with_reducible refine Kd.C_drew ?_))); (case side2 => exact (Kd.R_reads' HO318.out).2.1); rintro e w48 ⟨rfl, hb⟩; refine ⟨_, rfl, ?_⟩; have n0_ := Aside0.mk (Kd.R_below (by (with_reducible repeat (first | apply Kd.R_alloc | apply Kd.R_drewN | apply Kd.R_drew)); exact HO318.out) hb); have n1_ := Aside0.mk (Kd.R_below (by (with_reducible repeat (first | apply Kd.R_alloc | apply Kd.R_drewN | apply Kd.R_drew)); exact HO321.out) hb); have n2_ := Aside0.mk (Kd.R_below (by (with_reducible repeat (first | apply Kd.R_alloc | apply Kd.R_drewN | apply Kd.R_drew)); exact HO325.out) hb); have n3_ := Aside0.mk (Kd.R_below (by (with_reducible repeat (first | apply Kd.R_alloc | apply Kd.R_drewN | apply Kd.R_drew)); exact HO329.out) hb); have n4_ := Aside0.mk (Kd.R_below (by (with_reducible repeat (first | apply Kd.R_alloc | apply Kd.R_drewN | apply Kd.R_drew)); exact HO333.out) hb); have n5_ := Aside0.mk (Kd.R_below (by (with_reducible repeat (first | apply Kd.R_alloc | apply Kd.R_drewN | apply Kd.R_drew)); exact HO337.out) hb); have n6_ := Aside0.mk (Kd.R_below (by (with_reducible repeat (first | apply Kd.R_alloc | apply Kd.R_drewN | apply Kd.R_drew)); exact HO340.out) hb); have n7_ := Aside0.mk (below_step (by repeat (first | (with_reducible first | exact HB.out | apply below_alloc | apply pw_below_drewN | apply below_drew1) | exact HB.out)) hb); clear HO318; clear HO321; clear HO325; clear HO329; clear HO333; clear HO337; clear HO340; clear HB; have HO318 := n0_; have HO321 := n1_; have HO325 := n2_; have HO329 := n3_; have HO333 := n4_; have HO337 := n5_; have HO340 := n6_; have HB := n7_; clear n0_ n1_ n2_ n3_ n4_ n5_ n6_ n7_; (try clear hb); (try clear hb2); (try clear hk); (try clear hi)) | (go_at_call 18; (with_reducible refine (witheref1_Acyclic.calls k _ _ t316 t343 _ ?side1 ?side2 A28.out).mono ?_); (case side1 => repeat (first | exact (Kd.R_reads' HO318.out).2.2 | (with_reducible refine Kd.C_alloc ?_ _) | (with_reducible refine Kd.C_drewN ?_ _) | (with_reducible refine Kd.C_drew ?_))); (case side2 => exact (Kd.R_reads' HO318.out).2.1); rintro e w48 ⟨rfl, hb⟩; have n0_ := Aside0.mk (Kd.R_below (by (with_reducible repeat (first | apply Kd.R_alloc | apply Kd.R_drewN | apply Kd.R_drew)); exact HO318.out) hb); have n1_ := Aside0.mk (Kd.R_below (by (with_reducible repeat (first | apply Kd.R_alloc | apply Kd.R_drewN | apply Kd.R_drew)); exact HO321.out) hb); have n2_ := Aside0.mk (Kd.R_below (by (with_reducible repeat (first | apply Kd.R_alloc | apply Kd.R_drewN | apply Kd.R_drew)); exact HO325.out) hb); have n3_ := Aside0.mk (Kd.R_below (by (with_reducible repeat (first | apply Kd.R_alloc | apply Kd.R_drewN | apply Kd.R_drew)); exact HO329.out) hb); have n4_ := Aside0.mk (Kd.R_below (by (with_reducible repeat (first | apply Kd.R_alloc | apply Kd.R_drewN | apply Kd.R_drew)); exact HO333.out) hb); have n5_ := Aside0.mk (Kd.R_below (by (with_reducible repeat (first | apply Kd.R_alloc | apply Kd.R_drewN | apply Kd.R_drew)); exact HO337.out) hb); have n6_ := Aside0.mk (Kd.R_below (by (with_reducible repeat (first | apply Kd.R_alloc | apply Kd.R_drewN | apply Kd.R_drew)); exact HO340.out) hb); have n7_ := Aside0.mk (below_step (by repeat (first | (with_reducible first | exact HB.out | apply below_alloc | apply pw_below_drewN | apply below_drew1) | exact HB.out)) hb); clear HO318; clear HO321; clear HO325; clear HO329; clear HO333; clear HO337; clear HO340; clear HB; have HO318 := n0_; have HO321 := n1_; have HO325 := n2_; have HO329 := n3_; have HO333 := n4_; have HO337 := n5_; have HO340 := n6_; have HB := n7_; clear n0_ n1_ n2_ n3_ n4_ n5_ n6_ n7_; (try clear hb); (try clear hb2); (try clear hk); (try clear hi))); obtain ⟨Ao49, co49, eo49⟩ := Kd.R_slice HO325.out; subst eo49; obtain ⟨Ao50, co50, eo50⟩ := Kd.R_slice HO329.out; subst eo50) | ((first | ((with_reducible refine gate_callee (f := 19) rfl ?_); (refine gate_guard (by rfl) ?_; dsimp only); refine goesL_ (some 76) rfl rfl Tryd.func19 (by kernel_rfl) rfl #[.slice Ao49 t322.length co49, .slice Ao50 t326.length co50] rfl (by (try simp only [List.map_toArray, List.map_cons, List.map_nil]); first | done | rfl | (simp only [List.length_drop, List.length_take]; rfl)) ?_; (with_reducible refine (witheref1_SameInts.calls k _ _ t322 _ _ t326 true _ ?side1 ?side2 ?side3 ?side4 A41.out).mono ?_); (case side1 => repeat (first | exact (Kd.R_reads' HO325.out).2.2 | (with_reducible refine Kd.C_alloc ?_ _) | (with_reducible refine Kd.C_drewN ?_ _) | (with_reducible refine Kd.C_drew ?_))); (case side2 => exact (Kd.R_reads' HO325.out).2.1); (case side3 => repeat (first | exact (Kd.R_reads' HO329.out).2.2 | (with_reducible refine Kd.C_alloc ?_ _) | (with_reducible refine Kd.C_drewN ?_ _) | (with_reducible refine Kd.C_drew ?_))); (case side4 => exact (Kd.R_reads' HO329.out).2.1); rintro e w' ⟨rfl, ⟨nd, rfl⟩⟩; refine ⟨_, rfl, ?_⟩) | (go_at_call 19; (with_reducible refine (witheref1_SameInts.calls k _ _ t322 _ _ t326 true _ ?side1 ?side2 ?side3 ?side4 A41.out).mono ?_); (case side1 => repeat (first | exact (Kd.R_reads' HO325.out).2.2 | (with_reducible refine Kd.C_alloc ?_ _) | (with_reducible refine Kd.C_drewN ?_ _) | (with_reducible refine Kd.C_drew ?_))); (case side2 => exact (Kd.R_reads' HO325.out).2.1); (case side3 => repeat (first | exact (Kd.R_reads' HO329.out).2.2 | (with_reducible refine Kd.C_alloc ?_ _) | (with_reducible refine Kd.C_drewN ?_ _) | (with_reducible refine Kd.C_drew ?_))); (case side4 => exact (Kd.R_reads' HO329.out).2.1); rintro e w' ⟨rfl, ⟨nd, rfl⟩⟩))))
                  go_meet
                  case rel => exact ⟨_, (true), (by first | rfl | (simp; done) | (simp [*]; done)), H', ⟨by first | omega | exact Nat.le_refl _⟩, ⟨by (with_reducible repeat (first | apply Kd.R_alloc | apply Kd.R_drewN | apply Kd.R_drew)); exact Kd.R_mono HO318.out (fun _ hk => hk.1.2)⟩, ⟨by (with_reducible repeat (first | apply Kd.R_alloc | apply Kd.R_drewN | apply Kd.R_drew)); exact Kd.R_mono HO321.out (fun _ hk => hk.1.2)⟩, ⟨by repeat (first | (with_reducible first | exact HB.out | apply below_alloc | apply pw_below_drewN | apply below_drew1) | exact HB.out)⟩⟩
                · rw [if_neg c43] at H
                  have c43b0 : (t331 != t335) = false := by simpa using c43
                  (try (have c43b1 : decide (t331 = t335) = true := by simpa using c43))
                  (try (have c43b2 : (t331 == t335) = true := by simpa using c43))
                  clear c43
                  replace H := Option.bind_eq_some_iff.mp H
                  obtain ⟨t345, A510, H⟩ := H
                  replace H : (withelaw3_ReachAll.j0 k a3 t316 t319 (!t345)) = some r := H
                  have A51 := Aside0.mk A510
                  clear A510
                  have H' := Aside0.mk H
                  clear H
                  go_wp2_with (first | ((with_reducible refine gate_callee (f := 16) rfl ?_); refine goesL_ (some 57) rfl rfl Tryd.func16 (by kernel_rfl) rfl #[.slice Ao18 t316.length co18] rfl (by (try simp only [List.map_toArray, List.map_cons, List.map_nil]); first | done | rfl | (simp only [List.length_drop, List.length_take]; rfl)) ?_; (with_reducible refine (reach_Plus.calls k _ _ t316 t338 _ ?side1 ?side2 A24.out).mono ?_); (case side1 => repeat (first | exact (Kd.R_reads' HO318.out).2.2 | (with_reducible refine Kd.C_alloc ?_ _) | (with_reducible refine Kd.C_drewN ?_ _) | (with_reducible refine Kd.C_drew ?_))); (case side2 => exact (Kd.R_reads' HO318.out).2.1); rintro e w52 ⟨v339, rfl, ho0, hb⟩; refine ⟨_, rfl, ?_⟩; have n0_ := Aside0.mk (Kd.R_elder' (by (with_reducible repeat (first | apply Kd.R_alloc | apply Kd.R_drewN | apply Kd.R_drew)); exact HO318.out) (Kd.R_base ho0) hb); have n1_ := Aside0.mk (Kd.R_elder' (by (with_reducible repeat (first | apply Kd.R_alloc | apply Kd.R_drewN | apply Kd.R_drew)); exact HO321.out) (Kd.R_base ho0) hb); have n2_ := Aside0.mk (Kd.R_below (by (with_reducible repeat (first | apply Kd.R_alloc | apply Kd.R_drewN | apply Kd.R_drew)); exact HO325.out) hb); have n3_ := Aside0.mk (Kd.R_below (by (with_reducible repeat (first | apply Kd.R_alloc | apply Kd.R_drewN | apply Kd.R_drew)); exact HO329.out) hb); have n4_ := Aside0.mk (Kd.R_below (by (with_reducible repeat (first | apply Kd.R_alloc | apply Kd.R_drewN | apply Kd.R_drew)); exact HO333.out) hb); have n5_ := Aside0.mk (Kd.R_below (by (with_reducible repeat (first | apply Kd.R_alloc | apply Kd.R_drewN | apply Kd.R_drew)); exact HO337.out) hb); have n6_ := Aside0.mk (Kd.R_lower (Kd.R_new' (Kd.R_new' ho0 (Kd.R_lt (by (with_reducible repeat (first | apply Kd.R_alloc | apply Kd.R_drewN | apply Kd.R_drew)); exact HO318.out))) (Kd.R_lt (by (with_reducible repeat (first | apply Kd.R_alloc | apply Kd.R_drewN | apply Kd.R_drew)); exact HO321.out))) (below_size (by repeat (first | (with_reducible first | exact HB.out | apply below_alloc | apply pw_below_drewN | apply below_drew1) | exact HB.out)))); have n7_ := Aside0.mk (below_step (by repeat (first | (with_reducible first | exact HB.out | apply below_alloc | apply pw_below_drewN | apply below_drew1) | exact HB.out)) hb); clear HO318; clear HO321; clear HO325; clear HO329; clear HO333; clear HO337; clear HB; have HO318 := n0_; have HO321 := n1_; have HO325 := n2_; have HO329 := n3_; have HO333 := n4_; have HO337 := n5_; have HO340 := n6_; have HB := n7_; clear n0_ n1_ n2_ n3_ n4_ n5_ n6_ n7_; (try clear hb); (try clear hb2); (try clear hk); (try clear hi); (try clear ho0); obtain ⟨Ao53, co53, eo53⟩ := Kd.R_slice HO340.out; subst eo53; obtain ⟨Ao54, co54, eo54⟩ := Kd.R_slice HO321.out; subst eo54) | ((with_reducible refine gate_callee (f := 15) rfl ?_); refine goesL_ (some 59) rfl rfl Tryd.func15 (by kernel_rfl) rfl #[.slice Ao53 t338.length co53, .slice Ao54 t319.length co54] rfl (by (try simp only [List.map_toArray, List.map_cons, List.map_nil]); first | done | rfl | (simp only [List.length_drop, List.length_take]; rfl)) ?_; (with_reducible refine (witheref1_SameRel.calls k _ _ t338 _ _ t319 true _ ?side1 ?side2 ?side3 ?side4 A25.out).mono ?_); (case side1 => repeat (first | exact (Kd.R_reads' HO340.out).2.2 | (with_reducible refine Kd.C_alloc ?_ _) | (with_reducible refine Kd.C_drewN ?_ _) | (with_reducible refine Kd.C_drew ?_))); (case side2 => exact (Kd.R_reads' HO340.out).2.1); (case side3 => repeat (first | exact (Kd.R_reads' HO321.out).2.2 | (with_reducible refine Kd.C_alloc ?_ _) | (with_reducible refine Kd.C_drewN ?_ _) | (with_reducible refine Kd.C_drew ?_))); (case side4 => exact (Kd.R_reads' HO321.out).2.1); rintro e w' ⟨rfl, ⟨nd, rfl⟩⟩; refine ⟨_, rfl, ?_⟩) | ((first | ((with_reducible refine gate_callee (f := 17) rfl ?_); (refine gate_guard (by rfl) ?_; dsimp only); refine goesL_ (some 63) rfl rfl Tryd.func17 (by kernel_rfl) rfl #[.slice Ao18 t316.length co18] rfl (by (try simp only [List.map_toArray, List.map_cons, List.map_nil]); first | done | rfl | (simp only [List.length_drop, List.length_take]; rfl)) ?_; (with_reducible refine (reach_Acyclic.calls k _ _ t316 t342 _ ?side1 ?side2 A27.out).mono ?_); (case side1 => repeat (first | exact (Kd.R_reads' HO318.out).2.2 | (with_reducible refine Kd.C_alloc ?_ _) | (with_reducible refine Kd.C_drewN ?_ _) | (with_reducible refine Kd.C_drew ?_))); (case side2 => exact (Kd.R_reads' HO318.out).2.1); rintro e w55 ⟨rfl, hb⟩; refine ⟨_, rfl, ?_⟩; have n0_ := Aside0.mk (Kd.R_below (by (with_reducible repeat (first | apply Kd.R_alloc | apply Kd.R_drewN | apply Kd.R_drew)); exact HO318.out) hb); have n1_ := Aside0.mk (Kd.R_below (by (with_reducible repeat (first | apply Kd.R_alloc | apply Kd.R_drewN | apply Kd.R_drew)); exact HO321.out) hb); have n2_ := Aside0.mk (Kd.R_below (by (with_reducible repeat (first | apply Kd.R_alloc | apply Kd.R_drewN | apply Kd.R_drew)); exact HO325.out) hb); have n3_ := Aside0.mk (Kd.R_below (by (with_reducible repeat (first | apply Kd.R_alloc | apply Kd.R_drewN | apply Kd.R_drew)); exact HO329.out) hb); have n4_ := Aside0.mk (Kd.R_below (by (with_reducible repeat (first | apply Kd.R_alloc | apply Kd.R_drewN | apply Kd.R_drew)); exact HO333.out) hb); have n5_ := Aside0.mk (Kd.R_below (by (with_reducible repeat (first | apply Kd.R_alloc | apply Kd.R_drewN | apply Kd.R_drew)); exact HO337.out) hb); have n6_ := Aside0.mk (Kd.R_below (by (with_reducible repeat (first | apply Kd.R_alloc | apply Kd.R_drewN | apply Kd.R_drew)); exact HO340.out) hb); have n7_ := Aside0.mk (below_step (by repeat (first | (with_reducible first | exact HB.out | apply below_alloc | apply pw_below_drewN | apply below_drew1) | exact HB.out)) hb); clear HO318; clear HO321; clear HO325; clear HO329; clear HO333; clear HO337; clear HO340; clear HB; have HO318 := n0_; have HO321 := n1_; have HO325 := n2_; have HO329 := n3_; have HO333 := n4_; have HO337 := n5_; have HO340 := n6_; have HB := n7_; clear n0_ n1_ n2_ n3_ n4_ n5_ n6_ n7_; (try clear hb); (try clear hb2); (try clear hk); (try clear hi)) | (go_at_call 17; (with_reducible refine (reach_Acyclic.calls k _ _ t316 t342 _ ?side1 ?side2 A27.out).mono ?_); (case side1 => repeat (first | exact (Kd.R_reads' HO318.out).2.2 | (with_reducible refine Kd.C_alloc ?_ _) | (with_reducible refine Kd.C_drewN ?_ _) | (with_reducible refine Kd.C_drew ?_))); (case side2 => exact (Kd.R_reads' HO318.out).2.1); rintro e w55 ⟨rfl, hb⟩; have n0_ := Aside0.mk (Kd.R_below (by (with_reducible repeat (first | apply Kd.R_alloc | apply Kd.R_drewN | apply Kd.R_drew)); exact HO318.out) hb); have n1_ := Aside0.mk (Kd.R_below (by (with_reducible repeat (first | apply Kd.R_alloc | apply Kd.R_drewN | apply Kd.R_drew)); exact HO321.out) hb); have n2_ := Aside0.mk (Kd.R_below (by (with_reducible repeat (first | apply Kd.R_alloc | apply Kd.R_drewN | apply Kd.R_drew)); exact HO325.out) hb); have n3_ := Aside0.mk (Kd.R_below (by (with_reducible repeat (first | apply Kd.R_alloc | apply Kd.R_drewN | apply Kd.R_drew)); exact HO329.out) hb); have n4_ := Aside0.mk (Kd.R_below (by (with_reducible repeat (first | apply Kd.R_alloc | apply Kd.R_drewN | apply Kd.R_drew)); exact HO333.out) hb); have n5_ := Aside0.mk (Kd.R_below (by (with_reducible repeat (first | apply Kd.R_alloc | apply Kd.R_drewN | apply Kd.R_drew)); exact HO337.out) hb); have n6_ := Aside0.mk (Kd.R_below (by (with_reducible repeat (first | apply Kd.R_alloc | apply Kd.R_drewN | apply Kd.R_drew)); exact HO340.out) hb); have n7_ := Aside0.mk (below_step (by repeat (first | (with_reducible first | exact HB.out | apply below_alloc | apply pw_below_drewN | apply below_drew1) | exact HB.out)) hb); clear HO318; clear HO321; clear HO325; clear HO329; clear HO333; clear HO337; clear HO340; clear HB; have HO318 := n0_; have HO321 := n1_; have HO325 := n2_; have HO329 := n3_; have HO333 := n4_; have HO337 := n5_; have HO340 := n6_; have HB := n7_; clear n0_ n1_ n2_ n3_ n4_ n5_ n6_ n7_; (try clear hb); (try clear hb2); (try clear hk); (try clear hi)))) | ((first | ((with_reducible refine gate_callee (f := 18) rfl ?_); (refine gate_guard (by rfl) ?_; dsimp only); refine goesL_ (some 65) rfl rfl Tryd.func18 (by kernel_rfl) rfl #[.slice Ao18 t316.length co18] rfl (by (try simp only [List.map_toArray, List.map_cons, List.map_nil]); first | done | rfl | (simp only [List.length_drop, List.length_take]; rfl)) ?_; (with_reducible refine (witheref1_Acyclic.calls k _ _ t316 t343 _ ?side1 ?side2 A28.out).mono ?_); (case side1 => repeat (first | exact (Kd.R_reads' HO318.out).2.2 | (with_reducible refine Kd.C_alloc ?_ _) | (with_reducible refine Kd.C_drewN ?_ _) | (with_reducible refine Kd.C_drew ?_))); (case side2 => exact (Kd.R_reads' HO318.out).2.1); rintro e w56 ⟨rfl, hb⟩; refine ⟨_, rfl, ?_⟩; have n0_ := Aside0.mk (Kd.R_below (by (with_reducible repeat (first | apply Kd.R_alloc | apply Kd.R_drewN | apply Kd.R_drew)); exact HO318.out) hb); have n1_ := Aside0.mk (Kd.R_below (by (with_reducible repeat (first | apply Kd.R_alloc | apply Kd.R_drewN | apply Kd.R_drew)); exact HO321.out) hb); have n2_ := Aside0.mk (Kd.R_below (by (with_reducible repeat (first | apply Kd.R_alloc | apply Kd.R_drewN | apply Kd.R_drew)); exact HO325.out) hb); have n3_ := Aside0.mk (Kd.R_below (by (with_reducible repeat (first | apply Kd.R_alloc | apply Kd.R_drewN | apply Kd.R_drew)); exact HO329.out) hb); have n4_ := Aside0.mk (Kd.R_below (by (with_reducible repeat (first | apply Kd.R_alloc | apply Kd.R_drewN | apply Kd.R_drew)); exact HO333.out) hb); have n5_ := Aside0.mk (Kd.R_below (by (with_reducible repeat (first | apply Kd.R_alloc | apply Kd.R_drewN | apply Kd.R_drew)); exact HO337.out) hb); have n6_ := Aside0.mk (Kd.R_below (by (with_reducible repeat (first | apply Kd.R_alloc | apply Kd.R_drewN | apply Kd.R_drew)); exact HO340.out) hb); have n7_ := Aside0.mk (below_step (by repeat (first | (with_reducible first | exact HB.out | apply below_alloc | apply pw_below_drewN | apply below_drew1) | exact HB.out)) hb); clear HO318; clear HO321; clear HO325; clear HO329; clear HO333; clear HO337; clear HO340; clear HB; have HO318 := n0_; have HO321 := n1_; have HO325 := n2_; have HO329 := n3_; have HO333 := n4_; have HO337 := n5_; have HO340 := n6_; have HB := n7_; clear n0_ n1_ n2_ n3_ n4_ n5_ n6_ n7_; (try clear hb); (try clear hb2); (try clear hk); (try clear hi)) | (go_at_call 18; (with_reducible refine (witheref1_Acyclic.calls k _ _ t316 t343 _ ?side1 ?side2 A28.out).mono ?_); (case side1 => repeat (first | exact (Kd.R_reads' HO318.out).2.2 | (with_reducible refine Kd.C_alloc ?_ _) | (with_reducible refine Kd.C_drewN ?_ _) | (with_reducible refine Kd.C_drew ?_))); (case side2 => exact (Kd.R_reads' HO318.out).2.1); rintro e w56 ⟨rfl, hb⟩; have n0_ := Aside0.mk (Kd.R_below (by (with_reducible repeat (first | apply Kd.R_alloc | apply Kd.R_drewN | apply Kd.R_drew)); exact HO318.out) hb); have n1_ := Aside0.mk (Kd.R_below (by (with_reducible repeat (first | apply Kd.R_alloc | apply Kd.R_drewN | apply Kd.R_drew)); exact HO321.out) hb); have n2_ := Aside0.mk (Kd.R_below (by (with_reducible repeat (first | apply Kd.R_alloc | apply Kd.R_drewN | apply Kd.R_drew)); exact HO325.out) hb); have n3_ := Aside0.mk (Kd.R_below (by (with_reducible repeat (first | apply Kd.R_alloc | apply Kd.R_drewN | apply Kd.R_drew)); exact HO329.out) hb); have n4_ := Aside0.mk (Kd.R_below (by (with_reducible repeat (first | apply Kd.R_alloc | apply Kd.R_drewN | apply Kd.R_drew)); exact HO333.out) hb); have n5_ := Aside0.mk (Kd.R_below (by (with_reducible repeat (first | apply Kd.R_alloc | apply Kd.R_drewN | apply Kd.R_drew)); exact HO337.out) hb); have n6_ := Aside0.mk (Kd.R_below (by (with_reducible repeat (first | apply Kd.R_alloc | apply Kd.R_drewN | apply Kd.R_drew)); exact HO340.out) hb); have n7_ := Aside0.mk (below_step (by repeat (first | (with_reducible first | exact HB.out | apply below_alloc | apply pw_below_drewN | apply below_drew1) | exact HB.out)) hb); clear HO318; clear HO321; clear HO325; clear HO329; clear HO333; clear HO337; clear HO340; clear HB; have HO318 := n0_; have HO321 := n1_; have HO325 := n2_; have HO329 := n3_; have HO333 := n4_; have HO337 := n5_; have HO340 := n6_; have HB := n7_; clear n0_ n1_ n2_ n3_ n4_ n5_ n6_ n7_; (try clear hb); (try clear hb2); (try clear hk); (try clear hi))); obtain ⟨Ao57, co57, eo57⟩ := Kd.R_slice HO325.out; subst eo57; obtain ⟨Ao58, co58, eo58⟩ := Kd.R_slice HO329.out; subst eo58) | ((first | ((with_reducible refine gate_callee (f := 19) rfl ?_); (refine gate_guard (by rfl) ?_; dsimp only); refine goesL_ (some 76) rfl rfl Tryd.func19 (by kernel_rfl) rfl #[.slice Ao57 t322.length co57, .slice Ao58 t326.length co58] rfl (by (try simp only [List.map_toArray, List.map_cons, List.map_nil]); first | done | rfl | (simp only [List.length_drop, List.length_take]; rfl)) ?_; (with_reducible refine (witheref1_SameInts.calls k _ _ t322 _ _ t326 true _ ?side1 ?side2 ?side3 ?side4 A41.out).mono ?_); (case side1 => repeat (first | exact (Kd.R_reads' HO325.out).2.2 | (with_reducible refine Kd.C_alloc ?_ _) | (with_reducible refine Kd.C_drewN ?_ _) | (with_reducible refine Kd.C_drew ?_))); (case side2 => exact (Kd.R_reads' HO325.out).2.1); (case side3 => repeat (first | exact (Kd.R_reads' HO329.out).2.2 | (with_reducible refine Kd.C_alloc ?_ _) | (with_reducible refine Kd.C_drewN ?_ _) | (with_reducible refine Kd.C_drew ?_))); (case side4 => exact (Kd.R_reads' HO329.out).2.1); rintro e w' ⟨rfl, ⟨nd, rfl⟩⟩; refine ⟨_, rfl, ?_⟩) | (go_at_call 19; (with_reducible refine (witheref1_SameInts.calls k _ _ t322 _ _ t326 true _ ?side1 ?side2 ?side3 ?side4 A41.out).mono ?_); (case side1 => repeat (first | exact (Kd.R_reads' HO325.out).2.2 | (with_reducible refine Kd.C_alloc ?_ _) | (with_reducible refine Kd.C_drewN ?_ _) | (with_reducible refine Kd.C_drew ?_))); (case side2 => exact (Kd.R_reads' HO325.out).2.1); (case side3 => repeat (first | exact (Kd.R_reads' HO329.out).2.2 | (with_reducible refine Kd.C_alloc ?_ _) | (with_reducible refine Kd.C_drewN ?_ _) | (with_reducible refine Kd.C_drew ?_))); (case side4 => exact (Kd.R_reads' HO329.out).2.1); rintro e w' ⟨rfl, ⟨nd, rfl⟩⟩)); obtain ⟨Ao59, co59, eo59⟩ := Kd.R_slice HO333.out; subst eo59; obtain ⟨Ao60, co60, eo60⟩ := Kd.R_slice HO337.out; subst eo60) | ((first | ((with_reducible refine gate_callee (f := 19) rfl ?_); (refine gate_guard (by rfl) ?_; dsimp only); refine goesL_ (some 87) rfl rfl Tryd.func19 (by kernel_rfl) rfl #[.slice Ao59 t330.length co59, .slice Ao60 t334.length co60] rfl (by (try simp only [List.map_toArray, List.map_cons, List.map_nil]); first | done | rfl | (simp only [List.length_drop, List.length_take]; rfl)) ?_; (with_reducible refine (witheref1_SameInts.calls k _ _ t330 _ _ t334 t345 _ ?side1 ?side2 ?side3 ?side4 A51.out).mono ?_); (case side1 => repeat (first | exact (Kd.R_reads' HO333.out).2.2 | (with_reducible refine Kd.C_alloc ?_ _) | (with_reducible refine Kd.C_drewN ?_ _) | (with_reducible refine Kd.C_drew ?_))); (case side2 => exact (Kd.R_reads' HO333.out).2.1); (case side3 => repeat (first | exact (Kd.R_reads' HO337.out).2.2 | (with_reducible refine Kd.C_alloc ?_ _) | (with_reducible refine Kd.C_drewN ?_ _) | (with_reducible refine Kd.C_drew ?_))); (case side4 => exact (Kd.R_reads' HO337.out).2.1); rintro e w' ⟨rfl, ⟨nd, rfl⟩⟩; refine ⟨_, rfl, ?_⟩) | (go_at_call 19; (with_reducible refine (witheref1_SameInts.calls k _ _ t330 _ _ t334 t345 _ ?side1 ?side2 ?side3 ?side4 A51.out).mono ?_); (case side1 => repeat (first | exact (Kd.R_reads' HO333.out).2.2 | (with_reducible refine Kd.C_alloc ?_ _) | (with_reducible refine Kd.C_drewN ?_ _) | (with_reducible refine Kd.C_drew ?_))); (case side2 => exact (Kd.R_reads' HO333.out).2.1); (case side3 => repeat (first | exact (Kd.R_reads' HO337.out).2.2 | (with_reducible refine Kd.C_alloc ?_ _) | (with_reducible refine Kd.C_drewN ?_ _) | (with_reducible refine Kd.C_drew ?_))); (case side4 => exact (Kd.R_reads' HO337.out).2.1); rintro e w' ⟨rfl, ⟨nd, rfl⟩⟩))))
                  go_meet
                  case rel => exact ⟨_, (!t345), (by first | rfl | (simp; done) | (simp [*]; done)), H', ⟨by first | omega | exact Nat.le_refl _⟩, ⟨by (with_reducible repeat (first | apply Kd.R_alloc | apply Kd.R_drewN | apply Kd.R_drew)); exact Kd.R_mono HO318.out (fun _ hk => hk.1.2)⟩, ⟨by (with_reducible repeat (first | apply Kd.R_alloc | apply Kd.R_drewN | apply Kd.R_drew)); exact Kd.R_mono HO321.out (fun _ hk => hk.1.2)⟩, ⟨by repeat (first | (with_reducible first | exact HB.out | apply below_alloc | apply pw_below_drewN | apply below_drew1) | exact HB.out)⟩⟩
              · replace c42 := Bool.eq_false_iff.mpr c42
                subst c42
                have H1 : (withelaw3_ReachAll.j0 k a3 t316 t319 true) = some r := by rw [if_neg (show ¬ (false = true) by decide)] at H; exact H
                clear H
                have H := H1
                clear H1
                have H' := Aside0.mk H
                clear H
                go_wp2_with (first | ((with_reducible refine gate_callee (f := 16) rfl ?_); refine goesL_ (some 57) rfl rfl Tryd.func16 (by kernel_rfl) rfl #[.slice Ao18 t316.length co18] rfl (by (try simp only [List.map_toArray, List.map_cons, List.map_nil]); first | done | rfl | (simp only [List.length_drop, List.length_take]; rfl)) ?_; (with_reducible refine (reach_Plus.calls k _ _ t316 t338 _ ?side1 ?side2 A24.out).mono ?_); (case side1 => repeat (first | exact (Kd.R_reads' HO318.out).2.2 | (with_reducible refine Kd.C_alloc ?_ _) | (with_reducible refine Kd.C_drewN ?_ _) | (with_reducible refine Kd.C_drew ?_))); (case side2 => exact (Kd.R_reads' HO318.out).2.1); rintro e w61 ⟨v339, rfl, ho0, hb⟩; refine ⟨_, rfl, ?_⟩; have n0_ := Aside0.mk (Kd.R_elder' (by (with_reducible repeat (first | apply Kd.R_alloc | apply Kd.R_drewN | apply Kd.R_drew)); exact HO318.out) (Kd.R_base ho0) hb); have n1_ := Aside0.mk (Kd.R_elder' (by (with_reducible repeat (first | apply Kd.R_alloc | apply Kd.R_drewN | apply Kd.R_drew)); exact HO321.out) (Kd.R_base ho0) hb); have n2_ := Aside0.mk (Kd.R_below (by (with_reducible repeat (first | apply Kd.R_alloc | apply Kd.R_drewN | apply Kd.R_drew)); exact HO325.out) hb); have n3_ := Aside0.mk (Kd.R_below (by (with_reducible repeat (first | apply Kd.R_alloc | apply Kd.R_drewN | apply Kd.R_drew)); exact HO329.out) hb); have n4_ := Aside0.mk (Kd.R_below (by (with_reducible repeat (first | apply Kd.R_alloc | apply Kd.R_drewN | apply Kd.R_drew)); exact HO333.out) hb); have n5_ := Aside0.mk (Kd.R_below (by (with_reducible repeat (first | apply Kd.R_alloc | apply Kd.R_drewN | apply Kd.R_drew)); exact HO337.out) hb); have n6_ := Aside0.mk (Kd.R_lower (Kd.R_new' (Kd.R_new' ho0 (Kd.R_lt (by (with_reducible repeat (first | apply Kd.R_alloc | apply Kd.R_drewN | apply Kd.R_drew)); exact HO318.out))) (Kd.R_lt (by (with_reducible repeat (first | apply Kd.R_alloc | apply Kd.R_drewN | apply Kd.R_drew)); exact HO321.out))) (below_size (by repeat (first | (with_reducible first | exact HB.out | apply below_alloc | apply pw_below_drewN | apply below_drew1) | exact HB.out)))); have n7_ := Aside0.mk (below_step (by repeat (first | (with_reducible first | exact HB.out | apply below_alloc | apply pw_below_drewN | apply below_drew1) | exact HB.out)) hb); clear HO318; clear HO321; clear HO325; clear HO329; clear HO333; clear HO337; clear HB; have HO318 := n0_; have HO321 := n1_; have HO325 := n2_; have HO329 := n3_; have HO333 := n4_; have HO337 := n5_; have HO340 := n6_; have HB := n7_; clear n0_ n1_ n2_ n3_ n4_ n5_ n6_ n7_; (try clear hb); (try clear hb2); (try clear hk); (try clear hi); (try clear ho0); obtain ⟨Ao62, co62, eo62⟩ := Kd.R_slice HO340.out; subst eo62; obtain ⟨Ao63, co63, eo63⟩ := Kd.R_slice HO321.out; subst eo63) | ((with_reducible refine gate_callee (f := 15) rfl ?_); refine goesL_ (some 59) rfl rfl Tryd.func15 (by kernel_rfl) rfl #[.slice Ao62 t338.length co62, .slice Ao63 t319.length co63] rfl (by (try simp only [List.map_toArray, List.map_cons, List.map_nil]); first | done | rfl | (simp only [List.length_drop, List.length_take]; rfl)) ?_; (with_reducible refine (witheref1_SameRel.calls k _ _ t338 _ _ t319 true _ ?side1 ?side2 ?side3 ?side4 A25.out).mono ?_); (case side1 => repeat (first | exact (Kd.R_reads' HO340.out).2.2 | (with_reducible refine Kd.C_alloc ?_ _) | (with_reducible refine Kd.C_drewN ?_ _) | (with_reducible refine Kd.C_drew ?_))); (case side2 => exact (Kd.R_reads' HO340.out).2.1); (case side3 => repeat (first | exact (Kd.R_reads' HO321.out).2.2 | (with_reducible refine Kd.C_alloc ?_ _) | (with_reducible refine Kd.C_drewN ?_ _) | (with_reducible refine Kd.C_drew ?_))); (case side4 => exact (Kd.R_reads' HO321.out).2.1); rintro e w' ⟨rfl, ⟨nd, rfl⟩⟩; refine ⟨_, rfl, ?_⟩) | ((first | ((with_reducible refine gate_callee (f := 17) rfl ?_); (refine gate_guard (by rfl) ?_; dsimp only); refine goesL_ (some 63) rfl rfl Tryd.func17 (by kernel_rfl) rfl #[.slice Ao18 t316.length co18] rfl (by (try simp only [List.map_toArray, List.map_cons, List.map_nil]); first | done | rfl | (simp only [List.length_drop, List.length_take]; rfl)) ?_; (with_reducible refine (reach_Acyclic.calls k _ _ t316 t342 _ ?side1 ?side2 A27.out).mono ?_); (case side1 => repeat (first | exact (Kd.R_reads' HO318.out).2.2 | (with_reducible refine Kd.C_alloc ?_ _) | (with_reducible refine Kd.C_drewN ?_ _) | (with_reducible refine Kd.C_drew ?_))); (case side2 => exact (Kd.R_reads' HO318.out).2.1); rintro e w64 ⟨rfl, hb⟩; refine ⟨_, rfl, ?_⟩; have n0_ := Aside0.mk (Kd.R_below (by (with_reducible repeat (first | apply Kd.R_alloc | apply Kd.R_drewN | apply Kd.R_drew)); exact HO318.out) hb); have n1_ := Aside0.mk (Kd.R_below (by (with_reducible repeat (first | apply Kd.R_alloc | apply Kd.R_drewN | apply Kd.R_drew)); exact HO321.out) hb); have n2_ := Aside0.mk (Kd.R_below (by (with_reducible repeat (first | apply Kd.R_alloc | apply Kd.R_drewN | apply Kd.R_drew)); exact HO325.out) hb); have n3_ := Aside0.mk (Kd.R_below (by (with_reducible repeat (first | apply Kd.R_alloc | apply Kd.R_drewN | apply Kd.R_drew)); exact HO329.out) hb); have n4_ := Aside0.mk (Kd.R_below (by (with_reducible repeat (first | apply Kd.R_alloc | apply Kd.R_drewN | apply Kd.R_drew)); exact HO333.out) hb); have n5_ := Aside0.mk (Kd.R_below (by (with_reducible repeat (first | apply Kd.R_alloc | apply Kd.R_drewN | apply Kd.R_drew)); exact HO337.out) hb); have n6_ := Aside0.mk (Kd.R_below (by (with_reducible repeat (first | apply Kd.R_alloc | apply Kd.R_drewN | apply Kd.R_drew)); exact HO340.out) hb); have n7_ := Aside0.mk (below_step (by repeat (first | (with_reducible first | exact HB.out | apply below_alloc | apply pw_below_drewN | apply below_drew1) | exact HB.out)) hb); clear HO318; clear HO321; clear HO325; clear HO329; clear HO333; clear HO337; clear HO340; clear HB; have HO318 := n0_; have HO321 := n1_; have HO325 := n2_; have HO329 := n3_; have HO333 := n4_; have HO337 := n5_; have HO340 := n6_; have HB := n7_; clear n0_ n1_ n2_ n3_ n4_ n5_ n6_ n7_; (try clear hb); (try clear hb2); (try clear hk); (try clear hi)) | (go_at_call 17; (with_reducible refine (reach_Acyclic.calls k _ _ t316 t342 _ ?side1 ?side2 A27.out).mono ?_); (case side1 => repeat (first | exact (Kd.R_reads' HO318.out).2.2 | (with_reducible refine Kd.C_alloc ?_ _) | (with_reducible refine Kd.C_drewN ?_ _) | (with_reducible refine Kd.C_drew ?_))); (case side2 => exact (Kd.R_reads' HO318.out).2.1); rintro e w64 ⟨rfl, hb⟩; have n0_ := Aside0.mk (Kd.R_below (by (with_reducible repeat (first | apply Kd.R_alloc | apply Kd.R_drewN | apply Kd.R_drew)); exact HO318.out) hb); have n1_ := Aside0.mk (Kd.R_below (by (with_reducible repeat (first | apply Kd.R_alloc | apply Kd.R_drewN | apply Kd.R_drew)); exact HO321.out) hb); have n2_ := Aside0.mk (Kd.R_below (by (with_reducible repeat (first | apply Kd.R_alloc | apply Kd.R_drewN | apply Kd.R_drew)); exact HO325.out) hb); have n3_ := Aside0.mk (Kd.R_below (by (with_reducible repeat (first | apply Kd.R_alloc | apply Kd.R_drewN | apply Kd.R_drew)); exact HO329.out) hb); have n4_ := Aside0.mk (Kd.R_below (by (with_reducible repeat (first | apply Kd.R_alloc | apply Kd.R_drewN | apply Kd.R_drew)); exact HO333.out) hb); have n5_ := Aside0.mk (Kd.R_below (by (with_reducible repeat (first | apply Kd.R_alloc | apply Kd.R_drewN | apply Kd.R_drew)); exact HO337.out) hb); have n6_ := Aside0.mk (Kd.R_below (by (with_reducible repeat (first | apply Kd.R_alloc | apply Kd.R_drewN | apply Kd.R_drew)); exact HO340.out) hb); have n7_ := Aside0.mk (below_step (by repeat (first | (with_reducible first | exact HB.out | apply below_alloc | apply pw_below_drewN | apply below_drew1) | exact HB.out)) hb); clear HO318; clear HO321; clear HO325; clear HO329; clear HO333; clear HO337; clear HO340; clear HB; have HO318 := n0_; have HO321 := n1_; have HO325 := n2_; have HO329 := n3_; have HO333 := n4_; have HO337 := n5_; have HO340 := n6_; have HB := n7_; clear n0_ n1_ n2_ n3_ n4_ n5_ n6_ n7_; (try clear hb); (try clear hb2); (try clear hk); (try clear hi)))) | ((first | ((with_reducible refine gate_callee (f := 18) rfl ?_); (refine gate_guard (by rfl) ?_; dsimp only); refine goesL_ (some 65) rfl rfl Tryd.func18 (by kernel_rfl) rfl #[.slice Ao18 t316.length co18] rfl (by (try simp only [List.map_toArray, List.map_cons, List.map_nil]); first | done | rfl | (simp only [List.length_drop, List.length_take]; rfl)) ?_; (with_reducible refine (witheref1_Acyclic.calls k _ _ t316 t343 _ ?side1 ?side2 A28.out).mono ?_); (case side1 => repeat (first | exact (Kd.R_reads' HO318.out).2.2 | (with_reducible refine Kd.C_alloc ?_ _) | (with_reducible refine Kd.C_drewN ?_ _) | (with_reducible refine Kd.C_drew ?_))); (case side2 => exact (Kd.R_reads' HO318.out).2.1); rintro e w65 ⟨rfl, hb⟩; refine ⟨_, rfl, ?_⟩; have n0_ := Aside0.mk (Kd.R_below (by (with_reducible repeat (first | apply Kd.R_alloc | apply Kd.R_drewN | apply Kd.R_drew)); exact HO318.out) hb); have n1_ := Aside0.mk (Kd.R_below (by (with_reducible repeat (first | apply Kd.R_alloc | apply Kd.R_drewN | apply Kd.R_drew)); exact HO321.out) hb); have n2_ := Aside0.mk (Kd.R_below (by (with_reducible repeat (first | apply Kd.R_alloc | apply Kd.R_drewN | apply Kd.R_drew)); exact HO325.out) hb); have n3_ := Aside0.mk (Kd.R_below (by (with_reducible repeat (first | apply Kd.R_alloc | apply Kd.R_drewN | apply Kd.R_drew)); exact HO329.out) hb); have n4_ := Aside0.mk (Kd.R_below (by (with_reducible repeat (first | apply Kd.R_alloc | apply Kd.R_drewN | apply Kd.R_drew)); exact HO333.out) hb); have n5_ := Aside0.mk (Kd.R_below (by (with_reducible repeat (first | apply Kd.R_alloc | apply Kd.R_drewN | apply Kd.R_drew)); exact HO337.out) hb); have n6_ := Aside0.mk (Kd.R_below (by (with_reducible repeat (first | apply Kd.R_alloc | apply Kd.R_drewN | apply Kd.R_drew)); exact HO340.out) hb); have n7_ := Aside0.mk (below_step (by repeat (first | (with_reducible first | exact HB.out | apply below_alloc | apply pw_below_drewN | apply below_drew1) | exact HB.out)) hb); clear HO318; clear HO321; clear HO325; clear HO329; clear HO333; clear HO337; clear HO340; clear HB; have HO318 := n0_; have HO321 := n1_; have HO325 := n2_; have HO329 := n3_; have HO333 := n4_; have HO337 := n5_; have HO340 := n6_; have HB := n7_; clear n0_ n1_ n2_ n3_ n4_ n5_ n6_ n7_; (try clear hb); (try clear hb2); (try clear hk); (try clear hi)) | (go_at_call 18; (with_reducible refine (witheref1_Acyclic.calls k _ _ t316 t343 _ ?side1 ?side2 A28.out).mono ?_); (case side1 => repeat (first | exact (Kd.R_reads' HO318.out).2.2 | (with_reducible refine Kd.C_alloc ?_ _) | (with_reducible refine Kd.C_drewN ?_ _) | (with_reducible refine Kd.C_drew ?_))); (case side2 => exact (Kd.R_reads' HO318.out).2.1); rintro e w65 ⟨rfl, hb⟩; have n0_ := Aside0.mk (Kd.R_below (by (with_reducible repeat (first | apply Kd.R_alloc | apply Kd.R_drewN | apply Kd.R_drew)); exact HO318.out) hb); have n1_ := Aside0.mk (Kd.R_below (by (with_reducible repeat (first | apply Kd.R_alloc | apply Kd.R_drewN | apply Kd.R_drew)); exact HO321.out) hb); have n2_ := Aside0.mk (Kd.R_below (by (with_reducible repeat (first | apply Kd.R_alloc | apply Kd.R_drewN | apply Kd.R_drew)); exact HO325.out) hb); have n3_ := Aside0.mk (Kd.R_below (by (with_reducible repeat (first | apply Kd.R_alloc | apply Kd.R_drewN | apply Kd.R_drew)); exact HO329.out) hb); have n4_ := Aside0.mk (Kd.R_below (by (with_reducible repeat (first | apply Kd.R_alloc | apply Kd.R_drewN | apply Kd.R_drew)); exact HO333.out) hb); have n5_ := Aside0.mk (Kd.R_below (by (with_reducible repeat (first | apply Kd.R_alloc | apply Kd.R_drewN | apply Kd.R_drew)); exact HO337.out) hb); have n6_ := Aside0.mk (Kd.R_below (by (with_reducible repeat (first | apply Kd.R_alloc | apply Kd.R_drewN | apply Kd.R_drew)); exact HO340.out) hb); have n7_ := Aside0.mk (below_step (by repeat (first | (with_reducible first | exact HB.out | apply below_alloc | apply pw_below_drewN | apply below_drew1) | exact HB.out)) hb); clear HO318; clear HO321; clear HO325; clear HO329; clear HO333; clear HO337; clear HO340; clear HB; have HO318 := n0_; have HO321 := n1_; have HO325 := n2_; have HO329 := n3_; have HO333 := n4_; have HO337 := n5_; have HO340 := n6_; have HB := n7_; clear n0_ n1_ n2_ n3_ n4_ n5_ n6_ n7_; (try clear hb); (try clear hb2); (try clear hk); (try clear hi))); obtain ⟨Ao66, co66, eo66⟩ := Kd.R_slice HO325.out; subst eo66; obtain ⟨Ao67, co67, eo67⟩ := Kd.R_slice HO329.out; subst eo67) | ((first | ((with_reducible refine gate_callee (f := 19) rfl ?_); (refine gate_guard (by rfl) ?_; dsimp only); refine goesL_ (some 76) rfl rfl Tryd.func19 (by kernel_rfl) rfl #[.slice Ao66 t322.length co66, .slice Ao67 t326.length co67] rfl (by (try simp only [List.map_toArray, List.map_cons, List.map_nil]); first | done | rfl | (simp only [List.length_drop, List.length_take]; rfl)) ?_; (with_reducible refine (witheref1_SameInts.calls k _ _ t322 _ _ t326 false _ ?side1 ?side2 ?side3 ?side4 A41.out).mono ?_); (case side1 => repeat (first | exact (Kd.R_reads' HO325.out).2.2 | (with_reducible refine Kd.C_alloc ?_ _) | (with_reducible refine Kd.C_drewN ?_ _) | (with_reducible refine Kd.C_drew ?_))); (case side2 => exact (Kd.R_reads' HO325.out).2.1); (case side3 => repeat (first | exact (Kd.R_reads' HO329.out).2.2 | (with_reducible refine Kd.C_alloc ?_ _) | (with_reducible refine Kd.C_drewN ?_ _) | (with_reducible refine Kd.C_drew ?_))); (case side4 => exact (Kd.R_reads' HO329.out).2.1); rintro e w' ⟨rfl, ⟨nd, rfl⟩⟩; refine ⟨_, rfl, ?_⟩) | (go_at_call 19; (with_reducible refine (witheref1_SameInts.calls k _ _ t322 _ _ t326 false _ ?side1 ?side2 ?side3 ?side4 A41.out).mono ?_); (case side1 => repeat (first | exact (Kd.R_reads' HO325.out).2.2 | (with_reducible refine Kd.C_alloc ?_ _) | (with_reducible refine Kd.C_drewN ?_ _) | (with_reducible refine Kd.C_drew ?_))); (case side2 => exact (Kd.R_reads' HO325.out).2.1); (case side3 => repeat (first | exact (Kd.R_reads' HO329.out).2.2 | (with_reducible refine Kd.C_alloc ?_ _) | (with_reducible refine Kd.C_drewN ?_ _) | (with_reducible refine Kd.C_drew ?_))); (case side4 => exact (Kd.R_reads' HO329.out).2.1); rintro e w' ⟨rfl, ⟨nd, rfl⟩⟩))))
                go_meet
                case rel => exact ⟨_, (true), (by first | rfl | (simp; done) | (simp [*]; done)), H', ⟨by first | omega | exact Nat.le_refl _⟩, ⟨by (with_reducible repeat (first | apply Kd.R_alloc | apply Kd.R_drewN | apply Kd.R_drew)); exact Kd.R_mono HO318.out (fun _ hk => hk.1.2)⟩, ⟨by (with_reducible repeat (first | apply Kd.R_alloc | apply Kd.R_drewN | apply Kd.R_drew)); exact Kd.R_mono HO321.out (fun _ hk => hk.1.2)⟩, ⟨by repeat (first | (with_reducible first | exact HB.out | apply below_alloc | apply pw_below_drewN | apply below_drew1) | exact HB.out)⟩⟩
        · replace c26 := Bool.eq_false_iff.mpr c26
          subst c26
          have H1 : (withelaw3_ReachAll.j0 k a3 t316 t319 true) = some r := by rw [if_neg (show ¬ (false = true) by decide)] at H; exact H
          clear H
          have H := H1
          clear H1
          have H' := Aside0.mk H
          clear H
          go_wp2_with (first | ((with_reducible refine gate_callee (f := 16) rfl ?_); refine goesL_ (some 57) rfl rfl Tryd.func16 (by kernel_rfl) rfl #[.slice Ao18 t316.length co18] rfl (by (try simp only [List.map_toArray, List.map_cons, List.map_nil]); first | done | rfl | (simp only [List.length_drop, List.length_take]; rfl)) ?_; (with_reducible refine (reach_Plus.calls k _ _ t316 t338 _ ?side1 ?side2 A24.out).mono ?_); (case side1 => repeat (first | exact (Kd.R_reads' HO318.out).2.2 | (with_reducible refine Kd.C_alloc ?_ _) | (with_reducible refine Kd.C_drewN ?_ _) | (with_reducible refine Kd.C_drew ?_))); (case side2 => exact (Kd.R_reads' HO318.out).2.1); rintro e w68 ⟨v339, rfl, ho0, hb⟩; refine ⟨_, rfl, ?_⟩; have n0_ := Aside0.mk (Kd.R_elder' (by (with_reducible repeat (first | apply Kd.R_alloc | apply Kd.R_drewN | apply Kd.R_drew)); exact HO318.out) (Kd.R_base ho0) hb); have n1_ := Aside0.mk (Kd.R_elder' (by (with_reducible repeat (first | apply Kd.R_alloc | apply Kd.R_drewN | apply Kd.R_drew)); exact HO321.out) (Kd.R_base ho0) hb); have n2_ := Aside0.mk (Kd.R_below (by (with_reducible repeat (first | apply Kd.R_alloc | apply Kd.R_drewN | apply Kd.R_drew)); exact HO325.out) hb); have n3_ := Aside0.mk (Kd.R_below (by (with_reducible repeat (first | apply Kd.R_alloc | apply Kd.R_drewN | apply Kd.R_drew)); exact HO329.out) hb); have n4_ := Aside0.mk (Kd.R_below (by (with_reducible repeat (first | apply Kd.R_alloc | apply Kd.R_drewN | apply Kd.R_drew)); exact HO333.out) hb); have n5_ := Aside0.mk (Kd.R_below (by (with_reducible repeat (first | apply Kd.R_alloc | apply Kd.R_drewN | apply Kd.R_drew)); exact HO337.out) hb); have n6_ := Aside0.mk (Kd.R_lower (Kd.R_new' (Kd.R_new' ho0 (Kd.R_lt (by (with_reducible repeat (first | apply Kd.R_alloc | apply Kd.R_drewN | apply Kd.R_drew)); exact HO318.out))) (Kd.R_lt (by (with_reducible repeat (first | apply Kd.R_alloc | apply Kd.R_drewN | apply Kd.R_drew)); exact HO321.out))) (below_size (by repeat (first | (with_reducible first | exact HB.out | apply below_alloc | apply pw_below_drewN | apply below_drew1) | exact HB.out)))); have n7_ := Aside0.mk (below_step (by repeat (first | (with_reducible first | exact HB.out | apply below_alloc | apply pw_below_drewN | apply below_drew1) | exact HB.out)) hb); clear HO318; clear HO321; clear HO325; clear HO329; clear HO333; clear HO337; clear HB; have HO318 := n0_; have HO321 := n1_; have HO325 := n2_; have HO329 := n3_; have HO333 := n4_; have HO337 := n5_; have HO340 := n6_; have HB := n7_; clear n0_ n1_ n2_ n3_ n4_ n5_ n6_ n7_; (try clear hb); (try clear hb2); (try clear hk); (try clear hi); (try clear ho0); obtain ⟨Ao69, co69, eo69⟩ := Kd.R_slice HO340.out; subst eo69; obtain ⟨Ao70, co70, eo70⟩ := Kd.R_slice HO321.out; subst eo70) | ((with_reducible refine gate_callee (f := 15) rfl ?_); refine goesL_ (some 59) rfl rfl Tryd.func15 (by kernel_rfl) rfl #[.slice Ao69 t338.length co69, .slice Ao70 t319.length co70] rfl (by (try simp only [List.map_toArray, List.map_cons, List.map_nil]); first | done | rfl | (simp only [List.length_drop, List.length_take]; rfl)) ?_; (with_reducible refine (witheref1_SameRel.calls k _ _ t338 _ _ t319 false _ ?side1 ?side2 ?side3 ?side4 A25.out).mono ?_); (case side1 => repeat (first | exact (Kd.R_reads' HO340.out).2.2 | (with_reducible refine Kd.C_alloc ?_ _) | (with_reducible refine Kd.C_drewN ?_ _) | (with_reducible refine Kd.C_drew ?_))); (case side2 => exact (Kd.R_reads' HO340.out).2.1); (case side3 => repeat (first | exact (Kd.R_reads' HO321.out).2.2 | (with_reducible refine Kd.C_alloc ?_ _) | (with_reducible refine Kd.C_drewN ?_ _) | (with_reducible refine Kd.C_drew ?_))); (case side4 => exact (Kd.R_reads' HO321.out).2.1); rintro e w' ⟨rfl, ⟨nd, rfl⟩⟩; refine ⟨_, rfl, ?_⟩))
          go_meet
          case rel => exact ⟨_, (true), (by first | rfl | (simp; done) | (simp [*]; done)), H', ⟨by first | omega | exact Nat.le_refl _⟩, ⟨by (with_reducible repeat (first | apply Kd.R_alloc | apply Kd.R_drewN | apply Kd.R_drew)); exact Kd.R_mono HO318.out (fun _ hk => hk.1.2)⟩, ⟨by (with_reducible repeat (first | apply Kd.R_alloc | apply Kd.R_drewN | apply Kd.R_drew)); exact Kd.R_mono HO321.out (fun _ hk => hk.1.2)⟩, ⟨by repeat (first | (with_reducible first | exact HB.out | apply below_alloc | apply pw_below_drewN | apply below_drew1) | exact HB.out)⟩⟩
      case rest =>
        clear HC15
        try clear c1
        try clear c2
        try clear p2
        try clear c3
        try clear c4
        try clear c6
        try clear c7
        try clear c7b0
        try clear c7b1
        try clear c8
        try clear c9
        try clear c10
        try clear c11
        try clear c12
        try clear c13
        try clear c14
        try clear c15
        try clear c16
        try clear c17
        try clear c18
        try clear c19
        try clear c26
        try clear c29
        try clear c29b0
        try clear c29b1
        try clear c29b2
        try clear c35
        try clear c35b0
        try clear c35b1
        try clear c35b2
        try clear c42
        try clear c43
        try clear c43b0
        try clear c43b1
        try clear c43b2
        obtain ⟨kq, x89_14, rfl, HA, HJ14, HO_9, HO_10, HB⟩ := hcut
        cases kq with
        | zero => exact absurd HA.out (by simp [withelaw3_ReachAll.j0])
        | succ kj14 =>
          have H := HA.out
          clear HA
          simp only [withelaw3_ReachAll.j0] at H
          by_cases c71 : x89_14 = true
          · subst c71
            have H1 : (none) = some r := by rw [if_pos rfl] at H; exact H
            clear H
            have H := H1
            clear H1
            exact absurd H (by simp)
          · replace c71 := Bool.eq_false_iff.mpr c71
            subst c71
            have H1 : (withelaw3_ReachAll.l0 kj14 a3 t316 t319 true 0 0 0) = some r := by rw [if_neg (show ¬ (false = true) by decide)] at H; exact H
            clear H
            have H := H1
            clear H1
            have H' := Aside0.mk H
            clear H
            go_wp2
            try go_simp
            go_loopg [22] kj14 (fun kq v22 w' => ∃ (x10_2 : List Int) (x22_2 : Int), v22 = .int .i64 x22_2 ∧ Aside0 (withelaw3_ReachAll.l0 kq a3 t316 x10_2 true 0 0 x22_2 = some r) ∧ Aside0 (kq ≤ kj14) ∧ Aside0 (Kd.R (Kd.int .u64) 23 w' w.heap.size (fun k_ => some k_ ≠ (v320 : Value).ownBlock) (.slice Ao18 t316.length co18) t316) ∧ Aside0 (Kd.R (Kd.int .u64) 23 w' w.heap.size (fun k_ => some k_ ≠ ((.slice Ao18 t316.length co18) : Value).ownBlock) v320 x10_2) ∧ Aside0 (Below w.heap.size w w'))
            case atStart => exact ⟨(t319), (0), (by first | rfl | (simp; done) | (simp [*]; done)), H', ⟨Nat.le_refl _⟩, ⟨by (with_reducible repeat (first | apply Kd.R_alloc | apply Kd.R_drewN | apply Kd.R_drew)); exact HO_9.out⟩, ⟨by (with_reducible repeat (first | apply Kd.R_alloc | apply Kd.R_drewN | apply Kd.R_drew)); exact HO_10.out⟩, ⟨by repeat (first | (with_reducible first | exact HB.out | apply below_alloc | apply pw_below_drewN | apply below_drew1) | exact HB.out)⟩⟩
            case round =>
              clear H'
              try clear c1
              try clear c2
              try clear p2
              try clear c3
              try clear c4
              try clear c6
              try clear c7
              try clear c7b0
              try clear c7b1
              try clear c8
              try clear c9
              try clear c10
              try clear c11
              try clear c12
              try clear c13
              try clear c14
              try clear c15
              try clear c16
              try clear c17
              try clear c18
              try clear c19
              try clear c26
              try clear c29
              try clear c29b0
              try clear c29b1
              try clear c29b2
              try clear c35
              try clear c35b0
              try clear c35b1
              try clear c35b2
              try clear c42
              try clear c43
              try clear c43b0
              try clear c43b1
              try clear c43b2
              try clear c71
              try clear p2
              obtain ⟨x10_2, x22_2, rfl, HA, HK2, HO_9, HO_10, HB⟩ := hrel
              cases gk with
              | zero => exact absurd HA.out (by simp [withelaw3_ReachAll.l0])
              | succ k2 =>
                have H := HA.out
                clear HA
                simp only [withelaw3_ReachAll.l0] at H
                by_cases c72 : x22_2 < (t316.length : Int)
                · rw [if_pos c72] at H
                  have c72b0 : decide (x22_2 < (t316.length : Int)) = true := decide_eq_true c72
                  clear c72
                  by_cases c73 : 0 ≤ x22_2
                  · rw [if_pos c73] at H
                    have c73b0 : decide (0 ≤ x22_2) = true := decide_eq_true c73
                    clear c73
                    by_cases c74 : x22_2 < (x10_2.length : Int)
                    · rw [if_pos c74] at H
                      have c74b0 : decide (x22_2 < (x10_2.length : Int)) = true := decide_eq_true c74
                      clear c74
                      replace H := Option.bind_eq_some_iff.mp H
                      obtain ⟨t347, A750, H⟩ := H
                      replace H : (withelaw3_ReachAll.l0 k2 a3 t316 (x10_2.set (x22_2 : Int).toNat t347) true 0 0 (wrap64 (x22_2 + 1))) = some r := H
                      have A75 := Aside0.mk A750
                      clear A750
                      obtain ⟨y348, hy348⟩ : ∃ y_ : List Int, y_ = (x10_2.set (x22_2 : Int).toNat t347) := ⟨_, rfl⟩
                      replace H : (withelaw3_ReachAll.l0 k2 a3 t316 y348 true 0 0 (wrap64 (x22_2 + 1))) = some r := by first | (rw [hy348]; with_reducible exact H) | (have H2_ := (Option.bind_some _ _).symm.trans H; rw [hy348]; with_reducible exact H2_) | (have H2_ := (Option.bind_some _ _).symm.trans H; with_reducible exact H2_) | with_reducible exact H | (rw [hy348]; exact H) | exact H
                      have Ny348 := Aside0.mk hy348
                      clear hy348
                      have H' := Aside0.mk H
                      clear H
                      obtain ⟨Ao77, co77, eo77⟩ := Kd.R_slice HO_10.out
                      subst eo77
                      have p346 : 0 ≤ (x22_2 : Int) := of_decide_eq_true (by first | (with_reducible assumption) | assumption)
                      have q346 : x22_2 < (x10_2.length : Int) := of_decide_eq_true (by first | (with_reducible assumption) | assumption)
                      obtain ⟨ad346, e346, hx346_0⟩ := Kd.at_int (Kd.R_reads' HO_10.out).2.2 x22_2 p346 q346
                      cases e346
                      replace p346 := eq_true p346
                      replace q346 := eq_true q346
                      go_wp2_with (first | ((with_reducible refine gate_callee (f := 20) rfl ?_); refine goesL_ (some 103) rfl rfl Tryd.func20 (by kernel_rfl) rfl #[.int .u64 (rd x10_2 x22_2), .int .i64 x22_2] rfl (by (try simp only [List.map_toArray, List.map_cons, List.map_nil]); first | done | rfl | (simp only [List.length_drop, List.length_take]; rfl)) ?_; (with_reducible refine (witheref1_Put.calls k2 (rd x10_2 x22_2) x22_2 t347 _ A75.out).mono ?_); rintro e w' ⟨rfl, ⟨nd, rfl⟩⟩; refine ⟨_, rfl, ?_⟩; (try (rw [drewN_self wr]; generalize hq_ : World.drewN wr _ = wr; have n0_ : Aside0 (Kd.R (Kd.int .u64) 23 wr w.heap.size (fun k_ => some k_ ≠ (.slice Ao18 t316.length co18 : Value).ownBlock) (.slice (some ad346) x10_2.length co77) x10_2) := ⟨by rw [← hq_]; exact (by (with_reducible repeat (first | apply Kd.R_alloc | apply Kd.R_drewN | apply Kd.R_drew)); exact HO_10.out)⟩; have n1_ : Aside0 (Kd.R (Kd.int .u64) 23 wr w.heap.size (fun k_ => some k_ ≠ (.slice (some ad346) x10_2.length co77 : Value).ownBlock) (.slice Ao18 t316.length co18) t316) := ⟨by rw [← hq_]; exact (by (with_reducible repeat (first | apply Kd.R_alloc | apply Kd.R_drewN | apply Kd.R_drew)); exact HO_9.out)⟩; have n2_ : Aside0 (Below w.heap.size w wr) := ⟨by rw [← hq_]; exact (by repeat (first | (with_reducible first | exact HB.out | apply below_alloc | apply pw_below_drewN | apply below_drew1) | exact HB.out))⟩; clear HO_10 HO_9 HB hq_; have HO_10 := n0_; have HO_9 := n1_; have HB := n2_; clear n0_ n1_ n2_)); have p76 : 0 ≤ (x22_2 : Int) := of_decide_eq_true (by first | (with_reducible assumption) | assumption); have q76 : (x22_2 : Int) < ((x10_2.length : Int) : Int) := of_decide_eq_true (by first | (with_reducible assumption) | assumption); obtain ⟨go76, co76, eo76, gb76, gl76, cl76, HG76⟩ := Kd.R_form HO_10.out (by omega); (first | cases eo76 | (injection eo76 with ea_ en_ ec_; (first | subst ea_ | (injection ea_ with ea_; subst ea_)); subst ec_; clear en_)); have GB76 := Aside0.mk gb76; have GG76 := Aside0.mk HG76; clear gb76 gl76 HG76; (first | simp only [add_plain] at hx346_0 | skip); obtain ⟨hx76_0, hf76_0⟩ := Kd.R_celln 0 HO_10.out (x22_2 : Int) p76 q76; replace p76 := eq_true p76; replace q76 := eq_true q76; obtain ⟨hy78_, hz78_⟩ := Kd.R_celln 0 HO_10.out (x22_2 : Int) (of_decide_eq_true (by first | (with_reducible assumption) | assumption)) (of_decide_eq_true (by first | (with_reducible assumption) | assumption)); have HP78 := Kd.R_putg HO_10.out (x22_2 : Int) t347) | ((with_reducible refine gate_store (t := 23) (p := 104) rfl ?_); refine store_event (t := 23) (p := 104) (v := ?vo_w79) (w1 := (wr.setCell ⟨go76, (x22_2 : Int).toNat, none⟩ (.int .u64 t347))) ?hg ?ho ?hn ?hr ?_; (case ho => rfl); (case hg => rfl); (case hn => rfl); (case hr => first | (go_simp; done) | (go_simp; rfl)); intro w79 hw; have hg : wr.grownBy w79 (some go76) := (by rw [hw]; exact HP78.2); have hp_ : Kd.R (Kd.int .u64) 23 w79 w.heap.size (fun k_ => some k_ ≠ (.slice Ao18 t316.length co18 : Value).ownBlock) (.slice (some ⟨go76, 0, none⟩) x10_2.length co77) y348 := (by rw [hw, Ny348.out]; exact HP78.1); clear HP78; have n0_ := Aside0.mk (Kd.R_after (v := (.slice (some ⟨go76, 0, none⟩) x10_2.length co77)) (v1 := (.slice (some ⟨go76, 0, none⟩) x10_2.length co77)) (ok := (fun _ => True)) (by (with_reducible repeat (first | apply Kd.R_alloc | apply Kd.R_drewN | apply Kd.R_drew)); exact Kd.R_mono HO_9.out (fun _ hk => ⟨trivial, hk⟩)) hg (.inl rfl)); have n1_ := Aside0.mk (hp_); have n2_ := Aside0.mk ((by rw [hw]; exact below_set (HB.out) GB76.out : Below w.heap.size w w79)); clear HO_9; clear HO_10; clear HB; have HO_9 := n0_; have HO_10 := n1_; have HB := n2_; clear n0_ n1_ n2_; clear hg hw hp_))
                      go_roundg k2
                      case measure => have := HJ14.out; have := HK2.out; omega
                      case rel => exact ⟨(y348), (wrap64 (x22_2 + 1)), (by first | rfl | (simp; done) | (simp [*]; done)), H', ⟨by have := HJ14.out; have := HK2.out; omega⟩, ⟨by (with_reducible repeat (first | apply Kd.R_alloc | apply Kd.R_drewN | apply Kd.R_drew)); exact Kd.R_mono HO_9.out (fun _ hk => hk.2)⟩, ⟨by (with_reducible repeat (first | apply Kd.R_alloc | apply Kd.R_drewN | apply Kd.R_drew)); exact HO_10.out⟩, ⟨by repeat (first | (with_reducible first | exact HB.out | apply below_alloc | apply pw_below_drewN | apply below_drew1) | exact HB.out)⟩⟩
                    · rw [if_neg c74] at H
                      exact absurd H (by simp)
                  · rw [if_neg c73] at H
                    exact absurd H (by simp)
                · rw [if_neg c72] at H
                  have c72b0 : decide (x22_2 < (t316.length : Int)) = false := decide_eq_false c72
                  clear c72
                  have H' := Aside0.mk H
                  clear H
                  go_wp2
                  try go_simp
                  go_loopg [19, 20, 21, 23] k2 (fun kq v19 v20 v21 v23 w' => ∃ (x19_3 : Bool) (x20_3 : Int) (x21_3 : Int) (x23_3 : Int), v19 = .bool x19_3 ∧ v20 = .int .u64 x20_3 ∧ v21 = .int .u64 x21_3 ∧ v23 = .int .i64 x23_3 ∧ Aside0 (withelaw3_ReachAll.l1 kq a3 t316 x10_2 x19_3 x20_3 x21_3 x23_3 = some r) ∧ Aside0 (kq ≤ k2) ∧ Aside0 (Kd.R (Kd.int .u64) 23 w' w.heap.size (fun k_ => some k_ ≠ (v320 : Value).ownBlock) (.slice Ao18 t316.length co18) t316) ∧ Aside0 (Kd.R (Kd.int .u64) 23 w' w.heap.size (fun k_ => some k_ ≠ ((.slice Ao18 t316.length co18) : Value).ownBlock) v320 x10_2) ∧ Aside0 (Below w.heap.size w w'))
                  case atStart => exact ⟨(true), (0), (0), (0), (by first | rfl | (simp; done) | (simp [*]; done)), (by first | rfl | (simp; done) | (simp [*]; done)), (by first | rfl | (simp; done) | (simp [*]; done)), (by first | rfl | (simp; done) | (simp [*]; done)), H', ⟨Nat.le_refl _⟩, ⟨by (with_reducible repeat (first | apply Kd.R_alloc | apply Kd.R_drewN | apply Kd.R_drew)); exact HO_9.out⟩, ⟨by (with_reducible repeat (first | apply Kd.R_alloc | apply Kd.R_drewN | apply Kd.R_drew)); exact HO_10.out⟩, ⟨by repeat (first | (with_reducible first | exact HB.out | apply below_alloc | apply pw_below_drewN | apply below_drew1) | exact HB.out)⟩⟩
                  case round =>
                    clear H'
                    try clear c1
                    try clear c2
                    try clear p2
                    try clear c3
                    try clear p3
                    try clear q3
                    try clear hx3
                    try clear c4
                    try clear c6
                    try clear p6
                    try clear c7
                    try clear c7b0
                    try clear c7b1
                    try clear p7
                    try clear q7
                    try clear hx7
                    try clear hf7
                    try clear c8
                    try clear c9
                    try clear c10
                    try clear c11
                    try clear c12
                    try clear c13
                    try clear c14
                    try clear c15
                    try clear c16
                    try clear c17
                    try clear c18
                    try clear c19
                    try clear c20
                    try clear c26
                    try clear c29
                    try clear c29b0
                    try clear c29b1
                    try clear c29b2
                    try clear p34
                    try clear q34
                    try clear hx34
                    try clear c35
                    try clear c35b0
                    try clear c35b1
                    try clear c35b2
                    try clear c42
                    try clear c43
                    try clear c43b0
                    try clear c43b1
                    try clear c43b2
                    try clear p64
                    try clear c71
                    try clear c72
                    try clear c72b0
                    try clear c73
                    try clear c73b0
                    try clear c74
                    try clear c74b0
                    try clear p76
                    try clear q76
                    try clear hx76
                    try clear hf76
                    try clear hx346_0
                    try clear hx76_0
                    try clear p2
                    try clear p346
                    try clear p76
                    try clear q346
                    try clear q76
                    obtain ⟨x19_3, x20_3, x21_3, x23_3, rfl, rfl, rfl, rfl, HA, HK3, HO_9, HO_10, HB⟩ := hrel
                    cases gk with
                    | zero => exact absurd HA.out (by simp [withelaw3_ReachAll.l1])
                    | succ k3 =>
                      have H := HA.out
                      clear HA
                      simp only [withelaw3_ReachAll.l1] at H
                      by_cases c80 : x23_3 < (t316.length : Int)
                      · rw [if_pos c80] at H
                        have c80b0 : decide (x23_3 < (t316.length : Int)) = true := decide_eq_true c80
                        clear c80
                        have H' := Aside0.mk H
                        clear H
                        go_wp2
                        try go_simp
                        go_loopg [19, 20, 21, 24] k3 (fun kq v19 v20 v21 v24 w' => ∃ (x19_4 : Bool) (x20_4 : Int) (x21_4 : Int) (x24_4 : Int), v19 = .bool x19_4 ∧ v20 = .int .u64 x20_4 ∧ v21 = .int .u64 x21_4 ∧ v24 = .int .i64 x24_4 ∧ Aside0 (withelaw3_ReachAll.l2 kq a3 t316 x10_2 x19_4 x20_4 x21_4 x23_3 x24_4 = some r) ∧ Aside0 (kq ≤ k3) ∧ Aside0 (Kd.R (Kd.int .u64) 23 w' w.heap.size (fun k_ => some k_ ≠ (v320 : Value).ownBlock) (.slice Ao18 t316.length co18) t316) ∧ Aside0 (Kd.R (Kd.int .u64) 23 w' w.heap.size (fun k_ => some k_ ≠ ((.slice Ao18 t316.length co18) : Value).ownBlock) v320 x10_2) ∧ Aside0 (Below w.heap.size w w'))
                        case atStart => exact ⟨(x19_3), (x20_3), (x21_3), (0), (by first | rfl | (simp; done) | (simp [*]; done)), (by first | rfl | (simp; done) | (simp [*]; done)), (by first | rfl | (simp; done) | (simp [*]; done)), (by first | rfl | (simp; done) | (simp [*]; done)), H', ⟨Nat.le_refl _⟩, ⟨by (with_reducible repeat (first | apply Kd.R_alloc | apply Kd.R_drewN | apply Kd.R_drew)); exact HO_9.out⟩, ⟨by (with_reducible repeat (first | apply Kd.R_alloc | apply Kd.R_drewN | apply Kd.R_drew)); exact HO_10.out⟩, ⟨by repeat (first | (with_reducible first | exact HB.out | apply below_alloc | apply pw_below_drewN | apply below_drew1) | exact HB.out)⟩⟩
                        case round =>
                          clear H'
                          try clear c1
                          try clear c2
                          try clear p2
                          try clear c3
                          try clear p3
                          try clear q3
                          try clear hx3
                          try clear c4
                          try clear c6
                          try clear p6
                          try clear c7
                          try clear c7b0
                          try clear c7b1
                          try clear p7
                          try clear q7
                          try clear hx7
                          try clear hf7
                          try clear c8
                          try clear c9
                          try clear c10
                          try clear c11
                          try clear c12
                          try clear c13
                          try clear c14
                          try clear c15
                          try clear c16
                          try clear c17
                          try clear c18
                          try clear c19
                          try clear c20
                          try clear c26
                          try clear c29
                          try clear c29b0
                          try clear c29b1
                          try clear c29b2
                          try clear p34
                          try clear q34
                          try clear hx34
                          try clear c35
                          try clear c35b0
                          try clear c35b1
                          try clear c35b2
                          try clear c42
                          try clear c43
                          try clear c43b0
                          try clear c43b1
                          try clear c43b2
                          try clear p64
                          try clear c71
                          try clear c72
                          try clear c72b0
                          try clear c73
                          try clear c73b0
                          try clear c74
                          try clear c74b0
                          try clear p76
                          try clear q76
                          try clear hx76
                          try clear hf76
                          try clear c80
                          try clear c80b0
                          try clear hx346_0
                          try clear hx76_0
                          try clear p2
                          try clear p3
                          try clear p34
                          try clear p346
                          try clear p6
                          try clear p64
                          try clear p7
                          try clear p76
                          try clear q3
                          try clear q34
                          try clear q346
                          try clear q7
                          try clear q76
                          obtain ⟨x19_4, x20_4, x21_4, x24_4, rfl, rfl, rfl, rfl, HA, HK4, HO_9, HO_10, HB⟩ := hrel
                          cases gk with
                          | zero => exact absurd HA.out (by simp [withelaw3_ReachAll.l2])
                          | succ k4 =>
                            have H := HA.out
                            clear HA
                            simp only [withelaw3_ReachAll.l2] at H
                            by_cases c81 : x24_4 < (t316.length : Int)
                            · rw [if_pos c81] at H
                              have c81b0 : decide (x24_4 < (t316.length : Int)) = true := decide_eq_true c81
                              clear c81
                              have HC82 := Aside0.mk H
                              clear H
                              go_upto_region 25 with (fail)
                              go_cut [143] (fun v143 wc => ∃ (kq : Nat) (x143_81 : Bool), v143 = .bool x143_81 ∧ Aside0 (withelaw3_ReachAll.j4 kq a3 t316 x10_2 x19_4 x20_4 x21_4 x23_3 x24_4 x143_81 = some r) ∧ Aside0 (kq ≤ k4) ∧ Aside0 (Kd.R (Kd.int .u64) 23 wc w.heap.size (fun k_ => some k_ ≠ (v320 : Value).ownBlock) (.slice Ao18 t316.length co18) t316) ∧ Aside0 (Kd.R (Kd.int .u64) 23 wc w.heap.size (fun k_ => some k_ ≠ ((.slice Ao18 t316.length co18) : Value).ownBlock) v320 x10_2) ∧ Aside0 (Below w.heap.size w wc))
                              case first =>
                                have H := HC82.out
                                clear HC82
                                by_cases c83 : x23_3 = x24_4
                                · rw [if_pos c83] at H
                                  have c83b0 : (x23_3 == x24_4) = true := beq_iff_eq.mpr c83
                                  have c83b1 : (x23_3 != x24_4) = false := bne_eq_false_iff_eq.mpr c83
                                  clear c83
                                  (first | rw [c83b0] | (simp only [i64_w, i32_w]; rw [c83b0]) | skip)
                                  have H' := Aside0.mk H
                                  clear H
                                  go_wp2
                                  go_meet
                                  case rel => exact ⟨_, (false), (by first | rfl | (simp; done) | (simp [*]; done)), H', ⟨by have := HJ14.out; have := HK2.out; have := HK3.out; have := HK4.out; first | omega | exact Nat.le_refl _⟩, ⟨by (with_reducible repeat (first | apply Kd.R_alloc | apply Kd.R_drewN | apply Kd.R_drew)); exact HO_9.out⟩, ⟨by (with_reducible repeat (first | apply Kd.R_alloc | apply Kd.R_drewN | apply Kd.R_drew)); exact HO_10.out⟩, ⟨by repeat (first | (with_reducible first | exact HB.out | apply below_alloc | apply pw_below_drewN | apply below_drew1) | exact HB.out)⟩⟩
                                · rw [if_neg c83] at H
                                  have c83b0 : (x23_3 == x24_4) = false := beq_eq_false_iff_ne.mpr c83
                                  have c83b1 : (x23_3 != x24_4) = true := bne_iff_ne.mpr c83
                                  (first | rw [c83b0] | (simp only [i64_w, i32_w]; rw [c83b0]) | skip)
                                  replace H := Option.bind_eq_some_iff.mp H
                                  obtain ⟨t349, A840, H⟩ := H
                                  replace H : (if t349 = true then ((witheref1_Has.f a3 x24_4).bind fun t350 => (if t350 = true then ((witheref1_At.f t316 x23_3 x24_4).bind fun t351 => (if t351 = true then (withelaw3_ReachAll.j4 k4 a3 t316 x10_2 x19_4 x20_4 x21_4 x23_3 x24_4 false) else ((witheref1_At.f t316 x24_4 x23_3).bind fun t352 => (withelaw3_ReachAll.j4 k4 a3 t316 x10_2 x19_4 x20_4 x21_4 x23_3 x24_4 (!t352))))) else (withelaw3_ReachAll.j4 k4 a3 t316 x10_2 x19_4 x20_4 x21_4 x23_3 x24_4 false))) else (withelaw3_ReachAll.j4 k4 a3 t316 x10_2 x19_4 x20_4 x21_4 x23_3 x24_4 false)) = some r := H
                                  have A84 := Aside0.mk A840
                                  clear A840
                                  by_cases c85 : t349 = true
                                  · subst c85
                                    have H1 : ((witheref1_Has.f a3 x24_4).bind fun t350 => (if t350 = true then ((witheref1_At.f t316 x23_3 x24_4).bind fun t351 => (if t351 = true then (withelaw3_ReachAll.j4 k4 a3 t316 x10_2 x19_4 x20_4 x21_4 x23_3 x24_4 false) else ((witheref1_At.f t316 x24_4 x23_3).bind fun t352 => (withelaw3_ReachAll.j4 k4 a3 t316 x10_2 x19_4 x20_4 x21_4 x23_3 x24_4 (!t352))))) else (withelaw3_ReachAll.j4 k4 a3 t316 x10_2 x19_4 x20_4 x21_4 x23_3 x24_4 false))) = some r := by rw [if_pos rfl] at H; exact H
                                    clear H
                                    have H := H1
                                    clear H1
                                    replace H := Option.bind_eq_some_iff.mp H
                                    obtain ⟨t350, A860, H⟩ := H
                                    replace H : (if t350 = true then ((witheref1_At.f t316 x23_3 x24_4).bind fun t351 => (if t351 = true then (withelaw3_ReachAll.j4 k4 a3 t316 x10_2 x19_4 x20_4 x21_4 x23_3 x24_4 false) else ((witheref1_At.f t316 x24_4 x23_3).bind fun t352 => (withelaw3_ReachAll.j4 k4 a3 t316 x10_2 x19_4 x20_4 x21_4 x23_3 x24_4 (!t352))))) else (withelaw3_ReachAll.j4 k4 a3 t316 x10_2 x19_4 x20_4 x21_4 x23_3 x24_4 false)) = some r := H
                                    have A86 := Aside0.mk A860
                                    clear A860
                                    by_cases c87 : t350 = true
                                    · subst c87
                                      have H1 : ((witheref1_At.f t316 x23_3 x24_4).bind fun t351 => (if t351 = true then (withelaw3_ReachAll.j4 k4 a3 t316 x10_2 x19_4 x20_4 x21_4 x23_3 x24_4 false) else ((witheref1_At.f t316 x24_4 x23_3).bind fun t352 => (withelaw3_ReachAll.j4 k4 a3 t316 x10_2 x19_4 x20_4 x21_4 x23_3 x24_4 (!t352))))) = some r := by rw [if_pos rfl] at H; exact H
                                      clear H
                                      have H := H1
                                      clear H1
                                      replace H := Option.bind_eq_some_iff.mp H
                                      obtain ⟨t351, A880, H⟩ := H
                                      replace H : (if t351 = true then (withelaw3_ReachAll.j4 k4 a3 t316 x10_2 x19_4 x20_4 x21_4 x23_3 x24_4 false) else ((witheref1_At.f t316 x24_4 x23_3).bind fun t352 => (withelaw3_ReachAll.j4 k4 a3 t316 x10_2 x19_4 x20_4 x21_4 x23_3 x24_4 (!t352)))) = some r := H
                                      have A88 := Aside0.mk A880
                                      clear A880
                                      by_cases c89 : t351 = true
                                      · subst c89
                                        have H1 : (withelaw3_ReachAll.j4 k4 a3 t316 x10_2 x19_4 x20_4 x21_4 x23_3 x24_4 false) = some r := by rw [if_pos rfl] at H; exact H
                                        clear H
                                        have H := H1
                                        clear H1
                                        have H' := Aside0.mk H
                                        clear H
                                        go_wp2_with (first | ((first | ((with_reducible refine gate_callee (f := 21) rfl ?_); (refine gate_guard (by rfl) ?_; dsimp only); refine goesL_ (some 123) rfl rfl Tryd.func21 (by kernel_rfl) rfl #[.int .u64 a3, .int .i64 x23_3] rfl (by (try simp only [List.map_toArray, List.map_cons, List.map_nil]); first | done | rfl | (simp only [List.length_drop, List.length_take]; rfl)) ?_; (with_reducible refine (witheref1_Has.calls a3 x23_3 true _ A84.out).mono ?_); rintro e w' ⟨rfl, ⟨nd, rfl⟩⟩; refine ⟨_, rfl, ?_⟩) | (go_at_call 21; (with_reducible refine (witheref1_Has.calls a3 x23_3 true _ A84.out).mono ?_); rintro e w' ⟨rfl, ⟨nd, rfl⟩⟩))) | ((first | ((with_reducible refine gate_callee (f := 21) rfl ?_); (refine gate_guard (by rfl) ?_; dsimp only); refine goesL_ (some 128) rfl rfl Tryd.func21 (by kernel_rfl) rfl #[.int .u64 a3, .int .i64 x24_4] rfl (by (try simp only [List.map_toArray, List.map_cons, List.map_nil]); first | done | rfl | (simp only [List.length_drop, List.length_take]; rfl)) ?_; (with_reducible refine (witheref1_Has.calls a3 x24_4 true _ A86.out).mono ?_); rintro e w' ⟨rfl, ⟨nd, rfl⟩⟩; refine ⟨_, rfl, ?_⟩) | (go_at_call 21; (with_reducible refine (witheref1_Has.calls a3 x24_4 true _ A86.out).mono ?_); rintro e w' ⟨rfl, ⟨nd, rfl⟩⟩))) | ((first | ((with_reducible refine gate_callee (f := 22) rfl ?_); (refine gate_guard (by rfl) ?_; dsimp only); refine goesL_ (some 134) rfl rfl Tryd.func22 (by kernel_rfl) rfl #[.slice Ao18 t316.length co18, .int .i64 x23_3, .int .i64 x24_4] rfl (by (try simp only [List.map_toArray, List.map_cons, List.map_nil]); first | done | rfl | (simp only [List.length_drop, List.length_take]; rfl)) ?_; (with_reducible refine (witheref1_At.calls _ _ t316 x23_3 x24_4 true _ ?side1 ?side2 A88.out).mono ?_); (case side1 => repeat (first | exact (Kd.R_reads' HO_9.out).2.2 | (with_reducible refine Kd.C_alloc ?_ _) | (with_reducible refine Kd.C_drewN ?_ _) | (with_reducible refine Kd.C_drew ?_))); (case side2 => exact (Kd.R_reads' HO_9.out).2.1); rintro e w' ⟨rfl, ⟨nd, rfl⟩⟩; refine ⟨_, rfl, ?_⟩) | (go_at_call 22; (with_reducible refine (witheref1_At.calls _ _ t316 x23_3 x24_4 true _ ?side1 ?side2 A88.out).mono ?_); (case side1 => repeat (first | exact (Kd.R_reads' HO_9.out).2.2 | (with_reducible refine Kd.C_alloc ?_ _) | (with_reducible refine Kd.C_drewN ?_ _) | (with_reducible refine Kd.C_drew ?_))); (case side2 => exact (Kd.R_reads' HO_9.out).2.1); rintro e w' ⟨rfl, ⟨nd, rfl⟩⟩))))
                                        go_meet
                                        case rel => exact ⟨_, (false), (by first | rfl | (simp; done) | (simp [*]; done)), H', ⟨by have := HJ14.out; have := HK2.out; have := HK3.out; have := HK4.out; first | omega | exact Nat.le_refl _⟩, ⟨by (with_reducible repeat (first | apply Kd.R_alloc | apply Kd.R_drewN | apply Kd.R_drew)); exact HO_9.out⟩, ⟨by (with_reducible repeat (first | apply Kd.R_alloc | apply Kd.R_drewN | apply Kd.R_drew)); exact HO_10.out⟩, ⟨by repeat (first | (with_reducible first | exact HB.out | apply below_alloc | apply pw_below_drewN | apply below_drew1) | exact HB.out)⟩⟩
                                      · replace c89 := Bool.eq_false_iff.mpr c89
                                        subst c89
                                        have H1 : ((witheref1_At.f t316 x24_4 x23_3).bind fun t352 => (withelaw3_ReachAll.j4 k4 a3 t316 x10_2 x19_4 x20_4 x21_4 x23_3 x24_4 (!t352))) = some r := by rw [if_neg (show ¬ (false = true) by decide)] at H; exact H
                                        clear H
                                        have H := H1
                                        clear H1
                                        replace H := Option.bind_eq_some_iff.mp H
                                        obtain ⟨t352, A900, H⟩ := H
                                        replace H : (withelaw3_ReachAll.j4 k4 a3 t316 x10_2 x19_4 x20_4 x21_4 x23_3 x24_4 (!t352)) = some r := H
                                        have A90 := Aside0.mk A900
                                        clear A900
                                        have H' := Aside0.mk H
                                        clear H
                                        go_wp2_with (first | ((first | ((with_reducible refine gate_callee (f := 21) rfl ?_); (refine gate_guard (by rfl) ?_; dsimp only); refine goesL_ (some 123) rfl rfl Tryd.func21 (by kernel_rfl) rfl #[.int .u64 a3, .int .i64 x23_3] rfl (by (try simp only [List.map_toArray, List.map_cons, List.map_nil]); first | done | rfl | (simp only [List.length_drop, List.length_take]; rfl)) ?_; (with_reducible refine (witheref1_Has.calls a3 x23_3 true _ A84.out).mono ?_); rintro e w' ⟨rfl, ⟨nd, rfl⟩⟩; refine ⟨_, rfl, ?_⟩) | (go_at_call 21; (with_reducible refine (witheref1_Has.calls a3 x23_3 true _ A84.out).mono ?_); rintro e w' ⟨rfl, ⟨nd, rfl⟩⟩))) | ((first | ((with_reducible refine gate_callee (f := 21) rfl ?_); (refine gate_guard (by rfl) ?_; dsimp only); refine goesL_ (some 128) rfl rfl Tryd.func21 (by kernel_rfl) rfl #[.int .u64 a3, .int .i64 x24_4] rfl (by (try simp only [List.map_toArray, List.map_cons, List.map_nil]); first | done | rfl | (simp only [List.length_drop, List.length_take]; rfl)) ?_; (with_reducible refine (witheref1_Has.calls a3 x24_4 true _ A86.out).mono ?_); rintro e w' ⟨rfl, ⟨nd, rfl⟩⟩; refine ⟨_, rfl, ?_⟩) | (go_at_call 21; (with_reducible refine (witheref1_Has.calls a3 x24_4 true _ A86.out).mono ?_); rintro e w' ⟨rfl, ⟨nd, rfl⟩⟩))) | ((first | ((with_reducible refine gate_callee (f := 22) rfl ?_); (refine gate_guard (by rfl) ?_; dsimp only); refine goesL_ (some 134) rfl rfl Tryd.func22 (by kernel_rfl) rfl #[.slice Ao18 t316.length co18, .int .i64 x23_3, .int .i64 x24_4] rfl (by (try simp only [List.map_toArray, List.map_cons, List.map_nil]); first | done | rfl | (simp only [List.length_drop, List.length_take]; rfl)) ?_; (with_reducible refine (witheref1_At.calls _ _ t316 x23_3 x24_4 false _ ?side1 ?side2 A88.out).mono ?_); (case side1 => repeat (first | exact (Kd.R_reads' HO_9.out).2.2 | (with_reducible refine Kd.C_alloc ?_ _) | (with_reducible refine Kd.C_drewN ?_ _) | (with_reducible refine Kd.C_drew ?_))); (case side2 => exact (Kd.R_reads' HO_9.out).2.1); rintro e w' ⟨rfl, ⟨nd, rfl⟩⟩; refine ⟨_, rfl, ?_⟩) | (go_at_call 22; (with_reducible refine (witheref1_At.calls _ _ t316 x23_3 x24_4 false _ ?side1 ?side2 A88.out).mono ?_); (case side1 => repeat (first | exact (Kd.R_reads' HO_9.out).2.2 | (with_reducible refine Kd.C_alloc ?_ _) | (with_reducible refine Kd.C_drewN ?_ _) | (with_reducible refine Kd.C_drew ?_))); (case side2 => exact (Kd.R_reads' HO_9.out).2.1); rintro e w' ⟨rfl, ⟨nd, rfl⟩⟩))) | ((first | ((with_reducible refine gate_callee (f := 22) rfl ?_); (refine gate_guard (by rfl) ?_; dsimp only); refine goesL_ (some 141) rfl rfl Tryd.func22 (by kernel_rfl) rfl #[.slice Ao18 t316.length co18, .int .i64 x24_4, .int .i64 x23_3] rfl (by (try simp only [List.map_toArray, List.map_cons, List.map_nil]); first | done | rfl | (simp only [List.length_drop, List.length_take]; rfl)) ?_; (with_reducible refine (witheref1_At.calls _ _ t316 x24_4 x23_3 t352 _ ?side1 ?side2 A90.out).mono ?_); (case side1 => repeat (first | exact (Kd.R_reads' HO_9.out).2.2 | (with_reducible refine Kd.C_alloc ?_ _) | (with_reducible refine Kd.C_drewN ?_ _) | (with_reducible refine Kd.C_drew ?_))); (case side2 => exact (Kd.R_reads' HO_9.out).2.1); rintro e w' ⟨rfl, ⟨nd, rfl⟩⟩; refine ⟨_, rfl, ?_⟩) | (go_at_call 22; (with_reducible refine (witheref1_At.calls _ _ t316 x24_4 x23_3 t352 _ ?side1 ?side2 A90.out).mono ?_); (case side1 => repeat (first | exact (Kd.R_reads' HO_9.out).2.2 | (with_reducible refine Kd.C_alloc ?_ _) | (with_reducible refine Kd.C_drewN ?_ _) | (with_reducible refine Kd.C_drew ?_))); (case side2 => exact (Kd.R_reads' HO_9.out).2.1); rintro e w' ⟨rfl, ⟨nd, rfl⟩⟩))))
                                        go_meet
                                        case rel => exact ⟨_, (!t352), (by first | rfl | (simp; done) | (simp [*]; done)), H', ⟨by have := HJ14.out; have := HK2.out; have := HK3.out; have := HK4.out; first | omega | exact Nat.le_refl _⟩, ⟨by (with_reducible repeat (first | apply Kd.R_alloc | apply Kd.R_drewN | apply Kd.R_drew)); exact HO_9.out⟩, ⟨by (with_reducible repeat (first | apply Kd.R_alloc | apply Kd.R_drewN | apply Kd.R_drew)); exact HO_10.out⟩, ⟨by repeat (first | (with_reducible first | exact HB.out | apply below_alloc | apply pw_below_drewN | apply below_drew1) | exact HB.out)⟩⟩
                                    · replace c87 := Bool.eq_false_iff.mpr c87
                                      subst c87
                                      have H1 : (withelaw3_ReachAll.j4 k4 a3 t316 x10_2 x19_4 x20_4 x21_4 x23_3 x24_4 false) = some r := by rw [if_neg (show ¬ (false = true) by decide)] at H; exact H
                                      clear H
                                      have H := H1
                                      clear H1
                                      have H' := Aside0.mk H
                                      clear H
                                      go_wp2_with (first | ((first | ((with_reducible refine gate_callee (f := 21) rfl ?_); (refine gate_guard (by rfl) ?_; dsimp only); refine goesL_ (some 123) rfl rfl Tryd.func21 (by kernel_rfl) rfl #[.int .u64 a3, .int .i64 x23_3] rfl (by (try simp only [List.map_toArray, List.map_cons, List.map_nil]); first | done | rfl | (simp only [List.length_drop, List.length_take]; rfl)) ?_; (with_reducible refine (witheref1_Has.calls a3 x23_3 true _ A84.out).mono ?_); rintro e w' ⟨rfl, ⟨nd, rfl⟩⟩; refine ⟨_, rfl, ?_⟩) | (go_at_call 21; (with_reducible refine (witheref1_Has.calls a3 x23_3 true _ A84.out).mono ?_); rintro e w' ⟨rfl, ⟨nd, rfl⟩⟩))) | ((first | ((with_reducible refine gate_callee (f := 21) rfl ?_); (refine gate_guard (by rfl) ?_; dsimp only); refine goesL_ (some 128) rfl rfl Tryd.func21 (by kernel_rfl) rfl #[.int .u64 a3, .int .i64 x24_4] rfl (by (try simp only [List.map_toArray, List.map_cons, List.map_nil]); first | done | rfl | (simp only [List.length_drop, List.length_take]; rfl)) ?_; (with_reducible refine (witheref1_Has.calls a3 x24_4 false _ A86.out).mono ?_); rintro e w' ⟨rfl, ⟨nd, rfl⟩⟩; refine ⟨_, rfl, ?_⟩) | (go_at_call 21; (with_reducible refine (witheref1_Has.calls a3 x24_4 false _ A86.out).mono ?_); rintro e w' ⟨rfl, ⟨nd, rfl⟩⟩))))
                                      go_meet
                                      case rel => exact ⟨_, (false), (by first | rfl | (simp; done) | (simp [*]; done)), H', ⟨by have := HJ14.out; have := HK2.out; have := HK3.out; have := HK4.out; first | omega | exact Nat.le_refl _⟩, ⟨by (with_reducible repeat (first | apply Kd.R_alloc | apply Kd.R_drewN | apply Kd.R_drew)); exact HO_9.out⟩, ⟨by (with_reducible repeat (first | apply Kd.R_alloc | apply Kd.R_drewN | apply Kd.R_drew)); exact HO_10.out⟩, ⟨by repeat (first | (with_reducible first | exact HB.out | apply below_alloc | apply pw_below_drewN | apply below_drew1) | exact HB.out)⟩⟩
                                  · replace c85 := Bool.eq_false_iff.mpr c85
                                    subst c85
                                    have H1 : (withelaw3_ReachAll.j4 k4 a3 t316 x10_2 x19_4 x20_4 x21_4 x23_3 x24_4 false) = some r := by rw [if_neg (show ¬ (false = true) by decide)] at H; exact H
                                    clear H
                                    have H := H1
                                    clear H1
                                    have H' := Aside0.mk H
                                    clear H
                                    go_wp2_with (first | ((first | ((with_reducible refine gate_callee (f := 21) rfl ?_); (refine gate_guard (by rfl) ?_; dsimp only); refine goesL_ (some 123) rfl rfl Tryd.func21 (by kernel_rfl) rfl #[.int .u64 a3, .int .i64 x23_3] rfl (by (try simp only [List.map_toArray, List.map_cons, List.map_nil]); first | done | rfl | (simp only [List.length_drop, List.length_take]; rfl)) ?_; (with_reducible refine (witheref1_Has.calls a3 x23_3 false _ A84.out).mono ?_); rintro e w' ⟨rfl, ⟨nd, rfl⟩⟩; refine ⟨_, rfl, ?_⟩) | (go_at_call 21; (with_reducible refine (witheref1_Has.calls a3 x23_3 false _ A84.out).mono ?_); rintro e w' ⟨rfl, ⟨nd, rfl⟩⟩))))
                                    go_meet
                                    case rel => exact ⟨_, (false), (by first | rfl | (simp; done) | (simp [*]; done)), H', ⟨by have := HJ14.out; have := HK2.out; have := HK3.out; have := HK4.out; first | omega | exact Nat.le_refl _⟩, ⟨by (with_reducible repeat (first | apply Kd.R_alloc | apply Kd.R_drewN | apply Kd.R_drew)); exact HO_9.out⟩, ⟨by (with_reducible repeat (first | apply Kd.R_alloc | apply Kd.R_drewN | apply Kd.R_drew)); exact HO_10.out⟩, ⟨by repeat (first | (with_reducible first | exact HB.out | apply below_alloc | apply pw_below_drewN | apply below_drew1) | exact HB.out)⟩⟩
                              case rest =>
                                clear HC82
                                try clear c1
                                try clear c2
                                try clear p2
                                try clear c3
                                try clear p3
                                try clear q3
                                try clear hx3
                                try clear c4
                                try clear c6
                                try clear p6
                                try clear c7
                                try clear c7b0
                                try clear c7b1
                                try clear p7
                                try clear q7
                                try clear hx7
                                try clear hf7
                                try clear c8
                                try clear c9
                                try clear c10
                                try clear c11
                                try clear c12
                                try clear c13
                                try clear c14
                                try clear c15
                                try clear c16
                                try clear c17
                                try clear c18
                                try clear c19
                                try clear c20
                                try clear c21
                                try clear c22
                                try clear c26
                                try clear c29
                                try clear c29b0
                                try clear c29b1
                                try clear c29b2
                                try clear p34
                                try clear q34
                                try clear hx34
                                try clear c35
                                try clear c35b0
                                try clear c35b1
                                try clear c35b2
                                try clear c42
                                try clear c43
                                try clear c43b0
                                try clear c43b1
                                try clear c43b2
                                try clear p64
                                try clear c71
                                try clear c72
                                try clear c72b0
                                try clear c73
                                try clear c73b0
                                try clear c74
                                try clear c74b0
                                try clear p76
                                try clear q76
                                try clear hx76
                                try clear hf76
                                try clear c80
                                try clear c80b0
                                try clear c81
                                try clear c81b0
                                try clear c83
                                try clear c83b0
                                try clear c83b1
                                try clear c85
                                try clear c87
                                try clear c89
                                try clear hx346_0
                                try clear hx76_0
                                try clear p2
                                try clear p3
                                try clear p34
                                try clear p346
                                try clear p6
                                try clear p64
                                try clear p7
                                try clear p76
                                try clear q3
                                try clear q34
                                try clear q346
                                try clear q7
                                try clear q76
                                obtain ⟨kq, x143_81, rfl, HA, HJ81, HO_9, HO_10, HB⟩ := hcut
                                cases kq with
                                | zero => exact absurd HA.out (by simp [withelaw3_ReachAll.j4])
                                | succ kj81 =>
                                  have H := HA.out
                                  clear HA
                                  simp only [withelaw3_ReachAll.j4] at H
                                  have HC91 := Aside0.mk H
                                  clear H
                                  go_upto_if 143 with (fail)
                                  go_cut [19] (fun v19 wc => ∃ (kq : Nat) (x19_90 : Bool), v19 = .bool x19_90 ∧ Aside0 (withelaw3_ReachAll.j5 kq a3 t316 x10_2 x19_90 x20_4 x21_4 x23_3 x24_4 = some r) ∧ Aside0 (kq ≤ kj81) ∧ Aside0 (Kd.R (Kd.int .u64) 23 wc w.heap.size (fun k_ => some k_ ≠ (v320 : Value).ownBlock) (.slice Ao18 t316.length co18) t316) ∧ Aside0 (Kd.R (Kd.int .u64) 23 wc w.heap.size (fun k_ => some k_ ≠ ((.slice Ao18 t316.length co18) : Value).ownBlock) v320 x10_2) ∧ Aside0 (Below w.heap.size w wc))
                                  case first =>
                                    have H := HC91.out
                                    clear HC91
                                    by_cases c92 : x143_81 = true
                                    · subst c92
                                      have H1 : (withelaw3_ReachAll.j5 kj81 a3 t316 x10_2 false x20_4 x21_4 x23_3 x24_4) = some r := by rw [if_pos rfl] at H; exact H
                                      clear H
                                      have H := H1
                                      clear H1
                                      have H' := Aside0.mk H
                                      clear H
                                      go_wp2
                                      go_meet
                                      case rel => exact ⟨_, (false), (by first | rfl | (simp; done) | (simp [*]; done)), H', ⟨by have := HJ14.out; have := HK2.out; have := HK3.out; have := HK4.out; have := HJ81.out; first | omega | exact Nat.le_refl _⟩, ⟨by (with_reducible repeat (first | apply Kd.R_alloc | apply Kd.R_drewN | apply Kd.R_drew)); exact HO_9.out⟩, ⟨by (with_reducible repeat (first | apply Kd.R_alloc | apply Kd.R_drewN | apply Kd.R_drew)); exact HO_10.out⟩, ⟨by repeat (first | (with_reducible first | exact HB.out | apply below_alloc | apply pw_below_drewN | apply below_drew1) | exact HB.out)⟩⟩
                                    · replace c92 := Bool.eq_false_iff.mpr c92
                                      subst c92
                                      have H1 : (withelaw3_ReachAll.j5 kj81 a3 t316 x10_2 x19_4 x20_4 x21_4 x23_3 x24_4) = some r := by rw [if_neg (show ¬ (false = true) by decide)] at H; exact H
                                      clear H
                                      have H := H1
                                      clear H1
                                      have H' := Aside0.mk H
                                      clear H
                                      go_wp2
                                      go_meet
                                      case rel => exact ⟨_, (x19_4), (by first | rfl | (simp; done) | (simp [*]; done)), H', ⟨by have := HJ14.out; have := HK2.out; have := HK3.out; have := HK4.out; have := HJ81.out; first | omega | exact Nat.le_refl _⟩, ⟨by (with_reducible repeat (first | apply Kd.R_alloc | apply Kd.R_drewN | apply Kd.R_drew)); exact HO_9.out⟩, ⟨by (with_reducible repeat (first | apply Kd.R_alloc | apply Kd.R_drewN | apply Kd.R_drew)); exact HO_10.out⟩, ⟨by repeat (first | (with_reducible first | exact HB.out | apply below_alloc | apply pw_below_drewN | apply below_drew1) | exact HB.out)⟩⟩
                                  case rest =>
                                    clear HC91
                                    try clear c1
                                    try clear c2
                                    try clear p2
                                    try clear c3
                                    try clear p3
                                    try clear q3
                                    try clear hx3
                                    try clear c4
                                    try clear c6
                                    try clear p6
                                    try clear c7
                                    try clear c7b0
                                    try clear c7b1
                                    try clear p7
                                    try clear q7
                                    try clear hx7
                                    try clear hf7
                                    try clear c8
                                    try clear c9
                                    try clear c10
                                    try clear c11
                                    try clear c12
                                    try clear c13
                                    try clear c14
                                    try clear c15
                                    try clear c16
                                    try clear c17
                                    try clear c18
                                    try clear c19
                                    try clear c20
                                    try clear c21
                                    try clear c22
                                    try clear c26
                                    try clear c29
                                    try clear c29b0
                                    try clear c29b1
                                    try clear c29b2
                                    try clear p34
                                    try clear q34
                                    try clear hx34
                                    try clear c35
                                    try clear c35b0
                                    try clear c35b1
                                    try clear c35b2
                                    try clear c42
                                    try clear c43
                                    try clear c43b0
                                    try clear c43b1
                                    try clear c43b2
                                    try clear p64
                                    try clear c71
                                    try clear c72
                                    try clear c72b0
                                    try clear c73
                                    try clear c73b0
                                    try clear c74
                                    try clear c74b0
                                    try clear p76
                                    try clear q76
                                    try clear hx76
                                    try clear hf76
                                    try clear c80
                                    try clear c80b0
                                    try clear c81
                                    try clear c81b0
                                    try clear c83
                                    try clear c83b0
                                    try clear c83b1
                                    try clear c85
                                    try clear c87
                                    try clear c89
                                    try clear c92
                                    try clear hx346_0
                                    try clear hx76_0
                                    try clear p2
                                    try clear p3
                                    try clear p34
                                    try clear p346
                                    try clear p6
                                    try clear p64
                                    try clear p7
                                    try clear p76
                                    try clear q3
                                    try clear q34
                                    try clear q346
                                    try clear q7
                                    try clear q76
                                    obtain ⟨kq, x19_90, rfl, HA, HJ90, HO_9, HO_10, HB⟩ := hcut
                                    cases kq with
                                    | zero => exact absurd HA.out (by simp [withelaw3_ReachAll.j5])
                                    | succ kj90 =>
                                      have H := HA.out
                                      clear HA
                                      simp only [withelaw3_ReachAll.j5] at H
                                      have HC93 := Aside0.mk H
                                      clear H
                                      go_upto_region 27 with (fail)
                                      go_cut [152] (fun v152 wc => ∃ (kq : Nat) (x152_92 : Bool), v152 = .bool x152_92 ∧ Aside0 (withelaw3_ReachAll.j6 kq a3 t316 x10_2 x19_90 x20_4 x21_4 x23_3 x24_4 x152_92 = some r) ∧ Aside0 (kq ≤ kj90) ∧ Aside0 (Kd.R (Kd.int .u64) 23 wc w.heap.size (fun k_ => some k_ ≠ (v320 : Value).ownBlock) (.slice Ao18 t316.length co18) t316) ∧ Aside0 (Kd.R (Kd.int .u64) 23 wc w.heap.size (fun k_ => some k_ ≠ ((.slice Ao18 t316.length co18) : Value).ownBlock) v320 x10_2) ∧ Aside0 (Below w.heap.size w wc))
                                      case first =>
                                        have H := HC93.out
                                        clear HC93
                                        replace H := Option.bind_eq_some_iff.mp H
                                        obtain ⟨t353, A940, H⟩ := H
                                        replace H : (if t353 = true then ((witheref1_Has.f a3 x24_4).bind fun t354 => (withelaw3_ReachAll.j6 kj90 a3 t316 x10_2 x19_90 x20_4 x21_4 x23_3 x24_4 t354)) else (withelaw3_ReachAll.j6 kj90 a3 t316 x10_2 x19_90 x20_4 x21_4 x23_3 x24_4 false)) = some r := H
                                        have A94 := Aside0.mk A940
                                        clear A940
                                        by_cases c95 : t353 = true
                                        · subst c95
                                          have H1 : ((witheref1_Has.f a3 x24_4).bind fun t354 => (withelaw3_ReachAll.j6 kj90 a3 t316 x10_2 x19_90 x20_4 x21_4 x23_3 x24_4 t354)) = some r := by rw [if_pos rfl] at H; exact H
                                          clear H
                                          have H := H1
                                          clear H1
                                          replace H := Option.bind_eq_some_iff.mp H
                                          obtain ⟨t354, A960, H⟩ := H
                                          replace H : (withelaw3_ReachAll.j6 kj90 a3 t316 x10_2 x19_90 x20_4 x21_4 x23_3 x24_4 t354) = some r := H
                                          have A96 := Aside0.mk A960
                                          clear A960
                                          have H' := Aside0.mk H
                                          clear H
                                          obtain ⟨Ao97, co97, eo97⟩ := Kd.R_slice HO_10.out
                                          subst eo97
                                          go_wp2_with (first | ((with_reducible refine gate_callee (f := 22) rfl ?_); refine goesL_ (some 147) rfl rfl Tryd.func22 (by kernel_rfl) rfl #[.slice Ao97 x10_2.length co97, .int .i64 x23_3, .int .i64 x24_4] rfl (by (try simp only [List.map_toArray, List.map_cons, List.map_nil]); first | done | rfl | (simp only [List.length_drop, List.length_take]; rfl)) ?_; (with_reducible refine (witheref1_At.calls _ _ x10_2 x23_3 x24_4 true _ ?side1 ?side2 A94.out).mono ?_); (case side1 => repeat (first | exact (Kd.R_reads' HO_10.out).2.2 | (with_reducible refine Kd.C_alloc ?_ _) | (with_reducible refine Kd.C_drewN ?_ _) | (with_reducible refine Kd.C_drew ?_))); (case side2 => exact (Kd.R_reads' HO_10.out).2.1); rintro e w' ⟨rfl, ⟨nd, rfl⟩⟩; refine ⟨_, rfl, ?_⟩) | ((first | ((with_reducible refine gate_callee (f := 21) rfl ?_); (refine gate_guard (by rfl) ?_; dsimp only); refine goesL_ (some 151) rfl rfl Tryd.func21 (by kernel_rfl) rfl #[.int .u64 a3, .int .i64 x24_4] rfl (by (try simp only [List.map_toArray, List.map_cons, List.map_nil]); first | done | rfl | (simp only [List.length_drop, List.length_take]; rfl)) ?_; (with_reducible refine (witheref1_Has.calls a3 x24_4 t354 _ A96.out).mono ?_); rintro e w' ⟨rfl, ⟨nd, rfl⟩⟩; refine ⟨_, rfl, ?_⟩) | (go_at_call 21; (with_reducible refine (witheref1_Has.calls a3 x24_4 t354 _ A96.out).mono ?_); rintro e w' ⟨rfl, ⟨nd, rfl⟩⟩))))
                                          go_meet
                                          case rel => exact ⟨_, (t354), (by first | rfl | (simp; done) | (simp [*]; done)), H', ⟨by have := HJ14.out; have := HK2.out; have := HK3.out; have := HK4.out; have := HJ81.out; have := HJ90.out; first | omega | exact Nat.le_refl _⟩, ⟨by (with_reducible repeat (first | apply Kd.R_alloc | apply Kd.R_drewN | apply Kd.R_drew)); exact HO_9.out⟩, ⟨by (with_reducible repeat (first | apply Kd.R_alloc | apply Kd.R_drewN | apply Kd.R_drew)); exact HO_10.out⟩, ⟨by repeat (first | (with_reducible first | exact HB.out | apply below_alloc | apply pw_below_drewN | apply below_drew1) | exact HB.out)⟩⟩
                                        · replace c95 := Bool.eq_false_iff.mpr c95
                                          subst c95
                                          have H1 : (withelaw3_ReachAll.j6 kj90 a3 t316 x10_2 x19_90 x20_4 x21_4 x23_3 x24_4 false) = some r := by rw [if_neg (show ¬ (false = true) by decide)] at H; exact H
                                          clear H
                                          have H := H1
                                          clear H1
                                          have H' := Aside0.mk H
                                          clear H
                                          obtain ⟨Ao98, co98, eo98⟩ := Kd.R_slice HO_10.out
                                          subst eo98
                                          go_wp2_with (first | ((with_reducible refine gate_callee (f := 22) rfl ?_); refine goesL_ (some 147) rfl rfl Tryd.func22 (by kernel_rfl) rfl #[.slice Ao98 x10_2.length co98, .int .i64 x23_3, .int .i64 x24_4] rfl (by (try simp only [List.map_toArray, List.map_cons, List.map_nil]); first | done | rfl | (simp only [List.length_drop, List.length_take]; rfl)) ?_; (with_reducible refine (witheref1_At.calls _ _ x10_2 x23_3 x24_4 false _ ?side1 ?side2 A94.out).mono ?_); (case side1 => repeat (first | exact (Kd.R_reads' HO_10.out).2.2 | (with_reducible refine Kd.C_alloc ?_ _) | (with_reducible refine Kd.C_drewN ?_ _) | (with_reducible refine Kd.C_drew ?_))); (case side2 => exact (Kd.R_reads' HO_10.out).2.1); rintro e w' ⟨rfl, ⟨nd, rfl⟩⟩; refine ⟨_, rfl, ?_⟩))
                                          go_meet
                                          case rel => exact ⟨_, (false), (by first | rfl | (simp; done) | (simp [*]; done)), H', ⟨by have := HJ14.out; have := HK2.out; have := HK3.out; have := HK4.out; have := HJ81.out; have := HJ90.out; first | omega | exact Nat.le_refl _⟩, ⟨by (with_reducible repeat (first | apply Kd.R_alloc | apply Kd.R_drewN | apply Kd.R_drew)); exact HO_9.out⟩, ⟨by (with_reducible repeat (first | apply Kd.R_alloc | apply Kd.R_drewN | apply Kd.R_drew)); exact HO_10.out⟩, ⟨by repeat (first | (with_reducible first | exact HB.out | apply below_alloc | apply pw_below_drewN | apply below_drew1) | exact HB.out)⟩⟩
                                      case rest =>
                                        clear HC93
                                        try clear c1
                                        try clear c2
                                        try clear p2
                                        try clear c3
                                        try clear p3
                                        try clear q3
                                        try clear hx3
                                        try clear c4
                                        try clear c6
                                        try clear p6
                                        try clear c7
                                        try clear c7b0
                                        try clear c7b1
                                        try clear p7
                                        try clear q7
                                        try clear hx7
                                        try clear hf7
                                        try clear c8
                                        try clear c9
                                        try clear c10
                                        try clear c11
                                        try clear c12
                                        try clear c13
                                        try clear c14
                                        try clear c15
                                        try clear c16
                                        try clear c17
                                        try clear c18
                                        try clear c19
                                        try clear c20
                                        try clear c21
                                        try clear c22
                                        try clear c26
                                        try clear c29
                                        try clear c29b0
                                        try clear c29b1
                                        try clear c29b2
                                        try clear p34
                                        try clear q34
                                        try clear hx34
                                        try clear c35
                                        try clear c35b0
                                        try clear c35b1
                                        try clear c35b2
                                        try clear c42
                                        try clear c43
                                        try clear c43b0
                                        try clear c43b1
                                        try clear c43b2
                                        try clear p64
                                        try clear c71
                                        try clear c72
                                        try clear c72b0
                                        try clear c73
                                        try clear c73b0
                                        try clear c74
                                        try clear c74b0
                                        try clear p76
                                        try clear q76
                                        try clear hx76
                                        try clear hf76
                                        try clear c80
                                        try clear c80b0
                                        try clear c81
                                        try clear c81b0
                                        try clear c83
                                        try clear c83b0
                                        try clear c83b1
                                        try clear c85
                                        try clear c87
                                        try clear c89
                                        try clear c92
                                        try clear c95
                                        try clear hx346_0
                                        try clear hx76_0
                                        try clear p2
                                        try clear p3
                                        try clear p34
                                        try clear p346
                                        try clear p6
                                        try clear p64
                                        try clear p7
                                        try clear p76
                                        try clear q3
                                        try clear q34
                                        try clear q346
                                        try clear q7
                                        try clear q76
                                        obtain ⟨kq, x152_92, rfl, HA, HJ92, HO_9, HO_10, HB⟩ := hcut
                                        cases kq with
                                        | zero => exact absurd HA.out (by simp [withelaw3_ReachAll.j6])
                                        | succ kj92 =>
                                          have H := HA.out
                                          clear HA
                                          simp only [withelaw3_ReachAll.j6] at H
                                          have HC99 := Aside0.mk H
                                          clear H
                                          go_upto_if 152 with (fail)
                                          go_cut [20] (fun v20 wc => ∃ (kq : Nat) (x20_98 : Int), v20 = .int .u64 x20_98 ∧ Aside0 (withelaw3_ReachAll.j7 kq a3 t316 x10_2 x19_90 x20_98 x21_4 x23_3 x24_4 = some r) ∧ Aside0 (kq ≤ kj92) ∧ Aside0 (Kd.R (Kd.int .u64) 23 wc w.heap.size (fun k_ => some k_ ≠ (v320 : Value).ownBlock) (.slice Ao18 t316.length co18) t316) ∧ Aside0 (Kd.R (Kd.int .u64) 23 wc w.heap.size (fun k_ => some k_ ≠ ((.slice Ao18 t316.length co18) : Value).ownBlock) v320 x10_2) ∧ Aside0 (Below w.heap.size w wc))
                                          case first =>
                                            have H := HC99.out
                                            clear HC99
                                            by_cases c100 : x152_92 = true
                                            · subst c100
                                              have H1 : ((witheref1_Put.f kj92 x20_4 x23_3).bind fun t355 => (withelaw3_ReachAll.j7 kj92 a3 t316 x10_2 x19_90 t355 x21_4 x23_3 x24_4)) = some r := by rw [if_pos rfl] at H; exact H
                                              clear H
                                              have H := H1
                                              clear H1
                                              replace H := Option.bind_eq_some_iff.mp H
                                              obtain ⟨t355, A1010, H⟩ := H
                                              replace H : (withelaw3_ReachAll.j7 kj92 a3 t316 x10_2 x19_90 t355 x21_4 x23_3 x24_4) = some r := H
                                              have A101 := Aside0.mk A1010
                                              clear A1010
                                              have H' := Aside0.mk H
                                              clear H
                                              go_wp2_with (first | ((with_reducible refine gate_callee (f := 20) rfl ?_); refine goesL_ (some 155) rfl rfl Tryd.func20 (by kernel_rfl) rfl #[.int .u64 x20_4, .int .i64 x23_3] rfl (by (try simp only [List.map_toArray, List.map_cons, List.map_nil]); first | done | rfl | (simp only [List.length_drop, List.length_take]; rfl)) ?_; (with_reducible refine (witheref1_Put.calls kj92 x20_4 x23_3 t355 _ A101.out).mono ?_); rintro e w' ⟨rfl, ⟨nd, rfl⟩⟩; refine ⟨_, rfl, ?_⟩))
                                              go_meet
                                              case rel => exact ⟨_, (t355), (by first | rfl | (simp; done) | (simp [*]; done)), H', ⟨by have := HJ14.out; have := HK2.out; have := HK3.out; have := HK4.out; have := HJ81.out; have := HJ90.out; have := HJ92.out; first | omega | exact Nat.le_refl _⟩, ⟨by (with_reducible repeat (first | apply Kd.R_alloc | apply Kd.R_drewN | apply Kd.R_drew)); exact HO_9.out⟩, ⟨by (with_reducible repeat (first | apply Kd.R_alloc | apply Kd.R_drewN | apply Kd.R_drew)); exact HO_10.out⟩, ⟨by repeat (first | (with_reducible first | exact HB.out | apply below_alloc | apply pw_below_drewN | apply below_drew1) | exact HB.out)⟩⟩
                                            · replace c100 := Bool.eq_false_iff.mpr c100
                                              subst c100
                                              have H1 : (withelaw3_ReachAll.j7 kj92 a3 t316 x10_2 x19_90 x20_4 x21_4 x23_3 x24_4) = some r := by rw [if_neg (show ¬ (false = true) by decide)] at H; exact H
                                              clear H
                                              have H := H1
                                              clear H1
                                              have H' := Aside0.mk H
                                              clear H
                                              go_wp2
                                              go_meet
                                              case rel => exact ⟨_, (x20_4), (by first | rfl | (simp; done) | (simp [*]; done)), H', ⟨by have := HJ14.out; have := HK2.out; have := HK3.out; have := HK4.out; have := HJ81.out; have := HJ90.out; have := HJ92.out; first | omega | exact Nat.le_refl _⟩, ⟨by (with_reducible repeat (first | apply Kd.R_alloc | apply Kd.R_drewN | apply Kd.R_drew)); exact HO_9.out⟩, ⟨by (with_reducible repeat (first | apply Kd.R_alloc | apply Kd.R_drewN | apply Kd.R_drew)); exact HO_10.out⟩, ⟨by repeat (first | (with_reducible first | exact HB.out | apply below_alloc | apply pw_below_drewN | apply below_drew1) | exact HB.out)⟩⟩
                                          case rest =>
                                            clear HC99
                                            try clear c1
                                            try clear c2
                                            try clear p2
                                            try clear c3
                                            try clear p3
                                            try clear q3
                                            try clear hx3
                                            try clear c4
                                            try clear c6
                                            try clear p6
                                            try clear c7
                                            try clear c7b0
                                            try clear c7b1
                                            try clear p7
                                            try clear q7
                                            try clear hx7
                                            try clear hf7
                                            try clear c8
                                            try clear c9
                                            try clear c10
                                            try clear c11
                                            try clear c12
                                            try clear c13
                                            try clear c14
                                            try clear c15
                                            try clear c16
                                            try clear c17
                                            try clear c18
                                            try clear c19
                                            try clear c20
                                            try clear c21
                                            try clear c22
                                            try clear c26
                                            try clear c29
                                            try clear c29b0
                                            try clear c29b1
                                            try clear c29b2
                                            try clear p34
                                            try clear q34
                                            try clear hx34
                                            try clear c35
                                            try clear c35b0
                                            try clear c35b1
                                            try clear c35b2
                                            try clear c42
                                            try clear c43
                                            try clear c43b0
                                            try clear c43b1
                                            try clear c43b2
                                            try clear p64
                                            try clear c71
                                            try clear c72
                                            try clear c72b0
                                            try clear c73
                                            try clear c73b0
                                            try clear c74
                                            try clear c74b0
                                            try clear p76
                                            try clear q76
                                            try clear hx76
                                            try clear hf76
                                            try clear c80
                                            try clear c80b0
                                            try clear c81
                                            try clear c81b0
                                            try clear c83
                                            try clear c83b0
                                            try clear c83b1
                                            try clear c85
                                            try clear c87
                                            try clear c89
                                            try clear c92
                                            try clear c95
                                            try clear c100
                                            try clear hx346_0
                                            try clear hx76_0
                                            try clear p2
                                            try clear p3
                                            try clear p34
                                            try clear p346
                                            try clear p6
                                            try clear p64
                                            try clear p7
                                            try clear p76
                                            try clear q3
                                            try clear q34
                                            try clear q346
                                            try clear q7
                                            try clear q76
                                            obtain ⟨kq, x20_98, rfl, HA, HJ98, HO_9, HO_10, HB⟩ := hcut
                                            cases kq with
                                            | zero => exact absurd HA.out (by simp [withelaw3_ReachAll.j7])
                                            | succ kj98 =>
                                              have H := HA.out
                                              clear HA
                                              simp only [withelaw3_ReachAll.j7] at H
                                              replace H := Option.bind_eq_some_iff.mp H
                                              obtain ⟨t356, A1020, H⟩ := H
                                              replace H : (if t356 = true then ((witheref1_Has.f a3 x23_3).bind fun t357 => (if t357 = true then ((witheref1_Put.f kj98 x21_4 x24_4).bind fun t358 => (withelaw3_ReachAll.l2 kj98 a3 t316 x10_2 x19_90 x20_98 t358 x23_3 (wrap64 (x24_4 + 1)))) else (withelaw3_ReachAll.l2 kj98 a3 t316 x10_2 x19_90 x20_98 x21_4 x23_3 (wrap64 (x24_4 + 1))))) else (withelaw3_ReachAll.l2 kj98 a3 t316 x10_2 x19_90 x20_98 x21_4 x23_3 (wrap64 (x24_4 + 1)))) = some r := H
                                              have A102 := Aside0.mk A1020
                                              clear A1020
                                              by_cases c103 : t356 = true
                                              · subst c103
                                                have H1 : ((witheref1_Has.f a3 x23_3).bind fun t357 => (if t357 = true then ((witheref1_Put.f kj98 x21_4 x24_4).bind fun t358 => (withelaw3_ReachAll.l2 kj98 a3 t316 x10_2 x19_90 x20_98 t358 x23_3 (wrap64 (x24_4 + 1)))) else (withelaw3_ReachAll.l2 kj98 a3 t316 x10_2 x19_90 x20_98 x21_4 x23_3 (wrap64 (x24_4 + 1))))) = some r := by rw [if_pos rfl] at H; exact H
                                                clear H
                                                have H := H1
                                                clear H1
                                                replace H := Option.bind_eq_some_iff.mp H
                                                obtain ⟨t357, A1040, H⟩ := H
                                                replace H : (if t357 = true then ((witheref1_Put.f kj98 x21_4 x24_4).bind fun t358 => (withelaw3_ReachAll.l2 kj98 a3 t316 x10_2 x19_90 x20_98 t358 x23_3 (wrap64 (x24_4 + 1)))) else (withelaw3_ReachAll.l2 kj98 a3 t316 x10_2 x19_90 x20_98 x21_4 x23_3 (wrap64 (x24_4 + 1)))) = some r := H
                                                have A104 := Aside0.mk A1040
                                                clear A1040
                                                by_cases c105 : t357 = true
                                                · subst c105
                                                  have H1 : ((witheref1_Put.f kj98 x21_4 x24_4).bind fun t358 => (withelaw3_ReachAll.l2 kj98 a3 t316 x10_2 x19_90 x20_98 t358 x23_3 (wrap64 (x24_4 + 1)))) = some r := by rw [if_pos rfl] at H; exact H
                                                  clear H
                                                  have H := H1
                                                  clear H1
                                                  replace H := Option.bind_eq_some_iff.mp H
                                                  obtain ⟨t358, A1060, H⟩ := H
                                                  replace H : (withelaw3_ReachAll.l2 kj98 a3 t316 x10_2 x19_90 x20_98 t358 x23_3 (wrap64 (x24_4 + 1))) = some r := H
                                                  have A106 := Aside0.mk A1060
                                                  clear A1060
                                                  have H' := Aside0.mk H
                                                  clear H
                                                  obtain ⟨Ao107, co107, eo107⟩ := Kd.R_slice HO_10.out
                                                  subst eo107
                                                  go_wp2_with (first | ((with_reducible refine gate_callee (f := 22) rfl ?_); refine goesL_ (some 159) rfl rfl Tryd.func22 (by kernel_rfl) rfl #[.slice Ao107 x10_2.length co107, .int .i64 x23_3, .int .i64 x24_4] rfl (by (try simp only [List.map_toArray, List.map_cons, List.map_nil]); first | done | rfl | (simp only [List.length_drop, List.length_take]; rfl)) ?_; (with_reducible refine (witheref1_At.calls _ _ x10_2 x23_3 x24_4 true _ ?side1 ?side2 A102.out).mono ?_); (case side1 => repeat (first | exact (Kd.R_reads' HO_10.out).2.2 | (with_reducible refine Kd.C_alloc ?_ _) | (with_reducible refine Kd.C_drewN ?_ _) | (with_reducible refine Kd.C_drew ?_))); (case side2 => exact (Kd.R_reads' HO_10.out).2.1); rintro e w' ⟨rfl, ⟨nd, rfl⟩⟩; refine ⟨_, rfl, ?_⟩) | ((first | ((with_reducible refine gate_callee (f := 21) rfl ?_); (refine gate_guard (by rfl) ?_; dsimp only); refine goesL_ (some 163) rfl rfl Tryd.func21 (by kernel_rfl) rfl #[.int .u64 a3, .int .i64 x23_3] rfl (by (try simp only [List.map_toArray, List.map_cons, List.map_nil]); first | done | rfl | (simp only [List.length_drop, List.length_take]; rfl)) ?_; (with_reducible refine (witheref1_Has.calls a3 x23_3 true _ A104.out).mono ?_); rintro e w' ⟨rfl, ⟨nd, rfl⟩⟩; refine ⟨_, rfl, ?_⟩) | (go_at_call 21; (with_reducible refine (witheref1_Has.calls a3 x23_3 true _ A104.out).mono ?_); rintro e w' ⟨rfl, ⟨nd, rfl⟩⟩))) | ((with_reducible refine gate_callee (f := 20) rfl ?_); refine goesL_ (some 167) rfl rfl Tryd.func20 (by kernel_rfl) rfl #[.int .u64 x21_4, .int .i64 x24_4] rfl (by (try simp only [List.map_toArray, List.map_cons, List.map_nil]); first | done | rfl | (simp only [List.length_drop, List.length_take]; rfl)) ?_; (with_reducible refine (witheref1_Put.calls kj98 x21_4 x24_4 t358 _ A106.out).mono ?_); rintro e w' ⟨rfl, ⟨nd, rfl⟩⟩; refine ⟨_, rfl, ?_⟩))
                                                  go_roundg kj98
                                                  case measure => have := HJ14.out; have := HK2.out; have := HK3.out; have := HK4.out; have := HJ81.out; have := HJ90.out; have := HJ92.out; have := HJ98.out; omega
                                                  case rel => exact ⟨(x19_90), (x20_98), (t358), (wrap64 (x24_4 + 1)), (by first | rfl | (simp; done) | (simp [*]; done)), (by first | rfl | (simp; done) | (simp [*]; done)), (by first | rfl | (simp; done) | (simp [*]; done)), (by first | rfl | (simp; done) | (simp [*]; done)), H', ⟨by have := HJ14.out; have := HK2.out; have := HK3.out; have := HK4.out; have := HJ81.out; have := HJ90.out; have := HJ92.out; have := HJ98.out; omega⟩, ⟨by (with_reducible repeat (first | apply Kd.R_alloc | apply Kd.R_drewN | apply Kd.R_drew)); exact HO_9.out⟩, ⟨by (with_reducible repeat (first | apply Kd.R_alloc | apply Kd.R_drewN | apply Kd.R_drew)); exact HO_10.out⟩, ⟨by repeat (first | (with_reducible first | exact HB.out | apply below_alloc | apply pw_below_drewN | apply below_drew1) | exact HB.out)⟩⟩
                                                · replace c105 := Bool.eq_false_iff.mpr c105
                                                  subst c105
                                                  have H1 : (withelaw3_ReachAll.l2 kj98 a3 t316 x10_2 x19_90 x20_98 x21_4 x23_3 (wrap64 (x24_4 + 1))) = some r := by rw [if_neg (show ¬ (false = true) by decide)] at H; exact H
                                                  clear H
                                                  have H := H1
                                                  clear H1
                                                  have H' := Aside0.mk H
                                                  clear H
                                                  obtain ⟨Ao108, co108, eo108⟩ := Kd.R_slice HO_10.out
                                                  subst eo108
                                                  go_wp2_with (first | ((with_reducible refine gate_callee (f := 22) rfl ?_); refine goesL_ (some 159) rfl rfl Tryd.func22 (by kernel_rfl) rfl #[.slice Ao108 x10_2.length co108, .int .i64 x23_3, .int .i64 x24_4] rfl (by (try simp only [List.map_toArray, List.map_cons, List.map_nil]); first | done | rfl | (simp only [List.length_drop, List.length_take]; rfl)) ?_; (with_reducible refine (witheref1_At.calls _ _ x10_2 x23_3 x24_4 true _ ?side1 ?side2 A102.out).mono ?_); (case side1 => repeat (first | exact (Kd.R_reads' HO_10.out).2.2 | (with_reducible refine Kd.C_alloc ?_ _) | (with_reducible refine Kd.C_drewN ?_ _) | (with_reducible refine Kd.C_drew ?_))); (case side2 => exact (Kd.R_reads' HO_10.out).2.1); rintro e w' ⟨rfl, ⟨nd, rfl⟩⟩; refine ⟨_, rfl, ?_⟩) | ((first | ((with_reducible refine gate_callee (f := 21) rfl ?_); (refine gate_guard (by rfl) ?_; dsimp only); refine goesL_ (some 163) rfl rfl Tryd.func21 (by kernel_rfl) rfl #[.int .u64 a3, .int .i64 x23_3] rfl (by (try simp only [List.map_toArray, List.map_cons, List.map_nil]); first | done | rfl | (simp only [List.length_drop, List.length_take]; rfl)) ?_; (with_reducible refine (witheref1_Has.calls a3 x23_3 false _ A104.out).mono ?_); rintro e w' ⟨rfl, ⟨nd, rfl⟩⟩; refine ⟨_, rfl, ?_⟩) | (go_at_call 21; (with_reducible refine (witheref1_Has.calls a3 x23_3 false _ A104.out).mono ?_); rintro e w' ⟨rfl, ⟨nd, rfl⟩⟩))))
                                                  go_roundg kj98
                                                  case measure => have := HJ14.out; have := HK2.out; have := HK3.out; have := HK4.out; have := HJ81.out; have := HJ90.out; have := HJ92.out; have := HJ98.out; omega
                                                  case rel => exact ⟨(x19_90), (x20_98), (x21_4), (wrap64 (x24_4 + 1)), (by first | rfl | (simp; done) | (simp [*]; done)), (by first | rfl | (simp; done) | (simp [*]; done)), (by first | rfl | (simp; done) | (simp [*]; done)), (by first | rfl | (simp; done) | (simp [*]; done)), H', ⟨by have := HJ14.out; have := HK2.out; have := HK3.out; have := HK4.out; have := HJ81.out; have := HJ90.out; have := HJ92.out; have := HJ98.out; omega⟩, ⟨by (with_reducible repeat (first | apply Kd.R_alloc | apply Kd.R_drewN | apply Kd.R_drew)); exact HO_9.out⟩, ⟨by (with_reducible repeat (first | apply Kd.R_alloc | apply Kd.R_drewN | apply Kd.R_drew)); exact HO_10.out⟩, ⟨by repeat (first | (with_reducible first | exact HB.out | apply below_alloc | apply pw_below_drewN | apply below_drew1) | exact HB.out)⟩⟩
                                              · replace c103 := Bool.eq_false_iff.mpr c103
                                                subst c103
                                                have H1 : (withelaw3_ReachAll.l2 kj98 a3 t316 x10_2 x19_90 x20_98 x21_4 x23_3 (wrap64 (x24_4 + 1))) = some r := by rw [if_neg (show ¬ (false = true) by decide)] at H; exact H
                                                clear H
                                                have H := H1
                                                clear H1
                                                have H' := Aside0.mk H
                                                clear H
                                                obtain ⟨Ao109, co109, eo109⟩ := Kd.R_slice HO_10.out
                                                subst eo109
                                                go_wp2_with (first | ((with_reducible refine gate_callee (f := 22) rfl ?_); refine goesL_ (some 159) rfl rfl Tryd.func22 (by kernel_rfl) rfl #[.slice Ao109 x10_2.length co109, .int .i64 x23_3, .int .i64 x24_4] rfl (by (try simp only [List.map_toArray, List.map_cons, List.map_nil]); first | done | rfl | (simp only [List.length_drop, List.length_take]; rfl)) ?_; (with_reducible refine (witheref1_At.calls _ _ x10_2 x23_3 x24_4 false _ ?side1 ?side2 A102.out).mono ?_); (case side1 => repeat (first | exact (Kd.R_reads' HO_10.out).2.2 | (with_reducible refine Kd.C_alloc ?_ _) | (with_reducible refine Kd.C_drewN ?_ _) | (with_reducible refine Kd.C_drew ?_))); (case side2 => exact (Kd.R_reads' HO_10.out).2.1); rintro e w' ⟨rfl, ⟨nd, rfl⟩⟩; refine ⟨_, rfl, ?_⟩))
                                                go_roundg kj98
                                                case measure => have := HJ14.out; have := HK2.out; have := HK3.out; have := HK4.out; have := HJ81.out; have := HJ90.out; have := HJ92.out; have := HJ98.out; omega
                                                case rel => exact ⟨(x19_90), (x20_98), (x21_4), (wrap64 (x24_4 + 1)), (by first | rfl | (simp; done) | (simp [*]; done)), (by first | rfl | (simp; done) | (simp [*]; done)), (by first | rfl | (simp; done) | (simp [*]; done)), (by first | rfl | (simp; done) | (simp [*]; done)), H', ⟨by have := HJ14.out; have := HK2.out; have := HK3.out; have := HK4.out; have := HJ81.out; have := HJ90.out; have := HJ92.out; have := HJ98.out; omega⟩, ⟨by (with_reducible repeat (first | apply Kd.R_alloc | apply Kd.R_drewN | apply Kd.R_drew)); exact HO_9.out⟩, ⟨by (with_reducible repeat (first | apply Kd.R_alloc | apply Kd.R_drewN | apply Kd.R_drew)); exact HO_10.out⟩, ⟨by repeat (first | (with_reducible first | exact HB.out | apply below_alloc | apply pw_below_drewN | apply below_drew1) | exact HB.out)⟩⟩
                            · rw [if_neg c81] at H
                              have c81b0 : decide (x24_4 < (t316.length : Int)) = false := decide_eq_false c81
                              clear c81
                              have H' := Aside0.mk H
                              clear H
                              go_wp2
                              go_roundg k4
                              case measure => have := HJ14.out; have := HK2.out; have := HK3.out; have := HK4.out; omega
                              case rel => exact ⟨(x19_4), (x20_4), (x21_4), (wrap64 (x23_3 + 1)), (by first | rfl | (simp; done) | (simp [*]; done)), (by first | rfl | (simp; done) | (simp [*]; done)), (by first | rfl | (simp; done) | (simp [*]; done)), (by first | rfl | (simp; done) | (simp [*]; done)), H', ⟨by have := HJ14.out; have := HK2.out; have := HK3.out; have := HK4.out; omega⟩, ⟨by (with_reducible repeat (first | apply Kd.R_alloc | apply Kd.R_drewN | apply Kd.R_drew)); exact HO_9.out⟩, ⟨by (with_reducible repeat (first | apply Kd.R_alloc | apply Kd.R_drewN | apply Kd.R_drew)); exact HO_10.out⟩, ⟨by repeat (first | (with_reducible first | exact HB.out | apply below_alloc | apply pw_below_drewN | apply below_drew1) | exact HB.out)⟩⟩
                      · rw [if_neg c80] at H
                        have c80b0 : decide (x23_3 < (t316.length : Int)) = false := decide_eq_false c80
                        clear c80
                        replace H := Option.bind_eq_some_iff.mp H
                        obtain ⟨t359, A1100, H⟩ := H
                        replace H : ((witheref1_SameRel.f k3 t359 x10_2).bind fun t362 => (if t362 = true then ((reach_Total.f k3 t316 a3).bind fun t363 => (if (t363 == x19_3) = true then ((reach_Down.f k3 t316 a3).bind fun t364 => (if t364 = x20_3 then ((reach_Up.f k3 t316 a3).bind fun t365 => (some (t365 == x21_3))) else (none))) else (none))) else (none))) = some r := H
                        have A110 := Aside0.mk A1100
                        clear A1100
                        replace H := Option.bind_eq_some_iff.mp H
                        obtain ⟨t362, A1110, H⟩ := H
                        replace H : (if t362 = true then ((reach_Total.f k3 t316 a3).bind fun t363 => (if (t363 == x19_3) = true then ((reach_Down.f k3 t316 a3).bind fun t364 => (if t364 = x20_3 then ((reach_Up.f k3 t316 a3).bind fun t365 => (some (t365 == x21_3))) else (none))) else (none))) else (none)) = some r := H
                        have A111 := Aside0.mk A1110
                        clear A1110
                        by_cases c112 : t362 = true
                        · subst c112
                          have H1 : ((reach_Total.f k3 t316 a3).bind fun t363 => (if (t363 == x19_3) = true then ((reach_Down.f k3 t316 a3).bind fun t364 => (if t364 = x20_3 then ((reach_Up.f k3 t316 a3).bind fun t365 => (some (t365 == x21_3))) else (none))) else (none))) = some r := by rw [if_pos rfl] at H; exact H
                          clear H
                          have H := H1
                          clear H1
                          replace H := Option.bind_eq_some_iff.mp H
                          obtain ⟨t363, A1130, H⟩ := H
                          replace H : (if (t363 == x19_3) = true then ((reach_Down.f k3 t316 a3).bind fun t364 => (if t364 = x20_3 then ((reach_Up.f k3 t316 a3).bind fun t365 => (some (t365 == x21_3))) else (none))) else (none)) = some r := H
                          have A113 := Aside0.mk A1130
                          clear A1130
                          by_cases c114 : (t363 == x19_3) = true
                          · rw [if_pos c114] at H
                            have c114b0 : (t363 == x19_3) = true := c114
                            (try (have c114b1 : decide (t363 = x19_3) = true := by simpa using c114))
                            (try (have c114b2 : (t363 == x19_3) = true := by simpa using c114))
                            clear c114
                            replace H := Option.bind_eq_some_iff.mp H
                            obtain ⟨t364, A1150, H⟩ := H
                            replace H : (if t364 = x20_3 then ((reach_Up.f k3 t316 a3).bind fun t365 => (some (t365 == x21_3))) else (none)) = some r := H
                            have A115 := Aside0.mk A1150
                            clear A1150
                            by_cases c116 : t364 = x20_3
                            · rw [if_pos c116] at H
                              have c116b0 : (t364 == x20_3) = true := beq_iff_eq.mpr c116
                              have c116b1 : (t364 != x20_3) = false := bne_eq_false_iff_eq.mpr c116
                              clear c116
                              replace H := Option.bind_eq_some_iff.mp H
                              obtain ⟨t365, A1170, H⟩ := H
                              replace H : (some (t365 == x21_3)) = some r := H
                              have A117 := Aside0.mk A1170
                              clear A1170
                              obtain rfl := Option.some.inj H
                              go_wp2_with (first | ((with_reducible refine gate_callee (f := 23) rfl ?_); refine goesL_ (some 169) rfl rfl Tryd.func23 (by kernel_rfl) rfl #[.slice Ao18 t316.length co18] rfl (by (try simp only [List.map_toArray, List.map_cons, List.map_nil]); first | done | rfl | (simp only [List.length_drop, List.length_take]; rfl)) ?_; (with_reducible refine (reach_Star.calls k3 _ _ t316 t359 _ ?side1 ?side2 A110.out).mono ?_); (case side1 => repeat (first | exact (Kd.R_reads' HO_9.out).2.2 | (with_reducible refine Kd.C_alloc ?_ _) | (with_reducible refine Kd.C_drewN ?_ _) | (with_reducible refine Kd.C_drew ?_))); (case side2 => exact (Kd.R_reads' HO_9.out).2.1); rintro e w118 ⟨v360, rfl, ho0, hb⟩; refine ⟨_, rfl, ?_⟩; have n0_ := Aside0.mk (Kd.R_elder' (by (with_reducible repeat (first | apply Kd.R_alloc | apply Kd.R_drewN | apply Kd.R_drew)); exact HO_9.out) (Kd.R_base ho0) hb); have n1_ := Aside0.mk (Kd.R_elder' (by (with_reducible repeat (first | apply Kd.R_alloc | apply Kd.R_drewN | apply Kd.R_drew)); exact HO_10.out) (Kd.R_base ho0) hb); have n2_ := Aside0.mk (Kd.R_lower (Kd.R_new' (Kd.R_new' ho0 (Kd.R_lt (by (with_reducible repeat (first | apply Kd.R_alloc | apply Kd.R_drewN | apply Kd.R_drew)); exact HO_9.out))) (Kd.R_lt (by (with_reducible repeat (first | apply Kd.R_alloc | apply Kd.R_drewN | apply Kd.R_drew)); exact HO_10.out))) (below_size (by repeat (first | (with_reducible first | exact HB.out | apply below_alloc | apply pw_below_drewN | apply below_drew1) | exact HB.out)))); have n3_ := Aside0.mk (below_step (by repeat (first | (with_reducible first | exact HB.out | apply below_alloc | apply pw_below_drewN | apply below_drew1) | exact HB.out)) hb); clear HO_9; clear HO_10; clear HB; have HO_9 := n0_; have HO_10 := n1_; have HO361 := n2_; have HB := n3_; clear n0_ n1_ n2_ n3_; (try clear hb); (try clear hb2); (try clear hk); (try clear hi); (try clear ho0); obtain ⟨Ao119, co119, eo119⟩ := Kd.R_slice HO361.out; subst eo119; obtain ⟨Ao120, co120, eo120⟩ := Kd.R_slice HO_10.out; subst eo120) | ((with_reducible refine gate_callee (f := 15) rfl ?_); refine goesL_ (some 171) rfl rfl Tryd.func15 (by kernel_rfl) rfl #[.slice Ao119 t359.length co119, .slice Ao120 x10_2.length co120] rfl (by (try simp only [List.map_toArray, List.map_cons, List.map_nil]); first | done | rfl | (simp only [List.length_drop, List.length_take]; rfl)) ?_; (with_reducible refine (witheref1_SameRel.calls k3 _ _ t359 _ _ x10_2 true _ ?side1 ?side2 ?side3 ?side4 A111.out).mono ?_); (case side1 => repeat (first | exact (Kd.R_reads' HO361.out).2.2 | (with_reducible refine Kd.C_alloc ?_ _) | (with_reducible refine Kd.C_drewN ?_ _) | (with_reducible refine Kd.C_drew ?_))); (case side2 => exact (Kd.R_reads' HO361.out).2.1); (case side3 => repeat (first | exact (Kd.R_reads' HO_10.out).2.2 | (with_reducible refine Kd.C_alloc ?_ _) | (with_reducible refine Kd.C_drewN ?_ _) | (with_reducible refine Kd.C_drew ?_))); (case side4 => exact (Kd.R_reads' HO_10.out).2.1); rintro e w' ⟨rfl, ⟨nd, rfl⟩⟩; refine ⟨_, rfl, ?_⟩) | ((first | ((with_reducible refine gate_callee (f := 24) rfl ?_); (refine gate_guard (by rfl) ?_; dsimp only); refine goesL_ (some 175) rfl rfl Tryd.func24 (by kernel_rfl) rfl #[.slice Ao18 t316.length co18, .int .u64 a3] rfl (by (try simp only [List.map_toArray, List.map_cons, List.map_nil]); first | done | rfl | (simp only [List.length_drop, List.length_take]; rfl)) ?_; (with_reducible refine (reach_Total.calls k3 _ _ t316 a3 t363 _ ?side1 ?side2 A113.out).mono ?_); (case side1 => repeat (first | exact (Kd.R_reads' HO_9.out).2.2 | (with_reducible refine Kd.C_alloc ?_ _) | (with_reducible refine Kd.C_drewN ?_ _) | (with_reducible refine Kd.C_drew ?_))); (case side2 => exact (Kd.R_reads' HO_9.out).2.1); rintro e w121 ⟨rfl, hb⟩; refine ⟨_, rfl, ?_⟩; have n0_ := Aside0.mk (Kd.R_below (by (with_reducible repeat (first | apply Kd.R_alloc | apply Kd.R_drewN | apply Kd.R_drew)); exact HO_9.out) hb); have n1_ := Aside0.mk (Kd.R_below (by (with_reducible repeat (first | apply Kd.R_alloc | apply Kd.R_drewN | apply Kd.R_drew)); exact HO_10.out) hb); have n2_ := Aside0.mk (Kd.R_below (by (with_reducible repeat (first | apply Kd.R_alloc | apply Kd.R_drewN | apply Kd.R_drew)); exact HO361.out) hb); have n3_ := Aside0.mk (below_step (by repeat (first | (with_reducible first | exact HB.out | apply below_alloc | apply pw_below_drewN | apply below_drew1) | exact HB.out)) hb); clear HO_9; clear HO_10; clear HO361; clear HB; have HO_9 := n0_; have HO_10 := n1_; have HO361 := n2_; have HB := n3_; clear n0_ n1_ n2_ n3_; (try clear hb); (try clear hb2); (try clear hk); (try clear hi)) | (go_at_call 24; (with_reducible refine (reach_Total.calls k3 _ _ t316 a3 t363 _ ?side1 ?side2 A113.out).mono ?_); (case side1 => repeat (first | exact (Kd.R_reads' HO_9.out).2.2 | (with_reducible refine Kd.C_alloc ?_ _) | (with_reducible refine Kd.C_drewN ?_ _) | (with_reducible refine Kd.C_drew ?_))); (case side2 => exact (Kd.R_reads' HO_9.out).2.1); rintro e w121 ⟨rfl, hb⟩; have n0_ := Aside0.mk (Kd.R_below (by (with_reducible repeat (first | apply Kd.R_alloc | apply Kd.R_drewN | apply Kd.R_drew)); exact HO_9.out) hb); have n1_ := Aside0.mk (Kd.R_below (by (with_reducible repeat (first | apply Kd.R_alloc | apply Kd.R_drewN | apply Kd.R_drew)); exact HO_10.out) hb); have n2_ := Aside0.mk (Kd.R_below (by (with_reducible repeat (first | apply Kd.R_alloc | apply Kd.R_drewN | apply Kd.R_drew)); exact HO361.out) hb); have n3_ := Aside0.mk (below_step (by repeat (first | (with_reducible first | exact HB.out | apply below_alloc | apply pw_below_drewN | apply below_drew1) | exact HB.out)) hb); clear HO_9; clear HO_10; clear HO361; clear HB; have HO_9 := n0_; have HO_10 := n1_; have HO361 := n2_; have HB := n3_; clear n0_ n1_ n2_ n3_; (try clear hb); (try clear hb2); (try clear hk); (try clear hi)))) | ((first | ((with_reducible refine gate_callee (f := 25) rfl ?_); (refine gate_guard (by rfl) ?_; dsimp only); refine goesL_ (some 182) rfl rfl Tryd.func25 (by kernel_rfl) rfl #[.slice Ao18 t316.length co18, .int .u64 a3] rfl (by (try simp only [List.map_toArray, List.map_cons, List.map_nil]); first | done | rfl | (simp only [List.length_drop, List.length_take]; rfl)) ?_; (with_reducible refine (reach_Down.calls k3 _ _ t316 a3 t364 _ ?side1 ?side2 A115.out).mono ?_); (case side1 => repeat (first | exact (Kd.R_reads' HO_9.out).2.2 | (with_reducible refine Kd.C_alloc ?_ _) | (with_reducible refine Kd.C_drewN ?_ _) | (with_reducible refine Kd.C_drew ?_))); (case side2 => exact (Kd.R_reads' HO_9.out).2.1); rintro e w122 ⟨rfl, hb⟩; refine ⟨_, rfl, ?_⟩; have n0_ := Aside0.mk (Kd.R_below (by (with_reducible repeat (first | apply Kd.R_alloc | apply Kd.R_drewN | apply Kd.R_drew)); exact HO_9.out) hb); have n1_ := Aside0.mk (Kd.R_below (by (with_reducible repeat (first | apply Kd.R_alloc | apply Kd.R_drewN | apply Kd.R_drew)); exact HO_10.out) hb); have n2_ := Aside0.mk (Kd.R_below (by (with_reducible repeat (first | apply Kd.R_alloc | apply Kd.R_drewN | apply Kd.R_drew)); exact HO361.out) hb); have n3_ := Aside0.mk (below_step (by repeat (first | (with_reducible first | exact HB.out | apply below_alloc | apply pw_below_drewN | apply below_drew1) | exact HB.out)) hb); clear HO_9; clear HO_10; clear HO361; clear HB; have HO_9 := n0_; have HO_10 := n1_; have HO361 := n2_; have HB := n3_; clear n0_ n1_ n2_ n3_; (try clear hb); (try clear hb2); (try clear hk); (try clear hi)) | (go_at_call 25; (with_reducible refine (reach_Down.calls k3 _ _ t316 a3 t364 _ ?side1 ?side2 A115.out).mono ?_); (case side1 => repeat (first | exact (Kd.R_reads' HO_9.out).2.2 | (with_reducible refine Kd.C_alloc ?_ _) | (with_reducible refine Kd.C_drewN ?_ _) | (with_reducible refine Kd.C_drew ?_))); (case side2 => exact (Kd.R_reads' HO_9.out).2.1); rintro e w122 ⟨rfl, hb⟩; have n0_ := Aside0.mk (Kd.R_below (by (with_reducible repeat (first | apply Kd.R_alloc | apply Kd.R_drewN | apply Kd.R_drew)); exact HO_9.out) hb); have n1_ := Aside0.mk (Kd.R_below (by (with_reducible repeat (first | apply Kd.R_alloc | apply Kd.R_drewN | apply Kd.R_drew)); exact HO_10.out) hb); have n2_ := Aside0.mk (Kd.R_below (by (with_reducible repeat (first | apply Kd.R_alloc | apply Kd.R_drewN | apply Kd.R_drew)); exact HO361.out) hb); have n3_ := Aside0.mk (below_step (by repeat (first | (with_reducible first | exact HB.out | apply below_alloc | apply pw_below_drewN | apply below_drew1) | exact HB.out)) hb); clear HO_9; clear HO_10; clear HO361; clear HB; have HO_9 := n0_; have HO_10 := n1_; have HO361 := n2_; have HB := n3_; clear n0_ n1_ n2_ n3_; (try clear hb); (try clear hb2); (try clear hk); (try clear hi)))) | ((first | ((with_reducible refine gate_callee (f := 26) rfl ?_); (refine gate_guard (by rfl) ?_; dsimp only); refine goesL_ (some 189) rfl rfl Tryd.func26 (by kernel_rfl) rfl #[.slice Ao18 t316.length co18, .int .u64 a3] rfl (by (try simp only [List.map_toArray, List.map_cons, List.map_nil]); first | done | rfl | (simp only [List.length_drop, List.length_take]; rfl)) ?_; (with_reducible refine (reach_Up.calls k3 _ _ t316 a3 t365 _ ?side1 ?side2 A117.out).mono ?_); (case side1 => repeat (first | exact (Kd.R_reads' HO_9.out).2.2 | (with_reducible refine Kd.C_alloc ?_ _) | (with_reducible refine Kd.C_drewN ?_ _) | (with_reducible refine Kd.C_drew ?_))); (case side2 => exact (Kd.R_reads' HO_9.out).2.1); rintro e w123 ⟨rfl, hb⟩; refine ⟨_, rfl, ?_⟩; have n0_ := Aside0.mk (Kd.R_below (by (with_reducible repeat (first | apply Kd.R_alloc | apply Kd.R_drewN | apply Kd.R_drew)); exact HO_9.out) hb); have n1_ := Aside0.mk (Kd.R_below (by (with_reducible repeat (first | apply Kd.R_alloc | apply Kd.R_drewN | apply Kd.R_drew)); exact HO_10.out) hb); have n2_ := Aside0.mk (Kd.R_below (by (with_reducible repeat (first | apply Kd.R_alloc | apply Kd.R_drewN | apply Kd.R_drew)); exact HO361.out) hb); have n3_ := Aside0.mk (below_step (by repeat (first | (with_reducible first | exact HB.out | apply below_alloc | apply pw_below_drewN | apply below_drew1) | exact HB.out)) hb); clear HO_9; clear HO_10; clear HO361; clear HB; have HO_9 := n0_; have HO_10 := n1_; have HO361 := n2_; have HB := n3_; clear n0_ n1_ n2_ n3_; (try clear hb); (try clear hb2); (try clear hk); (try clear hi)) | (go_at_call 26; (with_reducible refine (reach_Up.calls k3 _ _ t316 a3 t365 _ ?side1 ?side2 A117.out).mono ?_); (case side1 => repeat (first | exact (Kd.R_reads' HO_9.out).2.2 | (with_reducible refine Kd.C_alloc ?_ _) | (with_reducible refine Kd.C_drewN ?_ _) | (with_reducible refine Kd.C_drew ?_))); (case side2 => exact (Kd.R_reads' HO_9.out).2.1); rintro e w123 ⟨rfl, hb⟩; have n0_ := Aside0.mk (Kd.R_below (by (with_reducible repeat (first | apply Kd.R_alloc | apply Kd.R_drewN | apply Kd.R_drew)); exact HO_9.out) hb); have n1_ := Aside0.mk (Kd.R_below (by (with_reducible repeat (first | apply Kd.R_alloc | apply Kd.R_drewN | apply Kd.R_drew)); exact HO_10.out) hb); have n2_ := Aside0.mk (Kd.R_below (by (with_reducible repeat (first | apply Kd.R_alloc | apply Kd.R_drewN | apply Kd.R_drew)); exact HO361.out) hb); have n3_ := Aside0.mk (below_step (by repeat (first | (with_reducible first | exact HB.out | apply below_alloc | apply pw_below_drewN | apply below_drew1) | exact HB.out)) hb); clear HO_9; clear HO_10; clear HO361; clear HB; have HO_9 := n0_; have HO_10 := n1_; have HO361 := n2_; have HB := n3_; clear n0_ n1_ n2_ n3_; (try clear hb); (try clear hb2); (try clear hk); (try clear hi)))))
                              go_ret
                              exact ⟨by first | rfl | (simp [errW_none, errW_some] <;> rfl) | (simp [*, errW_none, errW_some] <;> rfl), by repeat (first | (with_reducible first | exact HB.out | apply below_alloc | apply pw_below_drewN | apply below_drew1) | exact HB.out)⟩
                            · rw [if_neg c116] at H
                              exact absurd H (by simp)
                          · rw [if_neg c114] at H
                            exact absurd H (by simp)
                        · replace c112 := Bool.eq_false_iff.mpr c112
                          subst c112
                          have H1 : (none) = some r := by rw [if_neg (show ¬ (false = true) by decide)] at H; exact H
                          clear H
                          have H := H1
                          clear H1
                          exact absurd H (by simp)
  · replace c6 := Bool.eq_false_iff.mpr c6
    subst c6
    have H1 : (none) = some r := by rw [if_neg (show ¬ (false = true) by decide)] at H; exact H
    clear H
    have H := H1
    clear H1
    exact absurd H (by simp)

/-- THE ONE PURE STATEMENT of withelaw3_ReachAll: yours. -/
def withelaw3_ReachAll.Pure : Prop := ∀ (l0 : List Int) (a1 : Int) (a2 : Bool) (a3 : Int), l0.length ≤ maxLen → l0.length * 1 ≤ 140737488351232 → (∀ x ∈ l0, (Lit.int .u8 x).wf = true) → (Lit.int .u8 a1).wf = true → (Lit.int .u64 a3).wf = true → ∃ k, withelaw3_ReachAll.f k l0 a1 a2 a3 = some true
theorem withelaw3_ReachAll.walk (P : withelaw3_ReachAll.Pure) (a0 : Option Addr) (len0 cap0 : Nat) (z0 : List Int) (a1 : Int) (a2 : Bool) (a3 : Int) (w : World) (hG : GOk w) (w0 : (a0 = none ∧ len0 = 0 ∧ cap0 = 0 ∧ z0 = []) ∨ ∃ x, a0 = some x ∧ len0 ≤ cap0 ∧ cap0 ≤ maxLen ∧ z0.length = cap0 ∧ (∀ i, i < z0.length → w.cell? (x.add i) = some (.int .u8 (z0.getD i 0))) ∧ ∀ n ∈ z0, (Lit.int .u8 n).wf = true) (y0 : len0 * 1 ≤ 140737488351232) (w1 : (Lit.int .u8 a1).wf = true) (w3 : (Lit.int .u64 a3).wf = true) :
    Calls Tryd.prog 3 #[.slice a0 len0 cap0, .int .u8 a1, .bool a2, .int .u64 a3] w fun e w' => e = .returned (.bool true) ∧ Below w.heap.size w w' := by
  obtain ⟨l0, rfl, hr0, hm0, hw0, hc0⟩ := ReadsInt.ofRowC w0
  have HG := Aside0.mk hG
  obtain ⟨k, h⟩ := P l0 a1 a2 a3 hm0 y0 hw0 w1 w3
  refine (withelaw3_ReachAll.calls k _ _ l0 a1 a2 a3 true w (Kd.C_of_reads (d := (0 : Int)) (h1 := fun _ => rfl) hr0) hc0 h).mono ?_
  rintro e w' ⟨rfl, hd⟩
  exact ⟨rfl, hd⟩

end Go.Proofs.YtniimgbkbghbkaaDoor.PH
