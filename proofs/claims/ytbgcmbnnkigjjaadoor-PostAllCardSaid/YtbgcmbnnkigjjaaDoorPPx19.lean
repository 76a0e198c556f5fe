-- made by fvprint.py over the kit's print
import Derived.Test.YtbgcmbnnkigjjaaDoorPPx0
import Derived.Test.YtbgcmbnnkigjjaaDoorPPx1
import Derived.Test.YtbgcmbnnkigjjaaDoorPPx4
import Derived.Test.YtbgcmbnnkigjjaaDoorPPx7
import Derived.Test.YtbgcmbnnkigjjaaDoorPPx9
import Derived.Test.YtbgcmbnnkigjjaaDoorPPx10
import Derived.Test.YtbgcmbnnkigjjaaDoorPPx11
import Derived.Test.YtbgcmbnnkigjjaaDoorPPx12
import Derived.Test.YtbgcmbnnkigjjaaDoorPPx15
import Derived.Test.YtbgcmbnnkigjjaaDoorPPx16
import Derived.Test.YtbgcmbnnkigjjaaDoorPPx18
namespace Go.Proofs.YtbgcmbnnkigjjaaDoor.PP
open Go.RowKit Go.Proofs.YtbgcmbnnkigjjaaDoorW.PrintWords Go.Proofs.YtbgcmbnnkigjjaaDoorW.PrintLast Go.Proofs.YtbgcmbnnkigjjaaDoorW.PrintMore
attribute [local go_sem] max2_int min2_int max_two min_two max_three min_three max_four min_four   -- for this text's walks alone
set_option linter.unusedVariables false
set_option linter.unusedSimpArgs false

attribute [local go_sem] cell_set_some
/-! ### withelaw11_PostAll: function 3 -/
mutual
def withelaw11_PostAll.j0 : Nat → List ByteArray → List (List ByteArray) → Bool → Int → Int → ByteArray → Int → List (S24) → List (List Int) → List Int → List (List Int) → List Int → Option (Bool)
 | 0, _, _, _, _, _, _, _, _, _, _, _, _ => none
 | k + 1, x1, x2, x42, x268000, x268001, x268002, x268003, x268004, x269000, x269001, x270000, x270001 => if x42 = true then (some true) else (withelaw11_PostAll.l0 k x1 x2 0 x268000 x268001 x268002 x268003 x268004 x269000 x269001 x270000 x270001)
def withelaw11_PostAll.l0 : Nat → List ByteArray → List (List ByteArray) → Int → Int → Int → ByteArray → Int → List (S24) → List (List Int) → List Int → List (List Int) → List Int → Option (Bool)
 | 0, _, _, _, _, _, _, _, _, _, _, _, _ => none
 | k + 1, x1, x2, x11, x268000, x268001, x268002, x268003, x268004, x269000, x269001, x270000, x270001 => if x11 < (x1.length : Int) then (if 0 ≤ x11 then (if ((rdOf ByteArray.empty x1 x11).size : Int) > 40 then (some true) else (withelaw11_PostAll.l0 k x1 x2 (wrap64 (x11 + 1)) x268000 x268001 x268002 x268003 x268004 x269000 x269001 x270000 x270001)) else (none)) else (withelaw11_PostAll.l1 k x1 x2 0 x268000 x268001 x268002 x268003 x268004 x269000 x269001 x270000 x270001)
def withelaw11_PostAll.l1 : Nat → List ByteArray → List (List ByteArray) → Int → Int → Int → ByteArray → Int → List (S24) → List (List Int) → List Int → List (List Int) → List Int → Option (Bool)
 | 0, _, _, _, _, _, _, _, _, _, _, _, _ => none
 | k + 1, x1, x2, x12, x268000, x268001, x268002, x268003, x268004, x269000, x269001, x270000, x270001 => if x12 < (x2.length : Int) then (if 0 ≤ x12 then (if ((rd_L2 x2 x12).length : Int) > 6 then (some true) else (withelaw11_PostAll.l2 k x1 x2 x12 0 x268000 x268001 x268002 x268003 x268004 x269000 x269001 x270000 x270001)) else (none)) else ((post_Holds.f k x268000 x268001 x268002 x268003 x268004 x1 x2 x269000 x269001).bind fun bt279 => ((witheref9_Holds.f k x268000 x268001 x268002 x268003 x268004 x1 x2 x269000 x269001).bind fun bt281 => (if (bt279.1 == bt281.1) = true then (if (bt279.2 == bt281.2) = true then ((post_Same.f k x269000 x269001 x270000 x270001).bind fun t283 => ((witheref9_Order.f k x269000 x269001 x270000 x270001).bind fun t284 => (if (t283 == (t284 == 0)) = true then ((post_Less.f k x269000 x269001 x270000 x270001).bind fun t285 => ((witheref9_Order.f k x269000 x269001 x270000 x270001).bind fun t286 => (if (t285 == (decide (t286 < 0))) = true then ((post_Line.f k x1 x2 x269000 x269001).bind fun t287 => ((witheref9_Line.f k x1 x2 x269000 x269001).bind fun t288 => (some (t287.toList == t288.toList)))) else (none)))) else (none)))) else (none)) else (none))))
def withelaw11_PostAll.l2 : Nat → List ByteArray → List (List ByteArray) → Int → Int → Int → Int → ByteArray → Int → List (S24) → List (List Int) → List Int → List (List Int) → List Int → Option (Bool)
 | 0, _, _, _, _, _, _, _, _, _, _, _, _, _ => none
 | k + 1, x1, x2, x12, x13, x268000, x268001, x268002, x268003, x268004, x269000, x269001, x270000, x270001 => if 0 ≤ x12 then (if x12 < (x2.length : Int) then (if x13 < ((rd_L2 x2 x12).length : Int) then (if 0 ≤ x13 then (if ((rdOf ByteArray.empty (rd_L2 x2 x12) x13).size : Int) > 40 then (some true) else (withelaw11_PostAll.l2 k x1 x2 x12 (wrap64 (x13 + 1)) x268000 x268001 x268002 x268003 x268004 x269000 x269001 x270000 x270001)) else (none)) else (withelaw11_PostAll.l1 k x1 x2 (wrap64 (x12 + 1)) x268000 x268001 x268002 x268003 x268004 x269000 x269001 x270000 x270001)) else (none)) else (none)
end
def withelaw11_PostAll.f (k : Nat) (a0_0 : Int) (a0_1 : Int) (a0_2 : ByteArray) (a0_3 : Int) (l0_4 : List (S24)) (l1 : List ByteArray) (l2 : List (List ByteArray)) (l3_0 : List (List Int)) (l3_1 : List Int) (l4_0 : List (List Int)) (l4_1 : List Int) : Option (Bool) := (withelaw11_begun.f k).bind fun t270 => (if t270 = true then ((withemade_CondSize.f k a0_0 a0_1 a0_2 a0_3 l0_4 0).bind fun t271 => (if t271 > 300 then (withelaw11_PostAll.j0 k l1 l2 true a0_0 a0_1 a0_2 a0_3 l0_4 l3_0 l3_1 l4_0 l4_1) else (if (l1.length : Int) > 6 then (withelaw11_PostAll.j0 k l1 l2 true a0_0 a0_1 a0_2 a0_3 l0_4 l3_0 l3_1 l4_0 l4_1) else (if (l2.length : Int) > 6 then (withelaw11_PostAll.j0 k l1 l2 true a0_0 a0_1 a0_2 a0_3 l0_4 l3_0 l3_1 l4_0 l4_1) else ((withelaw11_light.f k l3_0 l3_1).bind fun t272 => (if t272 = true then ((withelaw11_light.f k l4_0 l4_1).bind fun t273 => (withelaw11_PostAll.j0 k l1 l2 (!t273) a0_0 a0_1 a0_2 a0_3 l0_4 l3_0 l3_1 l4_0 l4_1)) else (withelaw11_PostAll.j0 k l1 l2 true a0_0 a0_1 a0_2 a0_3 l0_4 l3_0 l3_1 l4_0 l4_1))))))) else (none))
theorem withelaw11_PostAll.mono_l : ∀ k, (∀ y0 y1 y2 y3 y4 y5 y6 y7 y8 y9 y10 y11, LeO (withelaw11_PostAll.j0 k y0 y1 y2 y3 y4 y5 y6 y7 y8 y9 y10 y11) (withelaw11_PostAll.j0 (k + 1) y0 y1 y2 y3 y4 y5 y6 y7 y8 y9 y10 y11)) ∧ (∀ y0 y1 y2 y3 y4 y5 y6 y7 y8 y9 y10 y11, LeO (withelaw11_PostAll.l0 k y0 y1 y2 y3 y4 y5 y6 y7 y8 y9 y10 y11) (withelaw11_PostAll.l0 (k + 1) y0 y1 y2 y3 y4 y5 y6 y7 y8 y9 y10 y11)) ∧ (∀ y0 y1 y2 y3 y4 y5 y6 y7 y8 y9 y10 y11, LeO (withelaw11_PostAll.l1 k y0 y1 y2 y3 y4 y5 y6 y7 y8 y9 y10 y11) (withelaw11_PostAll.l1 (k + 1) y0 y1 y2 y3 y4 y5 y6 y7 y8 y9 y10 y11)) ∧ (∀ y0 y1 y2 y3 y4 y5 y6 y7 y8 y9 y10 y11 y12, LeO (withelaw11_PostAll.l2 k y0 y1 y2 y3 y4 y5 y6 y7 y8 y9 y10 y11 y12) (withelaw11_PostAll.l2 (k + 1) y0 y1 y2 y3 y4 y5 y6 y7 y8 y9 y10 y11 y12))
 | 0 => ⟨fun _ _ _ _ _ _ _ _ _ _ _ _ r h => by simp [withelaw11_PostAll.j0] at h, fun _ _ _ _ _ _ _ _ _ _ _ _ r h => by simp [withelaw11_PostAll.l0] at h, fun _ _ _ _ _ _ _ _ _ _ _ _ r h => by simp [withelaw11_PostAll.l1] at h, fun _ _ _ _ _ _ _ _ _ _ _ _ _ r h => by simp [withelaw11_PostAll.l2] at h⟩
 | k + 1 => by
  obtain ⟨ih0, ih1, ih2, ih3⟩ := withelaw11_PostAll.mono_l k
  refine ⟨?_, ?_, ?_, ?_⟩
  ·intro y0 y1 y2 y3 y4 y5 y6 y7 y8 y9 y10 y11
   unfold withelaw11_PostAll.j0
   repeat' first
   | (with_reducible exact ih0 _ _ _ _ _ _ _ _ _ _ _ _)
   | (with_reducible exact ih1 _ _ _ _ _ _ _ _ _ _ _ _)
   | (with_reducible exact ih2 _ _ _ _ _ _ _ _ _ _ _ _)
   | (with_reducible exact ih3 _ _ _ _ _ _ _ _ _ _ _ _ _)
   | (with_reducible exact post_Holds.mono _ _ _ _ _ _ _ _ _ _)
   | (with_reducible exact post_Less.mono _ _ _ _ _)
   | (with_reducible exact post_Line.mono _ _ _ _ _)
   | (with_reducible exact post_Same.mono _ _ _ _ _)
   | (with_reducible exact withelaw11_begun.mono _)
   | (with_reducible exact withelaw11_light.mono _ _ _)
   | (with_reducible exact withemade_CondSize.mono _ _ _ _ _ _ _)
   | (with_reducible exact witheref9_Holds.mono _ _ _ _ _ _ _ _ _ _)
   | (with_reducible exact witheref9_Line.mono _ _ _ _ _)
   | (with_reducible exact witheref9_Order.mono _ _ _ _ _)
   | (with_reducible exact LeO.refl _)
   | (with_reducible exact LeO.none _)
   | (with_reducible refine LeO.ite ?_ ?_)
   | (with_reducible refine LeO.bind ?_ (fun _ => ?_))
   | exact ih0 _ _ _ _ _ _ _ _ _ _ _ _
   | exact ih1 _ _ _ _ _ _ _ _ _ _ _ _
   | exact ih2 _ _ _ _ _ _ _ _ _ _ _ _
   | exact ih3 _ _ _ _ _ _ _ _ _ _ _ _ _
   | exact post_Holds.mono _ _ _ _ _ _ _ _ _ _
   | exact post_Less.mono _ _ _ _ _
   | exact post_Line.mono _ _ _ _ _
   | exact post_Same.mono _ _ _ _ _
   | exact withelaw11_begun.mono _
   | exact withelaw11_light.mono _ _ _
   | exact withemade_CondSize.mono _ _ _ _ _ _ _
   | exact witheref9_Holds.mono _ _ _ _ _ _ _ _ _ _
   | exact witheref9_Line.mono _ _ _ _ _
   | exact witheref9_Order.mono _ _ _ _ _
   | exact LeO.none _
   | refine LeO.ite ?_ ?_
   | refine LeO.bind ?_ (fun _ => ?_)
  ·intro y0 y1 y2 y3 y4 y5 y6 y7 y8 y9 y10 y11
   unfold withelaw11_PostAll.l0
   repeat' first
   | (with_reducible exact ih0 _ _ _ _ _ _ _ _ _ _ _ _)
   | (with_reducible exact ih1 _ _ _ _ _ _ _ _ _ _ _ _)
   | (with_reducible exact ih2 _ _ _ _ _ _ _ _ _ _ _ _)
   | (with_reducible exact ih3 _ _ _ _ _ _ _ _ _ _ _ _ _)
   | (with_reducible exact post_Holds.mono _ _ _ _ _ _ _ _ _ _)
   | (with_reducible exact post_Less.mono _ _ _ _ _)
   | (with_reducible exact post_Line.mono _ _ _ _ _)
   | (with_reducible exact post_Same.mono _ _ _ _ _)
   | (with_reducible exact withelaw11_begun.mono _)
   | (with_reducible exact withelaw11_light.mono _ _ _)
   | (with_reducible exact withemade_CondSize.mono _ _ _ _ _ _ _)
   | (with_reducible exact witheref9_Holds.mono _ _ _ _ _ _ _ _ _ _)
   | (with_reducible exact witheref9_Line.mono _ _ _ _ _)
   | (with_reducible exact witheref9_Order.mono _ _ _ _ _)
   | (with_reducible exact LeO.refl _)
   | (with_reducible exact LeO.none _)
   | (with_reducible refine LeO.ite ?_ ?_)
   | (with_reducible refine LeO.bind ?_ (fun _ => ?_))
   | exact ih0 _ _ _ _ _ _ _ _ _ _ _ _
   | exact ih1 _ _ _ _ _ _ _ _ _ _ _ _
   | exact ih2 _ _ _ _ _ _ _ _ _ _ _ _
   | exact ih3 _ _ _ _ _ _ _ _ _ _ _ _ _
   | exact post_Holds.mono _ _ _ _ _ _ _ _ _ _
   | exact post_Less.mono _ _ _ _ _
   | exact post_Line.mono _ _ _ _ _
   | exact post_Same.mono _ _ _ _ _
   | exact withelaw11_begun.mono _
   | exact withelaw11_light.mono _ _ _
   | exact withemade_CondSize.mono _ _ _ _ _ _ _
   | exact witheref9_Holds.mono _ _ _ _ _ _ _ _ _ _
   | exact witheref9_Line.mono _ _ _ _ _
   | exact witheref9_Order.mono _ _ _ _ _
   | exact LeO.none _
   | refine LeO.ite ?_ ?_
   | refine LeO.bind ?_ (fun _ => ?_)
  ·intro y0 y1 y2 y3 y4 y5 y6 y7 y8 y9 y10 y11
   unfold withelaw11_PostAll.l1
   repeat' first
   | (with_reducible exact ih0 _ _ _ _ _ _ _ _ _ _ _ _)
   | (with_reducible exact ih1 _ _ _ _ _ _ _ _ _ _ _ _)
   | (with_reducible exact ih2 _ _ _ _ _ _ _ _ _ _ _ _)
   | (with_reducible exact ih3 _ _ _ _ _ _ _ _ _ _ _ _ _)
   | (with_reducible exact post_Holds.mono _ _ _ _ _ _ _ _ _ _)
   | (with_reducible exact post_Less.mono _ _ _ _ _)
   | (with_reducible exact post_Line.mono _ _ _ _ _)
   | (with_reducible exact post_Same.mono _ _ _ _ _)
   | (with_reducible exact withelaw11_begun.mono _)
   | (with_reducible exact withelaw11_light.mono _ _ _)
   | (with_reducible exact withemade_CondSize.mono _ _ _ _ _ _ _)
   | (with_reducible exact witheref9_Holds.mono _ _ _ _ _ _ _ _ _ _)
   | (with_reducible exact witheref9_Line.mono _ _ _ _ _)
   | (with_reducible exact witheref9_Order.mono _ _ _ _ _)
   | (with_reducible exact LeO.refl _)
   | (with_reducible exact LeO.none _)
   | (with_reducible refine LeO.ite ?_ ?_)
   | (with_reducible refine LeO.bind ?_ (fun _ => ?_))
   | exact ih0 _ _ _ _ _ _ _ _ _ _ _ _
   | exact ih1 _ _ _ _ _ _ _ _ _ _ _ _
   | exact ih2 _ _ _ _ _ _ _ _ _ _ _ _
   | exact ih3 _ _ _ _ _ _ _ _ _ _ _ _ _
   | exact post_Holds.mono _ _ _ _ _ _ _ _ _ _
   | exact post_Less.mono _ _ _ _ _
   | exact post_Line.mono _ _ _ _ _
   | exact post_Same.mono _ _ _ _ _
   | exact withelaw11_begun.mono _
   | exact withelaw11_light.mono _ _ _
   | exact withemade_CondSize.mono _ _ _ _ _ _ _
   | exact witheref9_Holds.mono _ _ _ _ _ _ _ _ _ _
   | exact witheref9_Line.mono _ _ _ _ _
   | exact witheref9_Order.mono _ _ _ _ _
   | exact LeO.none _
   | refine LeO.ite ?_ ?_
   | refine LeO.bind ?_ (fun _ => ?_)
  ·intro y0 y1 y2 y3 y4 y5 y6 y7 y8 y9 y10 y11 y12
   unfold withelaw11_PostAll.l2
   repeat' first
   | (with_reducible exact ih0 _ _ _ _ _ _ _ _ _ _ _ _)
   | (with_reducible exact ih1 _ _ _ _ _ _ _ _ _ _ _ _)
   | (with_reducible exact ih2 _ _ _ _ _ _ _ _ _ _ _ _)
   | (with_reducible exact ih3 _ _ _ _ _ _ _ _ _ _ _ _ _)
   | (with_reducible exact post_Holds.mono _ _ _ _ _ _ _ _ _ _)
   | (with_reducible exact post_Less.mono _ _ _ _ _)
   | (with_reducible exact post_Line.mono _ _ _ _ _)
   | (with_reducible exact post_Same.mono _ _ _ _ _)
   | (with_reducible exact withelaw11_begun.mono _)
   | (with_reducible exact withelaw11_light.mono _ _ _)
   | (with_reducible exact withemade_CondSize.mono _ _ _ _ _ _ _)
   | (with_reducible exact witheref9_Holds.mono _ _ _ _ _ _ _ _ _ _)
   | (with_reducible exact witheref9_Line.mono _ _ _ _ _)
   | (with_reducible exact witheref9_Order.mono _ _ _ _ _)
   | (with_reducible exact LeO.refl _)
   | (with_reducible exact LeO.none _)
   | (with_reducible refine LeO.ite ?_ ?_)
   | (with_reducible refine LeO.bind ?_ (fun _ => ?_))
   | exact ih0 _ _ _ _ _ _ _ _ _ _ _ _
   | exact ih1 _ _ _ _ _ _ _ _ _ _ _ _
   | exact ih2 _ _ _ _ _ _ _ _ _ _ _ _
   | exact ih3 _ _ _ _ _ _ _ _ _ _ _ _ _
   | exact post_Holds.mono _ _ _ _ _ _ _ _ _ _
   | exact post_Less.mono _ _ _ _ _
   | exact post_Line.mono _ _ _ _ _
   | exact post_Same.mono _ _ _ _ _
   | exact withelaw11_begun.mono _
   | exact withelaw11_light.mono _ _ _
   | exact withemade_CondSize.mono _ _ _ _ _ _ _
   | exact witheref9_Holds.mono _ _ _ _ _ _ _ _ _ _
   | exact witheref9_Line.mono _ _ _ _ _
   | exact witheref9_Order.mono _ _ _ _ _
   | exact LeO.none _
   | refine LeO.ite ?_ ?_
   | refine LeO.bind ?_ (fun _ => ?_)
theorem withelaw11_PostAll.mono : ∀ a0 a1 a2 a3 a4 a5 a6 a7 a8 a9 a10 k, LeO (withelaw11_PostAll.f k a0 a1 a2 a3 a4 a5 a6 a7 a8 a9 a10) (withelaw11_PostAll.f (k + 1) a0 a1 a2 a3 a4 a5 a6 a7 a8 a9 a10) := by
 intro a0 a1 a2 a3 a4 a5 a6 a7 a8 a9 a10 k
 obtain ⟨ih0, ih1, ih2, ih3⟩ := withelaw11_PostAll.mono_l k
 unfold withelaw11_PostAll.f
 repeat' first
  | (with_reducible exact ih0 _ _ _ _ _ _ _ _ _ _ _ _)
  | (with_reducible exact ih1 _ _ _ _ _ _ _ _ _ _ _ _)
  | (with_reducible exact ih2 _ _ _ _ _ _ _ _ _ _ _ _)
  | (with_reducible exact ih3 _ _ _ _ _ _ _ _ _ _ _ _ _)
  | (with_reducible exact post_Holds.mono _ _ _ _ _ _ _ _ _ _)
  | (with_reducible exact post_Less.mono _ _ _ _ _)
  | (with_reducible exact post_Line.mono _ _ _ _ _)
  | (with_reducible exact post_Same.mono _ _ _ _ _)
  | (with_reducible exact withelaw11_begun.mono _)
  | (with_reducible exact withelaw11_light.mono _ _ _)
  | (with_reducible exact withemade_CondSize.mono _ _ _ _ _ _ _)
  | (with_reducible exact witheref9_Holds.mono _ _ _ _ _ _ _ _ _ _)
  | (with_reducible exact witheref9_Line.mono _ _ _ _ _)
  | (with_reducible exact witheref9_Order.mono _ _ _ _ _)
  | (with_reducible exact LeO.refl _)
  | (with_reducible exact LeO.none _)
  | (with_reducible refine LeO.ite ?_ ?_)
  | (with_reducible refine LeO.bind ?_ (fun _ => ?_))
  | exact ih0 _ _ _ _ _ _ _ _ _ _ _ _
  | exact ih1 _ _ _ _ _ _ _ _ _ _ _ _
  | exact ih2 _ _ _ _ _ _ _ _ _ _ _ _
  | exact ih3 _ _ _ _ _ _ _ _ _ _ _ _ _
  | exact post_Holds.mono _ _ _ _ _ _ _ _ _ _
  | exact post_Less.mono _ _ _ _ _
  | exact post_Line.mono _ _ _ _ _
  | exact post_Same.mono _ _ _ _ _
  | exact withelaw11_begun.mono _
  | exact withelaw11_light.mono _ _ _
  | exact withemade_CondSize.mono _ _ _ _ _ _ _
  | exact witheref9_Holds.mono _ _ _ _ _ _ _ _ _ _
  | exact witheref9_Line.mono _ _ _ _ _
  | exact witheref9_Order.mono _ _ _ _ _
  | exact LeO.none _
  | refine LeO.ite ?_ ?_
  | refine LeO.bind ?_ (fun _ => ?_)
def withelaw11_PostAll.T22 : Bool × List (List Nat × List Nat) := (true, [([], []), ([], []), ([0, 1], [0, 1]), ([2], [2]), ([3], [3]), ([3], [3]), ([4, 5, 3], [3, 4, 5]), ([3, 6], [3, 6]), ([7, 3], [7]), ([8], [8]), ([8], [8]), ([9, 10, 8, 8], [8, 9, 10]), ([8], [8]), ([8], [8]), ([12, 13, 11, 8], [8, 12, 13]), ([14, 8], [8, 14]), ([11, 15, 8], [8, 11, 15]), ([8, 16], [8, 16]), ([17, 14], [17]), ([18], [18]), ([18], [18]), ([19, 20, 18, 18], [18, 19, 20]), ([18], [18]), ([18], [18]), ([22, 23, 21, 18], [18, 22, 23]), ([24, 18], [18, 24]), ([21, 25, 18], [18, 21, 25]), ([18, 26], [18, 26]), ([27, 24], [27]), ([28], [28]), ([28], [28]), ([28], [28]), ([29, 30, 31, 28, 28], [28, 29, 30, 31]), ([28], [28]), ([28], [28]), ([28], [28]), ([33, 34, 35, 32, 28], [28, 33, 34, 35]), ([32, 36, 28], [28, 32, 36]), ([28, 37], [28, 37]), ([38, 36, 0, 1, 2, 3, 4, 5, 6, 7, 8, 9, 10, 11, 12, 13, 14, 15, 16, 17, 18, 19, 20, 21, 22, 23, 24, 25, 26, 27, 28, 29, 30, 31, 32, 33, 34, 35, 36, 37, 38], [38])])
def withelaw11_PostAll.B22 : List Nat := [0, 0, 3, 7, 15, 15, 63, 127, 255, 511, 511, 2047, 511, 511, 16383, 32767, 65535, 131071, 262143, 524287, 524287, 2097151, 524287, 524287, 16777215, 33554431, 67108863, 134217727, 268435455, 536870911, 536870911, 536870911, 4294967295, 536870911, 536870911, 536870911, 68719476735, 137438953471, 274877906943, 549755813887]
theorem withelaw11_PostAll.tab22 : rtab .any (opsOf Tryd.f3 22) = withelaw11_PostAll.T22 := by kernel_rfl
theorem withelaw11_PostAll.bits22 : waitsOk withelaw11_PostAll.T22.2 withelaw11_PostAll.B22 = true := by kernel_rfl
set_option maxHeartbeats 8000000 in
set_option maxRecDepth 100000 in
theorem withelaw11_PostAll.calls (k : Nat) (a0_0 : Int) (a0_1 : Int) (a0_2 : ByteArray) (a0_3 : Int) (A0_4 : Option Addr) (c0_4 : Nat) (l0_4 : List (S24)) (A1 : Option Addr) (c1 : Nat) (l1 : List ByteArray) (A2 : Option Addr) (c2 : Nat) (l2 : List (List ByteArray)) (A3_0 : Option Addr) (c3_0 : Nat) (l3_0 : List (List Int)) (A3_1 : Option Addr) (c3_1 : Nat) (l3_1 : List Int) (A4_0 : Option Addr) (c4_0 : Nat) (l4_0 : List (List Int)) (A4_1 : Option Addr) (c4_1 : Nat) (l4_1 : List Int) (r : Bool) (w : World) (hr0_4 : Kd.C k24 w A0_4 l0_4.length l0_4) (hc0_4 : l0_4.length ≤ c0_4) (hr1 : Kd.C Kd.string w A1 l1.length l1) (hc1 : l1.length ≤ c1) (hr2 : Kd.C (Kd.slice 9 Kd.string) w A2 l2.length l2) (hc2 : l2.length ≤ c2) (hr3_0 : Kd.C (Kd.slice 3 (Kd.int .i64)) w A3_0 l3_0.length l3_0) (hc3_0 : l3_0.length ≤ c3_0) (hr3_1 : Kd.C (Kd.int .i64) w A3_1 l3_1.length l3_1) (hc3_1 : l3_1.length ≤ c3_1) (hr4_0 : Kd.C (Kd.slice 3 (Kd.int .i64)) w A4_0 l4_0.length l4_0) (hc4_0 : l4_0.length ≤ c4_0) (hr4_1 : Kd.C (Kd.int .i64) w A4_1 l4_1.length l4_1) (hc4_1 : l4_1.length ≤ c4_1) (h : withelaw11_PostAll.f k a0_0 a0_1 a0_2 a0_3 l0_4 l1 l2 l3_0 l3_1 l4_0 l4_1 = some r) (hG : GOk w := by first | exact Aside0.out (by assumption) | exact GOk.le (Aside0.out (by assumption)) (by repeat (first | exact Aside0.out (by assumption) | exact Below.refl _ _ | apply below_alloc | apply pw_below_drewN | apply below_drew1 | refine below_set ?_ (Aside0.out (by assumption))))) :
 Calls Tryd.prog 3 #[.agg #[.int .i64 a0_0, .int .i64 a0_1, .string a0_2, .int .i64 a0_3, .slice A0_4 l0_4.length c0_4], .slice A1 l1.length c1, .slice A2 l2.length c2, .agg #[.slice A3_0 l3_0.length c3_0, .slice A3_1 l3_1.length c3_1], .agg #[.slice A4_0 l4_0.length c4_0, .slice A4_1 l4_1.length c4_1]] w fun e w' => e = .returned (.bool r) ∧ Below w.heap.size w w' := by
 have hu24 := Tryd.underlying24
 have hu30 := Tryd.underlying30
 have HR0_4 := Aside0.mk hr0_4
 have HC0_4 := Aside0.mk hc0_4
 clear hr0_4 hc0_4
 have HR1 := Aside0.mk hr1
 have HC1 := Aside0.mk hc1
 clear hr1 hc1
 have HR2 := Aside0.mk hr2
 have HC2 := Aside0.mk hc2
 clear hr2 hc2
 have HR3_0 := Aside0.mk hr3_0
 have HC3_0 := Aside0.mk hc3_0
 clear hr3_0 hc3_0
 have HR3_1 := Aside0.mk hr3_1
 have HC3_1 := Aside0.mk hc3_1
 clear hr3_1 hc3_1
 have HR4_0 := Aside0.mk hr4_0
 have HC4_0 := Aside0.mk hc4_0
 clear hr4_0 hc4_0
 have HR4_1 := Aside0.mk hr4_1
 have HC4_1 := Aside0.mk hc4_1
 clear hr4_1 hc4_1
 have HB := Aside0.mk (Below.refl w.heap.size w)
 have H : ((withelaw11_begun.f k).bind fun t270 => (if t270 = true then ((withemade_CondSize.f k a0_0 a0_1 a0_2 a0_3 l0_4 0).bind fun t271 => (if t271 > 300 then (withelaw11_PostAll.j0 k l1 l2 true a0_0 a0_1 a0_2 a0_3 l0_4 l3_0 l3_1 l4_0 l4_1) else (if (l1.length : Int) > 6 then (withelaw11_PostAll.j0 k l1 l2 true a0_0 a0_1 a0_2 a0_3 l0_4 l3_0 l3_1 l4_0 l4_1) else (if (l2.length : Int) > 6 then (withelaw11_PostAll.j0 k l1 l2 true a0_0 a0_1 a0_2 a0_3 l0_4 l3_0 l3_1 l4_0 l4_1) else ((withelaw11_light.f k l3_0 l3_1).bind fun t272 => (if t272 = true then ((withelaw11_light.f k l4_0 l4_1).bind fun t273 => (withelaw11_PostAll.j0 k l1 l2 (!t273) a0_0 a0_1 a0_2 a0_3 l0_4 l3_0 l3_1 l4_0 l4_1)) else (withelaw11_PostAll.j0 k l1 l2 true a0_0 a0_1 a0_2 a0_3 l0_4 l3_0 l3_1 l4_0 l4_1))))))) else (none))) = some r := h
 clear h
 have HG := Aside0.mk hG
 clear hG
 replace H := Option.bind_eq_some_iff.mp H
 obtain ⟨t270, A60, H⟩ := H
 replace H : (if t270 = true then ((withemade_CondSize.f k a0_0 a0_1 a0_2 a0_3 l0_4 0).bind fun t271 => (if t271 > 300 then (withelaw11_PostAll.j0 k l1 l2 true a0_0 a0_1 a0_2 a0_3 l0_4 l3_0 l3_1 l4_0 l4_1) else (if (l1.length : Int) > 6 then (withelaw11_PostAll.j0 k l1 l2 true a0_0 a0_1 a0_2 a0_3 l0_4 l3_0 l3_1 l4_0 l4_1) else (if (l2.length : Int) > 6 then (withelaw11_PostAll.j0 k l1 l2 true a0_0 a0_1 a0_2 a0_3 l0_4 l3_0 l3_1 l4_0 l4_1) else ((withelaw11_light.f k l3_0 l3_1).bind fun t272 => (if t272 = true then ((withelaw11_light.f k l4_0 l4_1).bind fun t273 => (withelaw11_PostAll.j0 k l1 l2 (!t273) a0_0 a0_1 a0_2 a0_3 l0_4 l3_0 l3_1 l4_0 l4_1)) else (withelaw11_PostAll.j0 k l1 l2 true a0_0 a0_1 a0_2 a0_3 l0_4 l3_0 l3_1 l4_0 l4_1))))))) else (none)) = some r := H
 have A6 := Aside0.mk A60
 clear A60
 by_cases c7 : t270 = true
 ·subst c7
  have H1 : ((withemade_CondSize.f k a0_0 a0_1 a0_2 a0_3 l0_4 0).bind fun t271 => (if t271 > 300 then (withelaw11_PostAll.j0 k l1 l2 true a0_0 a0_1 a0_2 a0_3 l0_4 l3_0 l3_1 l4_0 l4_1) else (if (l1.length : Int) > 6 then (withelaw11_PostAll.j0 k l1 l2 true a0_0 a0_1 a0_2 a0_3 l0_4 l3_0 l3_1 l4_0 l4_1) else (if (l2.length : Int) > 6 then (withelaw11_PostAll.j0 k l1 l2 true a0_0 a0_1 a0_2 a0_3 l0_4 l3_0 l3_1 l4_0 l4_1) else ((withelaw11_light.f k l3_0 l3_1).bind fun t272 => (if t272 = true then ((withelaw11_light.f k l4_0 l4_1).bind fun t273 => (withelaw11_PostAll.j0 k l1 l2 (!t273) a0_0 a0_1 a0_2 a0_3 l0_4 l3_0 l3_1 l4_0 l4_1)) else (withelaw11_PostAll.j0 k l1 l2 true a0_0 a0_1 a0_2 a0_3 l0_4 l3_0 l3_1 l4_0 l4_1))))))) = some r := by rw [if_pos rfl] at H; exact H
  clear H
  have H := H1
  clear H1
  have HC8 := Aside0.mk H
  clear H
  go_enter Tryd.func3, Tryd.ntmps3
  go_upto_region 3 with (first | ((with_reducible refine gate_dst (N := 5) rfl ?_); (try (refine gate_guard (by rfl) ?_; dsimp only)); refine box_event ?hg (N := 5) ?hd (cs := #[.int .i64 a0_0, .int .i64 a0_1, .string a0_2, .int .i64 a0_3, .slice A0_4 l0_4.length c0_4]) (t := 24) ?hr ?_; (case hd => rfl); (case hg => rfl); (case hr => first | (go_simp; done) | (go_simp; rfl)); intro gb267 hg w9 hbox hb; have n0_ := Aside0.mk (below_step (by repeat (first | (with_reducible first | exact HB.out | apply below_alloc | apply pw_below_drewN | apply below_drew1) | exact HB.out)) hb); have n1_ := Aside0.mk (hbox); have n2_ := Aside0.mk ((by rw [hg]; exact (below_size (by repeat (first | (with_reducible first | exact HB.out | apply below_alloc | apply pw_below_drewN | apply below_drew1) | exact HB.out))) : w.heap.size ≤ gb267)); have n3_ := Aside0.mk ((by rw [hg]; exact (below_size (by repeat (first | (with_reducible first | exact HB.out | apply below_alloc | apply pw_below_drewN | apply below_drew1) | exact HB.out))) : w.heap.size ≤ gb267)); clear HB; have HB := n0_; have BK267 := n1_; have GW267 := n2_; have GE267 := n3_; clear n0_ n1_ n2_ n3_; clear hb hbox hg) | ((with_reducible refine gate_dst (N := 8) rfl ?_); (try (refine gate_guard (by rfl) ?_; dsimp only)); refine box_event ?hg (N := 8) ?hd (cs := #[.slice A3_0 l3_0.length c3_0, .slice A3_1 l3_1.length c3_1]) (t := 30) ?hr ?_; (case hd => rfl); (case hg => rfl); (case hr => first | (go_simp; done) | (go_simp; rfl)); intro gb268 hg w10 hbox hb; have n0_ := Aside0.mk (blk_below (g := gb267) (o := .cells #[.int .i64 a0_0, .int .i64 a0_1, .string a0_2, .int .i64 a0_3, .slice A0_4 l0_4.length c0_4] 24 (0, 0)) (by (with_reducible repeat (first | refine blk_drewN ?_ _ | refine blk_drew ?_ | refine blk_alloc ?_ _)); exact BK267.out) hb); have n1_ := Aside0.mk (below_step (by repeat (first | (with_reducible first | exact HB.out | apply below_alloc | apply pw_below_drewN | apply below_drew1 | refine below_set ?_ GE267.out) | exact HB.out)) hb); have n2_ := Aside0.mk (hbox); have n3_ := Aside0.mk ((by rw [hg]; exact (below_size (by repeat (first | (with_reducible first | exact HB.out | apply below_alloc | apply pw_below_drewN | apply below_drew1 | refine below_set ?_ GE267.out) | exact HB.out))) : w.heap.size ≤ gb268)); have n4_ := Aside0.mk ((by rw [hg]; exact (below_size (by repeat (first | (with_reducible first | exact HB.out | apply below_alloc | apply pw_below_drewN | apply below_drew1 | refine below_set ?_ GE267.out) | exact HB.out))) : w.heap.size ≤ gb268)); have n5_ := Aside0.mk ((by rw [hg]; exact Nat.ne_of_lt (blk_lt (g := gb267) (o := .cells #[.int .i64 a0_0, .int .i64 a0_1, .string a0_2, .int .i64 a0_3, .slice A0_4 l0_4.length c0_4] 24 (0, 0)) (by (with_reducible repeat (first | refine blk_drewN ?_ _ | refine blk_drew ?_ | refine blk_alloc ?_ _)); exact BK267.out)) : gb267 ≠ gb268)); have n6_ := Aside0.mk ((by rw [hg]; exact Nat.ne_of_gt (blk_lt (g := gb267) (o := .cells #[.int .i64 a0_0, .int .i64 a0_1, .string a0_2, .int .i64 a0_3, .slice A0_4 l0_4.length c0_4] 24 (0, 0)) (by (with_reducible repeat (first | refine blk_drewN ?_ _ | refine blk_drew ?_ | refine blk_alloc ?_ _)); exact BK267.out)) : gb268 ≠ gb267)); clear BK267; clear HB; have BK267 := n0_; have HB := n1_; have BK268 := n2_; have GW268 := n3_; have GE268 := n4_; have NB267_268 := n5_; have NB268_267 := n6_; clear n0_ n1_ n2_ n3_ n4_ n5_ n6_; clear hb hbox hg) | ((with_reducible refine gate_dst (N := 9) rfl ?_); (try (refine gate_guard (by rfl) ?_; dsimp only)); refine box_event ?hg (N := 9) ?hd (cs := #[.slice A4_0 l4_0.length c4_0, .slice A4_1 l4_1.length c4_1]) (t := 30) ?hr ?_; (case hd => rfl); (case hg => rfl); (case hr => first | (go_simp; done) | (go_simp; rfl)); intro gb269 hg w11 hbox hb; have n0_ := Aside0.mk (blk_below (g := gb267) (o := .cells #[.int .i64 a0_0, .int .i64 a0_1, .string a0_2, .int .i64 a0_3, .slice A0_4 l0_4.length c0_4] 24 (0, 0)) (by (with_reducible repeat (first | refine blk_drewN ?_ _ | refine blk_drew ?_ | refine blk_alloc ?_ _)); exact BK267.out) hb); have n1_ := Aside0.mk (blk_below (g := gb268) (o := .cells #[.slice A3_0 l3_0.length c3_0, .slice A3_1 l3_1.length c3_1] 30 (0, 0)) (by (with_reducible repeat (first | refine blk_drewN ?_ _ | refine blk_drew ?_ | refine blk_alloc ?_ _)); exact BK268.out) hb); have n2_ := Aside0.mk (below_step (by repeat (first | (with_reducible first | exact HB.out | apply below_alloc | apply pw_below_drewN | apply below_drew1 | refine below_set ?_ GE267.out | refine below_set ?_ GE268.out) | exact HB.out)) hb); have n3_ := Aside0.mk (hbox); have n4_ := Aside0.mk ((by rw [hg]; exact (below_size (by repeat (first | (with_reducible first | exact HB.out | apply below_alloc | apply pw_below_drewN | apply below_drew1 | refine below_set ?_ GE267.out | refine below_set ?_ GE268.out) | exact HB.out))) : w.heap.size ≤ gb269)); have n5_ := Aside0.mk ((by rw [hg]; exact (below_size (by repeat (first | (with_reducible first | exact HB.out | apply below_alloc | apply pw_below_drewN | apply below_drew1 | refine below_set ?_ GE267.out | refine below_set ?_ GE268.out) | exact HB.out))) : w.heap.size ≤ gb269)); have n6_ := Aside0.mk ((by rw [hg]; exact Nat.ne_of_lt (blk_lt (g := gb267) (o := .cells #[.int .i64 a0_0, .int .i64 a0_1, .string a0_2, .int .i64 a0_3, .slice A0_4 l0_4.length c0_4] 24 (0, 0)) (by (with_reducible repeat (first | refine blk_drewN ?_ _ | refine blk_drew ?_ | refine blk_alloc ?_ _)); exact BK267.out)) : gb267 ≠ gb269)); have n7_ := Aside0.mk ((by rw [hg]; exact Nat.ne_of_gt (blk_lt (g := gb267) (o := .cells #[.int .i64 a0_0, .int .i64 a0_1, .string a0_2, .int .i64 a0_3, .slice A0_4 l0_4.length c0_4] 24 (0, 0)) (by (with_reducible repeat (first | refine blk_drewN ?_ _ | refine blk_drew ?_ | refine blk_alloc ?_ _)); exact BK267.out)) : gb269 ≠ gb267)); have n8_ := Aside0.mk ((by rw [hg]; exact Nat.ne_of_lt (blk_lt (g := gb268) (o := .cells #[.slice A3_0 l3_0.length c3_0, .slice A3_1 l3_1.length c3_1] 30 (0, 0)) (by (with_reducible repeat (first | refine blk_drewN ?_ _ | refine blk_drew ?_ | refine blk_alloc ?_ _)); exact BK268.out)) : gb268 ≠ gb269)); have n9_ := Aside0.mk ((by rw [hg]; exact Nat.ne_of_gt (blk_lt (g := gb268) (o := .cells #[.slice A3_0 l3_0.length c3_0, .slice A3_1 l3_1.length c3_1] 30 (0, 0)) (by (with_reducible repeat (first | refine blk_drewN ?_ _ | refine blk_drew ?_ | refine blk_alloc ?_ _)); exact BK268.out)) : gb269 ≠ gb268)); clear BK267; clear BK268; clear HB; have BK267 := n0_; have BK268 := n1_; have HB := n2_; have BK269 := n3_; have GW269 := n4_; have GE269 := n5_; have NB267_269 := n6_; have NB269_267 := n7_; have NB268_269 := n8_; have NB269_268 := n9_; clear n0_ n1_ n2_ n3_ n4_ n5_ n6_ n7_ n8_ n9_; clear hb hbox hg) | ((with_reducible refine gate_callee (f := 7) rfl ?_); refine goesL_ (some 18) rfl rfl Tryd.func7 (by kernel_rfl) rfl #[] rfl (by (try simp only [List.map_toArray, List.map_cons, List.map_nil]); first | done | rfl | (simp only [List.length_drop, List.length_take]; rfl)) ?_; (with_reducible refine (withelaw11_begun.calls k  true _ A6.out).mono ?_); rintro e w12 ⟨rfl, hb⟩; refine ⟨_, rfl, ?_⟩; have n0_ := Aside0.mk (blk_below (g := gb267) (o := .cells #[.int .i64 a0_0, .int .i64 a0_1, .string a0_2, .int .i64 a0_3, .slice A0_4 l0_4.length c0_4] 24 (0, 0)) (by (with_reducible repeat (first | refine blk_drewN ?_ _ | refine blk_drew ?_ | refine blk_alloc ?_ _)); exact BK267.out) hb); have n1_ := Aside0.mk (blk_below (g := gb268) (o := .cells #[.slice A3_0 l3_0.length c3_0, .slice A3_1 l3_1.length c3_1] 30 (0, 0)) (by (with_reducible repeat (first | refine blk_drewN ?_ _ | refine blk_drew ?_ | refine blk_alloc ?_ _)); exact BK268.out) hb); have n2_ := Aside0.mk (blk_below (g := gb269) (o := .cells #[.slice A4_0 l4_0.length c4_0, .slice A4_1 l4_1.length c4_1] 30 (0, 0)) (by (with_reducible repeat (first | refine blk_drewN ?_ _ | refine blk_drew ?_ | refine blk_alloc ?_ _)); exact BK269.out) hb); have n3_ := Aside0.mk (below_step (by repeat (first | (with_reducible first | exact HB.out | apply below_alloc | apply pw_below_drewN | apply below_drew1 | refine below_set ?_ GE267.out | refine below_set ?_ GE268.out | refine below_set ?_ GE269.out) | exact HB.out)) hb); clear BK267; clear BK268; clear BK269; clear HB; have BK267 := n0_; have BK268 := n1_; have BK269 := n2_; have HB := n3_; clear n0_ n1_ n2_ n3_; (try clear hb); (try clear hb2); (try clear hk); (try clear hi)))
  (try simp only [Act.put, List.setIfInBounds_toArray, List.set_cons_zero, List.set_cons_succ])
  go_cut [42] (fun v42 wc => ∃ (kq : Nat) (x42_7 : Bool), v42 = .bool x42_7 ∧ Aside0 (withelaw11_PostAll.j0 kq l1 l2 x42_7 a0_0 a0_1 a0_2 a0_3 l0_4 l3_0 l3_1 l4_0 l4_1 = some r) ∧ Aside0 (kq ≤ k) ∧ Aside0 (wc.heap[gb267]? = some (.cells #[.int .i64 a0_0, .int .i64 a0_1, .string a0_2, .int .i64 a0_3, (.slice A0_4 l0_4.length c0_4)] 24 (0, 0))) ∧ Aside0 (wc.heap[gb268]? = some (.cells #[(.slice A3_0 l3_0.length c3_0), (.slice A3_1 l3_1.length c3_1)] 30 (0, 0))) ∧ Aside0 (wc.heap[gb269]? = some (.cells #[(.slice A4_0 l4_0.length c4_0), (.slice A4_1 l4_1.length c4_1)] 30 (0, 0))) ∧ Aside0 (Below w.heap.size w wc))
  case first =>
   have H := HC8.out
   clear HC8
   replace H := Option.bind_eq_some_iff.mp H
   obtain ⟨t271, A130, H⟩ := H
   replace H : (if t271 > 300 then (withelaw11_PostAll.j0 k l1 l2 true a0_0 a0_1 a0_2 a0_3 l0_4 l3_0 l3_1 l4_0 l4_1) else (if (l1.length : Int) > 6 then (withelaw11_PostAll.j0 k l1 l2 true a0_0 a0_1 a0_2 a0_3 l0_4 l3_0 l3_1 l4_0 l4_1) else (if (l2.length : Int) > 6 then (withelaw11_PostAll.j0 k l1 l2 true a0_0 a0_1 a0_2 a0_3 l0_4 l3_0 l3_1 l4_0 l4_1) else ((withelaw11_light.f k l3_0 l3_1).bind fun t272 => (if t272 = true then ((withelaw11_light.f k l4_0 l4_1).bind fun t273 => (withelaw11_PostAll.j0 k l1 l2 (!t273) a0_0 a0_1 a0_2 a0_3 l0_4 l3_0 l3_1 l4_0 l4_1)) else (withelaw11_PostAll.j0 k l1 l2 true a0_0 a0_1 a0_2 a0_3 l0_4 l3_0 l3_1 l4_0 l4_1)))))) = some r := H
   have A13 := Aside0.mk A130
   clear A130
   by_cases c14 : t271 > 300
   ·rw [if_pos c14] at H
    have c14b0 : decide (300 < t271) = true := decide_eq_true c14
    clear c14
    (first | rw [c14b0] | (simp only [i64_w, i32_w]; rw [c14b0]) | skip)
    have H' := Aside0.mk H
    clear H
    have hnb15 := NB267_268.out
    have hnc15 := NB268_267.out
    have hnb16 := NB267_269.out
    have hnc16 := NB269_267.out
    have hcz17_0 : w12.cell? ⟨gb267, 0, none⟩ = some (.int .i64 a0_0) := (blk_cell BK267.out 0).trans rfl
    have hcz17_1 : w12.cell? ⟨gb267, 1, none⟩ = some (.int .i64 a0_1) := (blk_cell BK267.out 1).trans rfl
    have hcz17_2 : w12.cell? ⟨gb267, 2, none⟩ = some (.string a0_2) := (blk_cell BK267.out 2).trans rfl
    have hcz17_3 : w12.cell? ⟨gb267, 3, none⟩ = some (.int .i64 a0_3) := (blk_cell BK267.out 3).trans rfl
    have hcz17_4 : w12.cell? ⟨gb267, 4, none⟩ = some (.slice A0_4 l0_4.length c0_4) := (blk_cell BK267.out 4).trans rfl
    have hfz17_0 := blk_frozen BK267.out 0
    have hfz17_1 := blk_frozen BK267.out 1
    have hfz17_2 := blk_frozen BK267.out 2
    have hfz17_3 := blk_frozen BK267.out 3
    have hfz17_4 := blk_frozen BK267.out 4
    go_wp2_with (first | ((with_reducible refine gate_callee (f := 8) rfl ?_); refine goesL_ (some 21) rfl rfl Tryd.func8 (by kernel_rfl) rfl #[.agg #[.int .i64 a0_0, .int .i64 a0_1, .string a0_2, .int .i64 a0_3, .slice A0_4 l0_4.length c0_4], .int .i64 0] rfl (by (try simp only [List.map_toArray, List.map_cons, List.map_nil]); first | done | rfl | (simp only [List.length_drop, List.length_take]; rfl)) ?_; (with_reducible refine (withemade_CondSize.calls k a0_0 a0_1 a0_2 a0_3 _ _ l0_4 0 t271 _ ?side1 ?side2 A13.out).mono ?_); (case side1 => repeat (first | exact (Kd.C_below HR0_4.out HB.out) | (with_reducible refine Kd.C_alloc ?_ _) | (with_reducible refine Kd.C_drewN ?_ _) | (with_reducible refine Kd.C_drew ?_))); (case side2 => exact HC0_4.out); rintro e w18 ⟨rfl, hb⟩; refine ⟨_, rfl, ?_⟩; have n0_ := Aside0.mk (blk_below (g := gb267) (o := .cells #[.int .i64 a0_0, .int .i64 a0_1, .string a0_2, .int .i64 a0_3, .slice A0_4 l0_4.length c0_4] 24 (0, 0)) (by (with_reducible repeat (first | refine blk_drewN ?_ _ | refine blk_drew ?_ | refine blk_alloc ?_ _)); exact BK267.out) hb); have n1_ := Aside0.mk (blk_below (g := gb268) (o := .cells #[.slice A3_0 l3_0.length c3_0, .slice A3_1 l3_1.length c3_1] 30 (0, 0)) (by (with_reducible repeat (first | refine blk_drewN ?_ _ | refine blk_drew ?_ | refine blk_alloc ?_ _)); exact BK268.out) hb); have n2_ := Aside0.mk (blk_below (g := gb269) (o := .cells #[.slice A4_0 l4_0.length c4_0, .slice A4_1 l4_1.length c4_1] 30 (0, 0)) (by (with_reducible repeat (first | refine blk_drewN ?_ _ | refine blk_drew ?_ | refine blk_alloc ?_ _)); exact BK269.out) hb); have n3_ := Aside0.mk (below_step (by repeat (first | (with_reducible first | exact HB.out | apply below_alloc | apply pw_below_drewN | apply below_drew1 | refine below_set ?_ GE267.out | refine below_set ?_ GE268.out | refine below_set ?_ GE269.out) | exact HB.out)) hb); clear BK267; clear BK268; clear BK269; clear HB; have BK267 := n0_; have BK268 := n1_; have BK269 := n2_; have HB := n3_; clear n0_ n1_ n2_ n3_; (try clear hb); (try clear hb2); (try clear hk); (try clear hi)))
    go_meet
    case rel => exact ⟨_, (true), (by first | rfl | (simp; done) | (simp [*]; done)), H', ⟨by first | omega | exact Nat.le_refl _⟩, ⟨by (with_reducible repeat (first | refine blk_drewN ?_ _ | refine blk_drew ?_ | refine blk_alloc ?_ _)); exact BK267.out⟩, ⟨by (with_reducible repeat (first | refine blk_drewN ?_ _ | refine blk_drew ?_ | refine blk_alloc ?_ _)); exact BK268.out⟩, ⟨by (with_reducible repeat (first | refine blk_drewN ?_ _ | refine blk_drew ?_ | refine blk_alloc ?_ _)); exact BK269.out⟩, ⟨by repeat (first | (with_reducible first | exact HB.out | apply below_alloc | apply pw_below_drewN | apply below_drew1 | refine below_set ?_ GE267.out | refine below_set ?_ GE268.out | refine below_set ?_ GE269.out) | exact HB.out)⟩⟩
   ·rw [if_neg c14] at H
    have c14b0 : decide (300 < t271) = false := decide_eq_false c14
    clear c14
    (first | rw [c14b0] | (simp only [i64_w, i32_w]; rw [c14b0]) | skip)
    by_cases c19 : (l1.length : Int) > 6
    ·rw [if_pos c19] at H
     have c19b0 : decide (6 < (l1.length : Int)) = true := decide_eq_true c19
     have c19b1 : decide (6 < l1.length) = true := decide_eq_true (by omega)
     clear c19
     have H' := Aside0.mk H
     clear H
     have hnb20 := NB267_268.out
     have hnc20 := NB268_267.out
     have hnb21 := NB267_269.out
     have hnc21 := NB269_267.out
     have hcz22_0 : w12.cell? ⟨gb267, 0, none⟩ = some (.int .i64 a0_0) := (blk_cell BK267.out 0).trans rfl
     have hcz22_1 : w12.cell? ⟨gb267, 1, none⟩ = some (.int .i64 a0_1) := (blk_cell BK267.out 1).trans rfl
     have hcz22_2 : w12.cell? ⟨gb267, 2, none⟩ = some (.string a0_2) := (blk_cell BK267.out 2).trans rfl
     have hcz22_3 : w12.cell? ⟨gb267, 3, none⟩ = some (.int .i64 a0_3) := (blk_cell BK267.out 3).trans rfl
     have hcz22_4 : w12.cell? ⟨gb267, 4, none⟩ = some (.slice A0_4 l0_4.length c0_4) := (blk_cell BK267.out 4).trans rfl
     have hfz22_0 := blk_frozen BK267.out 0
     have hfz22_1 := blk_frozen BK267.out 1
     have hfz22_2 := blk_frozen BK267.out 2
     have hfz22_3 := blk_frozen BK267.out 3
     have hfz22_4 := blk_frozen BK267.out 4
     go_wp2_with (first | ((with_reducible refine gate_callee (f := 8) rfl ?_); refine goesL_ (some 21) rfl rfl Tryd.func8 (by kernel_rfl) rfl #[.agg #[.int .i64 a0_0, .int .i64 a0_1, .string a0_2, .int .i64 a0_3, .slice A0_4 l0_4.length c0_4], .int .i64 0] rfl (by (try simp only [List.map_toArray, List.map_cons, List.map_nil]); first | done | rfl | (simp only [List.length_drop, List.length_take]; rfl)) ?_; (with_reducible refine (withemade_CondSize.calls k a0_0 a0_1 a0_2 a0_3 _ _ l0_4 0 t271 _ ?side1 ?side2 A13.out).mono ?_); (case side1 => repeat (first | exact (Kd.C_below HR0_4.out HB.out) | (with_reducible refine Kd.C_alloc ?_ _) | (with_reducible refine Kd.C_drewN ?_ _) | (with_reducible refine Kd.C_drew ?_))); (case side2 => exact HC0_4.out); rintro e w23 ⟨rfl, hb⟩; refine ⟨_, rfl, ?_⟩; have n0_ := Aside0.mk (blk_below (g := gb267) (o := .cells #[.int .i64 a0_0, .int .i64 a0_1, .string a0_2, .int .i64 a0_3, .slice A0_4 l0_4.length c0_4] 24 (0, 0)) (by (with_reducible repeat (first | refine blk_drewN ?_ _ | refine blk_drew ?_ | refine blk_alloc ?_ _)); exact BK267.out) hb); have n1_ := Aside0.mk (blk_below (g := gb268) (o := .cells #[.slice A3_0 l3_0.length c3_0, .slice A3_1 l3_1.length c3_1] 30 (0, 0)) (by (with_reducible repeat (first | refine blk_drewN ?_ _ | refine blk_drew ?_ | refine blk_alloc ?_ _)); exact BK268.out) hb); have n2_ := Aside0.mk (blk_below (g := gb269) (o := .cells #[.slice A4_0 l4_0.length c4_0, .slice A4_1 l4_1.length c4_1] 30 (0, 0)) (by (with_reducible repeat (first | refine blk_drewN ?_ _ | refine blk_drew ?_ | refine blk_alloc ?_ _)); exact BK269.out) hb); have n3_ := Aside0.mk (below_step (by repeat (first | (with_reducible first | exact HB.out | apply below_alloc | apply pw_below_drewN | apply below_drew1 | refine below_set ?_ GE267.out | refine below_set ?_ GE268.out | refine below_set ?_ GE269.out) | exact HB.out)) hb); clear BK267; clear BK268; clear BK269; clear HB; have BK267 := n0_; have BK268 := n1_; have BK269 := n2_; have HB := n3_; clear n0_ n1_ n2_ n3_; (try clear hb); (try clear hb2); (try clear hk); (try clear hi)))
     go_meet
     case rel => exact ⟨_, (true), (by first | rfl | (simp; done) | (simp [*]; done)), H', ⟨by first | omega | exact Nat.le_refl _⟩, ⟨by (with_reducible repeat (first | refine blk_drewN ?_ _ | refine blk_drew ?_ | refine blk_alloc ?_ _)); exact BK267.out⟩, ⟨by (with_reducible repeat (first | refine blk_drewN ?_ _ | refine blk_drew ?_ | refine blk_alloc ?_ _)); exact BK268.out⟩, ⟨by (with_reducible repeat (first | refine blk_drewN ?_ _ | refine blk_drew ?_ | refine blk_alloc ?_ _)); exact BK269.out⟩, ⟨by repeat (first | (with_reducible first | exact HB.out | apply below_alloc | apply pw_below_drewN | apply below_drew1 | refine below_set ?_ GE267.out | refine below_set ?_ GE268.out | refine below_set ?_ GE269.out) | exact HB.out)⟩⟩
    ·rw [if_neg c19] at H
     have c19b0 : decide (6 < (l1.length : Int)) = false := decide_eq_false c19
     have c19b1 : decide (6 < l1.length) = false := decide_eq_false (by omega)
     clear c19
     by_cases c24 : (l2.length : Int) > 6
     ·rw [if_pos c24] at H
      have c24b0 : decide (6 < (l2.length : Int)) = true := decide_eq_true c24
      have c24b1 : decide (6 < l2.length) = true := decide_eq_true (by omega)
      clear c24
      have H' := Aside0.mk H
      clear H
      have hnb25 := NB267_268.out
      have hnc25 := NB268_267.out
      have hnb26 := NB267_269.out
      have hnc26 := NB269_267.out
      have hcz27_0 : w12.cell? ⟨gb267, 0, none⟩ = some (.int .i64 a0_0) := (blk_cell BK267.out 0).trans rfl
      have hcz27_1 : w12.cell? ⟨gb267, 1, none⟩ = some (.int .i64 a0_1) := (blk_cell BK267.out 1).trans rfl
      have hcz27_2 : w12.cell? ⟨gb267, 2, none⟩ = some (.string a0_2) := (blk_cell BK267.out 2).trans rfl
      have hcz27_3 : w12.cell? ⟨gb267, 3, none⟩ = some (.int .i64 a0_3) := (blk_cell BK267.out 3).trans rfl
      have hcz27_4 : w12.cell? ⟨gb267, 4, none⟩ = some (.slice A0_4 l0_4.length c0_4) := (blk_cell BK267.out 4).trans rfl
      have hfz27_0 := blk_frozen BK267.out 0
      have hfz27_1 := blk_frozen BK267.out 1
      have hfz27_2 := blk_frozen BK267.out 2
      have hfz27_3 := blk_frozen BK267.out 3
      have hfz27_4 := blk_frozen BK267.out 4
      go_wp2_with (first | ((with_reducible refine gate_callee (f := 8) rfl ?_); refine goesL_ (some 21) rfl rfl Tryd.func8 (by kernel_rfl) rfl #[.agg #[.int .i64 a0_0, .int .i64 a0_1, .string a0_2, .int .i64 a0_3, .slice A0_4 l0_4.length c0_4], .int .i64 0] rfl (by (try simp only [List.map_toArray, List.map_cons, List.map_nil]); first | done | rfl | (simp only [List.length_drop, List.length_take]; rfl)) ?_; (with_reducible refine (withemade_CondSize.calls k a0_0 a0_1 a0_2 a0_3 _ _ l0_4 0 t271 _ ?side1 ?side2 A13.out).mono ?_); (case side1 => repeat (first | exact (Kd.C_below HR0_4.out HB.out) | (with_reducible refine Kd.C_alloc ?_ _) | (with_reducible refine Kd.C_drewN ?_ _) | (with_reducible refine Kd.C_drew ?_))); (case side2 => exact HC0_4.out); rintro e w28 ⟨rfl, hb⟩; refine ⟨_, rfl, ?_⟩; have n0_ := Aside0.mk (blk_below (g := gb267) (o := .cells #[.int .i64 a0_0, .int .i64 a0_1, .string a0_2, .int .i64 a0_3, .slice A0_4 l0_4.length c0_4] 24 (0, 0)) (by (with_reducible repeat (first | refine blk_drewN ?_ _ | refine blk_drew ?_ | refine blk_alloc ?_ _)); exact BK267.out) hb); have n1_ := Aside0.mk (blk_below (g := gb268) (o := .cells #[.slice A3_0 l3_0.length c3_0, .slice A3_1 l3_1.length c3_1] 30 (0, 0)) (by (with_reducible repeat (first | refine blk_drewN ?_ _ | refine blk_drew ?_ | refine blk_alloc ?_ _)); exact BK268.out) hb); have n2_ := Aside0.mk (blk_below (g := gb269) (o := .cells #[.slice A4_0 l4_0.length c4_0, .slice A4_1 l4_1.length c4_1] 30 (0, 0)) (by (with_reducible repeat (first | refine blk_drewN ?_ _ | refine blk_drew ?_ | refine blk_alloc ?_ _)); exact BK269.out) hb); have n3_ := Aside0.mk (below_step (by repeat (first | (with_reducible first | exact HB.out | apply below_alloc | apply pw_below_drewN | apply below_drew1 | refine below_set ?_ GE267.out | refine below_set ?_ GE268.out | refine below_set ?_ GE269.out) | exact HB.out)) hb); clear BK267; clear BK268; clear BK269; clear HB; have BK267 := n0_; have BK268 := n1_; have BK269 := n2_; have HB := n3_; clear n0_ n1_ n2_ n3_; (try clear hb); (try clear hb2); (try clear hk); (try clear hi)))
      go_meet
      case rel => exact ⟨_, (true), (by first | rfl | (simp; done) | (simp [*]; done)), H', ⟨by first | omega | exact Nat.le_refl _⟩, ⟨by (with_reducible repeat (first | refine blk_drewN ?_ _ | refine blk_drew ?_ | refine blk_alloc ?_ _)); exact BK267.out⟩, ⟨by (with_reducible repeat (first | refine blk_drewN ?_ _ | refine blk_drew ?_ | refine blk_alloc ?_ _)); exact BK268.out⟩, ⟨by (with_reducible repeat (first | refine blk_drewN ?_ _ | refine blk_drew ?_ | refine blk_alloc ?_ _)); exact BK269.out⟩, ⟨by repeat (first | (with_reducible first | exact HB.out | apply below_alloc | apply pw_below_drewN | apply below_drew1 | refine below_set ?_ GE267.out | refine below_set ?_ GE268.out | refine below_set ?_ GE269.out) | exact HB.out)⟩⟩
     ·rw [if_neg c24] at H
      have c24b0 : decide (6 < (l2.length : Int)) = false := decide_eq_false c24
      have c24b1 : decide (6 < l2.length) = false := decide_eq_false (by omega)
      clear c24
      replace H := Option.bind_eq_some_iff.mp H
      obtain ⟨t272, A290, H⟩ := H
      replace H : (if t272 = true then ((withelaw11_light.f k l4_0 l4_1).bind fun t273 => (withelaw11_PostAll.j0 k l1 l2 (!t273) a0_0 a0_1 a0_2 a0_3 l0_4 l3_0 l3_1 l4_0 l4_1)) else (withelaw11_PostAll.j0 k l1 l2 true a0_0 a0_1 a0_2 a0_3 l0_4 l3_0 l3_1 l4_0 l4_1)) = some r := H
      have A29 := Aside0.mk A290
      clear A290
      by_cases c30 : t272 = true
      ·subst c30
       have H1 : ((withelaw11_light.f k l4_0 l4_1).bind fun t273 => (withelaw11_PostAll.j0 k l1 l2 (!t273) a0_0 a0_1 a0_2 a0_3 l0_4 l3_0 l3_1 l4_0 l4_1)) = some r := by rw [if_pos rfl] at H; exact H
       clear H
       have H := H1
       clear H1
       replace H := Option.bind_eq_some_iff.mp H
       obtain ⟨t273, A310, H⟩ := H
       replace H : (withelaw11_PostAll.j0 k l1 l2 (!t273) a0_0 a0_1 a0_2 a0_3 l0_4 l3_0 l3_1 l4_0 l4_1) = some r := H
       have A31 := Aside0.mk A310
       clear A310
       have H' := Aside0.mk H
       clear H
       have hnb32 := NB267_268.out
       have hnc32 := NB268_267.out
       have hnb33 := NB267_269.out
       have hnc33 := NB269_267.out
       have hcz34_0 : w12.cell? ⟨gb267, 0, none⟩ = some (.int .i64 a0_0) := (blk_cell BK267.out 0).trans rfl
       have hcz34_1 : w12.cell? ⟨gb267, 1, none⟩ = some (.int .i64 a0_1) := (blk_cell BK267.out 1).trans rfl
       have hcz34_2 : w12.cell? ⟨gb267, 2, none⟩ = some (.string a0_2) := (blk_cell BK267.out 2).trans rfl
       have hcz34_3 : w12.cell? ⟨gb267, 3, none⟩ = some (.int .i64 a0_3) := (blk_cell BK267.out 3).trans rfl
       have hcz34_4 : w12.cell? ⟨gb267, 4, none⟩ = some (.slice A0_4 l0_4.length c0_4) := (blk_cell BK267.out 4).trans rfl
       have hfz34_0 := blk_frozen BK267.out 0
       have hfz34_1 := blk_frozen BK267.out 1
       have hfz34_2 := blk_frozen BK267.out 2
       have hfz34_3 := blk_frozen BK267.out 3
       have hfz34_4 := blk_frozen BK267.out 4
       go_wp2_with (first | ((with_reducible refine gate_callee (f := 8) rfl ?_); refine goesL_ (some 21) rfl rfl Tryd.func8 (by kernel_rfl) rfl #[.agg #[.int .i64 a0_0, .int .i64 a0_1, .string a0_2, .int .i64 a0_3, .slice A0_4 l0_4.length c0_4], .int .i64 0] rfl (by (try simp only [List.map_toArray, List.map_cons, List.map_nil]); first | done | rfl | (simp only [List.length_drop, List.length_take]; rfl)) ?_; (with_reducible refine (withemade_CondSize.calls k a0_0 a0_1 a0_2 a0_3 _ _ l0_4 0 t271 _ ?side1 ?side2 A13.out).mono ?_); (case side1 => repeat (first | exact (Kd.C_below HR0_4.out HB.out) | (with_reducible refine Kd.C_alloc ?_ _) | (with_reducible refine Kd.C_drewN ?_ _) | (with_reducible refine Kd.C_drew ?_))); (case side2 => exact HC0_4.out); rintro e w35 ⟨rfl, hb⟩; refine ⟨_, rfl, ?_⟩; have n0_ := Aside0.mk (blk_below (g := gb267) (o := .cells #[.int .i64 a0_0, .int .i64 a0_1, .string a0_2, .int .i64 a0_3, .slice A0_4 l0_4.length c0_4] 24 (0, 0)) (by (with_reducible repeat (first | refine blk_drewN ?_ _ | refine blk_drew ?_ | refine blk_alloc ?_ _)); exact BK267.out) hb); have n1_ := Aside0.mk (blk_below (g := gb268) (o := .cells #[.slice A3_0 l3_0.length c3_0, .slice A3_1 l3_1.length c3_1] 30 (0, 0)) (by (with_reducible repeat (first | refine blk_drewN ?_ _ | refine blk_drew ?_ | refine blk_alloc ?_ _)); exact BK268.out) hb); have n2_ := Aside0.mk (blk_below (g := gb269) (o := .cells #[.slice A4_0 l4_0.length c4_0, .slice A4_1 l4_1.length c4_1] 30 (0, 0)) (by (with_reducible repeat (first | refine blk_drewN ?_ _ | refine blk_drew ?_ | refine blk_alloc ?_ _)); exact BK269.out) hb); have n3_ := Aside0.mk (below_step (by repeat (first | (with_reducible first | exact HB.out | apply below_alloc | apply pw_below_drewN | apply below_drew1 | refine below_set ?_ GE267.out | refine below_set ?_ GE268.out | refine below_set ?_ GE269.out) | exact HB.out)) hb); clear BK267; clear BK268; clear BK269; clear HB; have BK267 := n0_; have BK268 := n1_; have BK269 := n2_; have HB := n3_; clear n0_ n1_ n2_ n3_; (try clear hb); (try clear hb2); (try clear hk); (try clear hi); have hnb36 := NB268_269.out; have hnc36 := NB269_268.out; have hcz37_0 : w35.cell? ⟨gb268, 0, none⟩ = some (.slice A3_0 l3_0.length c3_0) := (blk_cell BK268.out 0).trans rfl; have hcz37_1 : w35.cell? ⟨gb268, 1, none⟩ = some (.slice A3_1 l3_1.length c3_1) := (blk_cell BK268.out 1).trans rfl; have hfz37_0 := blk_frozen BK268.out 0; have hfz37_1 := blk_frozen BK268.out 1) | ((first | ((with_reducible refine gate_callee (f := 9) rfl ?_); (refine gate_guard (by rfl) ?_; dsimp only); refine goesL_ (some 35) rfl rfl Tryd.func9 (by kernel_rfl) rfl #[.agg #[.slice A3_0 l3_0.length c3_0, .slice A3_1 l3_1.length c3_1]] rfl (by (try simp only [List.map_toArray, List.map_cons, List.map_nil]); first | done | rfl | (simp only [List.length_drop, List.length_take]; rfl)) ?_; (with_reducible refine (withelaw11_light.calls k _ _ l3_0 _ _ l3_1 true _ ?side1 ?side2 ?side3 ?side4 A29.out).mono ?_); (case side1 => repeat (first | exact (Kd.C_below HR3_0.out HB.out) | (with_reducible refine Kd.C_alloc ?_ _) | (with_reducible refine Kd.C_drewN ?_ _) | (with_reducible refine Kd.C_drew ?_))); (case side2 => exact HC3_0.out); (case side3 => repeat (first | exact (Kd.C_below HR3_1.out HB.out) | (with_reducible refine Kd.C_alloc ?_ _) | (with_reducible refine Kd.C_drewN ?_ _) | (with_reducible refine Kd.C_drew ?_))); (case side4 => exact HC3_1.out); rintro e w38 ⟨rfl, hb⟩; refine ⟨_, rfl, ?_⟩; have n0_ := Aside0.mk (blk_below (g := gb267) (o := .cells #[.int .i64 a0_0, .int .i64 a0_1, .string a0_2, .int .i64 a0_3, .slice A0_4 l0_4.length c0_4] 24 (0, 0)) (by (with_reducible repeat (first | refine blk_drewN ?_ _ | refine blk_drew ?_ | refine blk_alloc ?_ _)); exact BK267.out) hb); have n1_ := Aside0.mk (blk_below (g := gb268) (o := .cells #[.slice A3_0 l3_0.length c3_0, .slice A3_1 l3_1.length c3_1] 30 (0, 0)) (by (with_reducible repeat (first | refine blk_drewN ?_ _ | refine blk_drew ?_ | refine blk_alloc ?_ _)); exact BK268.out) hb); have n2_ := Aside0.mk (blk_below (g := gb269) (o := .cells #[.slice A4_0 l4_0.length c4_0, .slice A4_1 l4_1.length c4_1] 30 (0, 0)) (by (with_reducible repeat (first | refine blk_drewN ?_ _ | refine blk_drew ?_ | refine blk_alloc ?_ _)); exact BK269.out) hb); have n3_ := Aside0.mk (below_step (by repeat (first | (with_reducible first | exact HB.out | apply below_alloc | apply pw_below_drewN | apply below_drew1 | refine below_set ?_ GE267.out | refine below_set ?_ GE268.out | refine below_set ?_ GE269.out) | exact HB.out)) hb); clear BK267; clear BK268; clear BK269; clear HB; have BK267 := n0_; have BK268 := n1_; have BK269 := n2_; have HB := n3_; clear n0_ n1_ n2_ n3_; (try clear hb); (try clear hb2); (try clear hk); (try clear hi)) | (go_at_call 9; (with_reducible refine (withelaw11_light.calls k _ _ l3_0 _ _ l3_1 true _ ?side1 ?side2 ?side3 ?side4 A29.out).mono ?_); (case side1 => repeat (first | exact (Kd.C_below HR3_0.out HB.out) | (with_reducible refine Kd.C_alloc ?_ _) | (with_reducible refine Kd.C_drewN ?_ _) | (with_reducible refine Kd.C_drew ?_))); (case side2 => exact HC3_0.out); (case side3 => repeat (first | exact (Kd.C_below HR3_1.out HB.out) | (with_reducible refine Kd.C_alloc ?_ _) | (with_reducible refine Kd.C_drewN ?_ _) | (with_reducible refine Kd.C_drew ?_))); (case side4 => exact HC3_1.out); rintro e w38 ⟨rfl, hb⟩; have n0_ := Aside0.mk (blk_below (g := gb267) (o := .cells #[.int .i64 a0_0, .int .i64 a0_1, .string a0_2, .int .i64 a0_3, .slice A0_4 l0_4.length c0_4] 24 (0, 0)) (by (with_reducible repeat (first | refine blk_drewN ?_ _ | refine blk_drew ?_ | refine blk_alloc ?_ _)); exact BK267.out) hb); have n1_ := Aside0.mk (blk_below (g := gb268) (o := .cells #[.slice A3_0 l3_0.length c3_0, .slice A3_1 l3_1.length c3_1] 30 (0, 0)) (by (with_reducible repeat (first | refine blk_drewN ?_ _ | refine blk_drew ?_ | refine blk_alloc ?_ _)); exact BK268.out) hb); have n2_ := Aside0.mk (blk_below (g := gb269) (o := .cells #[.slice A4_0 l4_0.length c4_0, .slice A4_1 l4_1.length c4_1] 30 (0, 0)) (by (with_reducible repeat (first | refine blk_drewN ?_ _ | refine blk_drew ?_ | refine blk_alloc ?_ _)); exact BK269.out) hb); have n3_ := Aside0.mk (below_step (by repeat (first | (with_reducible first | exact HB.out | apply below_alloc | apply pw_below_drewN | apply below_drew1 | refine below_set ?_ GE267.out | refine below_set ?_ GE268.out | refine below_set ?_ GE269.out) | exact HB.out)) hb); clear BK267; clear BK268; clear BK269; clear HB; have BK267 := n0_; have BK268 := n1_; have BK269 := n2_; have HB := n3_; clear n0_ n1_ n2_ n3_; (try clear hb); (try clear hb2); (try clear hk); (try clear hi))); have hcz39_0 : w38.cell? ⟨gb269, 0, none⟩ = some (.slice A4_0 l4_0.length c4_0) := (blk_cell BK269.out 0).trans rfl; have hcz39_1 : w38.cell? ⟨gb269, 1, none⟩ = some (.slice A4_1 l4_1.length c4_1) := (blk_cell BK269.out 1).trans rfl; have hfz39_0 := blk_frozen BK269.out 0; have hfz39_1 := blk_frozen BK269.out 1) | ((first | ((with_reducible refine gate_callee (f := 9) rfl ?_); (refine gate_guard (by rfl) ?_; dsimp only); refine goesL_ (some 40) rfl rfl Tryd.func9 (by kernel_rfl) rfl #[.agg #[.slice A4_0 l4_0.length c4_0, .slice A4_1 l4_1.length c4_1]] rfl (by (try simp only [List.map_toArray, List.map_cons, List.map_nil]); first | done | rfl | (simp only [List.length_drop, List.length_take]; rfl)) ?_; (with_reducible refine (withelaw11_light.calls k _ _ l4_0 _ _ l4_1 t273 _ ?side1 ?side2 ?side3 ?side4 A31.out).mono ?_); (case side1 => repeat (first | exact (Kd.C_below HR4_0.out HB.out) | (with_reducible refine Kd.C_alloc ?_ _) | (with_reducible refine Kd.C_drewN ?_ _) | (with_reducible refine Kd.C_drew ?_))); (case side2 => exact HC4_0.out); (case side3 => repeat (first | exact (Kd.C_below HR4_1.out HB.out) | (with_reducible refine Kd.C_alloc ?_ _) | (with_reducible refine Kd.C_drewN ?_ _) | (with_reducible refine Kd.C_drew ?_))); (case side4 => exact HC4_1.out); rintro e w40 ⟨rfl, hb⟩; refine ⟨_, rfl, ?_⟩; have n0_ := Aside0.mk (blk_below (g := gb267) (o := .cells #[.int .i64 a0_0, .int .i64 a0_1, .string a0_2, .int .i64 a0_3, .slice A0_4 l0_4.length c0_4] 24 (0, 0)) (by (with_reducible repeat (first | refine blk_drewN ?_ _ | refine blk_drew ?_ | refine blk_alloc ?_ _)); exact BK267.out) hb); have n1_ := Aside0.mk (blk_below (g := gb268) (o := .cells #[.slice A3_0 l3_0.length c3_0, .slice A3_1 l3_1.length c3_1] 30 (0, 0)) (by (with_reducible repeat (first | refine blk_drewN ?_ _ | refine blk_drew ?_ | refine blk_alloc ?_ _)); exact BK268.out) hb); have n2_ := Aside0.mk (blk_below (g := gb269) (o := .cells #[.slice A4_0 l4_0.length c4_0, .slice A4_1 l4_1.length c4_1] 30 (0, 0)) (by (with_reducible repeat (first | refine blk_drewN ?_ _ | refine blk_drew ?_ | refine blk_alloc ?_ _)); exact BK269.out) hb); have n3_ := Aside0.mk (below_step (by repeat (first | (with_reducible first | exact HB.out | apply below_alloc | apply pw_below_drewN | apply below_drew1 | refine below_set ?_ GE267.out | refine below_set ?_ GE268.out | refine below_set ?_ GE269.out) | exact HB.out)) hb); clear BK267; clear BK268; clear BK269; clear HB; have BK267 := n0_; have BK268 := n1_; have BK269 := n2_; have HB := n3_; clear n0_ n1_ n2_ n3_; (try clear hb); (try clear hb2); (try clear hk); (try clear hi)) | (go_at_call 9; (with_reducible refine (withelaw11_light.calls k _ _ l4_0 _ _ l4_1 t273 _ ?side1 ?side2 ?side3 ?side4 A31.out).mono ?_); (case side1 => repeat (first | exact (Kd.C_below HR4_0.out HB.out) | (with_reducible refine Kd.C_alloc ?_ _) | (with_reducible refine Kd.C_drewN ?_ _) | (with_reducible refine Kd.C_drew ?_))); (case side2 => exact HC4_0.out); (case side3 => repeat (first | exact (Kd.C_below HR4_1.out HB.out) | (with_reducible refine Kd.C_alloc ?_ _) | (with_reducible refine Kd.C_drewN ?_ _) | (with_reducible refine Kd.C_drew ?_))); (case side4 => exact HC4_1.out); rintro e w40 ⟨rfl, hb⟩; have n0_ := Aside0.mk (blk_below (g := gb267) (o := .cells #[.int .i64 a0_0, .int .i64 a0_1, .string a0_2, .int .i64 a0_3, .slice A0_4 l0_4.length c0_4] 24 (0, 0)) (by (with_reducible repeat (first | refine blk_drewN ?_ _ | refine blk_drew ?_ | refine blk_alloc ?_ _)); exact BK267.out) hb); have n1_ := Aside0.mk (blk_below (g := gb268) (o := .cells #[.slice A3_0 l3_0.length c3_0, .slice A3_1 l3_1.length c3_1] 30 (0, 0)) (by (with_reducible repeat (first | refine blk_drewN ?_ _ | refine blk_drew ?_ | refine blk_alloc ?_ _)); exact BK268.out) hb); have n2_ := Aside0.mk (blk_below (g := gb269) (o := .cells #[.slice A4_0 l4_0.length c4_0, .slice A4_1 l4_1.length c4_1] 30 (0, 0)) (by (with_reducible repeat (first | refine blk_drewN ?_ _ | refine blk_drew ?_ | refine blk_alloc ?_ _)); exact BK269.out) hb); have n3_ := Aside0.mk (below_step (by repeat (first | (with_reducible first | exact HB.out | apply below_alloc | apply pw_below_drewN | apply below_drew1 | refine below_set ?_ GE267.out | refine below_set ?_ GE268.out | refine below_set ?_ GE269.out) | exact HB.out)) hb); clear BK267; clear BK268; clear BK269; clear HB; have BK267 := n0_; have BK268 := n1_; have BK269 := n2_; have HB := n3_; clear n0_ n1_ n2_ n3_; (try clear hb); (try clear hb2); (try clear hk); (try clear hi)))))
       go_meet
       case rel => exact ⟨_, (!t273), (by first | rfl | (simp; done) | (simp [*]; done)), H', ⟨by first | omega | exact Nat.le_refl _⟩, ⟨by (with_reducible repeat (first | refine blk_drewN ?_ _ | refine blk_drew ?_ | refine blk_alloc ?_ _)); exact BK267.out⟩, ⟨by (with_reducible repeat (first | refine blk_drewN ?_ _ | refine blk_drew ?_ | refine blk_alloc ?_ _)); exact BK268.out⟩, ⟨by (with_reducible repeat (first | refine blk_drewN ?_ _ | refine blk_drew ?_ | refine blk_alloc ?_ _)); exact BK269.out⟩, ⟨by repeat (first | (with_reducible first | exact HB.out | apply below_alloc | apply pw_below_drewN | apply below_drew1 | refine below_set ?_ GE267.out | refine below_set ?_ GE268.out | refine below_set ?_ GE269.out) | exact HB.out)⟩⟩
      ·replace c30 := Bool.eq_false_iff.mpr c30
       subst c30
       have H1 : (withelaw11_PostAll.j0 k l1 l2 true a0_0 a0_1 a0_2 a0_3 l0_4 l3_0 l3_1 l4_0 l4_1) = some r := by rw [if_neg (show ¬ (false = true) by decide)] at H; exact H
       clear H
       have H := H1
       clear H1
       have H' := Aside0.mk H
       clear H
       have hnb41 := NB267_268.out
       have hnc41 := NB268_267.out
       have hnb42 := NB267_269.out
       have hnc42 := NB269_267.out
       have hcz43_0 : w12.cell? ⟨gb267, 0, none⟩ = some (.int .i64 a0_0) := (blk_cell BK267.out 0).trans rfl
       have hcz43_1 : w12.cell? ⟨gb267, 1, none⟩ = some (.int .i64 a0_1) := (blk_cell BK267.out 1).trans rfl
       have hcz43_2 : w12.cell? ⟨gb267, 2, none⟩ = some (.string a0_2) := (blk_cell BK267.out 2).trans rfl
       have hcz43_3 : w12.cell? ⟨gb267, 3, none⟩ = some (.int .i64 a0_3) := (blk_cell BK267.out 3).trans rfl
       have hcz43_4 : w12.cell? ⟨gb267, 4, none⟩ = some (.slice A0_4 l0_4.length c0_4) := (blk_cell BK267.out 4).trans rfl
       have hfz43_0 := blk_frozen BK267.out 0
       have hfz43_1 := blk_frozen BK267.out 1
       have hfz43_2 := blk_frozen BK267.out 2
       have hfz43_3 := blk_frozen BK267.out 3
       have hfz43_4 := blk_frozen BK267.out 4
       go_wp2_with (first | ((with_reducible refine gate_callee (f := 8) rfl ?_); refine goesL_ (some 21) rfl rfl Tryd.func8 (by kernel_rfl) rfl #[.agg #[.int .i64 a0_0, .int .i64 a0_1, .string a0_2, .int .i64 a0_3, .slice A0_4 l0_4.length c0_4], .int .i64 0] rfl (by (try simp only [List.map_toArray, List.map_cons, List.map_nil]); first | done | rfl | (simp only [List.length_drop, List.length_take]; rfl)) ?_; (with_reducible refine (withemade_CondSize.calls k a0_0 a0_1 a0_2 a0_3 _ _ l0_4 0 t271 _ ?side1 ?side2 A13.out).mono ?_); (case side1 => repeat (first | exact (Kd.C_below HR0_4.out HB.out) | (with_reducible refine Kd.C_alloc ?_ _) | (with_reducible refine Kd.C_drewN ?_ _) | (with_reducible refine Kd.C_drew ?_))); (case side2 => exact HC0_4.out); rintro e w44 ⟨rfl, hb⟩; refine ⟨_, rfl, ?_⟩; have n0_ := Aside0.mk (blk_below (g := gb267) (o := .cells #[.int .i64 a0_0, .int .i64 a0_1, .string a0_2, .int .i64 a0_3, .slice A0_4 l0_4.length c0_4] 24 (0, 0)) (by (with_reducible repeat (first | refine blk_drewN ?_ _ | refine blk_drew ?_ | refine blk_alloc ?_ _)); exact BK267.out) hb); have n1_ := Aside0.mk (blk_below (g := gb268) (o := .cells #[.slice A3_0 l3_0.length c3_0, .slice A3_1 l3_1.length c3_1] 30 (0, 0)) (by (with_reducible repeat (first | refine blk_drewN ?_ _ | refine blk_drew ?_ | refine blk_alloc ?_ _)); exact BK268.out) hb); have n2_ := Aside0.mk (blk_below (g := gb269) (o := .cells #[.slice A4_0 l4_0.length c4_0, .slice A4_1 l4_1.length c4_1] 30 (0, 0)) (by (with_reducible repeat (first | refine blk_drewN ?_ _ | refine blk_drew ?_ | refine blk_alloc ?_ _)); exact BK269.out) hb); have n3_ := Aside0.mk (below_step (by repeat (first | (with_reducible first | exact HB.out | apply below_alloc | apply pw_below_drewN | apply below_drew1 | refine below_set ?_ GE267.out | refine below_set ?_ GE268.out | refine below_set ?_ GE269.out) | exact HB.out)) hb); clear BK267; clear BK268; clear BK269; clear HB; have BK267 := n0_; have BK268 := n1_; have BK269 := n2_; have HB := n3_; clear n0_ n1_ n2_ n3_; (try clear hb); (try clear hb2); (try clear hk); (try clear hi); have hnb45 := NB268_269.out; have hnc45 := NB269_268.out; have hcz46_0 : w44.cell? ⟨gb268, 0, none⟩ = some (.slice A3_0 l3_0.length c3_0) := (blk_cell BK268.out 0).trans rfl; have hcz46_1 : w44.cell? ⟨gb268, 1, none⟩ = some (.slice A3_1 l3_1.length c3_1) := (blk_cell BK268.out 1).trans rfl; have hfz46_0 := blk_frozen BK268.out 0; have hfz46_1 := blk_frozen BK268.out 1) | ((first | ((with_reducible refine gate_callee (f := 9) rfl ?_); (refine gate_guard (by rfl) ?_; dsimp only); refine goesL_ (some 35) rfl rfl Tryd.func9 (by kernel_rfl) rfl #[.agg #[.slice A3_0 l3_0.length c3_0, .slice A3_1 l3_1.length c3_1]] rfl (by (try simp only [List.map_toArray, List.map_cons, List.map_nil]); first | done | rfl | (simp only [List.length_drop, List.length_take]; rfl)) ?_; (with_reducible refine (withelaw11_light.calls k _ _ l3_0 _ _ l3_1 false _ ?side1 ?side2 ?side3 ?side4 A29.out).mono ?_); (case side1 => repeat (first | exact (Kd.C_below HR3_0.out HB.out) | (with_reducible refine Kd.C_alloc ?_ _) | (with_reducible refine Kd.C_drewN ?_ _) | (with_reducible refine Kd.C_drew ?_))); (case side2 => exact HC3_0.out); (case side3 => repeat (first | exact (Kd.C_below HR3_1.out HB.out) | (with_reducible refine Kd.C_alloc ?_ _) | (with_reducible refine Kd.C_drewN ?_ _) | (with_reducible refine Kd.C_drew ?_))); (case side4 => exact HC3_1.out); rintro e w47 ⟨rfl, hb⟩; refine ⟨_, rfl, ?_⟩; have n0_ := Aside0.mk (blk_below (g := gb267) (o := .cells #[.int .i64 a0_0, .int .i64 a0_1, .string a0_2, .int .i64 a0_3, .slice A0_4 l0_4.length c0_4] 24 (0, 0)) (by (with_reducible repeat (first | refine blk_drewN ?_ _ | refine blk_drew ?_ | refine blk_alloc ?_ _)); exact BK267.out) hb); have n1_ := Aside0.mk (blk_below (g := gb268) (o := .cells #[.slice A3_0 l3_0.length c3_0, .slice A3_1 l3_1.length c3_1] 30 (0, 0)) (by (with_reducible repeat (first | refine blk_drewN ?_ _ | refine blk_drew ?_ | refine blk_alloc ?_ _)); exact BK268.out) hb); have n2_ := Aside0.mk (blk_below (g := gb269) (o := .cells #[.slice A4_0 l4_0.length c4_0, .slice A4_1 l4_1.length c4_1] 30 (0, 0)) (by (with_reducible repeat (first | refine blk_drewN ?_ _ | refine blk_drew ?_ | refine blk_alloc ?_ _)); exact BK269.out) hb); have n3_ := Aside0.mk (below_step (by repeat (first | (with_reducible first | exact HB.out | apply below_alloc | apply pw_below_drewN | apply below_drew1 | refine below_set ?_ GE267.out | refine below_set ?_ GE268.out | refine below_set ?_ GE269.out) | exact HB.out)) hb); clear BK267; clear BK268; clear BK269; clear HB; have BK267 := n0_; have BK268 := n1_; have BK269 := n2_; have HB := n3_; clear n0_ n1_ n2_ n3_; (try clear hb); (try clear hb2); (try clear hk); (try clear hi)) | (go_at_call 9; (with_reducible refine (withelaw11_light.calls k _ _ l3_0 _ _ l3_1 false _ ?side1 ?side2 ?side3 ?side4 A29.out).mono ?_); (case side1 => repeat (first | exact (Kd.C_below HR3_0.out HB.out) | (with_reducible refine Kd.C_alloc ?_ _) | (with_reducible refine Kd.C_drewN ?_ _) | (with_reducible refine Kd.C_drew ?_))); (case side2 => exact HC3_0.out); (case side3 => repeat (first | exact (Kd.C_below HR3_1.out HB.out) | (with_reducible refine Kd.C_alloc ?_ _) | (with_reducible refine Kd.C_drewN ?_ _) | (with_reducible refine Kd.C_drew ?_))); (case side4 => exact HC3_1.out); rintro e w47 ⟨rfl, hb⟩; have n0_ := Aside0.mk (blk_below (g := gb267) (o := .cells #[.int .i64 a0_0, .int .i64 a0_1, .string a0_2, .int .i64 a0_3, .slice A0_4 l0_4.length c0_4] 24 (0, 0)) (by (with_reducible repeat (first | refine blk_drewN ?_ _ | refine blk_drew ?_ | refine blk_alloc ?_ _)); exact BK267.out) hb); have n1_ := Aside0.mk (blk_below (g := gb268) (o := .cells #[.slice A3_0 l3_0.length c3_0, .slice A3_1 l3_1.length c3_1] 30 (0, 0)) (by (with_reducible repeat (first | refine blk_drewN ?_ _ | refine blk_drew ?_ | refine blk_alloc ?_ _)); exact BK268.out) hb); have n2_ := Aside0.mk (blk_below (g := gb269) (o := .cells #[.slice A4_0 l4_0.length c4_0, .slice A4_1 l4_1.length c4_1] 30 (0, 0)) (by (with_reducible repeat (first | refine blk_drewN ?_ _ | refine blk_drew ?_ | refine blk_alloc ?_ _)); exact BK269.out) hb); have n3_ := Aside0.mk (below_step (by repeat (first | (with_reducible first | exact HB.out | apply below_alloc | apply pw_below_drewN | apply below_drew1 | refine below_set ?_ GE267.out | refine below_set ?_ GE268.out | refine below_set ?_ GE269.out) | exact HB.out)) hb); clear BK267; clear BK268; clear BK269; clear HB; have BK267 := n0_; have BK268 := n1_; have BK269 := n2_; have HB := n3_; clear n0_ n1_ n2_ n3_; (try clear hb); (try clear hb2); (try clear hk); (try clear hi)))))
       go_meet
       case rel => exact ⟨_, (true), (by first | rfl | (simp; done) | (simp [*]; done)), H', ⟨by first | omega | exact Nat.le_refl _⟩, ⟨by (with_reducible repeat (first | refine blk_drewN ?_ _ | refine blk_drew ?_ | refine blk_alloc ?_ _)); exact BK267.out⟩, ⟨by (with_reducible repeat (first | refine blk_drewN ?_ _ | refine blk_drew ?_ | refine blk_alloc ?_ _)); exact BK268.out⟩, ⟨by (with_reducible repeat (first | refine blk_drewN ?_ _ | refine blk_drew ?_ | refine blk_alloc ?_ _)); exact BK269.out⟩, ⟨by repeat (first | (with_reducible first | exact HB.out | apply below_alloc | apply pw_below_drewN | apply below_drew1 | refine below_set ?_ GE267.out | refine below_set ?_ GE268.out | refine below_set ?_ GE269.out) | exact HB.out)⟩⟩
  case rest =>
   clear HC8
   try clear c1
   try clear c2
   try clear p2
   try clear c3
   try clear c4
   try clear c7
   try clear c8
   try clear c9
   try clear c14
   try clear c14b0
   try clear c15
   try clear c16
   try clear c19
   try clear c19b0
   try clear c19b1
   try clear c20
   try clear c21
   try clear c24
   try clear c24b0
   try clear c24b1
   try clear c25
   try clear c26
   try clear c30
   try clear c32
   try clear c33
   try clear c36
   try clear c41
   try clear c42
   try clear c45
   try clear hcz17_0
   try clear hcz17_1
   try clear hcz17_2
   try clear hcz17_3
   try clear hcz17_4
   try clear hcz22_0
   try clear hcz22_1
   try clear hcz22_2
   try clear hcz22_3
   try clear hcz22_4
   try clear hcz27_0
   try clear hcz27_1
   try clear hcz27_2
   try clear hcz27_3
   try clear hcz27_4
   try clear hcz34_0
   try clear hcz34_1
   try clear hcz34_2
   try clear hcz34_3
   try clear hcz34_4
   try clear hcz37_0
   try clear hcz37_1
   try clear hcz39_0
   try clear hcz39_1
   try clear hcz43_0
   try clear hcz43_1
   try clear hcz43_2
   try clear hcz43_3
   try clear hcz43_4
   try clear hcz46_0
   try clear hcz46_1
   try clear hfz17_0
   try clear hfz17_1
   try clear hfz17_2
   try clear hfz17_3
   try clear hfz17_4
   try clear hfz22_0
   try clear hfz22_1
   try clear hfz22_2
   try clear hfz22_3
   try clear hfz22_4
   try clear hfz27_0
   try clear hfz27_1
   try clear hfz27_2
   try clear hfz27_3
   try clear hfz27_4
   try clear hfz34_0
   try clear hfz34_1
   try clear hfz34_2
   try clear hfz34_3
   try clear hfz34_4
   try clear hfz37_0
   try clear hfz37_1
   try clear hfz39_0
   try clear hfz39_1
   try clear hfz43_0
   try clear hfz43_1
   try clear hfz43_2
   try clear hfz43_3
   try clear hfz43_4
   try clear hfz46_0
   try clear hfz46_1
   obtain ⟨kq, x42_7, rfl, HA, HJ7, BK267, BK268, BK269, HB⟩ := hcut
   cases kq with
   | zero => exact absurd HA.out (by simp [withelaw11_PostAll.j0])
   | succ kj7 =>
    have H := HA.out
    clear HA
    simp only [withelaw11_PostAll.j0] at H
    by_cases c48 : x42_7 = true
    ·subst c48
     have H1 : (some true) = some r := by rw [if_pos rfl] at H; exact H
     clear H
     have H := H1
     clear H1
     obtain rfl := Option.some.inj H
     go_wp2
     go_ret
     exact ⟨by first | rfl | (simp [errW_none, errW_some] <;> rfl) | (simp [*, errW_none, errW_some] <;> rfl), by repeat (first | (with_reducible first | exact HB.out | apply below_alloc | apply pw_below_drewN | apply below_drew1 | refine below_set ?_ GE267.out | refine below_set ?_ GE268.out | refine below_set ?_ GE269.out) | exact HB.out)⟩
    ·replace c48 := Bool.eq_false_iff.mpr c48
     subst c48
     have H1 : (withelaw11_PostAll.l0 kj7 l1 l2 0 a0_0 a0_1 a0_2 a0_3 l0_4 l3_0 l3_1 l4_0 l4_1) = some r := by rw [if_neg (show ¬ (false = true) by decide)] at H; exact H
     clear H
     have H := H1
     clear H1
     have H' := Aside0.mk H
     clear H
     go_wp2
     try go_simp
     go_loopg [11] kj7 (fun kq v11 w' => ∃ (x11_2 : Int), v11 = .int .i64 x11_2 ∧ Aside0 (withelaw11_PostAll.l0 kq l1 l2 x11_2 a0_0 a0_1 a0_2 a0_3 l0_4 l3_0 l3_1 l4_0 l4_1 = some r) ∧ Aside0 (kq ≤ kj7) ∧ Aside0 (w'.heap[gb267]? = some (.cells #[.int .i64 a0_0, .int .i64 a0_1, .string a0_2, .int .i64 a0_3, (.slice A0_4 l0_4.length c0_4)] 24 (0, 0))) ∧ Aside0 (w'.heap[gb268]? = some (.cells #[(.slice A3_0 l3_0.length c3_0), (.slice A3_1 l3_1.length c3_1)] 30 (0, 0))) ∧ Aside0 (w'.heap[gb269]? = some (.cells #[(.slice A4_0 l4_0.length c4_0), (.slice A4_1 l4_1.length c4_1)] 30 (0, 0))) ∧ Aside0 (Below w.heap.size w w'))
     case atStart => exact ⟨(0), (by first | rfl | (simp; done) | (simp [*]; done)), H', ⟨Nat.le_refl _⟩, ⟨by (with_reducible repeat (first | refine blk_drewN ?_ _ | refine blk_drew ?_ | refine blk_alloc ?_ _)); exact BK267.out⟩, ⟨by (with_reducible repeat (first | refine blk_drewN ?_ _ | refine blk_drew ?_ | refine blk_alloc ?_ _)); exact BK268.out⟩, ⟨by (with_reducible repeat (first | refine blk_drewN ?_ _ | refine blk_drew ?_ | refine blk_alloc ?_ _)); exact BK269.out⟩, ⟨by repeat (first | (with_reducible first | exact HB.out | apply below_alloc | apply pw_below_drewN | apply below_drew1 | refine below_set ?_ GE267.out | refine below_set ?_ GE268.out | refine below_set ?_ GE269.out) | exact HB.out)⟩⟩
     case round =>
      clear H'
      try clear c1
      try clear c2
      try clear p2
      try clear c3
      try clear c4
      try clear c7
      try clear c8
      try clear c9
      try clear c14
      try clear c14b0
      try clear c15
      try clear c16
      try clear c19
      try clear c19b0
      try clear c19b1
      try clear c20
      try clear c21
      try clear c24
      try clear c24b0
      try clear c24b1
      try clear c25
      try clear c26
      try clear c30
      try clear c32
      try clear c33
      try clear c36
      try clear c41
      try clear c42
      try clear c45
      try clear c48
      try clear hcz17_0
      try clear hcz17_1
      try clear hcz17_2
      try clear hcz17_3
      try clear hcz17_4
      try clear hcz22_0
      try clear hcz22_1
      try clear hcz22_2
      try clear hcz22_3
      try clear hcz22_4
      try clear hcz27_0
      try clear hcz27_1
      try clear hcz27_2
      try clear hcz27_3
      try clear hcz27_4
      try clear hcz34_0
      try clear hcz34_1
      try clear hcz34_2
      try clear hcz34_3
      try clear hcz34_4
      try clear hcz37_0
      try clear hcz37_1
      try clear hcz39_0
      try clear hcz39_1
      try clear hcz43_0
      try clear hcz43_1
      try clear hcz43_2
      try clear hcz43_3
      try clear hcz43_4
      try clear hcz46_0
      try clear hcz46_1
      try clear hfz17_0
      try clear hfz17_1
      try clear hfz17_2
      try clear hfz17_3
      try clear hfz17_4
      try clear hfz22_0
      try clear hfz22_1
      try clear hfz22_2
      try clear hfz22_3
      try clear hfz22_4
      try clear hfz27_0
      try clear hfz27_1
      try clear hfz27_2
      try clear hfz27_3
      try clear hfz27_4
      try clear hfz34_0
      try clear hfz34_1
      try clear hfz34_2
      try clear hfz34_3
      try clear hfz34_4
      try clear hfz37_0
      try clear hfz37_1
      try clear hfz39_0
      try clear hfz39_1
      try clear hfz43_0
      try clear hfz43_1
      try clear hfz43_2
      try clear hfz43_3
      try clear hfz43_4
      try clear hfz46_0
      try clear hfz46_1
      try clear p2
      obtain ⟨x11_2, rfl, HA, HK2, BK267, BK268, BK269, HB⟩ := hrel
      cases gk with
      | zero => exact absurd HA.out (by simp [withelaw11_PostAll.l0])
      | succ k2 =>
       have H := HA.out
       clear HA
       simp only [withelaw11_PostAll.l0] at H
       by_cases c49 : x11_2 < (l1.length : Int)
       ·rw [if_pos c49] at H
        have c49b0 : decide (x11_2 < (l1.length : Int)) = true := decide_eq_true c49
        clear c49
        by_cases c50 : 0 ≤ x11_2
        ·rw [if_pos c50] at H
         have c50b0 : decide (0 ≤ x11_2) = true := decide_eq_true c50
         clear c50
         by_cases c51 : ((rdOf ByteArray.empty l1 x11_2).size : Int) > 40
         ·rw [if_pos c51] at H
          have c51b0 : decide (40 < ((rdOf ByteArray.empty l1 x11_2).size : Int)) = true := decide_eq_true c51
          have c51b1 : decide (40 < (rdOf ByteArray.empty l1 x11_2).size) = true := decide_eq_true (by omega)
          clear c51
          obtain rfl := Option.some.inj H
          have p274 : 0 ≤ (x11_2 : Int) := of_decide_eq_true (by first | (with_reducible assumption) | assumption)
          have q274 : x11_2 < (l1.length : Int) := of_decide_eq_true (by first | (with_reducible assumption) | assumption)
          obtain ⟨ad274, e274, hx274_0⟩ := Kd.at_string HR1.out x11_2 p274 q274
          cases e274
          replace hx274_0 := (HB.out.cell (World.block_lt_of_cell? w _ hx274_0)).trans hx274_0
          replace p274 := eq_true p274
          replace q274 := eq_true q274
          go_wp2
          go_ret
          exact ⟨by first | rfl | (simp [errW_none, errW_some] <;> rfl) | (simp [*, errW_none, errW_some] <;> rfl), by repeat (first | (with_reducible first | exact HB.out | apply below_alloc | apply pw_below_drewN | apply below_drew1 | refine below_set ?_ GE267.out | refine below_set ?_ GE268.out | refine below_set ?_ GE269.out) | exact HB.out)⟩
         ·rw [if_neg c51] at H
          have c51b0 : decide (40 < ((rdOf ByteArray.empty l1 x11_2).size : Int)) = false := decide_eq_false c51
          have c51b1 : decide (40 < (rdOf ByteArray.empty l1 x11_2).size) = false := decide_eq_false (by omega)
          clear c51
          have H' := Aside0.mk H
          clear H
          have p274 : 0 ≤ (x11_2 : Int) := of_decide_eq_true (by first | (with_reducible assumption) | assumption)
          have q274 : x11_2 < (l1.length : Int) := of_decide_eq_true (by first | (with_reducible assumption) | assumption)
          obtain ⟨ad274, e274, hx274_0⟩ := Kd.at_string HR1.out x11_2 p274 q274
          cases e274
          replace hx274_0 := (HB.out.cell (World.block_lt_of_cell? w _ hx274_0)).trans hx274_0
          replace p274 := eq_true p274
          replace q274 := eq_true q274
          go_wp2
          go_roundg k2
          case measure => have := HJ7.out; have := HK2.out; omega
          case rel => exact ⟨(wrap64 (x11_2 + 1)), (by first | rfl | (simp; done) | (simp [*]; done)), H', ⟨by have := HJ7.out; have := HK2.out; omega⟩, ⟨by (with_reducible repeat (first | refine blk_drewN ?_ _ | refine blk_drew ?_ | refine blk_alloc ?_ _)); exact BK267.out⟩, ⟨by (with_reducible repeat (first | refine blk_drewN ?_ _ | refine blk_drew ?_ | refine blk_alloc ?_ _)); exact BK268.out⟩, ⟨by (with_reducible repeat (first | refine blk_drewN ?_ _ | refine blk_drew ?_ | refine blk_alloc ?_ _)); exact BK269.out⟩, ⟨by repeat (first | (with_reducible first | exact HB.out | apply below_alloc | apply pw_below_drewN | apply below_drew1 | refine below_set ?_ GE267.out | refine below_set ?_ GE268.out | refine below_set ?_ GE269.out) | exact HB.out)⟩⟩
        ·rw [if_neg c50] at H
         exact absurd H (by simp)
       ·rw [if_neg c49] at H
        have c49b0 : decide (x11_2 < (l1.length : Int)) = false := decide_eq_false c49
        clear c49
        have H' := Aside0.mk H
        clear H
        go_wp2
        try go_simp
        go_loopg [12] k2 (fun kq v12 w' => ∃ (x12_3 : Int), v12 = .int .i64 x12_3 ∧ Aside0 (withelaw11_PostAll.l1 kq l1 l2 x12_3 a0_0 a0_1 a0_2 a0_3 l0_4 l3_0 l3_1 l4_0 l4_1 = some r) ∧ Aside0 (kq ≤ k2) ∧ Aside0 (w'.heap[gb267]? = some (.cells #[.int .i64 a0_0, .int .i64 a0_1, .string a0_2, .int .i64 a0_3, (.slice A0_4 l0_4.length c0_4)] 24 (0, 0))) ∧ Aside0 (w'.heap[gb268]? = some (.cells #[(.slice A3_0 l3_0.length c3_0), (.slice A3_1 l3_1.length c3_1)] 30 (0, 0))) ∧ Aside0 (w'.heap[gb269]? = some (.cells #[(.slice A4_0 l4_0.length c4_0), (.slice A4_1 l4_1.length c4_1)] 30 (0, 0))) ∧ Aside0 (Below w.heap.size w w'))
        case atStart => exact ⟨(0), (by first | rfl | (simp; done) | (simp [*]; done)), H', ⟨Nat.le_refl _⟩, ⟨by (with_reducible repeat (first | refine blk_drewN ?_ _ | refine blk_drew ?_ | refine blk_alloc ?_ _)); exact BK267.out⟩, ⟨by (with_reducible repeat (first | refine blk_drewN ?_ _ | refine blk_drew ?_ | refine blk_alloc ?_ _)); exact BK268.out⟩, ⟨by (with_reducible repeat (first | refine blk_drewN ?_ _ | refine blk_drew ?_ | refine blk_alloc ?_ _)); exact BK269.out⟩, ⟨by repeat (first | (with_reducible first | exact HB.out | apply below_alloc | apply pw_below_drewN | apply below_drew1 | refine below_set ?_ GE267.out | refine below_set ?_ GE268.out | refine below_set ?_ GE269.out) | exact HB.out)⟩⟩
        case round =>
         clear H'
         try clear c1
         try clear c2
         try clear p2
         try clear q2
         try clear hx2
         try clear c3
         try clear c4
         try clear c5
         try clear p6
         try clear c7
         try clear c8
         try clear c9
         try clear c14
         try clear c14b0
         try clear c15
         try clear c16
         try clear c19
         try clear c19b0
         try clear c19b1
         try clear c20
         try clear c21
         try clear c24
         try clear c24b0
         try clear c24b1
         try clear c25
         try clear c26
         try clear p27
         try clear q27
         try clear hx27
         try clear c30
         try clear c32
         try clear c33
         try clear c36
         try clear c41
         try clear c42
         try clear c45
         try clear c48
         try clear c49
         try clear c49b0
         try clear c50
         try clear c50b0
         try clear c51
         try clear c51b0
         try clear c51b1
         try clear hcz17_0
         try clear hcz17_1
         try clear hcz17_2
         try clear hcz17_3
         try clear hcz17_4
         try clear hcz22_0
         try clear hcz22_1
         try clear hcz22_2
         try clear hcz22_3
         try clear hcz22_4
         try clear hcz27_0
         try clear hcz27_1
         try clear hcz27_2
         try clear hcz27_3
         try clear hcz27_4
         try clear hcz34_0
         try clear hcz34_1
         try clear hcz34_2
         try clear hcz34_3
         try clear hcz34_4
         try clear hcz37_0
         try clear hcz37_1
         try clear hcz39_0
         try clear hcz39_1
         try clear hcz43_0
         try clear hcz43_1
         try clear hcz43_2
         try clear hcz43_3
         try clear hcz43_4
         try clear hcz46_0
         try clear hcz46_1
         try clear hfz17_0
         try clear hfz17_1
         try clear hfz17_2
         try clear hfz17_3
         try clear hfz17_4
         try clear hfz22_0
         try clear hfz22_1
         try clear hfz22_2
         try clear hfz22_3
         try clear hfz22_4
         try clear hfz27_0
         try clear hfz27_1
         try clear hfz27_2
         try clear hfz27_3
         try clear hfz27_4
         try clear hfz34_0
         try clear hfz34_1
         try clear hfz34_2
         try clear hfz34_3
         try clear hfz34_4
         try clear hfz37_0
         try clear hfz37_1
         try clear hfz39_0
         try clear hfz39_1
         try clear hfz43_0
         try clear hfz43_1
         try clear hfz43_2
         try clear hfz43_3
         try clear hfz43_4
         try clear hfz46_0
         try clear hfz46_1
         try clear hx274_0
         try clear p2
         try clear p274
         try clear q274
         obtain ⟨x12_3, rfl, HA, HK3, BK267, BK268, BK269, HB⟩ := hrel
         cases gk with
         | zero => exact absurd HA.out (by simp [withelaw11_PostAll.l1])
         | succ k3 =>
          have H := HA.out
          clear HA
          simp only [withelaw11_PostAll.l1] at H
          by_cases c52 : x12_3 < (l2.length : Int)
          ·rw [if_pos c52] at H
           have c52b0 : decide (x12_3 < (l2.length : Int)) = true := decide_eq_true c52
           clear c52
           by_cases c53 : 0 ≤ x12_3
           ·rw [if_pos c53] at H
            have c53b0 : decide (0 ≤ x12_3) = true := decide_eq_true c53
            clear c53
            by_cases c54 : ((rd_L2 l2 x12_3).length : Int) > 6
            ·rw [if_pos c54] at H
             have c54b0 : decide (6 < ((rd_L2 l2 x12_3).length : Int)) = true := decide_eq_true c54
             have c54b1 : decide (6 < (rd_L2 l2 x12_3).length) = true := decide_eq_true (by omega)
             clear c54
             obtain rfl := Option.some.inj H
             have p275 : 0 ≤ (x12_3 : Int) := of_decide_eq_true (by first | (with_reducible assumption) | assumption)
             have q275 : x12_3 < (l2.length : Int) := of_decide_eq_true (by first | (with_reducible assumption) | assumption)
             obtain ⟨ad275, A275_0, c275_0, e275, hx275_0, hl275_0, hi275_0⟩ := at_L2 HR2.out x12_3 p275 q275
             cases e275
             replace hx275_0 := (HB.out.cell (World.block_lt_of_cell? w _ hx275_0)).trans hx275_0
             have HR275_0 := Aside0.mk hi275_0
             have HC275_0 := Aside0.mk hl275_0
             clear hi275_0 hl275_0
             replace p275 := eq_true p275
             replace q275 := eq_true q275
             go_wp2
             go_ret
             exact ⟨by first | rfl | (simp [errW_none, errW_some] <;> rfl) | (simp [*, errW_none, errW_some] <;> rfl), by repeat (first | (with_reducible first | exact HB.out | apply below_alloc | apply pw_below_drewN | apply below_drew1 | refine below_set ?_ GE267.out | refine below_set ?_ GE268.out | refine below_set ?_ GE269.out) | exact HB.out)⟩
            ·rw [if_neg c54] at H
             have c54b0 : decide (6 < ((rd_L2 l2 x12_3).length : Int)) = false := decide_eq_false c54
             have c54b1 : decide (6 < (rd_L2 l2 x12_3).length) = false := decide_eq_false (by omega)
             clear c54
             have H' := Aside0.mk H
             clear H
             have p275 : 0 ≤ (x12_3 : Int) := of_decide_eq_true (by first | (with_reducible assumption) | assumption)
             have q275 : x12_3 < (l2.length : Int) := of_decide_eq_true (by first | (with_reducible assumption) | assumption)
             obtain ⟨ad275, A275_0, c275_0, e275, hx275_0, hl275_0, hi275_0⟩ := at_L2 HR2.out x12_3 p275 q275
             cases e275
             replace hx275_0 := (HB.out.cell (World.block_lt_of_cell? w _ hx275_0)).trans hx275_0
             have HR275_0 := Aside0.mk hi275_0
             have HC275_0 := Aside0.mk hl275_0
             clear hi275_0 hl275_0
             replace p275 := eq_true p275
             replace q275 := eq_true q275
             go_wp2
             try go_simp
             go_loopg [13] k3 (fun kq v13 w' => ∃ (x13_4 : Int), v13 = .int .i64 x13_4 ∧ Aside0 (withelaw11_PostAll.l2 kq l1 l2 x12_3 x13_4 a0_0 a0_1 a0_2 a0_3 l0_4 l3_0 l3_1 l4_0 l4_1 = some r) ∧ Aside0 (kq ≤ k3) ∧ Aside0 (w'.heap[gb267]? = some (.cells #[.int .i64 a0_0, .int .i64 a0_1, .string a0_2, .int .i64 a0_3, (.slice A0_4 l0_4.length c0_4)] 24 (0, 0))) ∧ Aside0 (w'.heap[gb268]? = some (.cells #[(.slice A3_0 l3_0.length c3_0), (.slice A3_1 l3_1.length c3_1)] 30 (0, 0))) ∧ Aside0 (w'.heap[gb269]? = some (.cells #[(.slice A4_0 l4_0.length c4_0), (.slice A4_1 l4_1.length c4_1)] 30 (0, 0))) ∧ Aside0 (Below w.heap.size w w'))
             case atStart => exact ⟨(0), (by first | rfl | (simp; done) | (simp [*]; done)), H', ⟨Nat.le_refl _⟩, ⟨by (with_reducible repeat (first | refine blk_drewN ?_ _ | refine blk_drew ?_ | refine blk_alloc ?_ _)); exact BK267.out⟩, ⟨by (with_reducible repeat (first | refine blk_drewN ?_ _ | refine blk_drew ?_ | refine blk_alloc ?_ _)); exact BK268.out⟩, ⟨by (with_reducible repeat (first | refine blk_drewN ?_ _ | refine blk_drew ?_ | refine blk_alloc ?_ _)); exact BK269.out⟩, ⟨by repeat (first | (with_reducible first | exact HB.out | apply below_alloc | apply pw_below_drewN | apply below_drew1 | refine below_set ?_ GE267.out | refine below_set ?_ GE268.out | refine below_set ?_ GE269.out) | exact HB.out)⟩⟩
             case round =>
              clear H'
              try clear c1
              try clear c2
              try clear p2
              try clear q2
              try clear hx2
              try clear c3
              try clear c4
              try clear c5
              try clear p6
              try clear c7
              try clear c8
              try clear c9
              try clear c14
              try clear c14b0
              try clear c15
              try clear c16
              try clear c19
              try clear c19b0
              try clear c19b1
              try clear c20
              try clear c21
              try clear c24
              try clear c24b0
              try clear c24b1
              try clear c25
              try clear c26
              try clear c27
              try clear p27
              try clear q27
              try clear hx27
              try clear c30
              try clear c32
              try clear c33
              try clear c36
              try clear c41
              try clear c42
              try clear c45
              try clear c48
              try clear c49
              try clear c49b0
              try clear c50
              try clear c50b0
              try clear c51
              try clear c51b0
              try clear c51b1
              try clear c52
              try clear c52b0
              try clear c53
              try clear c53b0
              try clear c54
              try clear c54b0
              try clear c54b1
              try clear hcz17_0
              try clear hcz17_1
              try clear hcz17_2
              try clear hcz17_3
              try clear hcz17_4
              try clear hcz22_0
              try clear hcz22_1
              try clear hcz22_2
              try clear hcz22_3
              try clear hcz22_4
              try clear hcz27_0
              try clear hcz27_1
              try clear hcz27_2
              try clear hcz27_3
              try clear hcz27_4
              try clear hcz34_0
              try clear hcz34_1
              try clear hcz34_2
              try clear hcz34_3
              try clear hcz34_4
              try clear hcz37_0
              try clear hcz37_1
              try clear hcz39_0
              try clear hcz39_1
              try clear hcz43_0
              try clear hcz43_1
              try clear hcz43_2
              try clear hcz43_3
              try clear hcz43_4
              try clear hcz46_0
              try clear hcz46_1
              try clear hfz17_0
              try clear hfz17_1
              try clear hfz17_2
              try clear hfz17_3
              try clear hfz17_4
              try clear hfz22_0
              try clear hfz22_1
              try clear hfz22_2
              try clear hfz22_3
              try clear hfz22_4
              try clear hfz27_0
              try clear hfz27_1
              try clear hfz27_2
              try clear hfz27_3
              try clear hfz27_4
              try clear hfz34_0
              try clear hfz34_1
              try clear hfz34_2
              try clear hfz34_3
              try clear hfz34_4
              try clear hfz37_0
              try clear hfz37_1
              try clear hfz39_0
              try clear hfz39_1
              try clear hfz43_0
              try clear hfz43_1
              try clear hfz43_2
              try clear hfz43_3
              try clear hfz43_4
              try clear hfz46_0
              try clear hfz46_1
              try clear hx274_0
              try clear hx275_0
              try clear p2
              try clear p27
              try clear p274
              try clear p275
              try clear p6
              try clear q2
              try clear q27
              try clear q274
              try clear q275
              obtain ⟨x13_4, rfl, HA, HK4, BK267, BK268, BK269, HB⟩ := hrel
              cases gk with
              | zero => exact absurd HA.out (by simp [withelaw11_PostAll.l2])
              | succ k4 =>
               have H := HA.out
               clear HA
               simp only [withelaw11_PostAll.l2] at H
               by_cases c55 : 0 ≤ x12_3
               ·rw [if_pos c55] at H
                have c55b0 : decide (0 ≤ x12_3) = true := decide_eq_true c55
                clear c55
                by_cases c56 : x12_3 < (l2.length : Int)
                ·rw [if_pos c56] at H
                 have c56b0 : decide (x12_3 < (l2.length : Int)) = true := decide_eq_true c56
                 clear c56
                 by_cases c57 : x13_4 < ((rd_L2 l2 x12_3).length : Int)
                 ·rw [if_pos c57] at H
                  have c57b0 : decide (x13_4 < ((rd_L2 l2 x12_3).length : Int)) = true := decide_eq_true c57
                  clear c57
                  by_cases c58 : 0 ≤ x13_4
                  ·rw [if_pos c58] at H
                   have c58b0 : decide (0 ≤ x13_4) = true := decide_eq_true c58
                   clear c58
                   by_cases c59 : ((rdOf ByteArray.empty (rd_L2 l2 x12_3) x13_4).size : Int) > 40
                   ·rw [if_pos c59] at H
                    have c59b0 : decide (40 < ((rdOf ByteArray.empty (rd_L2 l2 x12_3) x13_4).size : Int)) = true := decide_eq_true c59
                    have c59b1 : decide (40 < (rdOf ByteArray.empty (rd_L2 l2 x12_3) x13_4).size) = true := decide_eq_true (by omega)
                    clear c59
                    obtain rfl := Option.some.inj H
                    have p276 : 0 ≤ (x12_3 : Int) := of_decide_eq_true (by first | (with_reducible assumption) | assumption)
                    have q276 : x12_3 < (l2.length : Int) := of_decide_eq_true (by first | (with_reducible assumption) | assumption)
                    obtain ⟨ad276, A276_0, c276_0, e276, hx276_0, hl276_0, hi276_0⟩ := at_L2 HR2.out x12_3 p276 q276
                    obtain rfl : ad275 = ad276 := (by injection e276)
                    replace hx276_0 := (HB.out.cell (World.block_lt_of_cell? w _ hx276_0)).trans hx276_0
                    have HR276_0 := Aside0.mk hi276_0
                    have HC276_0 := Aside0.mk hl276_0
                    clear hi276_0 hl276_0
                    replace p276 := eq_true p276
                    replace q276 := eq_true q276
                    have p277 : 0 ≤ (x12_3 : Int) := of_decide_eq_true (by first | (with_reducible assumption) | assumption)
                    have q277 : x12_3 < (l2.length : Int) := of_decide_eq_true (by first | (with_reducible assumption) | assumption)
                    obtain ⟨ad277, A277_0, c277_0, e277, hx277_0, hl277_0, hi277_0⟩ := at_L2 HR2.out x12_3 p277 q277
                    obtain rfl : ad275 = ad277 := (by injection e277)
                    replace hx277_0 := (HB.out.cell (World.block_lt_of_cell? w _ hx277_0)).trans hx277_0
                    have HR277_0 := Aside0.mk hi277_0
                    have HC277_0 := Aside0.mk hl277_0
                    clear hi277_0 hl277_0
                    replace p277 := eq_true p277
                    replace q277 := eq_true q277
                    have ea_ := Option.some.inj (hx276_0.symm.trans hx277_0)
                    injection ea_ with ea_ en_ ec_
                    subst ea_
                    subst ec_
                    clear en_
                    have p278 : 0 ≤ (x13_4 : Int) := of_decide_eq_true (by first | (with_reducible assumption) | assumption)
                    have q278 : x13_4 < ((rd_L2 l2 x12_3).length : Int) := of_decide_eq_true (by first | (with_reducible assumption) | assumption)
                    obtain ⟨ad278, e278, hx278_0⟩ := Kd.at_string HR277_0.out x13_4 p278 q278
                    cases e278
                    replace hx278_0 := (HB.out.cell (World.block_lt_of_cell? w _ hx278_0)).trans hx278_0
                    replace p278 := eq_true p278
                    replace q278 := eq_true q278
                    go_wp2
                    go_ret
                    exact ⟨by first | rfl | (simp [errW_none, errW_some] <;> rfl) | (simp [*, errW_none, errW_some] <;> rfl), by repeat (first | (with_reducible first | exact HB.out | apply below_alloc | apply pw_below_drewN | apply below_drew1 | refine below_set ?_ GE267.out | refine below_set ?_ GE268.out | refine below_set ?_ GE269.out) | exact HB.out)⟩
                   ·rw [if_neg c59] at H
                    have c59b0 : decide (40 < ((rdOf ByteArray.empty (rd_L2 l2 x12_3) x13_4).size : Int)) = false := decide_eq_false c59
                    have c59b1 : decide (40 < (rdOf ByteArray.empty (rd_L2 l2 x12_3) x13_4).size) = false := decide_eq_false (by omega)
                    clear c59
                    have H' := Aside0.mk H
                    clear H
                    have p276 : 0 ≤ (x12_3 : Int) := of_decide_eq_true (by first | (with_reducible assumption) | assumption)
                    have q276 : x12_3 < (l2.length : Int) := of_decide_eq_true (by first | (with_reducible assumption) | assumption)
                    obtain ⟨ad276, A276_0, c276_0, e276, hx276_0, hl276_0, hi276_0⟩ := at_L2 HR2.out x12_3 p276 q276
                    obtain rfl : ad275 = ad276 := (by injection e276)
                    replace hx276_0 := (HB.out.cell (World.block_lt_of_cell? w _ hx276_0)).trans hx276_0
                    have HR276_0 := Aside0.mk hi276_0
                    have HC276_0 := Aside0.mk hl276_0
                    clear hi276_0 hl276_0
                    replace p276 := eq_true p276
                    replace q276 := eq_true q276
                    have p277 : 0 ≤ (x12_3 : Int) := of_decide_eq_true (by first | (with_reducible assumption) | assumption)
                    have q277 : x12_3 < (l2.length : Int) := of_decide_eq_true (by first | (with_reducible assumption) | assumption)
                    obtain ⟨ad277, A277_0, c277_0, e277, hx277_0, hl277_0, hi277_0⟩ := at_L2 HR2.out x12_3 p277 q277
                    obtain rfl : ad275 = ad277 := (by injection e277)
                    replace hx277_0 := (HB.out.cell (World.block_lt_of_cell? w _ hx277_0)).trans hx277_0
                    have HR277_0 := Aside0.mk hi277_0
                    have HC277_0 := Aside0.mk hl277_0
                    clear hi277_0 hl277_0
                    replace p277 := eq_true p277
                    replace q277 := eq_true q277
                    have ea_ := Option.some.inj (hx276_0.symm.trans hx277_0)
                    injection ea_ with ea_ en_ ec_
                    subst ea_
                    subst ec_
                    clear en_
                    have p278 : 0 ≤ (x13_4 : Int) := of_decide_eq_true (by first | (with_reducible assumption) | assumption)
                    have q278 : x13_4 < ((rd_L2 l2 x12_3).length : Int) := of_decide_eq_true (by first | (with_reducible assumption) | assumption)
                    obtain ⟨ad278, e278, hx278_0⟩ := Kd.at_string HR277_0.out x13_4 p278 q278
                    cases e278
                    replace hx278_0 := (HB.out.cell (World.block_lt_of_cell? w _ hx278_0)).trans hx278_0
                    replace p278 := eq_true p278
                    replace q278 := eq_true q278
                    go_wp2
                    go_roundg k4
                    case measure => have := HJ7.out; have := HK2.out; have := HK3.out; have := HK4.out; omega
                    case rel => exact ⟨(wrap64 (x13_4 + 1)), (by first | rfl | (simp; done) | (simp [*]; done)), H', ⟨by have := HJ7.out; have := HK2.out; have := HK3.out; have := HK4.out; omega⟩, ⟨by (with_reducible repeat (first | refine blk_drewN ?_ _ | refine blk_drew ?_ | refine blk_alloc ?_ _)); exact BK267.out⟩, ⟨by (with_reducible repeat (first | refine blk_drewN ?_ _ | refine blk_drew ?_ | refine blk_alloc ?_ _)); exact BK268.out⟩, ⟨by (with_reducible repeat (first | refine blk_drewN ?_ _ | refine blk_drew ?_ | refine blk_alloc ?_ _)); exact BK269.out⟩, ⟨by repeat (first | (with_reducible first | exact HB.out | apply below_alloc | apply pw_below_drewN | apply below_drew1 | refine below_set ?_ GE267.out | refine below_set ?_ GE268.out | refine below_set ?_ GE269.out) | exact HB.out)⟩⟩
                  ·rw [if_neg c58] at H
                   exact absurd H (by simp)
                 ·rw [if_neg c57] at H
                  have c57b0 : decide (x13_4 < ((rd_L2 l2 x12_3).length : Int)) = false := decide_eq_false c57
                  clear c57
                  have H' := Aside0.mk H
                  clear H
                  have p276 : 0 ≤ (x12_3 : Int) := of_decide_eq_true (by first | (with_reducible assumption) | assumption)
                  have q276 : x12_3 < (l2.length : Int) := of_decide_eq_true (by first | (with_reducible assumption) | assumption)
                  obtain ⟨ad276, A276_0, c276_0, e276, hx276_0, hl276_0, hi276_0⟩ := at_L2 HR2.out x12_3 p276 q276
                  obtain rfl : ad275 = ad276 := (by injection e276)
                  replace hx276_0 := (HB.out.cell (World.block_lt_of_cell? w _ hx276_0)).trans hx276_0
                  have HR276_0 := Aside0.mk hi276_0
                  have HC276_0 := Aside0.mk hl276_0
                  clear hi276_0 hl276_0
                  replace p276 := eq_true p276
                  replace q276 := eq_true q276
                  go_wp2
                  go_roundg k4
                  case measure => have := HJ7.out; have := HK2.out; have := HK3.out; have := HK4.out; omega
                  case rel => exact ⟨(wrap64 (x12_3 + 1)), (by first | rfl | (simp; done) | (simp [*]; done)), H', ⟨by have := HJ7.out; have := HK2.out; have := HK3.out; have := HK4.out; omega⟩, ⟨by (with_reducible repeat (first | refine blk_drewN ?_ _ | refine blk_drew ?_ | refine blk_alloc ?_ _)); exact BK267.out⟩, ⟨by (with_reducible repeat (first | refine blk_drewN ?_ _ | refine blk_drew ?_ | refine blk_alloc ?_ _)); exact BK268.out⟩, ⟨by (with_reducible repeat (first | refine blk_drewN ?_ _ | refine blk_drew ?_ | refine blk_alloc ?_ _)); exact BK269.out⟩, ⟨by repeat (first | (with_reducible first | exact HB.out | apply below_alloc | apply pw_below_drewN | apply below_drew1 | refine below_set ?_ GE267.out | refine below_set ?_ GE268.out | refine below_set ?_ GE269.out) | exact HB.out)⟩⟩
                ·rw [if_neg c56] at H
                 exact absurd H (by simp)
               ·rw [if_neg c55] at H
                exact absurd H (by simp)
           ·rw [if_neg c53] at H
            exact absurd H (by simp)
          ·rw [if_neg c52] at H
           have c52b0 : decide (x12_3 < (l2.length : Int)) = false := decide_eq_false c52
           clear c52
           replace H := Option.bind_eq_some_iff.mp H
           obtain ⟨⟨t279, t280⟩, A600, H⟩ := H
           replace H : ((witheref9_Holds.f k3 a0_0 a0_1 a0_2 a0_3 l0_4 l1 l2 l3_0 l3_1).bind fun bt281 => (if (t279 == bt281.1) = true then (if (t280 == bt281.2) = true then ((post_Same.f k3 l3_0 l3_1 l4_0 l4_1).bind fun t283 => ((witheref9_Order.f k3 l3_0 l3_1 l4_0 l4_1).bind fun t284 => (if (t283 == (t284 == 0)) = true then ((post_Less.f k3 l3_0 l3_1 l4_0 l4_1).bind fun t285 => ((witheref9_Order.f k3 l3_0 l3_1 l4_0 l4_1).bind fun t286 => (if (t285 == (decide (t286 < 0))) = true then ((post_Line.f k3 l1 l2 l3_0 l3_1).bind fun t287 => ((witheref9_Line.f k3 l1 l2 l3_0 l3_1).bind fun t288 => (some (t287.toList == t288.toList)))) else (none)))) else (none)))) else (none)) else (none))) = some r := H
           have A60 := Aside0.mk A600
           clear A600
           replace H := Option.bind_eq_some_iff.mp H
           obtain ⟨⟨t281, t282⟩, A610, H⟩ := H
           replace H : (if (t279 == t281) = true then (if (t280 == t282) = true then ((post_Same.f k3 l3_0 l3_1 l4_0 l4_1).bind fun t283 => ((witheref9_Order.f k3 l3_0 l3_1 l4_0 l4_1).bind fun t284 => (if (t283 == (t284 == 0)) = true then ((post_Less.f k3 l3_0 l3_1 l4_0 l4_1).bind fun t285 => ((witheref9_Order.f k3 l3_0 l3_1 l4_0 l4_1).bind fun t286 => (if (t285 == (decide (t286 < 0))) = true then ((post_Line.f k3 l1 l2 l3_0 l3_1).bind fun t287 => ((witheref9_Line.f k3 l1 l2 l3_0 l3_1).bind fun t288 => (some (t287.toList == t288.toList)))) else (none)))) else (none)))) else (none)) else (none)) = some r := H
           have A61 := Aside0.mk A610
           clear A610
           by_cases c62 : (t279 == t281) = true
           ·rw [if_pos c62] at H
            have c62b0 : (t279 == t281) = true := c62
            (try (have c62b1 : decide (t279 = t281) = true := by simpa using c62))
            (try (have c62b2 : (t279 == t281) = true := by simpa using c62))
            clear c62
            by_cases c63 : (t280 == t282) = true
            ·rw [if_pos c63] at H
             have c63b0 : (t280 == t282) = true := c63
             (try (have c63b1 : decide (t280 = t282) = true := by simpa using c63))
             (try (have c63b2 : (t280 == t282) = true := by simpa using c63))
             clear c63
             replace H := Option.bind_eq_some_iff.mp H
             obtain ⟨t283, A640, H⟩ := H
             replace H : ((witheref9_Order.f k3 l3_0 l3_1 l4_0 l4_1).bind fun t284 => (if (t283 == (t284 == 0)) = true then ((post_Less.f k3 l3_0 l3_1 l4_0 l4_1).bind fun t285 => ((witheref9_Order.f k3 l3_0 l3_1 l4_0 l4_1).bind fun t286 => (if (t285 == (decide (t286 < 0))) = true then ((post_Line.f k3 l1 l2 l3_0 l3_1).bind fun t287 => ((witheref9_Line.f k3 l1 l2 l3_0 l3_1).bind fun t288 => (some (t287.toList == t288.toList)))) else (none)))) else (none))) = some r := H
             have A64 := Aside0.mk A640
             clear A640
             replace H := Option.bind_eq_some_iff.mp H
             obtain ⟨t284, A650, H⟩ := H
             replace H : (if (t283 == (t284 == 0)) = true then ((post_Less.f k3 l3_0 l3_1 l4_0 l4_1).bind fun t285 => ((witheref9_Order.f k3 l3_0 l3_1 l4_0 l4_1).bind fun t286 => (if (t285 == (decide (t286 < 0))) = true then ((post_Line.f k3 l1 l2 l3_0 l3_1).bind fun t287 => ((witheref9_Line.f k3 l1 l2 l3_0 l3_1).bind fun t288 => (some (t287.toList == t288.toList)))) else (none)))) else (none)) = some r := H
             have A65 := Aside0.mk A650
             clear A650
             by_cases c66 : (t283 == (t284 == 0)) = true
             ·rw [if_pos c66] at H
              have c66b0 : (t283 == (t284 == 0)) = true := c66
              (try (have c66b1 : decide (t283 = (t284 == 0)) = true := by simpa using c66))
              (try (have c66b2 : (t283 == (t284 == 0)) = true := by simpa using c66))
              clear c66
              replace H := Option.bind_eq_some_iff.mp H
              obtain ⟨t285, A670, H⟩ := H
              replace H : ((witheref9_Order.f k3 l3_0 l3_1 l4_0 l4_1).bind fun t286 => (if (t285 == (decide (t286 < 0))) = true then ((post_Line.f k3 l1 l2 l3_0 l3_1).bind fun t287 => ((witheref9_Line.f k3 l1 l2 l3_0 l3_1).bind fun t288 => (some (t287.toList == t288.toList)))) else (none))) = some r := H
              have A67 := Aside0.mk A670
              clear A670
              replace H := Option.bind_eq_some_iff.mp H
              obtain ⟨t286, A680, H⟩ := H
              replace H : (if (t285 == (decide (t286 < 0))) = true then ((post_Line.f k3 l1 l2 l3_0 l3_1).bind fun t287 => ((witheref9_Line.f k3 l1 l2 l3_0 l3_1).bind fun t288 => (some (t287.toList == t288.toList)))) else (none)) = some r := H
              have A68 := Aside0.mk A680
              clear A680
              by_cases c69 : (t285 == (decide (t286 < 0))) = true
              ·rw [if_pos c69] at H
               have c69b0 : (t285 == (decide (t286 < 0))) = true := c69
               (try (have c69b1 : decide (t285 = (decide (t286 < 0))) = true := by simpa using c69))
               (try (have c69b2 : (t285 == (decide (t286 < 0))) = true := by simpa using c69))
               clear c69
               replace H := Option.bind_eq_some_iff.mp H
               obtain ⟨t287, A700, H⟩ := H
               replace H : ((witheref9_Line.f k3 l1 l2 l3_0 l3_1).bind fun t288 => (some (t287.toList == t288.toList))) = some r := H
               have A70 := Aside0.mk A700
               clear A700
               replace H := Option.bind_eq_some_iff.mp H
               obtain ⟨t288, A710, H⟩ := H
               replace H : (some (t287.toList == t288.toList)) = some r := H
               have A71 := Aside0.mk A710
               clear A710
               obtain rfl := Option.some.inj H
               have hnb72 := NB267_268.out
               have hnc72 := NB268_267.out
               have hnb73 := NB267_269.out
               have hnc73 := NB269_267.out
               have hcz74_0 : wr.cell? ⟨gb267, 0, none⟩ = some (.int .i64 a0_0) := (blk_cell BK267.out 0).trans rfl
               have hcz74_1 : wr.cell? ⟨gb267, 1, none⟩ = some (.int .i64 a0_1) := (blk_cell BK267.out 1).trans rfl
               have hcz74_2 : wr.cell? ⟨gb267, 2, none⟩ = some (.string a0_2) := (blk_cell BK267.out 2).trans rfl
               have hcz74_3 : wr.cell? ⟨gb267, 3, none⟩ = some (.int .i64 a0_3) := (blk_cell BK267.out 3).trans rfl
               have hcz74_4 : wr.cell? ⟨gb267, 4, none⟩ = some (.slice A0_4 l0_4.length c0_4) := (blk_cell BK267.out 4).trans rfl
               have hfz74_0 := blk_frozen BK267.out 0
               have hfz74_1 := blk_frozen BK267.out 1
               have hfz74_2 := blk_frozen BK267.out 2
               have hfz74_3 := blk_frozen BK267.out 3
               have hfz74_4 := blk_frozen BK267.out 4
               have hnb75 := NB268_269.out
               have hnc75 := NB269_268.out
               have hcz76_0 : wr.cell? ⟨gb268, 0, none⟩ = some (.slice A3_0 l3_0.length c3_0) := (blk_cell BK268.out 0).trans rfl
               have hcz76_1 : wr.cell? ⟨gb268, 1, none⟩ = some (.slice A3_1 l3_1.length c3_1) := (blk_cell BK268.out 1).trans rfl
               have hfz76_0 := blk_frozen BK268.out 0
               have hfz76_1 := blk_frozen BK268.out 1
               try go_wp2_with (first | ((with_reducible refine gate_callee (f := 10) rfl ?_); refine goesL_ (some 90) rfl rfl Tryd.func10 (by kernel_rfl) rfl #[.agg #[.int .i64 a0_0, .int .i64 a0_1, .string a0_2, .int .i64 a0_3, .slice A0_4 l0_4.length c0_4], .slice A1 l1.length c1, .slice A2 l2.length c2, .agg #[.slice A3_0 l3_0.length c3_0, .slice A3_1 l3_1.length c3_1]] rfl (by (try simp only [List.map_toArray, List.map_cons, List.map_nil]); first | done | rfl | (simp only [List.length_drop, List.length_take]; rfl)) ?_; (with_reducible refine (post_Holds.calls k3 a0_0 a0_1 a0_2 a0_3 _ _ l0_4 _ _ l1 _ _ l2 _ _ l3_0 _ _ l3_1 t279 t280 _ ?side1 ?side2 ?side3 ?side4 ?side5 ?side6 ?side7 ?side8 ?side9 ?side10 A60.out).mono ?_); (case side1 => repeat (first | exact (Kd.C_below HR0_4.out HB.out) | (with_reducible refine Kd.C_alloc ?_ _) | (with_reducible refine Kd.C_drewN ?_ _) | (with_reducible refine Kd.C_drew ?_))); (case side2 => exact HC0_4.out); (case side3 => repeat (first | exact (Kd.C_below HR1.out HB.out) | (with_reducible refine Kd.C_alloc ?_ _) | (with_reducible refine Kd.C_drewN ?_ _) | (with_reducible refine Kd.C_drew ?_))); (case side4 => exact HC1.out); (case side5 => repeat (first | exact (Kd.C_below HR2.out HB.out) | (with_reducible refine Kd.C_alloc ?_ _) | (with_reducible refine Kd.C_drewN ?_ _) | (with_reducible refine Kd.C_drew ?_))); (case side6 => exact HC2.out); (case side7 => repeat (first | exact (Kd.C_below HR3_0.out HB.out) | (with_reducible refine Kd.C_alloc ?_ _) | (with_reducible refine Kd.C_drewN ?_ _) | (with_reducible refine Kd.C_drew ?_))); (case side8 => exact HC3_0.out); (case side9 => repeat (first | exact (Kd.C_below HR3_1.out HB.out) | (with_reducible refine Kd.C_alloc ?_ _) | (with_reducible refine Kd.C_drewN ?_ _) | (with_reducible refine Kd.C_drew ?_))); (case side10 => exact HC3_1.out); rintro e w77 ⟨rfl, hb⟩; refine ⟨_, rfl, ?_⟩; have n0_ := Aside0.mk (blk_below (g := gb267) (o := .cells #[.int .i64 a0_0, .int .i64 a0_1, .string a0_2, .int .i64 a0_3, .slice A0_4 l0_4.length c0_4] 24 (0, 0)) (by (with_reducible repeat (first | refine blk_drewN ?_ _ | refine blk_drew ?_ | refine blk_alloc ?_ _)); exact BK267.out) hb); have n1_ := Aside0.mk (blk_below (g := gb268) (o := .cells #[.slice A3_0 l3_0.length c3_0, .slice A3_1 l3_1.length c3_1] 30 (0, 0)) (by (with_reducible repeat (first | refine blk_drewN ?_ _ | refine blk_drew ?_ | refine blk_alloc ?_ _)); exact BK268.out) hb); have n2_ := Aside0.mk (blk_below (g := gb269) (o := .cells #[.slice A4_0 l4_0.length c4_0, .slice A4_1 l4_1.length c4_1] 30 (0, 0)) (by (with_reducible repeat (first | refine blk_drewN ?_ _ | refine blk_drew ?_ | refine blk_alloc ?_ _)); exact BK269.out) hb); have n3_ := Aside0.mk (below_step (by repeat (first | (with_reducible first | exact HB.out | apply below_alloc | apply pw_below_drewN | apply below_drew1 | refine below_set ?_ GE267.out | refine below_set ?_ GE268.out | refine below_set ?_ GE269.out) | exact HB.out)) hb); clear BK267; clear BK268; clear BK269; clear HB; have BK267 := n0_; have BK268 := n1_; have BK269 := n2_; have HB := n3_; clear n0_ n1_ n2_ n3_; (try clear hb); (try clear hb2); (try clear hk); (try clear hi); have hcz78_0 : w77.cell? ⟨gb267, 0, none⟩ = some (.int .i64 a0_0) := (blk_cell BK267.out 0).trans rfl; have hcz78_1 : w77.cell? ⟨gb267, 1, none⟩ = some (.int .i64 a0_1) := (blk_cell BK267.out 1).trans rfl; have hcz78_2 : w77.cell? ⟨gb267, 2, none⟩ = some (.string a0_2) := (blk_cell BK267.out 2).trans rfl; have hcz78_3 : w77.cell? ⟨gb267, 3, none⟩ = some (.int .i64 a0_3) := (blk_cell BK267.out 3).trans rfl; have hcz78_4 : w77.cell? ⟨gb267, 4, none⟩ = some (.slice A0_4 l0_4.length c0_4) := (blk_cell BK267.out 4).trans rfl; have hfz78_0 := blk_frozen BK267.out 0; have hfz78_1 := blk_frozen BK267.out 1; have hfz78_2 := blk_frozen BK267.out 2; have hfz78_3 := blk_frozen BK267.out 3; have hfz78_4 := blk_frozen BK267.out 4; have hcz79_0 : w77.cell? ⟨gb268, 0, none⟩ = some (.slice A3_0 l3_0.length c3_0) := (blk_cell BK268.out 0).trans rfl; have hcz79_1 : w77.cell? ⟨gb268, 1, none⟩ = some (.slice A3_1 l3_1.length c3_1) := (blk_cell BK268.out 1).trans rfl; have hfz79_0 := blk_frozen BK268.out 0; have hfz79_1 := blk_frozen BK268.out 1) | ((with_reducible refine gate_callee (f := 11) rfl ?_); refine goesL_ (some 98) rfl rfl Tryd.func11 (by kernel_rfl) rfl #[.agg #[.int .i64 a0_0, .int .i64 a0_1, .string a0_2, .int .i64 a0_3, .slice A0_4 l0_4.length c0_4], .slice A1 l1.length c1, .slice A2 l2.length c2, .agg #[.slice A3_0 l3_0.length c3_0, .slice A3_1 l3_1.length c3_1]] rfl (by (try simp only [List.map_toArray, List.map_cons, List.map_nil]); first | done | rfl | (simp only [List.length_drop, List.length_take]; rfl)) ?_; (with_reducible refine (witheref9_Holds.calls k3 a0_0 a0_1 a0_2 a0_3 _ _ l0_4 _ _ l1 _ _ l2 _ _ l3_0 _ _ l3_1 t281 t282 _ ?side1 ?side2 ?side3 ?side4 ?side5 ?side6 ?side7 ?side8 ?side9 ?side10 A61.out).mono ?_); (case side1 => repeat (first | exact (Kd.C_below HR0_4.out HB.out) | (with_reducible refine Kd.C_alloc ?_ _) | (with_reducible refine Kd.C_drewN ?_ _) | (with_reducible refine Kd.C_drew ?_))); (case side2 => exact HC0_4.out); (case side3 => repeat (first | exact (Kd.C_below HR1.out HB.out) | (with_reducible refine Kd.C_alloc ?_ _) | (with_reducible refine Kd.C_drewN ?_ _) | (with_reducible refine Kd.C_drew ?_))); (case side4 => exact HC1.out); (case side5 => repeat (first | exact (Kd.C_below HR2.out HB.out) | (with_reducible refine Kd.C_alloc ?_ _) | (with_reducible refine Kd.C_drewN ?_ _) | (with_reducible refine Kd.C_drew ?_))); (case side6 => exact HC2.out); (case side7 => repeat (first | exact (Kd.C_below HR3_0.out HB.out) | (with_reducible refine Kd.C_alloc ?_ _) | (with_reducible refine Kd.C_drewN ?_ _) | (with_reducible refine Kd.C_drew ?_))); (case side8 => exact HC3_0.out); (case side9 => repeat (first | exact (Kd.C_below HR3_1.out HB.out) | (with_reducible refine Kd.C_alloc ?_ _) | (with_reducible refine Kd.C_drewN ?_ _) | (with_reducible refine Kd.C_drew ?_))); (case side10 => exact HC3_1.out); rintro e w80 ⟨rfl, hb⟩; refine ⟨_, rfl, ?_⟩; have n0_ := Aside0.mk (blk_below (g := gb267) (o := .cells #[.int .i64 a0_0, .int .i64 a0_1, .string a0_2, .int .i64 a0_3, .slice A0_4 l0_4.length c0_4] 24 (0, 0)) (by (with_reducible repeat (first | refine blk_drewN ?_ _ | refine blk_drew ?_ | refine blk_alloc ?_ _)); exact BK267.out) hb); have n1_ := Aside0.mk (blk_below (g := gb268) (o := .cells #[.slice A3_0 l3_0.length c3_0, .slice A3_1 l3_1.length c3_1] 30 (0, 0)) (by (with_reducible repeat (first | refine blk_drewN ?_ _ | refine blk_drew ?_ | refine blk_alloc ?_ _)); exact BK268.out) hb); have n2_ := Aside0.mk (blk_below (g := gb269) (o := .cells #[.slice A4_0 l4_0.length c4_0, .slice A4_1 l4_1.length c4_1] 30 (0, 0)) (by (with_reducible repeat (first | refine blk_drewN ?_ _ | refine blk_drew ?_ | refine blk_alloc ?_ _)); exact BK269.out) hb); have n3_ := Aside0.mk (below_step (by repeat (first | (with_reducible first | exact HB.out | apply below_alloc | apply pw_below_drewN | apply below_drew1 | refine below_set ?_ GE267.out | refine below_set ?_ GE268.out | refine below_set ?_ GE269.out) | exact HB.out)) hb); clear BK267; clear BK268; clear BK269; clear HB; have BK267 := n0_; have BK268 := n1_; have BK269 := n2_; have HB := n3_; clear n0_ n1_ n2_ n3_; (try clear hb); (try clear hb2); (try clear hk); (try clear hi)))
               have n0_ := Aside0.mk (blk_drew BK267.out)
               have n1_ := Aside0.mk (blk_drew BK268.out)
               have n2_ := Aside0.mk (blk_drew BK269.out)
               have n3_ := Aside0.mk (below_drew1 HB.out)
               clear BK267
               clear BK268
               clear BK269
               clear HB
               have BK267 := n0_
               have BK268 := n1_
               have BK269 := n2_
               have HB := n3_
               clear n0_ n1_ n2_ n3_
               refine start_ (n := 40) (S := fun w' => w'.cell? ⟨gb268, 0, none⟩ = some (.slice A3_0 l3_0.length c3_0) ∧ w'.cell? ⟨gb268, 1, none⟩ = some (.slice A3_1 l3_1.length c3_1) ∧ w'.cell? ⟨gb269, 0, none⟩ = some (.slice A4_0 l4_0.length c4_0) ∧ w'.cell? ⟨gb269, 1, none⟩ = some (.slice A4_1 l4_1.length c4_1)) (ds := []) #[false, false, false, false, false, false, false, false, false, false, false, false, false, false, false, false, false, false, false, false, false, false, false, false, false, false, false, false, false, false, false, false, false, false, false, false, false, false, false, false] (by kernel_rfl) rfl rfl ⟨(blk_cell BK268.out 0).trans rfl, (blk_cell BK268.out 1).trans rfl, (blk_cell BK269.out 0).trans rfl, (blk_cell BK269.out 1).trans rfl⟩ (fun hHeld => ?_); refine with_tabW withelaw11_PostAll.tab22 withelaw11_PostAll.bits22 (fun HT_ HW_ => ?_)
               generalize w80.drew = w81 at BK267 BK268 BK269 HB hHeld ⊢
               refine pure_ (i := 0) (N := some 101) (v := ?_) (a' := ?_) #[true, false, false, false, false, false, false, false, false, false, false, false, false, false, false, false, false, false, false, false, false, false, false, false, false, false, false, false, false, false, false, false, false, false, false, false, false, false, false, false] rfl rfl (any_of HT_.out (by kernel_rfl)) (fun _ _ _ h => h) (Or.inl ⟨by rfl, ?_⟩) ?_ ?_
               rotate_left
               ·intro w'
                go_simp
                with_reducible rfl
               rotate_left
               ·simp only [Act.put, List.setIfInBounds_toArray, List.set_cons_zero, List.set_cons_succ, i64_w, i32_w]
                rfl
               refine pure_ (i := 1) (N := some 102) (v := ?_) (a' := ?_) #[true, true, false, false, false, false, false, false, false, false, false, false, false, false, false, false, false, false, false, false, false, false, false, false, false, false, false, false, false, false, false, false, false, false, false, false, false, false, false, false] rfl rfl (any_of HT_.out (by kernel_rfl)) (fun _ _ _ h => h) (Or.inl ⟨by rfl, ?_⟩) ?_ ?_
               rotate_left
               ·intro w'
                go_simp
                with_reducible rfl
               rotate_left
               ·simp only [Act.put, List.setIfInBounds_toArray, List.set_cons_zero, List.set_cons_succ, i64_w, i32_w]
                rfl
               refine pure_ (i := 2) (N := some 103) (v := ?_) (a' := ?_) #[true, true, true, false, false, false, false, false, false, false, false, false, false, false, false, false, false, false, false, false, false, false, false, false, false, false, false, false, false, false, false, false, false, false, false, false, false, false, false, false] rfl rfl (any_of HT_.out (by kernel_rfl)) (fun _ _ _ h => h) (Or.inl ⟨by rfl, ?_⟩) ?_ ?_
               rotate_left
               ·intro w'
                go_simp
                with_reducible rfl
               rotate_left
               ·simp only [Act.put, List.setIfInBounds_toArray, List.set_cons_zero, List.set_cons_succ, i64_w, i32_w]
                rfl
               refine pure_ (i := 3) (N := some 104) (v := ?_) (a' := ?_) #[true, true, true, true, false, false, false, false, false, false, false, false, false, false, false, false, false, false, false, false, false, false, false, false, false, false, false, false, false, false, false, false, false, false, false, false, false, false, false, false] rfl rfl (any_of HT_.out (by kernel_rfl)) (fun _ _ _ h => h) (Or.inl ⟨by rfl, ?_⟩) ?_ ?_
               rotate_left
               ·intro w'
                go_simp
                with_reducible rfl
               rotate_left
               ·simp only [Act.put, List.setIfInBounds_toArray, List.set_cons_zero, List.set_cons_succ, i64_w, i32_w]
                rfl
               refine pure_ (i := 4) (N := some 105) (v := ?_) (a' := ?_) #[true, true, true, true, true, false, false, false, false, false, false, false, false, false, false, false, false, false, false, false, false, false, false, false, false, false, false, false, false, false, false, false, false, false, false, false, false, false, false, false] rfl rfl (any_of HT_.out (by kernel_rfl)) (fun _ _ _ h => h) (Or.inl ⟨by rfl, ?_⟩) ?_ ?_
               rotate_left
               ·intro w'
                go_simp
                with_reducible rfl
               rotate_left
               ·simp only [Act.put, List.setIfInBounds_toArray, List.set_cons_zero, List.set_cons_succ, i64_w, i32_w]
                rfl
               refine pure_ (i := 5) (N := some 106) (v := ?_) (a' := ?_) #[true, true, true, true, true, true, false, false, false, false, false, false, false, false, false, false, false, false, false, false, false, false, false, false, false, false, false, false, false, false, false, false, false, false, false, false, false, false, false, false] rfl rfl (any_of HT_.out (by kernel_rfl)) (fun _ _ _ h => h) (Or.inl ⟨by rfl, ?_⟩) ?_ ?_
               rotate_left
               ·intro w'
                go_simp
                with_reducible rfl
               rotate_left
               ·simp only [Act.put, List.setIfInBounds_toArray, List.set_cons_zero, List.set_cons_succ, i64_w, i32_w]
                rfl
               refine pure_ (i := 6) (N := some 107) (v := ?_) (a' := ?_) #[true, true, true, true, true, true, true, false, false, false, false, false, false, false, false, false, false, false, false, false, false, false, false, false, false, false, false, false, false, false, false, false, false, false, false, false, false, false, false, false] rfl rfl (any_of HT_.out (by kernel_rfl)) (fun _ _ _ h => h) (Or.inl ⟨by rfl, ?_⟩) ?_ ?_
               rotate_left
               ·intro w'
                go_simp
                with_reducible rfl
               rotate_left
               ·simp only [Act.put, List.setIfInBounds_toArray, List.set_cons_zero, List.set_cons_succ, i64_w, i32_w]
                rfl
               refine pure_ (i := 7) (N := some 108) (v := ?_) (a' := ?_) #[true, true, true, true, true, true, true, true, false, false, false, false, false, false, false, false, false, false, false, false, false, false, false, false, false, false, false, false, false, false, false, false, false, false, false, false, false, false, false, false] rfl rfl (any_of HT_.out (by kernel_rfl)) (fun _ _ _ h => h) (Or.inl ⟨by rfl, ?_⟩) ?_ ?_
               rotate_left
               ·intro w'
                go_simp
                with_reducible rfl
               rotate_left
               ·simp only [Act.put, List.setIfInBounds_toArray, List.set_cons_zero, List.set_cons_succ, i64_w, i32_w]
                rfl
               refine pure_ (i := 8) (N := some 109) (v := ?_) (a' := ?_) #[true, true, true, true, true, true, true, true, true, false, false, false, false, false, false, false, false, false, false, false, false, false, false, false, false, false, false, false, false, false, false, false, false, false, false, false, false, false, false, false] rfl rfl (any_of HT_.out (by kernel_rfl)) (fun _ _ _ h => h) (Or.inl ⟨by rfl, ?_⟩) ?_ ?_
               rotate_left
               ·intro w'
                go_simp
                with_reducible rfl
               rotate_left
               ·simp only [Act.put, List.setIfInBounds_toArray, List.set_cons_zero, List.set_cons_succ, i64_w, i32_w]
                rfl
               refine take_ (i := 9) (N := some 110) (v := ?_) (a' := ?_) #[true, true, true, true, true, true, true, true, true, true, false, false, false, false, false, false, false, false, false, false, false, false, false, false, false, false, false, false, false, false, false, false, false, false, false, false, false, false, false, false] rfl rfl (take_ofW HT_.out HW_.out (by kernel_rfl)) (fun _ _ _ h => h) (Or.inl ⟨by rfl, ?_⟩) hHeld ?_ ?_
               rotate_left
               ·rintro w' ⟨s0, s1, s2, s3⟩
                go_simp
                with_reducible rfl
               rotate_left
               ·simp only [Act.put, List.setIfInBounds_toArray, List.set_cons_zero, List.set_cons_succ, i64_w, i32_w]
                rfl
               refine take_ (i := 10) (N := some 111) (v := ?_) (a' := ?_) #[true, true, true, true, true, true, true, true, true, true, true, false, false, false, false, false, false, false, false, false, false, false, false, false, false, false, false, false, false, false, false, false, false, false, false, false, false, false, false, false] rfl rfl (take_ofW HT_.out HW_.out (by kernel_rfl)) (fun _ _ _ h => h) (Or.inl ⟨by rfl, ?_⟩) hHeld ?_ ?_
               rotate_left
               ·rintro w' ⟨s0, s1, s2, s3⟩
                go_simp
                with_reducible rfl
               rotate_left
               ·simp only [Act.put, List.setIfInBounds_toArray, List.set_cons_zero, List.set_cons_succ, i64_w, i32_w]
                rfl
               refine take_ (i := 12) (N := some 113) (v := ?_) (a' := ?_) #[true, true, true, true, true, true, true, true, true, true, true, false, true, false, false, false, false, false, false, false, false, false, false, false, false, false, false, false, false, false, false, false, false, false, false, false, false, false, false, false] rfl rfl (take_ofW HT_.out HW_.out (by kernel_rfl)) (fun _ _ _ h => h) (Or.inl ⟨by rfl, ?_⟩) hHeld ?_ ?_
               rotate_left
               ·rintro w' ⟨s0, s1, s2, s3⟩
                go_simp
                with_reducible rfl
               rotate_left
               ·simp only [Act.put, List.setIfInBounds_toArray, List.set_cons_zero, List.set_cons_succ, i64_w, i32_w]
                rfl
               refine take_ (i := 13) (N := some 114) (v := ?_) (a' := ?_) #[true, true, true, true, true, true, true, true, true, true, true, false, true, true, false, false, false, false, false, false, false, false, false, false, false, false, false, false, false, false, false, false, false, false, false, false, false, false, false, false] rfl rfl (take_ofW HT_.out HW_.out (by kernel_rfl)) (fun _ _ _ h => h) (Or.inl ⟨by rfl, ?_⟩) hHeld ?_ ?_
               rotate_left
               ·rintro w' ⟨s0, s1, s2, s3⟩
                go_simp
                with_reducible rfl
               rotate_left
               ·simp only [Act.put, List.setIfInBounds_toArray, List.set_cons_zero, List.set_cons_succ, i64_w, i32_w]
                rfl
               refine one_ (i := 11) (N := some 112) #[true, true, true, true, true, true, true, true, true, true, true, true, true, true, false, false, false, false, false, false, false, false, false, false, false, false, false, false, false, false, false, false, false, false, false, false, false, false, false, false] rfl rfl (one_of HT_.out (by kernel_rfl)) (by decide) (fun K hK => ?_)
               refine goes_ Tryd.func12 (by kernel_rfl) rfl #[.agg #[.slice A3_0 l3_0.length c3_0, .slice A3_1 l3_1.length c3_1], .agg #[.slice A4_0 l4_0.length c4_0, .slice A4_1 l4_1.length c4_1]] (by rfl) rfl rfl (by (try simp only [List.map_toArray, List.map_cons, List.map_nil]); first | done | rfl | (simp only [List.length_drop, List.length_take]; rfl)) ?_
               with_reducible refine (post_Same.calls k3 _ _ l3_0 _ _ l3_1 _ _ l4_0 _ _ l4_1 t283 _ ?side1 ?side2 ?side3 ?side4 ?side5 ?side6 ?side7 ?side8 A64.out).mono ?_
               (case side1 => repeat (first | exact (Kd.C_below HR3_0.out HB.out) | (with_reducible refine Kd.C_alloc ?_ _) | (with_reducible refine Kd.C_drewN ?_ _) | (with_reducible refine Kd.C_drew ?_)))
               (case side2 => exact HC3_0.out)
               (case side3 => repeat (first | exact (Kd.C_below HR3_1.out HB.out) | (with_reducible refine Kd.C_alloc ?_ _) | (with_reducible refine Kd.C_drewN ?_ _) | (with_reducible refine Kd.C_drew ?_)))
               (case side4 => exact HC3_1.out)
               (case side5 => repeat (first | exact (Kd.C_below HR4_0.out HB.out) | (with_reducible refine Kd.C_alloc ?_ _) | (with_reducible refine Kd.C_drewN ?_ _) | (with_reducible refine Kd.C_drew ?_)))
               (case side6 => exact HC4_0.out)
               (case side7 => repeat (first | exact (Kd.C_below HR4_1.out HB.out) | (with_reducible refine Kd.C_alloc ?_ _) | (with_reducible refine Kd.C_drewN ?_ _) | (with_reducible refine Kd.C_drew ?_)))
               (case side8 => exact HC4_1.out)
               rintro e w82 ⟨rfl, hb⟩
               refine ⟨_, rfl, ?_⟩
               have n0_ := Aside0.mk (blk_below (g := gb267) (o := .cells #[.int .i64 a0_0, .int .i64 a0_1, .string a0_2, .int .i64 a0_3, .slice A0_4 l0_4.length c0_4] 24 (0, 0)) (by (with_reducible repeat (first | refine blk_drewN ?_ _ | refine blk_drew ?_ | refine blk_alloc ?_ _)); exact BK267.out) hb)
               have n1_ := Aside0.mk (blk_below (g := gb268) (o := .cells #[.slice A3_0 l3_0.length c3_0, .slice A3_1 l3_1.length c3_1] 30 (0, 0)) (by (with_reducible repeat (first | refine blk_drewN ?_ _ | refine blk_drew ?_ | refine blk_alloc ?_ _)); exact BK268.out) hb)
               have n2_ := Aside0.mk (blk_below (g := gb269) (o := .cells #[.slice A4_0 l4_0.length c4_0, .slice A4_1 l4_1.length c4_1] 30 (0, 0)) (by (with_reducible repeat (first | refine blk_drewN ?_ _ | refine blk_drew ?_ | refine blk_alloc ?_ _)); exact BK269.out) hb)
               have n3_ := Aside0.mk (below_step (by repeat (first | (with_reducible first | exact HB.out | apply below_alloc | apply pw_below_drewN | apply below_drew1 | refine below_set ?_ GE267.out | refine below_set ?_ GE268.out | refine below_set ?_ GE269.out) | exact HB.out)) hb)
               clear BK267
               clear BK268
               clear BK269
               clear HB
               have BK267 := n0_
               have BK268 := n1_
               have BK269 := n2_
               have HB := n3_
               clear n0_ n1_ n2_ n3_
               (try clear hb)
               (try clear hb2)
               (try clear hk)
               (try clear hi)
               refine hK.out _ _ ⟨(blk_cell BK268.out 0).trans rfl, (blk_cell BK268.out 1).trans rfl, (blk_cell BK269.out 0).trans rfl, (blk_cell BK269.out 1).trans rfl⟩ (fun hHeld => ?_)
               clear hK K
               refine norm_ (a' := ?_) ?_ ?_
               rotate_left
               ·show Act.put _ (some 112) _ = _
                simp only [Act.put, List.setIfInBounds_toArray, List.set_cons_zero, List.set_cons_succ, i64_w, i32_w]
                rfl
               refine one_ (i := 14) (N := some 115) #[true, true, true, true, true, true, true, true, true, true, true, true, true, true, true, false, false, false, false, false, false, false, false, false, false, false, false, false, false, false, false, false, false, false, false, false, false, false, false, false] rfl rfl (one_of HT_.out (by kernel_rfl)) (by decide) (fun K hK => ?_)
               refine goes_ Tryd.func13 (by kernel_rfl) rfl #[.agg #[.slice A3_0 l3_0.length c3_0, .slice A3_1 l3_1.length c3_1], .agg #[.slice A4_0 l4_0.length c4_0, .slice A4_1 l4_1.length c4_1]] (by rfl) rfl rfl (by (try simp only [List.map_toArray, List.map_cons, List.map_nil]); first | done | rfl | (simp only [List.length_drop, List.length_take]; rfl)) ?_
               with_reducible refine (witheref9_Order.calls k3 _ _ l3_0 _ _ l3_1 _ _ l4_0 _ _ l4_1 t284 _ ?side1 ?side2 ?side3 ?side4 ?side5 ?side6 ?side7 ?side8 A65.out).mono ?_
               (case side1 => repeat (first | exact (Kd.C_below HR3_0.out HB.out) | (with_reducible refine Kd.C_alloc ?_ _) | (with_reducible refine Kd.C_drewN ?_ _) | (with_reducible refine Kd.C_drew ?_)))
               (case side2 => exact HC3_0.out)
               (case side3 => repeat (first | exact (Kd.C_below HR3_1.out HB.out) | (with_reducible refine Kd.C_alloc ?_ _) | (with_reducible refine Kd.C_drewN ?_ _) | (with_reducible refine Kd.C_drew ?_)))
               (case side4 => exact HC3_1.out)
               (case side5 => repeat (first | exact (Kd.C_below HR4_0.out HB.out) | (with_reducible refine Kd.C_alloc ?_ _) | (with_reducible refine Kd.C_drewN ?_ _) | (with_reducible refine Kd.C_drew ?_)))
               (case side6 => exact HC4_0.out)
               (case side7 => repeat (first | exact (Kd.C_below HR4_1.out HB.out) | (with_reducible refine Kd.C_alloc ?_ _) | (with_reducible refine Kd.C_drewN ?_ _) | (with_reducible refine Kd.C_drew ?_)))
               (case side8 => exact HC4_1.out)
               rintro e w83 ⟨rfl, hb⟩
               refine ⟨_, rfl, ?_⟩
               have n0_ := Aside0.mk (blk_below (g := gb267) (o := .cells #[.int .i64 a0_0, .int .i64 a0_1, .string a0_2, .int .i64 a0_3, .slice A0_4 l0_4.length c0_4] 24 (0, 0)) (by (with_reducible repeat (first | refine blk_drewN ?_ _ | refine blk_drew ?_ | refine blk_alloc ?_ _)); exact BK267.out) hb)
               have n1_ := Aside0.mk (blk_below (g := gb268) (o := .cells #[.slice A3_0 l3_0.length c3_0, .slice A3_1 l3_1.length c3_1] 30 (0, 0)) (by (with_reducible repeat (first | refine blk_drewN ?_ _ | refine blk_drew ?_ | refine blk_alloc ?_ _)); exact BK268.out) hb)
               have n2_ := Aside0.mk (blk_below (g := gb269) (o := .cells #[.slice A4_0 l4_0.length c4_0, .slice A4_1 l4_1.length c4_1] 30 (0, 0)) (by (with_reducible repeat (first | refine blk_drewN ?_ _ | refine blk_drew ?_ | refine blk_alloc ?_ _)); exact BK269.out) hb)
               have n3_ := Aside0.mk (below_step (by repeat (first | (with_reducible first | exact HB.out | apply below_alloc | apply pw_below_drewN | apply below_drew1 | refine below_set ?_ GE267.out | refine below_set ?_ GE268.out | refine below_set ?_ GE269.out) | exact HB.out)) hb)
               clear BK267
               clear BK268
               clear BK269
               clear HB
               have BK267 := n0_
               have BK268 := n1_
               have BK269 := n2_
               have HB := n3_
               clear n0_ n1_ n2_ n3_
               (try clear hb)
               (try clear hb2)
               (try clear hk)
               (try clear hi)
               refine hK.out _ _ ⟨(blk_cell BK268.out 0).trans rfl, (blk_cell BK268.out 1).trans rfl, (blk_cell BK269.out 0).trans rfl, (blk_cell BK269.out 1).trans rfl⟩ (fun hHeld => ?_)
               clear hK K
               refine norm_ (a' := ?_) ?_ ?_
               rotate_left
               ·show Act.put _ (some 115) _ = _
                simp only [Act.put, List.setIfInBounds_toArray, List.set_cons_zero, List.set_cons_succ, i64_w, i32_w]
                rfl
               refine pure_ (i := 15) (N := some 116) (v := ?_) (a' := ?_) #[true, true, true, true, true, true, true, true, true, true, true, true, true, true, true, true, false, false, false, false, false, false, false, false, false, false, false, false, false, false, false, false, false, false, false, false, false, false, false, false] rfl rfl (any_of HT_.out (by kernel_rfl)) (fun _ _ _ h => h) (Or.inl ⟨by rfl, ?_⟩) ?_ ?_
               rotate_left
               ·intro w'
                go_simp
                with_reducible rfl
               rotate_left
               ·simp only [Act.put, List.setIfInBounds_toArray, List.set_cons_zero, List.set_cons_succ, i64_w, i32_w]
                rfl
               refine pure_ (i := 16) (N := some 117) (v := ?_) (a' := ?_) #[true, true, true, true, true, true, true, true, true, true, true, true, true, true, true, true, true, false, false, false, false, false, false, false, false, false, false, false, false, false, false, false, false, false, false, false, false, false, false, false] rfl rfl (any_of HT_.out (by kernel_rfl)) (fun _ _ _ h => h) (Or.inl ⟨by rfl, ?_⟩) ?_ ?_
               rotate_left
               ·intro w'
                go_simp
                with_reducible rfl
               rotate_left
               ·simp only [Act.put, List.setIfInBounds_toArray, List.set_cons_zero, List.set_cons_succ, i64_w, i32_w]
                rfl
               refine pure_ (i := 17) (N := some 118) (v := ?_) (a' := ?_) #[true, true, true, true, true, true, true, true, true, true, true, true, true, true, true, true, true, true, false, false, false, false, false, false, false, false, false, false, false, false, false, false, false, false, false, false, false, false, false, false] rfl rfl (any_of HT_.out (by kernel_rfl)) (fun _ _ _ h => h) (Or.inl ⟨by rfl, ?_⟩) ?_ ?_
               rotate_left
               ·intro w'
                go_simp
                with_reducible rfl
               rotate_left
               ·simp only [Act.put, List.setIfInBounds_toArray, List.set_cons_zero, List.set_cons_succ, i64_w, i32_w]
                rfl
               refine pure_ (i := 18) (N := some 119) (v := ?_) (a' := ?_) #[true, true, true, true, true, true, true, true, true, true, true, true, true, true, true, true, true, true, true, false, false, false, false, false, false, false, false, false, false, false, false, false, false, false, false, false, false, false, false, false] rfl rfl (any_of HT_.out (by kernel_rfl)) (fun _ _ _ h => h) (Or.inl ⟨by rfl, ?_⟩) ?_ ?_
               rotate_left
               ·intro w'
                go_simp
                with_reducible rfl
               rotate_left
               ·simp only [Act.put, List.setIfInBounds_toArray, List.set_cons_zero, List.set_cons_succ, i64_w, i32_w]
                rfl
               refine take_ (i := 19) (N := some 120) (v := ?_) (a' := ?_) #[true, true, true, true, true, true, true, true, true, true, true, true, true, true, true, true, true, true, true, true, false, false, false, false, false, false, false, false, false, false, false, false, false, false, false, false, false, false, false, false] rfl rfl (take_ofW HT_.out HW_.out (by kernel_rfl)) (fun _ _ _ h => h) (Or.inl ⟨by rfl, ?_⟩) hHeld ?_ ?_
               rotate_left
               ·rintro w' ⟨s0, s1, s2, s3⟩
                go_simp
                with_reducible rfl
               rotate_left
               ·simp only [Act.put, List.setIfInBounds_toArray, List.set_cons_zero, List.set_cons_succ, i64_w, i32_w]
                rfl
               refine take_ (i := 20) (N := some 121) (v := ?_) (a' := ?_) #[true, true, true, true, true, true, true, true, true, true, true, true, true, true, true, true, true, true, true, true, true, false, false, false, false, false, false, false, false, false, false, false, false, false, false, false, false, false, false, false] rfl rfl (take_ofW HT_.out HW_.out (by kernel_rfl)) (fun _ _ _ h => h) (Or.inl ⟨by rfl, ?_⟩) hHeld ?_ ?_
               rotate_left
               ·rintro w' ⟨s0, s1, s2, s3⟩
                go_simp
                with_reducible rfl
               rotate_left
               ·simp only [Act.put, List.setIfInBounds_toArray, List.set_cons_zero, List.set_cons_succ, i64_w, i32_w]
                rfl
               refine take_ (i := 22) (N := some 123) (v := ?_) (a' := ?_) #[true, true, true, true, true, true, true, true, true, true, true, true, true, true, true, true, true, true, true, true, true, false, true, false, false, false, false, false, false, false, false, false, false, false, false, false, false, false, false, false] rfl rfl (take_ofW HT_.out HW_.out (by kernel_rfl)) (fun _ _ _ h => h) (Or.inl ⟨by rfl, ?_⟩) hHeld ?_ ?_
               rotate_left
               ·rintro w' ⟨s0, s1, s2, s3⟩
                go_simp
                with_reducible rfl
               rotate_left
               ·simp only [Act.put, List.setIfInBounds_toArray, List.set_cons_zero, List.set_cons_succ, i64_w, i32_w]
                rfl
               refine take_ (i := 23) (N := some 124) (v := ?_) (a' := ?_) #[true, true, true, true, true, true, true, true, true, true, true, true, true, true, true, true, true, true, true, true, true, false, true, true, false, false, false, false, false, false, false, false, false, false, false, false, false, false, false, false] rfl rfl (take_ofW HT_.out HW_.out (by kernel_rfl)) (fun _ _ _ h => h) (Or.inl ⟨by rfl, ?_⟩) hHeld ?_ ?_
               rotate_left
               ·rintro w' ⟨s0, s1, s2, s3⟩
                go_simp
                with_reducible rfl
               rotate_left
               ·simp only [Act.put, List.setIfInBounds_toArray, List.set_cons_zero, List.set_cons_succ, i64_w, i32_w]
                rfl
               refine one_ (i := 21) (N := some 122) #[true, true, true, true, true, true, true, true, true, true, true, true, true, true, true, true, true, true, true, true, true, true, true, true, false, false, false, false, false, false, false, false, false, false, false, false, false, false, false, false] rfl rfl (one_of HT_.out (by kernel_rfl)) (by decide) (fun K hK => ?_)
               refine goes_ Tryd.func14 (by kernel_rfl) rfl #[.agg #[.slice A3_0 l3_0.length c3_0, .slice A3_1 l3_1.length c3_1], .agg #[.slice A4_0 l4_0.length c4_0, .slice A4_1 l4_1.length c4_1]] (by rfl) rfl rfl (by (try simp only [List.map_toArray, List.map_cons, List.map_nil]); first | done | rfl | (simp only [List.length_drop, List.length_take]; rfl)) ?_
               with_reducible refine (post_Less.calls k3 _ _ l3_0 _ _ l3_1 _ _ l4_0 _ _ l4_1 t285 _ ?side1 ?side2 ?side3 ?side4 ?side5 ?side6 ?side7 ?side8 A67.out).mono ?_
               (case side1 => repeat (first | exact (Kd.C_below HR3_0.out HB.out) | (with_reducible refine Kd.C_alloc ?_ _) | (with_reducible refine Kd.C_drewN ?_ _) | (with_reducible refine Kd.C_drew ?_)))
               (case side2 => exact HC3_0.out)
               (case side3 => repeat (first | exact (Kd.C_below HR3_1.out HB.out) | (with_reducible refine Kd.C_alloc ?_ _) | (with_reducible refine Kd.C_drewN ?_ _) | (with_reducible refine Kd.C_drew ?_)))
               (case side4 => exact HC3_1.out)
               (case side5 => repeat (first | exact (Kd.C_below HR4_0.out HB.out) | (with_reducible refine Kd.C_alloc ?_ _) | (with_reducible refine Kd.C_drewN ?_ _) | (with_reducible refine Kd.C_drew ?_)))
               (case side6 => exact HC4_0.out)
               (case side7 => repeat (first | exact (Kd.C_below HR4_1.out HB.out) | (with_reducible refine Kd.C_alloc ?_ _) | (with_reducible refine Kd.C_drewN ?_ _) | (with_reducible refine Kd.C_drew ?_)))
               (case side8 => exact HC4_1.out)
               rintro e w84 ⟨rfl, hb⟩
               refine ⟨_, rfl, ?_⟩
               have n0_ := Aside0.mk (blk_below (g := gb267) (o := .cells #[.int .i64 a0_0, .int .i64 a0_1, .string a0_2, .int .i64 a0_3, .slice A0_4 l0_4.length c0_4] 24 (0, 0)) (by (with_reducible repeat (first | refine blk_drewN ?_ _ | refine blk_drew ?_ | refine blk_alloc ?_ _)); exact BK267.out) hb)
               have n1_ := Aside0.mk (blk_below (g := gb268) (o := .cells #[.slice A3_0 l3_0.length c3_0, .slice A3_1 l3_1.length c3_1] 30 (0, 0)) (by (with_reducible repeat (first | refine blk_drewN ?_ _ | refine blk_drew ?_ | refine blk_alloc ?_ _)); exact BK268.out) hb)
               have n2_ := Aside0.mk (blk_below (g := gb269) (o := .cells #[.slice A4_0 l4_0.length c4_0, .slice A4_1 l4_1.length c4_1] 30 (0, 0)) (by (with_reducible repeat (first | refine blk_drewN ?_ _ | refine blk_drew ?_ | refine blk_alloc ?_ _)); exact BK269.out) hb)
               have n3_ := Aside0.mk (below_step (by repeat (first | (with_reducible first | exact HB.out | apply below_alloc | apply pw_below_drewN | apply below_drew1 | refine below_set ?_ GE267.out | refine below_set ?_ GE268.out | refine below_set ?_ GE269.out) | exact HB.out)) hb)
               clear BK267
               clear BK268
               clear BK269
               clear HB
               have BK267 := n0_
               have BK268 := n1_
               have BK269 := n2_
               have HB := n3_
               clear n0_ n1_ n2_ n3_
               (try clear hb)
               (try clear hb2)
               (try clear hk)
               (try clear hi)
               refine hK.out _ _ ⟨(blk_cell BK268.out 0).trans rfl, (blk_cell BK268.out 1).trans rfl, (blk_cell BK269.out 0).trans rfl, (blk_cell BK269.out 1).trans rfl⟩ (fun hHeld => ?_)
               clear hK K
               refine norm_ (a' := ?_) ?_ ?_
               rotate_left
               ·show Act.put _ (some 122) _ = _
                simp only [Act.put, List.setIfInBounds_toArray, List.set_cons_zero, List.set_cons_succ, i64_w, i32_w]
                rfl
               refine one_ (i := 24) (N := some 125) #[true, true, true, true, true, true, true, true, true, true, true, true, true, true, true, true, true, true, true, true, true, true, true, true, true, false, false, false, false, false, false, false, false, false, false, false, false, false, false, false] rfl rfl (one_of HT_.out (by kernel_rfl)) (by decide) (fun K hK => ?_)
               refine goes_ Tryd.func13 (by kernel_rfl) rfl #[.agg #[.slice A3_0 l3_0.length c3_0, .slice A3_1 l3_1.length c3_1], .agg #[.slice A4_0 l4_0.length c4_0, .slice A4_1 l4_1.length c4_1]] (by rfl) rfl rfl (by (try simp only [List.map_toArray, List.map_cons, List.map_nil]); first | done | rfl | (simp only [List.length_drop, List.length_take]; rfl)) ?_
               with_reducible refine (witheref9_Order.calls k3 _ _ l3_0 _ _ l3_1 _ _ l4_0 _ _ l4_1 t286 _ ?side1 ?side2 ?side3 ?side4 ?side5 ?side6 ?side7 ?side8 A68.out).mono ?_
               (case side1 => repeat (first | exact (Kd.C_below HR3_0.out HB.out) | (with_reducible refine Kd.C_alloc ?_ _) | (with_reducible refine Kd.C_drewN ?_ _) | (with_reducible refine Kd.C_drew ?_)))
               (case side2 => exact HC3_0.out)
               (case side3 => repeat (first | exact (Kd.C_below HR3_1.out HB.out) | (with_reducible refine Kd.C_alloc ?_ _) | (with_reducible refine Kd.C_drewN ?_ _) | (with_reducible refine Kd.C_drew ?_)))
               (case side4 => exact HC3_1.out)
               (case side5 => repeat (first | exact (Kd.C_below HR4_0.out HB.out) | (with_reducible refine Kd.C_alloc ?_ _) | (with_reducible refine Kd.C_drewN ?_ _) | (with_reducible refine Kd.C_drew ?_)))
               (case side6 => exact HC4_0.out)
               (case side7 => repeat (first | exact (Kd.C_below HR4_1.out HB.out) | (with_reducible refine Kd.C_alloc ?_ _) | (with_reducible refine Kd.C_drewN ?_ _) | (with_reducible refine Kd.C_drew ?_)))
               (case side8 => exact HC4_1.out)
               rintro e w85 ⟨rfl, hb⟩
               refine ⟨_, rfl, ?_⟩
               have n0_ := Aside0.mk (blk_below (g := gb267) (o := .cells #[.int .i64 a0_0, .int .i64 a0_1, .string a0_2, .int .i64 a0_3, .slice A0_4 l0_4.length c0_4] 24 (0, 0)) (by (with_reducible repeat (first | refine blk_drewN ?_ _ | refine blk_drew ?_ | refine blk_alloc ?_ _)); exact BK267.out) hb)
               have n1_ := Aside0.mk (blk_below (g := gb268) (o := .cells #[.slice A3_0 l3_0.length c3_0, .slice A3_1 l3_1.length c3_1] 30 (0, 0)) (by (with_reducible repeat (first | refine blk_drewN ?_ _ | refine blk_drew ?_ | refine blk_alloc ?_ _)); exact BK268.out) hb)
               have n2_ := Aside0.mk (blk_below (g := gb269) (o := .cells #[.slice A4_0 l4_0.length c4_0, .slice A4_1 l4_1.length c4_1] 30 (0, 0)) (by (with_reducible repeat (first | refine blk_drewN ?_ _ | refine blk_drew ?_ | refine blk_alloc ?_ _)); exact BK269.out) hb)
               have n3_ := Aside0.mk (below_step (by repeat (first | (with_reducible first | exact HB.out | apply below_alloc | apply pw_below_drewN | apply below_drew1 | refine below_set ?_ GE267.out | refine below_set ?_ GE268.out | refine below_set ?_ GE269.out) | exact HB.out)) hb)
               clear BK267
               clear BK268
               clear BK269
               clear HB
               have BK267 := n0_
               have BK268 := n1_
               have BK269 := n2_
               have HB := n3_
               clear n0_ n1_ n2_ n3_
               (try clear hb)
               (try clear hb2)
               (try clear hk)
               (try clear hi)
               refine hK.out _ _ ⟨(blk_cell BK268.out 0).trans rfl, (blk_cell BK268.out 1).trans rfl, (blk_cell BK269.out 0).trans rfl, (blk_cell BK269.out 1).trans rfl⟩ (fun hHeld => ?_)
               clear hK K
               refine norm_ (a' := ?_) ?_ ?_
               rotate_left
               ·show Act.put _ (some 125) _ = _
                simp only [Act.put, List.setIfInBounds_toArray, List.set_cons_zero, List.set_cons_succ, i64_w, i32_w]
                rfl
               refine pure_ (i := 25) (N := some 126) (v := ?_) (a' := ?_) #[true, true, true, true, true, true, true, true, true, true, true, true, true, true, true, true, true, true, true, true, true, true, true, true, true, true, false, false, false, false, false, false, false, false, false, false, false, false, false, false] rfl rfl (any_of HT_.out (by kernel_rfl)) (fun _ _ _ h => h) (Or.inl ⟨by rfl, ?_⟩) ?_ ?_
               rotate_left
               ·intro w'
                go_simp
                with_reducible rfl
               rotate_left
               ·simp only [Act.put, List.setIfInBounds_toArray, List.set_cons_zero, List.set_cons_succ, i64_w, i32_w]
                rfl
               refine pure_ (i := 26) (N := some 127) (v := ?_) (a' := ?_) #[true, true, true, true, true, true, true, true, true, true, true, true, true, true, true, true, true, true, true, true, true, true, true, true, true, true, true, false, false, false, false, false, false, false, false, false, false, false, false, false] rfl rfl (any_of HT_.out (by kernel_rfl)) (fun _ _ _ h => h) (Or.inl ⟨by rfl, ?_⟩) ?_ ?_
               rotate_left
               ·intro w'
                go_simp
                with_reducible rfl
               rotate_left
               ·simp only [Act.put, List.setIfInBounds_toArray, List.set_cons_zero, List.set_cons_succ, i64_w, i32_w]
                rfl
               refine pure_ (i := 27) (N := some 128) (v := ?_) (a' := ?_) #[true, true, true, true, true, true, true, true, true, true, true, true, true, true, true, true, true, true, true, true, true, true, true, true, true, true, true, true, false, false, false, false, false, false, false, false, false, false, false, false] rfl rfl (any_of HT_.out (by kernel_rfl)) (fun _ _ _ h => h) (Or.inl ⟨by rfl, ?_⟩) ?_ ?_
               rotate_left
               ·intro w'
                go_simp
                with_reducible rfl
               rotate_left
               ·simp only [Act.put, List.setIfInBounds_toArray, List.set_cons_zero, List.set_cons_succ, i64_w, i32_w]
                rfl
               refine pure_ (i := 28) (N := some 129) (v := ?_) (a' := ?_) #[true, true, true, true, true, true, true, true, true, true, true, true, true, true, true, true, true, true, true, true, true, true, true, true, true, true, true, true, true, false, false, false, false, false, false, false, false, false, false, false] rfl rfl (any_of HT_.out (by kernel_rfl)) (fun _ _ _ h => h) (Or.inl ⟨by rfl, ?_⟩) ?_ ?_
               rotate_left
               ·intro w'
                go_simp
                with_reducible rfl
               rotate_left
               ·simp only [Act.put, List.setIfInBounds_toArray, List.set_cons_zero, List.set_cons_succ, i64_w, i32_w]
                rfl
               refine pure_ (i := 29) (N := some 130) (v := ?_) (a' := ?_) #[true, true, true, true, true, true, true, true, true, true, true, true, true, true, true, true, true, true, true, true, true, true, true, true, true, true, true, true, true, true, false, false, false, false, false, false, false, false, false, false] rfl rfl (any_of HT_.out (by kernel_rfl)) (fun _ _ _ h => h) (Or.inl ⟨by rfl, ?_⟩) ?_ ?_
               rotate_left
               ·intro w'
                go_simp
                with_reducible rfl
               rotate_left
               ·simp only [Act.put, List.setIfInBounds_toArray, List.set_cons_zero, List.set_cons_succ, i64_w, i32_w]
                rfl
               refine pure_ (i := 30) (N := some 131) (v := ?_) (a' := ?_) #[true, true, true, true, true, true, true, true, true, true, true, true, true, true, true, true, true, true, true, true, true, true, true, true, true, true, true, true, true, true, true, false, false, false, false, false, false, false, false, false] rfl rfl (any_of HT_.out (by kernel_rfl)) (fun _ _ _ h => h) (Or.inl ⟨by rfl, ?_⟩) ?_ ?_
               rotate_left
               ·intro w'
                go_simp
                with_reducible rfl
               rotate_left
               ·simp only [Act.put, List.setIfInBounds_toArray, List.set_cons_zero, List.set_cons_succ, i64_w, i32_w]
                rfl
               refine pure_ (i := 33) (N := some 134) (v := ?_) (a' := ?_) #[true, true, true, true, true, true, true, true, true, true, true, true, true, true, true, true, true, true, true, true, true, true, true, true, true, true, true, true, true, true, true, false, false, true, false, false, false, false, false, false] rfl rfl (any_of HT_.out (by kernel_rfl)) (fun _ _ _ h => h) (Or.inl ⟨by rfl, ?_⟩) ?_ ?_
               rotate_left
               ·intro w'
                go_simp
                with_reducible rfl
               rotate_left
               ·simp only [Act.put, List.setIfInBounds_toArray, List.set_cons_zero, List.set_cons_succ, i64_w, i32_w]
                rfl
               refine pure_ (i := 34) (N := some 135) (v := ?_) (a' := ?_) #[true, true, true, true, true, true, true, true, true, true, true, true, true, true, true, true, true, true, true, true, true, true, true, true, true, true, true, true, true, true, true, false, false, true, true, false, false, false, false, false] rfl rfl (any_of HT_.out (by kernel_rfl)) (fun _ _ _ h => h) (Or.inl ⟨by rfl, ?_⟩) ?_ ?_
               rotate_left
               ·intro w'
                go_simp
                with_reducible rfl
               rotate_left
               ·simp only [Act.put, List.setIfInBounds_toArray, List.set_cons_zero, List.set_cons_succ, i64_w, i32_w]
                rfl
               refine take_ (i := 31) (N := some 132) (v := ?_) (a' := ?_) #[true, true, true, true, true, true, true, true, true, true, true, true, true, true, true, true, true, true, true, true, true, true, true, true, true, true, true, true, true, true, true, true, false, true, true, false, false, false, false, false] rfl rfl (take_ofW HT_.out HW_.out (by kernel_rfl)) (fun _ _ _ h => h) (Or.inl ⟨by rfl, ?_⟩) hHeld ?_ ?_
               rotate_left
               ·rintro w' ⟨s0, s1, s2, s3⟩
                go_simp
                with_reducible rfl
               rotate_left
               ·simp only [Act.put, List.setIfInBounds_toArray, List.set_cons_zero, List.set_cons_succ, i64_w, i32_w]
                rfl
               refine take_ (i := 35) (N := some 136) (v := ?_) (a' := ?_) #[true, true, true, true, true, true, true, true, true, true, true, true, true, true, true, true, true, true, true, true, true, true, true, true, true, true, true, true, true, true, true, true, false, true, true, true, false, false, false, false] rfl rfl (take_ofW HT_.out HW_.out (by kernel_rfl)) (fun _ _ _ h => h) (Or.inl ⟨by rfl, ?_⟩) hHeld ?_ ?_
               rotate_left
               ·rintro w' ⟨s0, s1, s2, s3⟩
                go_simp
                with_reducible rfl
               rotate_left
               ·simp only [Act.put, List.setIfInBounds_toArray, List.set_cons_zero, List.set_cons_succ, i64_w, i32_w]
                rfl
               refine one_ (i := 32) (N := some 133) #[true, true, true, true, true, true, true, true, true, true, true, true, true, true, true, true, true, true, true, true, true, true, true, true, true, true, true, true, true, true, true, true, true, true, true, true, false, false, false, false] rfl rfl (one_of HT_.out (by kernel_rfl)) (by decide) (fun K hK => ?_)
               refine goes_ Tryd.func15 (by kernel_rfl) rfl #[.slice A1 l1.length c1, .slice A2 l2.length c2, .agg #[.slice A3_0 l3_0.length c3_0, .slice A3_1 l3_1.length c3_1]] (by rfl) rfl rfl (by (try simp only [List.map_toArray, List.map_cons, List.map_nil]); first | done | rfl | (simp only [List.length_drop, List.length_take]; rfl)) ?_
               with_reducible refine (post_Line.calls k3 _ _ l1 _ _ l2 _ _ l3_0 _ _ l3_1 t287 _ ?side1 ?side2 ?side3 ?side4 ?side5 ?side6 ?side7 ?side8 A70.out).mono ?_
               (case side1 => repeat (first | exact (Kd.C_below HR1.out HB.out) | (with_reducible refine Kd.C_alloc ?_ _) | (with_reducible refine Kd.C_drewN ?_ _) | (with_reducible refine Kd.C_drew ?_)))
               (case side2 => exact HC1.out)
               (case side3 => repeat (first | exact (Kd.C_below HR2.out HB.out) | (with_reducible refine Kd.C_alloc ?_ _) | (with_reducible refine Kd.C_drewN ?_ _) | (with_reducible refine Kd.C_drew ?_)))
               (case side4 => exact HC2.out)
               (case side5 => repeat (first | exact (Kd.C_below HR3_0.out HB.out) | (with_reducible refine Kd.C_alloc ?_ _) | (with_reducible refine Kd.C_drewN ?_ _) | (with_reducible refine Kd.C_drew ?_)))
               (case side6 => exact HC3_0.out)
               (case side7 => repeat (first | exact (Kd.C_below HR3_1.out HB.out) | (with_reducible refine Kd.C_alloc ?_ _) | (with_reducible refine Kd.C_drewN ?_ _) | (with_reducible refine Kd.C_drew ?_)))
               (case side8 => exact HC3_1.out)
               rintro e w86 ⟨rfl, hb⟩
               refine ⟨_, rfl, ?_⟩
               have n0_ := Aside0.mk (blk_below (g := gb267) (o := .cells #[.int .i64 a0_0, .int .i64 a0_1, .string a0_2, .int .i64 a0_3, .slice A0_4 l0_4.length c0_4] 24 (0, 0)) (by (with_reducible repeat (first | refine blk_drewN ?_ _ | refine blk_drew ?_ | refine blk_alloc ?_ _)); exact BK267.out) hb)
               have n1_ := Aside0.mk (blk_below (g := gb268) (o := .cells #[.slice A3_0 l3_0.length c3_0, .slice A3_1 l3_1.length c3_1] 30 (0, 0)) (by (with_reducible repeat (first | refine blk_drewN ?_ _ | refine blk_drew ?_ | refine blk_alloc ?_ _)); exact BK268.out) hb)
               have n2_ := Aside0.mk (blk_below (g := gb269) (o := .cells #[.slice A4_0 l4_0.length c4_0, .slice A4_1 l4_1.length c4_1] 30 (0, 0)) (by (with_reducible repeat (first | refine blk_drewN ?_ _ | refine blk_drew ?_ | refine blk_alloc ?_ _)); exact BK269.out) hb)
               have n3_ := Aside0.mk (below_step (by repeat (first | (with_reducible first | exact HB.out | apply below_alloc | apply pw_below_drewN | apply below_drew1 | refine below_set ?_ GE267.out | refine below_set ?_ GE268.out | refine below_set ?_ GE269.out) | exact HB.out)) hb)
               clear BK267
               clear BK268
               clear BK269
               clear HB
               have BK267 := n0_
               have BK268 := n1_
               have BK269 := n2_
               have HB := n3_
               clear n0_ n1_ n2_ n3_
               (try clear hb)
               (try clear hb2)
               (try clear hk)
               (try clear hi)
               refine hK.out _ _ ⟨(blk_cell BK268.out 0).trans rfl, (blk_cell BK268.out 1).trans rfl, (blk_cell BK269.out 0).trans rfl, (blk_cell BK269.out 1).trans rfl⟩ (fun hHeld => ?_)
               clear hK K
               refine norm_ (a' := ?_) ?_ ?_
               rotate_left
               ·show Act.put _ (some 133) _ = _
                simp only [Act.put, List.setIfInBounds_toArray, List.set_cons_zero, List.set_cons_succ, i64_w, i32_w]
                rfl
               refine one_ (i := 36) (N := some 137) #[true, true, true, true, true, true, true, true, true, true, true, true, true, true, true, true, true, true, true, true, true, true, true, true, true, true, true, true, true, true, true, true, true, true, true, true, true, false, false, false] rfl rfl (one_of HT_.out (by kernel_rfl)) (by decide) (fun K hK => ?_)
               refine goes_ Tryd.func16 (by kernel_rfl) rfl #[.slice A1 l1.length c1, .slice A2 l2.length c2, .agg #[.slice A3_0 l3_0.length c3_0, .slice A3_1 l3_1.length c3_1]] (by rfl) rfl rfl (by (try simp only [List.map_toArray, List.map_cons, List.map_nil]); first | done | rfl | (simp only [List.length_drop, List.length_take]; rfl)) ?_
               with_reducible refine (witheref9_Line.calls k3 _ _ l1 _ _ l2 _ _ l3_0 _ _ l3_1 t288 _ ?side1 ?side2 ?side3 ?side4 ?side5 ?side6 ?side7 ?side8 A71.out).mono ?_
               (case side1 => repeat (first | exact (Kd.C_below HR1.out HB.out) | (with_reducible refine Kd.C_alloc ?_ _) | (with_reducible refine Kd.C_drewN ?_ _) | (with_reducible refine Kd.C_drew ?_)))
               (case side2 => exact HC1.out)
               (case side3 => repeat (first | exact (Kd.C_below HR2.out HB.out) | (with_reducible refine Kd.C_alloc ?_ _) | (with_reducible refine Kd.C_drewN ?_ _) | (with_reducible refine Kd.C_drew ?_)))
               (case side4 => exact HC2.out)
               (case side5 => repeat (first | exact (Kd.C_below HR3_0.out HB.out) | (with_reducible refine Kd.C_alloc ?_ _) | (with_reducible refine Kd.C_drewN ?_ _) | (with_reducible refine Kd.C_drew ?_)))
               (case side6 => exact HC3_0.out)
               (case side7 => repeat (first | exact (Kd.C_below HR3_1.out HB.out) | (with_reducible refine Kd.C_alloc ?_ _) | (with_reducible refine Kd.C_drewN ?_ _) | (with_reducible refine Kd.C_drew ?_)))
               (case side8 => exact HC3_1.out)
               rintro e w87 ⟨rfl, hb⟩
               refine ⟨_, rfl, ?_⟩
               have n0_ := Aside0.mk (blk_below (g := gb267) (o := .cells #[.int .i64 a0_0, .int .i64 a0_1, .string a0_2, .int .i64 a0_3, .slice A0_4 l0_4.length c0_4] 24 (0, 0)) (by (with_reducible repeat (first | refine blk_drewN ?_ _ | refine blk_drew ?_ | refine blk_alloc ?_ _)); exact BK267.out) hb)
               have n1_ := Aside0.mk (blk_below (g := gb268) (o := .cells #[.slice A3_0 l3_0.length c3_0, .slice A3_1 l3_1.length c3_1] 30 (0, 0)) (by (with_reducible repeat (first | refine blk_drewN ?_ _ | refine blk_drew ?_ | refine blk_alloc ?_ _)); exact BK268.out) hb)
               have n2_ := Aside0.mk (blk_below (g := gb269) (o := .cells #[.slice A4_0 l4_0.length c4_0, .slice A4_1 l4_1.length c4_1] 30 (0, 0)) (by (with_reducible repeat (first | refine blk_drewN ?_ _ | refine blk_drew ?_ | refine blk_alloc ?_ _)); exact BK269.out) hb)
               have n3_ := Aside0.mk (below_step (by repeat (first | (with_reducible first | exact HB.out | apply below_alloc | apply pw_below_drewN | apply below_drew1 | refine below_set ?_ GE267.out | refine below_set ?_ GE268.out | refine below_set ?_ GE269.out) | exact HB.out)) hb)
               clear BK267
               clear BK268
               clear BK269
               clear HB
               have BK267 := n0_
               have BK268 := n1_
               have BK269 := n2_
               have HB := n3_
               clear n0_ n1_ n2_ n3_
               (try clear hb)
               (try clear hb2)
               (try clear hk)
               (try clear hi)
               refine hK.out _ _ ⟨(blk_cell BK268.out 0).trans rfl, (blk_cell BK268.out 1).trans rfl, (blk_cell BK269.out 0).trans rfl, (blk_cell BK269.out 1).trans rfl⟩ (fun hHeld => ?_)
               clear hK K
               refine norm_ (a' := ?_) ?_ ?_
               rotate_left
               ·show Act.put _ (some 137) _ = _
                simp only [Act.put, List.setIfInBounds_toArray, List.set_cons_zero, List.set_cons_succ, i64_w, i32_w]
                rfl
               refine pure_ (i := 37) (N := some 138) (v := ?_) (a' := ?_) #[true, true, true, true, true, true, true, true, true, true, true, true, true, true, true, true, true, true, true, true, true, true, true, true, true, true, true, true, true, true, true, true, true, true, true, true, true, true, false, false] rfl rfl (any_of HT_.out (by kernel_rfl)) (fun _ _ _ h => h) (Or.inl ⟨by rfl, ?_⟩) ?_ ?_
               rotate_left
               ·intro w'
                go_simp
                with_reducible rfl
               rotate_left
               ·simp only [Act.put, List.setIfInBounds_toArray, List.set_cons_zero, List.set_cons_succ, i64_w, i32_w]
                rfl
               refine pure_ (i := 38) (N := some 139) (v := ?_) (a' := ?_) #[true, true, true, true, true, true, true, true, true, true, true, true, true, true, true, true, true, true, true, true, true, true, true, true, true, true, true, true, true, true, true, true, true, true, true, true, true, true, true, false] rfl rfl (any_of HT_.out (by kernel_rfl)) (fun _ _ _ h => h) (Or.inl ⟨by rfl, ?_⟩) ?_ ?_
               rotate_left
               ·intro w'
                go_simp
                with_reducible rfl
               rotate_left
               ·simp only [Act.put, List.setIfInBounds_toArray, List.set_cons_zero, List.set_cons_succ, i64_w, i32_w]
                rfl
               refine pure_ (i := 39) (N := some 10) (v := ?_) (a' := ?_) #[true, true, true, true, true, true, true, true, true, true, true, true, true, true, true, true, true, true, true, true, true, true, true, true, true, true, true, true, true, true, true, true, true, true, true, true, true, true, true, true] rfl rfl (any_of HT_.out (by kernel_rfl)) (fun _ _ _ h => h) (Or.inl ⟨by rfl, ?_⟩) ?_ ?_
               rotate_left
               ·intro w'
                go_simp
                with_reducible rfl
               rotate_left
               ·simp only [Act.put, List.setIfInBounds_toArray, List.set_cons_zero, List.set_cons_succ, i64_w, i32_w]
                rfl
               refine done_ (done_of HT_.out (by kernel_rfl)) ?_
               try go_wp2
               go_ret
               exact ⟨by first | rfl | (simp [errW_none, errW_some] <;> rfl) | (simp [*, errW_none, errW_some] <;> rfl), by repeat (first | (with_reducible first | exact HB.out | apply below_alloc | apply pw_below_drewN | apply below_drew1 | refine below_set ?_ GE267.out | refine below_set ?_ GE268.out | refine below_set ?_ GE269.out) | exact HB.out)⟩
              ·rw [if_neg c69] at H
               exact absurd H (by simp)
             ·rw [if_neg c66] at H
              exact absurd H (by simp)
            ·rw [if_neg c63] at H
             exact absurd H (by simp)
           ·rw [if_neg c62] at H
            exact absurd H (by simp)
 ·replace c7 := Bool.eq_false_iff.mpr c7
  subst c7
  have H1 : (none) = some r := by rw [if_neg (show ¬ (false = true) by decide)] at H; exact H
  clear H
  have H := H1
  clear H1
  exact absurd H (by simp)

end Go.Proofs.YtbgcmbnnkigjjaaDoor.PP
