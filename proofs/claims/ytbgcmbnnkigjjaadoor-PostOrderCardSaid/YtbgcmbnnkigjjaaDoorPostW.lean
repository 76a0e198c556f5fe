-- made by fvprint.py over the kit's print
import Derived.Test.YtbgcmbnnkigjjaaDoorPPx0
import Derived.Test.YtbgcmbnnkigjjaaDoorPPx1
import Derived.Test.YtbgcmbnnkigjjaaDoorPPx7
import Derived.Test.YtbgcmbnnkigjjaaDoorPPx9
import Derived.Test.YtbgcmbnnkigjjaaDoorPPx10
import Derived.Test.YtbgcmbnnkigjjaaDoorPostJ
namespace Go.Proofs.YtbgcmbnnkigjjaaDoor.PP
open Go.RowKit Go.Proofs.YtbgcmbnnkigjjaaDoorW.PrintWords Go.Proofs.YtbgcmbnnkigjjaaDoorW.PrintLast Go.Proofs.YtbgcmbnnkigjjaaDoorW.PrintMore
attribute [local go_sem] max2_int min2_int max_two min_two max_three min_three max_four min_four   -- for this text's walks alone
set_option linter.unusedVariables false
set_option linter.unusedSimpArgs false

attribute [local go_sem] cell_set_some
/-! ### withelaw11_PostOrder: function 5 -/
mutual
def withelaw11_PostOrder.j0 : Nat → List ByteArray → List (List ByteArray) → Bool → List (List Int) → List Int → List (List Int) → List Int → List (List Int) → List Int → Option (Bool)
 | 0, _, _, _, _, _, _, _, _, _ => none
 | k + 1, x7, x8, x42, x260000, x260001, x261000, x261001, x262000, x262001 => if x42 = true then (none) else ((post_Less.f k x260000 x260001 x261000 x261001).bind fun t266 => (if t266 = true then (withelaw11_PostOrder.j1 k x7 x8 (0 + 1) x260000 x260001 x261000 x261001 x262000 x262001) else (withelaw11_PostOrder.j1 k x7 x8 0 x260000 x260001 x261000 x261001 x262000 x262001)))
def withelaw11_PostOrder.j1 : Nat → List ByteArray → List (List ByteArray) → Int → List (List Int) → List Int → List (List Int) → List Int → List (List Int) → List Int → Option (Bool)
 | 0, _, _, _, _, _, _, _, _, _ => none
 | k + 1, x7, x8, x12, x260000, x260001, x261000, x261001, x262000, x262001 => (post_Less.f k x261000 x261001 x260000 x260001).bind fun t267 => (if t267 = true then (withelaw11_PostOrder.j2 k x7 x8 (wrap64 (x12 + 1)) x260000 x260001 x261000 x261001 x262000 x262001) else (withelaw11_PostOrder.j2 k x7 x8 x12 x260000 x260001 x261000 x261001 x262000 x262001))
def withelaw11_PostOrder.j2 : Nat → List ByteArray → List (List ByteArray) → Int → List (List Int) → List Int → List (List Int) → List Int → List (List Int) → List Int → Option (Bool)
 | 0, _, _, _, _, _, _, _, _, _ => none
 | k + 1, x7, x8, x12, x260000, x260001, x261000, x261001, x262000, x262001 => (post_Same.f k x260000 x260001 x261000 x261001).bind fun t268 => (if t268 = true then (withelaw11_PostOrder.j3 k x7 x8 (wrap64 (x12 + 1)) x260000 x260001 x261000 x261001 x262000 x262001) else (withelaw11_PostOrder.j3 k x7 x8 x12 x260000 x260001 x261000 x261001 x262000 x262001))
def withelaw11_PostOrder.j3 : Nat → List ByteArray → List (List ByteArray) → Int → List (List Int) → List Int → List (List Int) → List Int → List (List Int) → List Int → Option (Bool)
 | 0, _, _, _, _, _, _, _, _, _ => none
 | k + 1, x7, x8, x12, x260000, x260001, x261000, x261001, x262000, x262001 => if x12 = 1 then ((post_Less.f k x260000 x260001 x261000 x261001).bind fun t269 => (if t269 = true then ((post_Less.f k x261000 x261001 x262000 x262001).bind fun t270 => (if t270 = true then ((post_Less.f k x260000 x260001 x262000 x262001).bind fun t271 => (withelaw11_PostOrder.j4 k x7 x8 (!t271) x260000 x260001 x261000 x261001)) else (withelaw11_PostOrder.j4 k x7 x8 false x260000 x260001 x261000 x261001))) else (withelaw11_PostOrder.j4 k x7 x8 false x260000 x260001 x261000 x261001))) else (withelaw11_PostOrder.j4 k x7 x8 true x260000 x260001 x261000 x261001)
def withelaw11_PostOrder.j4 : Nat → List ByteArray → List (List ByteArray) → Bool → List (List Int) → List Int → List (List Int) → List Int → Option (Bool)
 | 0, _, _, _, _, _, _, _ => none
 | k + 1, x7, x8, x75, x260000, x260001, x261000, x261001 => if x75 = true then (none) else ((post_Line.f k x7 x8 x260000 x260001).bind fun t272 => ((post_Line.f k x7 x8 x261000 x261001).bind fun t273 => ((post_Same.f k x260000 x260001 x261000 x261001).bind fun t274 => (some ((t272.toList == t273.toList) == t274)))))
end
def withelaw11_PostOrder.f (k : Nat) (a0_0 : Int) (a0_1 : Int) (a0_2 : Int) (a0_3 : Int) (a0_4 : Int) (a0_5 : Int) (a1_0 : Int) (a1_1 : Int) (a1_2 : Int) (a1_3 : Int) (a1_4 : Int) (a1_5 : Int) (a2_0 : Int) (a2_1 : Int) (a2_2 : Int) (a2_3 : Int) (a2_4 : Int) (a2_5 : Int) : Option (Bool) := (withelaw11_begun.f k).bind fun t234 => (if t234 = true then ((withelaw11_names.f).bind fun bt235 => ((withelaw11_made.f a0_0 a0_1 a0_2 a0_3 a0_4 a0_5).bind fun bt241 => ((withelaw11_made.f a1_0 a1_1 a1_2 a1_3 a1_4 a1_5).bind fun bt247 => ((withelaw11_made.f a2_0 a2_1 a2_2 a2_3 a2_4 a2_5).bind fun bt253 => ((post_Less.f k bt241.1 bt241.2 bt241.1 bt241.2).bind fun t262 => (if t262 = true then (withelaw11_PostOrder.j0 k bt235.1 bt235.2 true bt241.1 bt241.2 bt247.1 bt247.2 bt253.1 bt253.2) else ((post_Same.f k bt241.1 bt241.2 bt241.1 bt241.2).bind fun t263 => (if t263 = true then ((post_Same.f k bt241.1 bt241.2 bt247.1 bt247.2).bind fun t264 => ((post_Same.f k bt247.1 bt247.2 bt241.1 bt241.2).bind fun t265 => (withelaw11_PostOrder.j0 k bt235.1 bt235.2 (t264 != t265) bt241.1 bt241.2 bt247.1 bt247.2 bt253.1 bt253.2))) else (withelaw11_PostOrder.j0 k bt235.1 bt235.2 true bt241.1 bt241.2 bt247.1 bt247.2 bt253.1 bt253.2))))))))) else (none))
theorem withelaw11_PostOrder.mono_l : ∀ k, (∀ y0 y1 y2 y3 y4 y5 y6 y7 y8, LeO (withelaw11_PostOrder.j0 k y0 y1 y2 y3 y4 y5 y6 y7 y8) (withelaw11_PostOrder.j0 (k + 1) y0 y1 y2 y3 y4 y5 y6 y7 y8)) ∧ (∀ y0 y1 y2 y3 y4 y5 y6 y7 y8, LeO (withelaw11_PostOrder.j1 k y0 y1 y2 y3 y4 y5 y6 y7 y8) (withelaw11_PostOrder.j1 (k + 1) y0 y1 y2 y3 y4 y5 y6 y7 y8)) ∧ (∀ y0 y1 y2 y3 y4 y5 y6 y7 y8, LeO (withelaw11_PostOrder.j2 k y0 y1 y2 y3 y4 y5 y6 y7 y8) (withelaw11_PostOrder.j2 (k + 1) y0 y1 y2 y3 y4 y5 y6 y7 y8)) ∧ (∀ y0 y1 y2 y3 y4 y5 y6 y7 y8, LeO (withelaw11_PostOrder.j3 k y0 y1 y2 y3 y4 y5 y6 y7 y8) (withelaw11_PostOrder.j3 (k + 1) y0 y1 y2 y3 y4 y5 y6 y7 y8)) ∧ (∀ y0 y1 y2 y3 y4 y5 y6, LeO (withelaw11_PostOrder.j4 k y0 y1 y2 y3 y4 y5 y6) (withelaw11_PostOrder.j4 (k + 1) y0 y1 y2 y3 y4 y5 y6))
 | 0 => ⟨fun _ _ _ _ _ _ _ _ _ r h => by simp [withelaw11_PostOrder.j0] at h, fun _ _ _ _ _ _ _ _ _ r h => by simp [withelaw11_PostOrder.j1] at h, fun _ _ _ _ _ _ _ _ _ r h => by simp [withelaw11_PostOrder.j2] at h, fun _ _ _ _ _ _ _ _ _ r h => by simp [withelaw11_PostOrder.j3] at h, fun _ _ _ _ _ _ _ r h => by simp [withelaw11_PostOrder.j4] at h⟩
 | k + 1 => by
  obtain ⟨ih0, ih1, ih2, ih3, ih4⟩ := withelaw11_PostOrder.mono_l k
  refine ⟨?_, ?_, ?_, ?_, ?_⟩
  ·intro y0 y1 y2 y3 y4 y5 y6 y7 y8
   unfold withelaw11_PostOrder.j0
   repeat' first
   | (with_reducible exact ih0 _ _ _ _ _ _ _ _ _)
   | (with_reducible exact ih1 _ _ _ _ _ _ _ _ _)
   | (with_reducible exact ih2 _ _ _ _ _ _ _ _ _)
   | (with_reducible exact ih3 _ _ _ _ _ _ _ _ _)
   | (with_reducible exact ih4 _ _ _ _ _ _ _)
   | (with_reducible exact post_Less.mono _ _ _ _ _)
   | (with_reducible exact post_Line.mono _ _ _ _ _)
   | (with_reducible exact post_Same.mono _ _ _ _ _)
   | (with_reducible exact withelaw11_begun.mono _)
   | (with_reducible exact LeO.refl _)
   | (with_reducible exact LeO.none _)
   | (with_reducible refine LeO.ite ?_ ?_)
   | (with_reducible refine LeO.bind ?_ (fun _ => ?_))
   | exact ih0 _ _ _ _ _ _ _ _ _
   | exact ih1 _ _ _ _ _ _ _ _ _
   | exact ih2 _ _ _ _ _ _ _ _ _
   | exact ih3 _ _ _ _ _ _ _ _ _
   | exact ih4 _ _ _ _ _ _ _
   | exact post_Less.mono _ _ _ _ _
   | exact post_Line.mono _ _ _ _ _
   | exact post_Same.mono _ _ _ _ _
   | exact withelaw11_begun.mono _
   | exact LeO.none _
   | refine LeO.ite ?_ ?_
   | refine LeO.bind ?_ (fun _ => ?_)
  ·intro y0 y1 y2 y3 y4 y5 y6 y7 y8
   unfold withelaw11_PostOrder.j1
   repeat' first
   | (with_reducible exact ih0 _ _ _ _ _ _ _ _ _)
   | (with_reducible exact ih1 _ _ _ _ _ _ _ _ _)
   | (with_reducible exact ih2 _ _ _ _ _ _ _ _ _)
   | (with_reducible exact ih3 _ _ _ _ _ _ _ _ _)
   | (with_reducible exact ih4 _ _ _ _ _ _ _)
   | (with_reducible exact post_Less.mono _ _ _ _ _)
   | (with_reducible exact post_Line.mono _ _ _ _ _)
   | (with_reducible exact post_Same.mono _ _ _ _ _)
   | (with_reducible exact withelaw11_begun.mono _)
   | (with_reducible exact LeO.refl _)
   | (with_reducible exact LeO.none _)
   | (with_reducible refine LeO.ite ?_ ?_)
   | (with_reducible refine LeO.bind ?_ (fun _ => ?_))
   | exact ih0 _ _ _ _ _ _ _ _ _
   | exact ih1 _ _ _ _ _ _ _ _ _
   | exact ih2 _ _ _ _ _ _ _ _ _
   | exact ih3 _ _ _ _ _ _ _ _ _
   | exact ih4 _ _ _ _ _ _ _
   | exact post_Less.mono _ _ _ _ _
   | exact post_Line.mono _ _ _ _ _
   | exact post_Same.mono _ _ _ _ _
   | exact withelaw11_begun.mono _
   | exact LeO.none _
   | refine LeO.ite ?_ ?_
   | refine LeO.bind ?_ (fun _ => ?_)
  ·intro y0 y1 y2 y3 y4 y5 y6 y7 y8
   unfold withelaw11_PostOrder.j2
   repeat' first
   | (with_reducible exact ih0 _ _ _ _ _ _ _ _ _)
   | (with_reducible exact ih1 _ _ _ _ _ _ _ _ _)
   | (with_reducible exact ih2 _ _ _ _ _ _ _ _ _)
   | (with_reducible exact ih3 _ _ _ _ _ _ _ _ _)
   | (with_reducible exact ih4 _ _ _ _ _ _ _)
   | (with_reducible exact post_Less.mono _ _ _ _ _)
   | (with_reducible exact post_Line.mono _ _ _ _ _)
   | (with_reducible exact post_Same.mono _ _ _ _ _)
   | (with_reducible exact withelaw11_begun.mono _)
   | (with_reducible exact LeO.refl _)
   | (with_reducible exact LeO.none _)
   | (with_reducible refine LeO.ite ?_ ?_)
   | (with_reducible refine LeO.bind ?_ (fun _ => ?_))
   | exact ih0 _ _ _ _ _ _ _ _ _
   | exact ih1 _ _ _ _ _ _ _ _ _
   | exact ih2 _ _ _ _ _ _ _ _ _
   | exact ih3 _ _ _ _ _ _ _ _ _
   | exact ih4 _ _ _ _ _ _ _
   | exact post_Less.mono _ _ _ _ _
   | exact post_Line.mono _ _ _ _ _
   | exact post_Same.mono _ _ _ _ _
   | exact withelaw11_begun.mono _
   | exact LeO.none _
   | refine LeO.ite ?_ ?_
   | refine LeO.bind ?_ (fun _ => ?_)
  ·intro y0 y1 y2 y3 y4 y5 y6 y7 y8
   unfold withelaw11_PostOrder.j3
   repeat' first
   | (with_reducible exact ih0 _ _ _ _ _ _ _ _ _)
   | (with_reducible exact ih1 _ _ _ _ _ _ _ _ _)
   | (with_reducible exact ih2 _ _ _ _ _ _ _ _ _)
   | (with_reducible exact ih3 _ _ _ _ _ _ _ _ _)
   | (with_reducible exact ih4 _ _ _ _ _ _ _)
   | (with_reducible exact post_Less.mono _ _ _ _ _)
   | (with_reducible exact post_Line.mono _ _ _ _ _)
   | (with_reducible exact post_Same.mono _ _ _ _ _)
   | (with_reducible exact withelaw11_begun.mono _)
   | (with_reducible exact LeO.refl _)
   | (with_reducible exact LeO.none _)
   | (with_reducible refine LeO.ite ?_ ?_)
   | (with_reducible refine LeO.bind ?_ (fun _ => ?_))
   | exact ih0 _ _ _ _ _ _ _ _ _
   | exact ih1 _ _ _ _ _ _ _ _ _
   | exact ih2 _ _ _ _ _ _ _ _ _
   | exact ih3 _ _ _ _ _ _ _ _ _
   | exact ih4 _ _ _ _ _ _ _
   | exact post_Less.mono _ _ _ _ _
   | exact post_Line.mono _ _ _ _ _
   | exact post_Same.mono _ _ _ _ _
   | exact withelaw11_begun.mono _
   | exact LeO.none _
   | refine LeO.ite ?_ ?_
   | refine LeO.bind ?_ (fun _ => ?_)
  ·intro y0 y1 y2 y3 y4 y5 y6
   unfold withelaw11_PostOrder.j4
   repeat' first
   | (with_reducible exact ih0 _ _ _ _ _ _ _ _ _)
   | (with_reducible exact ih1 _ _ _ _ _ _ _ _ _)
   | (with_reducible exact ih2 _ _ _ _ _ _ _ _ _)
   | (with_reducible exact ih3 _ _ _ _ _ _ _ _ _)
   | (with_reducible exact ih4 _ _ _ _ _ _ _)
   | (with_reducible exact post_Less.mono _ _ _ _ _)
   | (with_reducible exact post_Line.mono _ _ _ _ _)
   | (with_reducible exact post_Same.mono _ _ _ _ _)
   | (with_reducible exact withelaw11_begun.mono _)
   | (with_reducible exact LeO.refl _)
   | (with_reducible exact LeO.none _)
   | (with_reducible refine LeO.ite ?_ ?_)
   | (with_reducible refine LeO.bind ?_ (fun _ => ?_))
   | exact ih0 _ _ _ _ _ _ _ _ _
   | exact ih1 _ _ _ _ _ _ _ _ _
   | exact ih2 _ _ _ _ _ _ _ _ _
   | exact ih3 _ _ _ _ _ _ _ _ _
   | exact ih4 _ _ _ _ _ _ _
   | exact post_Less.mono _ _ _ _ _
   | exact post_Line.mono _ _ _ _ _
   | exact post_Same.mono _ _ _ _ _
   | exact withelaw11_begun.mono _
   | exact LeO.none _
   | refine LeO.ite ?_ ?_
   | refine LeO.bind ?_ (fun _ => ?_)
theorem withelaw11_PostOrder.mono : ∀ a0 a1 a2 a3 a4 a5 a6 a7 a8 a9 a10 a11 a12 a13 a14 a15 a16 a17 k, LeO (withelaw11_PostOrder.f k a0 a1 a2 a3 a4 a5 a6 a7 a8 a9 a10 a11 a12 a13 a14 a15 a16 a17) (withelaw11_PostOrder.f (k + 1) a0 a1 a2 a3 a4 a5 a6 a7 a8 a9 a10 a11 a12 a13 a14 a15 a16 a17) := by
 intro a0 a1 a2 a3 a4 a5 a6 a7 a8 a9 a10 a11 a12 a13 a14 a15 a16 a17 k
 obtain ⟨ih0, ih1, ih2, ih3, ih4⟩ := withelaw11_PostOrder.mono_l k
 unfold withelaw11_PostOrder.f
 repeat' first
  | (with_reducible exact ih0 _ _ _ _ _ _ _ _ _)
  | (with_reducible exact ih1 _ _ _ _ _ _ _ _ _)
  | (with_reducible exact ih2 _ _ _ _ _ _ _ _ _)
  | (with_reducible exact ih3 _ _ _ _ _ _ _ _ _)
  | (with_reducible exact ih4 _ _ _ _ _ _ _)
  | (with_reducible exact post_Less.mono _ _ _ _ _)
  | (with_reducible exact post_Line.mono _ _ _ _ _)
  | (with_reducible exact post_Same.mono _ _ _ _ _)
  | (with_reducible exact withelaw11_begun.mono _)
  | (with_reducible exact LeO.refl _)
  | (with_reducible exact LeO.none _)
  | (with_reducible refine LeO.ite ?_ ?_)
  | (with_reducible refine LeO.bind ?_ (fun _ => ?_))
  | exact ih0 _ _ _ _ _ _ _ _ _
  | exact ih1 _ _ _ _ _ _ _ _ _
  | exact ih2 _ _ _ _ _ _ _ _ _
  | exact ih3 _ _ _ _ _ _ _ _ _
  | exact ih4 _ _ _ _ _ _ _
  | exact post_Less.mono _ _ _ _ _
  | exact post_Line.mono _ _ _ _ _
  | exact post_Same.mono _ _ _ _ _
  | exact withelaw11_begun.mono _
  | exact LeO.none _
  | refine LeO.ite ?_ ?_
  | refine LeO.bind ?_ (fun _ => ?_)
def withelaw11_PostOrder.T4 : Bool × List (List Nat × List Nat) := (true, [([], []), ([0], [0]), ([], []), ([2, 1], [2]), ([], []), ([4, 3], [4]), ([], []), ([], []), ([], []), ([6, 1, 5, 0, 1, 6, 7, 8], [1, 6]), ([7, 3, 9, 0, 1, 2, 3, 6, 7, 8, 9], [3, 7]), ([8, 5, 10, 0, 1, 2, 3, 4, 5, 6, 7, 8, 9, 10], [5, 8])])
def withelaw11_PostOrder.B4 : List Nat := [0, 1, 0, 7, 0, 31, 0, 0, 0, 511, 1023, 2047]
theorem withelaw11_PostOrder.tab4 : rtab .any (opsOf Tryd.f5 4) = withelaw11_PostOrder.T4 := by kernel_rfl
theorem withelaw11_PostOrder.bits4 : waitsOk withelaw11_PostOrder.T4.2 withelaw11_PostOrder.B4 = true := by kernel_rfl
def withelaw11_PostOrder.T5 : Bool × List (List Nat × List Nat) := (true, [([], []), ([], []), ([0, 1], [0, 1]), ([2, 2], [2]), ([3], [3]), ([3], [3]), ([4, 5, 3, 3], [3, 4, 5]), ([6, 3], [3, 6]), ([3, 7], [3, 7]), ([8, 6], [8]), ([9], [9]), ([9], [9]), ([10, 11, 9, 9], [9, 10, 11]), ([9], [9]), ([9], [9]), ([13, 14, 12, 9], [9, 13, 14]), ([12, 15, 9], [9, 12, 15]), ([9, 16], [9, 16])])
def withelaw11_PostOrder.B5 : List Nat := [0, 0, 3, 7, 15, 15, 63, 127, 255, 511, 1023, 1023, 4095, 1023, 1023, 32767, 65535, 131071]
theorem withelaw11_PostOrder.tab5 : rtab .any (opsOf Tryd.f5 5) = withelaw11_PostOrder.T5 := by kernel_rfl
theorem withelaw11_PostOrder.bits5 : waitsOk withelaw11_PostOrder.T5.2 withelaw11_PostOrder.B5 = true := by kernel_rfl
def withelaw11_PostOrder.T16 : Bool × List (List Nat × List Nat) := (true, [([], []), ([], []), ([], []), ([0, 1, 2], [0, 1, 2]), ([], []), ([], []), ([], []), ([4, 5, 6, 3], [4, 5, 6]), ([3, 7], [3, 7]), ([], []), ([], []), ([9, 10, 7], [9, 10]), ([8, 11], [8, 11]), ([12, 11, 0, 1, 2, 3, 4, 5, 6, 7, 8, 9, 10, 11, 12], [12])])
def withelaw11_PostOrder.B16 : List Nat := [0, 0, 0, 7, 0, 0, 0, 127, 255, 0, 0, 1791, 4095, 8191]
theorem withelaw11_PostOrder.tab16 : rtab .any (opsOf Tryd.f5 16) = withelaw11_PostOrder.T16 := by kernel_rfl
theorem withelaw11_PostOrder.bits16 : waitsOk withelaw11_PostOrder.T16.2 withelaw11_PostOrder.B16 = true := by kernel_rfl
set_option maxHeartbeats 8000000 in
set_option maxRecDepth 100000 in
theorem withelaw11_PostOrder.calls (k : Nat) (a0_0 : Int) (a0_1 : Int) (a0_2 : Int) (a0_3 : Int) (a0_4 : Int) (a0_5 : Int) (a1_0 : Int) (a1_1 : Int) (a1_2 : Int) (a1_3 : Int) (a1_4 : Int) (a1_5 : Int) (a2_0 : Int) (a2_1 : Int) (a2_2 : Int) (a2_3 : Int) (a2_4 : Int) (a2_5 : Int) (r : Bool) (w : World) (h : withelaw11_PostOrder.f k a0_0 a0_1 a0_2 a0_3 a0_4 a0_5 a1_0 a1_1 a1_2 a1_3 a1_4 a1_5 a2_0 a2_1 a2_2 a2_3 a2_4 a2_5 = some r) (hG : GOk w := by first | exact Aside0.out (by assumption) | exact GOk.le (Aside0.out (by assumption)) (by repeat (first | exact Aside0.out (by assumption) | exact Below.refl _ _ | apply below_alloc | apply pw_below_drewN | apply below_drew1 | refine below_set ?_ (Aside0.out (by assumption))))) :
 Calls Tryd.prog 5 #[.agg #[.int .u8 a0_0, .int .u8 a0_1, .int .u8 a0_2, .int .u8 a0_3, .int .u8 a0_4, .int .u8 a0_5], .agg #[.int .u8 a1_0, .int .u8 a1_1, .int .u8 a1_2, .int .u8 a1_3, .int .u8 a1_4, .int .u8 a1_5], .agg #[.int .u8 a2_0, .int .u8 a2_1, .int .u8 a2_2, .int .u8 a2_3, .int .u8 a2_4, .int .u8 a2_5]] w fun e w' => e = .returned (.bool r) ∧ Below w.heap.size w w' := by
 have hu41 := Tryd.underlying41
 have hu30 := Tryd.underlying30
 have HB := Aside0.mk (Below.refl w.heap.size w)
 have H : ((withelaw11_begun.f k).bind fun t234 => (if t234 = true then ((withelaw11_names.f).bind fun bt235 => ((withelaw11_made.f a0_0 a0_1 a0_2 a0_3 a0_4 a0_5).bind fun bt241 => ((withelaw11_made.f a1_0 a1_1 a1_2 a1_3 a1_4 a1_5).bind fun bt247 => ((withelaw11_made.f a2_0 a2_1 a2_2 a2_3 a2_4 a2_5).bind fun bt253 => ((post_Less.f k bt241.1 bt241.2 bt241.1 bt241.2).bind fun t262 => (if t262 = true then (withelaw11_PostOrder.j0 k bt235.1 bt235.2 true bt241.1 bt241.2 bt247.1 bt247.2 bt253.1 bt253.2) else ((post_Same.f k bt241.1 bt241.2 bt241.1 bt241.2).bind fun t263 => (if t263 = true then ((post_Same.f k bt241.1 bt241.2 bt247.1 bt247.2).bind fun t264 => ((post_Same.f k bt247.1 bt247.2 bt241.1 bt241.2).bind fun t265 => (withelaw11_PostOrder.j0 k bt235.1 bt235.2 (t264 != t265) bt241.1 bt241.2 bt247.1 bt247.2 bt253.1 bt253.2))) else (withelaw11_PostOrder.j0 k bt235.1 bt235.2 true bt241.1 bt241.2 bt247.1 bt247.2 bt253.1 bt253.2))))))))) else (none))) = some r := h
 clear h
 have HG := Aside0.mk hG
 clear hG
 replace H := Option.bind_eq_some_iff.mp H
 obtain ⟨t234, A40, H⟩ := H
 replace H : (if t234 = true then ((withelaw11_names.f).bind fun bt235 => ((withelaw11_made.f a0_0 a0_1 a0_2 a0_3 a0_4 a0_5).bind fun bt241 => ((withelaw11_made.f a1_0 a1_1 a1_2 a1_3 a1_4 a1_5).bind fun bt247 => ((withelaw11_made.f a2_0 a2_1 a2_2 a2_3 a2_4 a2_5).bind fun bt253 => ((post_Less.f k bt241.1 bt241.2 bt241.1 bt241.2).bind fun t262 => (if t262 = true then (withelaw11_PostOrder.j0 k bt235.1 bt235.2 true bt241.1 bt241.2 bt247.1 bt247.2 bt253.1 bt253.2) else ((post_Same.f k bt241.1 bt241.2 bt241.1 bt241.2).bind fun t263 => (if t263 = true then ((post_Same.f k bt241.1 bt241.2 bt247.1 bt247.2).bind fun t264 => ((post_Same.f k bt247.1 bt247.2 bt241.1 bt241.2).bind fun t265 => (withelaw11_PostOrder.j0 k bt235.1 bt235.2 (t264 != t265) bt241.1 bt241.2 bt247.1 bt247.2 bt253.1 bt253.2))) else (withelaw11_PostOrder.j0 k bt235.1 bt235.2 true bt241.1 bt241.2 bt247.1 bt247.2 bt253.1 bt253.2))))))))) else (none)) = some r := H
 have A4 := Aside0.mk A40
 clear A40
 by_cases c5 : t234 = true
 ·subst c5
  have H1 : ((withelaw11_names.f).bind fun bt235 => ((withelaw11_made.f a0_0 a0_1 a0_2 a0_3 a0_4 a0_5).bind fun bt241 => ((withelaw11_made.f a1_0 a1_1 a1_2 a1_3 a1_4 a1_5).bind fun bt247 => ((withelaw11_made.f a2_0 a2_1 a2_2 a2_3 a2_4 a2_5).bind fun bt253 => ((post_Less.f k bt241.1 bt241.2 bt241.1 bt241.2).bind fun t262 => (if t262 = true then (withelaw11_PostOrder.j0 k bt235.1 bt235.2 true bt241.1 bt241.2 bt247.1 bt247.2 bt253.1 bt253.2) else ((post_Same.f k bt241.1 bt241.2 bt241.1 bt241.2).bind fun t263 => (if t263 = true then ((post_Same.f k bt241.1 bt241.2 bt247.1 bt247.2).bind fun t264 => ((post_Same.f k bt247.1 bt247.2 bt241.1 bt241.2).bind fun t265 => (withelaw11_PostOrder.j0 k bt235.1 bt235.2 (t264 != t265) bt241.1 bt241.2 bt247.1 bt247.2 bt253.1 bt253.2))) else (withelaw11_PostOrder.j0 k bt235.1 bt235.2 true bt241.1 bt241.2 bt247.1 bt247.2 bt253.1 bt253.2))))))))) = some r := by rw [if_pos rfl] at H; exact H
  clear H
  have H := H1
  clear H1
  replace H := Option.bind_eq_some_iff.mp H
  obtain ⟨⟨t235, t238⟩, A60, H⟩ := H
  replace H : ((withelaw11_made.f a0_0 a0_1 a0_2 a0_3 a0_4 a0_5).bind fun bt241 => ((withelaw11_made.f a1_0 a1_1 a1_2 a1_3 a1_4 a1_5).bind fun bt247 => ((withelaw11_made.f a2_0 a2_1 a2_2 a2_3 a2_4 a2_5).bind fun bt253 => ((post_Less.f k bt241.1 bt241.2 bt241.1 bt241.2).bind fun t262 => (if t262 = true then (withelaw11_PostOrder.j0 k t235 t238 true bt241.1 bt241.2 bt247.1 bt247.2 bt253.1 bt253.2) else ((post_Same.f k bt241.1 bt241.2 bt241.1 bt241.2).bind fun t263 => (if t263 = true then ((post_Same.f k bt241.1 bt241.2 bt247.1 bt247.2).bind fun t264 => ((post_Same.f k bt247.1 bt247.2 bt241.1 bt241.2).bind fun t265 => (withelaw11_PostOrder.j0 k t235 t238 (t264 != t265) bt241.1 bt241.2 bt247.1 bt247.2 bt253.1 bt253.2))) else (withelaw11_PostOrder.j0 k t235 t238 true bt241.1 bt241.2 bt247.1 bt247.2 bt253.1 bt253.2)))))))) = some r := H
  have A6 := Aside0.mk A60
  clear A60
  replace H := Option.bind_eq_some_iff.mp H
  obtain ⟨⟨t241, t244⟩, A70, H⟩ := H
  replace H : ((withelaw11_made.f a1_0 a1_1 a1_2 a1_3 a1_4 a1_5).bind fun bt247 => ((withelaw11_made.f a2_0 a2_1 a2_2 a2_3 a2_4 a2_5).bind fun bt253 => ((post_Less.f k t241 t244 t241 t244).bind fun t262 => (if t262 = true then (withelaw11_PostOrder.j0 k t235 t238 true t241 t244 bt247.1 bt247.2 bt253.1 bt253.2) else ((post_Same.f k t241 t244 t241 t244).bind fun t263 => (if t263 = true then ((post_Same.f k t241 t244 bt247.1 bt247.2).bind fun t264 => ((post_Same.f k bt247.1 bt247.2 t241 t244).bind fun t265 => (withelaw11_PostOrder.j0 k t235 t238 (t264 != t265) t241 t244 bt247.1 bt247.2 bt253.1 bt253.2))) else (withelaw11_PostOrder.j0 k t235 t238 true t241 t244 bt247.1 bt247.2 bt253.1 bt253.2))))))) = some r := H
  have A7 := Aside0.mk A70
  clear A70
  replace H := Option.bind_eq_some_iff.mp H
  obtain ⟨⟨t247, t250⟩, A80, H⟩ := H
  replace H : ((withelaw11_made.f a2_0 a2_1 a2_2 a2_3 a2_4 a2_5).bind fun bt253 => ((post_Less.f k t241 t244 t241 t244).bind fun t262 => (if t262 = true then (withelaw11_PostOrder.j0 k t235 t238 true t241 t244 t247 t250 bt253.1 bt253.2) else ((post_Same.f k t241 t244 t241 t244).bind fun t263 => (if t263 = true then ((post_Same.f k t241 t244 t247 t250).bind fun t264 => ((post_Same.f k t247 t250 t241 t244).bind fun t265 => (withelaw11_PostOrder.j0 k t235 t238 (t264 != t265) t241 t244 t247 t250 bt253.1 bt253.2))) else (withelaw11_PostOrder.j0 k t235 t238 true t241 t244 t247 t250 bt253.1 bt253.2)))))) = some r := H
  have A8 := Aside0.mk A80
  clear A80
  replace H := Option.bind_eq_some_iff.mp H
  obtain ⟨⟨t253, t256⟩, A90, H⟩ := H
  replace H : ((post_Less.f k t241 t244 t241 t244).bind fun t262 => (if t262 = true then (withelaw11_PostOrder.j0 k t235 t238 true t241 t244 t247 t250 t253 t256) else ((post_Same.f k t241 t244 t241 t244).bind fun t263 => (if t263 = true then ((post_Same.f k t241 t244 t247 t250).bind fun t264 => ((post_Same.f k t247 t250 t241 t244).bind fun t265 => (withelaw11_PostOrder.j0 k t235 t238 (t264 != t265) t241 t244 t247 t250 t253 t256))) else (withelaw11_PostOrder.j0 k t235 t238 true t241 t244 t247 t250 t253 t256))))) = some r := H
  have A9 := Aside0.mk A90
  clear A90
  have HC10 := Aside0.mk H
  clear H
  go_enter Tryd.func5, Tryd.ntmps5
  try go_wp2_with (first | ((with_reducible refine gate_dst (N := 3) rfl ?_); refine box_event ?hg (N := 3) ?hd (cs := #[.int .u8 a0_0, .int .u8 a0_1, .int .u8 a0_2, .int .u8 a0_3, .int .u8 a0_4, .int .u8 a0_5]) (t := 41) ?hr ?_; (case hd => rfl); (case hg => rfl); (case hr => first | (go_simp; done) | (go_simp; rfl)); intro gb231 hg w11 hbox hb; have n0_ := Aside0.mk (below_step (by repeat (first | (with_reducible first | exact HB.out | apply below_alloc | apply pw_below_drewN | apply below_drew1) | exact HB.out)) hb); have n1_ := Aside0.mk (hbox); have n2_ := Aside0.mk ((by rw [hg]; exact (below_size (by repeat (first | (with_reducible first | exact HB.out | apply below_alloc | apply pw_below_drewN | apply below_drew1) | exact HB.out))) : w.heap.size ≤ gb231)); have n3_ := Aside0.mk ((by rw [hg]; exact (below_size (by repeat (first | (with_reducible first | exact HB.out | apply below_alloc | apply pw_below_drewN | apply below_drew1) | exact HB.out))) : w.heap.size ≤ gb231)); clear HB; have HB := n0_; have BK231 := n1_; have GW231 := n2_; have GE231 := n3_; clear n0_ n1_ n2_ n3_; clear hb hbox hg) | ((with_reducible refine gate_dst (N := 4) rfl ?_); refine box_event ?hg (N := 4) ?hd (cs := #[.int .u8 a1_0, .int .u8 a1_1, .int .u8 a1_2, .int .u8 a1_3, .int .u8 a1_4, .int .u8 a1_5]) (t := 41) ?hr ?_; (case hd => rfl); (case hg => rfl); (case hr => first | (go_simp; done) | (go_simp; rfl)); intro gb232 hg w12 hbox hb; have n0_ := Aside0.mk (blk_below (g := gb231) (o := .cells #[.int .u8 a0_0, .int .u8 a0_1, .int .u8 a0_2, .int .u8 a0_3, .int .u8 a0_4, .int .u8 a0_5] 41 (0, 0)) (by (with_reducible repeat (first | refine blk_drewN ?_ _ | refine blk_drew ?_ | refine blk_alloc ?_ _)); exact BK231.out) hb); have n1_ := Aside0.mk (below_step (by repeat (first | (with_reducible first | exact HB.out | apply below_alloc | apply pw_below_drewN | apply below_drew1 | refine below_set ?_ GE231.out) | exact HB.out)) hb); have n2_ := Aside0.mk (hbox); have n3_ := Aside0.mk ((by rw [hg]; exact (below_size (by repeat (first | (with_reducible first | exact HB.out | apply below_alloc | apply pw_below_drewN | apply below_drew1 | refine below_set ?_ GE231.out) | exact HB.out))) : w.heap.size ≤ gb232)); have n4_ := Aside0.mk ((by rw [hg]; exact (below_size (by repeat (first | (with_reducible first | exact HB.out | apply below_alloc | apply pw_below_drewN | apply below_drew1 | refine below_set ?_ GE231.out) | exact HB.out))) : w.heap.size ≤ gb232)); have n5_ := Aside0.mk ((by rw [hg]; exact Nat.ne_of_lt (blk_lt (g := gb231) (o := .cells #[.int .u8 a0_0, .int .u8 a0_1, .int .u8 a0_2, .int .u8 a0_3, .int .u8 a0_4, .int .u8 a0_5] 41 (0, 0)) (by (with_reducible repeat (first | refine blk_drewN ?_ _ | refine blk_drew ?_ | refine blk_alloc ?_ _)); exact BK231.out)) : gb231 ≠ gb232)); have n6_ := Aside0.mk ((by rw [hg]; exact Nat.ne_of_gt (blk_lt (g := gb231) (o := .cells #[.int .u8 a0_0, .int .u8 a0_1, .int .u8 a0_2, .int .u8 a0_3, .int .u8 a0_4, .int .u8 a0_5] 41 (0, 0)) (by (with_reducible repeat (first | refine blk_drewN ?_ _ | refine blk_drew ?_ | refine blk_alloc ?_ _)); exact BK231.out)) : gb232 ≠ gb231)); clear BK231; clear HB; have BK231 := n0_; have HB := n1_; have BK232 := n2_; have GW232 := n3_; have GE232 := n4_; have NB231_232 := n5_; have NB232_231 := n6_; clear n0_ n1_ n2_ n3_ n4_ n5_ n6_; clear hb hbox hg) | ((with_reducible refine gate_dst (N := 5) rfl ?_); refine box_event ?hg (N := 5) ?hd (cs := #[.int .u8 a2_0, .int .u8 a2_1, .int .u8 a2_2, .int .u8 a2_3, .int .u8 a2_4, .int .u8 a2_5]) (t := 41) ?hr ?_; (case hd => rfl); (case hg => rfl); (case hr => first | (go_simp; done) | (go_simp; rfl)); intro gb233 hg w13 hbox hb; have n0_ := Aside0.mk (blk_below (g := gb231) (o := .cells #[.int .u8 a0_0, .int .u8 a0_1, .int .u8 a0_2, .int .u8 a0_3, .int .u8 a0_4, .int .u8 a0_5] 41 (0, 0)) (by (with_reducible repeat (first | refine blk_drewN ?_ _ | refine blk_drew ?_ | refine blk_alloc ?_ _)); exact BK231.out) hb); have n1_ := Aside0.mk (blk_below (g := gb232) (o := .cells #[.int .u8 a1_0, .int .u8 a1_1, .int .u8 a1_2, .int .u8 a1_3, .int .u8 a1_4, .int .u8 a1_5] 41 (0, 0)) (by (with_reducible repeat (first | refine blk_drewN ?_ _ | refine blk_drew ?_ | refine blk_alloc ?_ _)); exact BK232.out) hb); have n2_ := Aside0.mk (below_step (by repeat (first | (with_reducible first | exact HB.out | apply below_alloc | apply pw_below_drewN | apply below_drew1 | refine below_set ?_ GE231.out | refine below_set ?_ GE232.out) | exact HB.out)) hb); have n3_ := Aside0.mk (hbox); have n4_ := Aside0.mk ((by rw [hg]; exact (below_size (by repeat (first | (with_reducible first | exact HB.out | apply below_alloc | apply pw_below_drewN | apply below_drew1 | refine below_set ?_ GE231.out | refine below_set ?_ GE232.out) | exact HB.out))) : w.heap.size ≤ gb233)); have n5_ := Aside0.mk ((by rw [hg]; exact (below_size (by repeat (first | (with_reducible first | exact HB.out | apply below_alloc | apply pw_below_drewN | apply below_drew1 | refine below_set ?_ GE231.out | refine below_set ?_ GE232.out) | exact HB.out))) : w.heap.size ≤ gb233)); have n6_ := Aside0.mk ((by rw [hg]; exact Nat.ne_of_lt (blk_lt (g := gb231) (o := .cells #[.int .u8 a0_0, .int .u8 a0_1, .int .u8 a0_2, .int .u8 a0_3, .int .u8 a0_4, .int .u8 a0_5] 41 (0, 0)) (by (with_reducible repeat (first | refine blk_drewN ?_ _ | refine blk_drew ?_ | refine blk_alloc ?_ _)); exact BK231.out)) : gb231 ≠ gb233)); have n7_ := Aside0.mk ((by rw [hg]; exact Nat.ne_of_gt (blk_lt (g := gb231) (o := .cells #[.int .u8 a0_0, .int .u8 a0_1, .int .u8 a0_2, .int .u8 a0_3, .int .u8 a0_4, .int .u8 a0_5] 41 (0, 0)) (by (with_reducible repeat (first | refine blk_drewN ?_ _ | refine blk_drew ?_ | refine blk_alloc ?_ _)); exact BK231.out)) : gb233 ≠ gb231)); have n8_ := Aside0.mk ((by rw [hg]; exact Nat.ne_of_lt (blk_lt (g := gb232) (o := .cells #[.int .u8 a1_0, .int .u8 a1_1, .int .u8 a1_2, .int .u8 a1_3, .int .u8 a1_4, .int .u8 a1_5] 41 (0, 0)) (by (with_reducible repeat (first | refine blk_drewN ?_ _ | refine blk_drew ?_ | refine blk_alloc ?_ _)); exact BK232.out)) : gb232 ≠ gb233)); have n9_ := Aside0.mk ((by rw [hg]; exact Nat.ne_of_gt (blk_lt (g := gb232) (o := .cells #[.int .u8 a1_0, .int .u8 a1_1, .int .u8 a1_2, .int .u8 a1_3, .int .u8 a1_4, .int .u8 a1_5] 41 (0, 0)) (by (with_reducible repeat (first | refine blk_drewN ?_ _ | refine blk_drew ?_ | refine blk_alloc ?_ _)); exact BK232.out)) : gb233 ≠ gb232)); clear BK231; clear BK232; clear HB; have BK231 := n0_; have BK232 := n1_; have HB := n2_; have BK233 := n3_; have GW233 := n4_; have GE233 := n5_; have NB231_233 := n6_; have NB233_231 := n7_; have NB232_233 := n8_; have NB233_232 := n9_; clear n0_ n1_ n2_ n3_ n4_ n5_ n6_ n7_ n8_ n9_; clear hb hbox hg) | ((with_reducible refine gate_callee (f := 7) rfl ?_); refine goesL_ (some 13) rfl rfl Tryd.func7 (by kernel_rfl) rfl #[] rfl (by (try simp only [List.map_toArray, List.map_cons, List.map_nil]); first | done | rfl | (simp only [List.length_drop, List.length_take]; rfl)) ?_; (with_reducible refine (withelaw11_begun.calls k  true _ A4.out).mono ?_); rintro e w14 ⟨rfl, hb⟩; refine ⟨_, rfl, ?_⟩; have n0_ := Aside0.mk (blk_below (g := gb231) (o := .cells #[.int .u8 a0_0, .int .u8 a0_1, .int .u8 a0_2, .int .u8 a0_3, .int .u8 a0_4, .int .u8 a0_5] 41 (0, 0)) (by (with_reducible repeat (first | refine blk_drewN ?_ _ | refine blk_drew ?_ | refine blk_alloc ?_ _)); exact BK231.out) hb); have n1_ := Aside0.mk (blk_below (g := gb232) (o := .cells #[.int .u8 a1_0, .int .u8 a1_1, .int .u8 a1_2, .int .u8 a1_3, .int .u8 a1_4, .int .u8 a1_5] 41 (0, 0)) (by (with_reducible repeat (first | refine blk_drewN ?_ _ | refine blk_drew ?_ | refine blk_alloc ?_ _)); exact BK232.out) hb); have n2_ := Aside0.mk (blk_below (g := gb233) (o := .cells #[.int .u8 a2_0, .int .u8 a2_1, .int .u8 a2_2, .int .u8 a2_3, .int .u8 a2_4, .int .u8 a2_5] 41 (0, 0)) (by (with_reducible repeat (first | refine blk_drewN ?_ _ | refine blk_drew ?_ | refine blk_alloc ?_ _)); exact BK233.out) hb); have n3_ := Aside0.mk (below_step (by repeat (first | (with_reducible first | exact HB.out | apply below_alloc | apply pw_below_drewN | apply below_drew1 | refine below_set ?_ GE231.out | refine below_set ?_ GE232.out | refine below_set ?_ GE233.out) | exact HB.out)) hb); clear BK231; clear BK232; clear BK233; clear HB; have BK231 := n0_; have BK232 := n1_; have BK233 := n2_; have HB := n3_; clear n0_ n1_ n2_ n3_; (try clear hb); (try clear hb2); (try clear hk); (try clear hi)) | ((with_reducible refine gate_callee (f := 17) rfl ?_); refine goesL_ (some 16) rfl rfl Tryd.func17 (by kernel_rfl) rfl #[] rfl (by (try simp only [List.map_toArray, List.map_cons, List.map_nil]); first | done | rfl | (simp only [List.length_drop, List.length_take]; rfl)) ?_; (with_reducible refine (withelaw11_names.calls  t235 t238 _ A6.out).mono ?_); rintro e w15 ⟨v236, v239, rfl, ho0, ho1, hb⟩; refine ⟨_, rfl, ?_⟩; have n0_ := Aside0.mk (Kd.R_lower (Kd.R_mono (ok' := fun k_ => True) ho0 (fun _ hk_ => trivial)) (below_size (by repeat (first | (with_reducible first | exact HB.out | apply below_alloc | apply pw_below_drewN | apply below_drew1 | refine below_set ?_ GE231.out | refine below_set ?_ GE232.out | refine below_set ?_ GE233.out) | exact HB.out)))); have n1_ := Aside0.mk (Kd.N_lower (Kd.N_mono (ok' := fun k_ => some k_ ≠ (v236 : Value).ownBlock ∧ k_ ≠ gb231 ∧ k_ ≠ gb232 ∧ k_ ≠ gb233) ho1 (fun k_ hk_ => ⟨hk_.2, (Kd.freshB (g := gb231) (o := .cells #[.int .u8 a0_0, .int .u8 a0_1, .int .u8 a0_2, .int .u8 a0_3, .int .u8 a0_4, .int .u8 a0_5] 41 (0, 0)) (by (with_reducible repeat (first | refine blk_drewN ?_ _ | refine blk_drew ?_ | refine blk_alloc ?_ _)); exact BK231.out) k_ hk_.1), (Kd.freshB (g := gb232) (o := .cells #[.int .u8 a1_0, .int .u8 a1_1, .int .u8 a1_2, .int .u8 a1_3, .int .u8 a1_4, .int .u8 a1_5] 41 (0, 0)) (by (with_reducible repeat (first | refine blk_drewN ?_ _ | refine blk_drew ?_ | refine blk_alloc ?_ _)); exact BK232.out) k_ hk_.1), (Kd.freshB (g := gb233) (o := .cells #[.int .u8 a2_0, .int .u8 a2_1, .int .u8 a2_2, .int .u8 a2_3, .int .u8 a2_4, .int .u8 a2_5] 41 (0, 0)) (by (with_reducible repeat (first | refine blk_drewN ?_ _ | refine blk_drew ?_ | refine blk_alloc ?_ _)); exact BK233.out) k_ hk_.1)⟩)) (below_size (by repeat (first | (with_reducible first | exact HB.out | apply below_alloc | apply pw_below_drewN | apply below_drew1 | refine below_set ?_ GE231.out | refine below_set ?_ GE232.out | refine below_set ?_ GE233.out) | exact HB.out)))); have n2_ := Aside0.mk (blk_below (g := gb231) (o := .cells #[.int .u8 a0_0, .int .u8 a0_1, .int .u8 a0_2, .int .u8 a0_3, .int .u8 a0_4, .int .u8 a0_5] 41 (0, 0)) (by (with_reducible repeat (first | refine blk_drewN ?_ _ | refine blk_drew ?_ | refine blk_alloc ?_ _)); exact BK231.out) hb); have n3_ := Aside0.mk (blk_below (g := gb232) (o := .cells #[.int .u8 a1_0, .int .u8 a1_1, .int .u8 a1_2, .int .u8 a1_3, .int .u8 a1_4, .int .u8 a1_5] 41 (0, 0)) (by (with_reducible repeat (first | refine blk_drewN ?_ _ | refine blk_drew ?_ | refine blk_alloc ?_ _)); exact BK232.out) hb); have n4_ := Aside0.mk (blk_below (g := gb233) (o := .cells #[.int .u8 a2_0, .int .u8 a2_1, .int .u8 a2_2, .int .u8 a2_3, .int .u8 a2_4, .int .u8 a2_5] 41 (0, 0)) (by (with_reducible repeat (first | refine blk_drewN ?_ _ | refine blk_drew ?_ | refine blk_alloc ?_ _)); exact BK233.out) hb); have n5_ := Aside0.mk (below_step (by repeat (first | (with_reducible first | exact HB.out | apply below_alloc | apply pw_below_drewN | apply below_drew1 | refine below_set ?_ GE231.out | refine below_set ?_ GE232.out | refine below_set ?_ GE233.out) | exact HB.out)) hb); clear BK231; clear BK232; clear BK233; clear HB; have HO237 := n0_; have HO240 := n1_; have BK231 := n2_; have BK232 := n3_; have BK233 := n4_; have HB := n5_; clear n0_ n1_ n2_ n3_ n4_ n5_; (try clear hb); (try clear hb2); (try clear hk); (try clear hi); (try clear ho0); (try clear ho1)))
  have n0_ := Aside0.mk (Kd.R_drew HO237.out)
  have n1_ := Aside0.mk (Kd.N_drew HO240.out)
  have n2_ := Aside0.mk (blk_drew BK231.out)
  have n3_ := Aside0.mk (blk_drew BK232.out)
  have n4_ := Aside0.mk (blk_drew BK233.out)
  have n5_ := Aside0.mk (below_drew1 HB.out)
  clear HO237
  clear HO240
  clear BK231
  clear BK232
  clear BK233
  clear HB
  have HO237 := n0_
  have HO240 := n1_
  have BK231 := n2_
  have BK232 := n3_
  have BK233 := n4_
  have HB := n5_
  clear n0_ n1_ n2_ n3_ n4_ n5_
  refine start_ (n := 12) (S := fun w' => w'.cell? ⟨gb231, 0, none⟩ = some (.int .u8 a0_0) ∧ w'.cell? ⟨gb231, 1, none⟩ = some (.int .u8 a0_1) ∧ w'.cell? ⟨gb231, 2, none⟩ = some (.int .u8 a0_2) ∧ w'.cell? ⟨gb231, 3, none⟩ = some (.int .u8 a0_3) ∧ w'.cell? ⟨gb231, 4, none⟩ = some (.int .u8 a0_4) ∧ w'.cell? ⟨gb231, 5, none⟩ = some (.int .u8 a0_5) ∧ w'.cell? ⟨gb232, 0, none⟩ = some (.int .u8 a1_0) ∧ w'.cell? ⟨gb232, 1, none⟩ = some (.int .u8 a1_1) ∧ w'.cell? ⟨gb232, 2, none⟩ = some (.int .u8 a1_2) ∧ w'.cell? ⟨gb232, 3, none⟩ = some (.int .u8 a1_3) ∧ w'.cell? ⟨gb232, 4, none⟩ = some (.int .u8 a1_4) ∧ w'.cell? ⟨gb232, 5, none⟩ = some (.int .u8 a1_5) ∧ w'.cell? ⟨gb233, 0, none⟩ = some (.int .u8 a2_0) ∧ w'.cell? ⟨gb233, 1, none⟩ = some (.int .u8 a2_1) ∧ w'.cell? ⟨gb233, 2, none⟩ = some (.int .u8 a2_2) ∧ w'.cell? ⟨gb233, 3, none⟩ = some (.int .u8 a2_3) ∧ w'.cell? ⟨gb233, 4, none⟩ = some (.int .u8 a2_4) ∧ w'.cell? ⟨gb233, 5, none⟩ = some (.int .u8 a2_5)) (ds := []) #[false, false, false, false, false, false, false, false, false, false, false, false] (by kernel_rfl) rfl rfl ⟨(blk_cell BK231.out 0).trans rfl, (blk_cell BK231.out 1).trans rfl, (blk_cell BK231.out 2).trans rfl, (blk_cell BK231.out 3).trans rfl, (blk_cell BK231.out 4).trans rfl, (blk_cell BK231.out 5).trans rfl, (blk_cell BK232.out 0).trans rfl, (blk_cell BK232.out 1).trans rfl, (blk_cell BK232.out 2).trans rfl, (blk_cell BK232.out 3).trans rfl, (blk_cell BK232.out 4).trans rfl, (blk_cell BK232.out 5).trans rfl, (blk_cell BK233.out 0).trans rfl, (blk_cell BK233.out 1).trans rfl, (blk_cell BK233.out 2).trans rfl, (blk_cell BK233.out 3).trans rfl, (blk_cell BK233.out 4).trans rfl, (blk_cell BK233.out 5).trans rfl⟩ (fun hHeld => ?_); refine with_tabW withelaw11_PostOrder.tab4 withelaw11_PostOrder.bits4 (fun HT_ HW_ => ?_)
  generalize w15.drew = w16 at HO237 HO240 BK231 BK232 BK233 HB hHeld ⊢
  refine take_ (i := 0) (N := some 19) (v := ?_) (a' := ?_) #[true, false, false, false, false, false, false, false, false, false, false, false] rfl rfl (take_ofW HT_.out HW_.out (by kernel_rfl)) (fun _ _ _ h => h) (Or.inl ⟨by rfl, ?_⟩) hHeld ?_ ?_
  rotate_left
  ·rintro w' ⟨s0, s1, s2, s3, s4, s5, s6, s7, s8, s9, s10, s11, s12, s13, s14, s15, s16, s17⟩
   go_simp
   with_reducible rfl
  rotate_left
  ·simp only [Act.put, List.setIfInBounds_toArray, List.set_cons_zero, List.set_cons_succ, i64_w, i32_w]
   rfl
  refine take_ (i := 2) (N := some 21) (v := ?_) (a' := ?_) #[true, false, true, false, false, false, false, false, false, false, false, false] rfl rfl (take_ofW HT_.out HW_.out (by kernel_rfl)) (fun _ _ _ h => h) (Or.inl ⟨by rfl, ?_⟩) hHeld ?_ ?_
  rotate_left
  ·rintro w' ⟨s0, s1, s2, s3, s4, s5, s6, s7, s8, s9, s10, s11, s12, s13, s14, s15, s16, s17⟩
   go_simp
   with_reducible rfl
  rotate_left
  ·simp only [Act.put, List.setIfInBounds_toArray, List.set_cons_zero, List.set_cons_succ, i64_w, i32_w]
   rfl
  refine take_ (i := 4) (N := some 23) (v := ?_) (a' := ?_) #[true, false, true, false, true, false, false, false, false, false, false, false] rfl rfl (take_ofW HT_.out HW_.out (by kernel_rfl)) (fun _ _ _ h => h) (Or.inl ⟨by rfl, ?_⟩) hHeld ?_ ?_
  rotate_left
  ·rintro w' ⟨s0, s1, s2, s3, s4, s5, s6, s7, s8, s9, s10, s11, s12, s13, s14, s15, s16, s17⟩
   go_simp
   with_reducible rfl
  rotate_left
  ·simp only [Act.put, List.setIfInBounds_toArray, List.set_cons_zero, List.set_cons_succ, i64_w, i32_w]
   rfl
  refine join_ (σ := Value × Value × Value × Value × Value × Value × Nat × Nat × Nat) 3 #[true, true, true, true, true, true, true, true, true, false, false, false] (fun s_ => [(20, .agg #[s_.1, s_.2.1]), (22, .agg #[s_.2.2.1, s_.2.2.2.1]), (24, .agg #[s_.2.2.2.2.1, s_.2.2.2.2.2.1]), (9, .pointer (some ⟨s_.2.2.2.2.2.2.1, 0, none⟩)), (10, .pointer (some ⟨s_.2.2.2.2.2.2.2.1, 0, none⟩)), (11, .pointer (some ⟨s_.2.2.2.2.2.2.2.2, 0, none⟩))]) (fun s_ w' => (w'.cell? ⟨gb231, 0, none⟩ = some (.int .u8 a0_0) ∧ w'.cell? ⟨gb231, 1, none⟩ = some (.int .u8 a0_1) ∧ w'.cell? ⟨gb231, 2, none⟩ = some (.int .u8 a0_2) ∧ w'.cell? ⟨gb231, 3, none⟩ = some (.int .u8 a0_3) ∧ w'.cell? ⟨gb231, 4, none⟩ = some (.int .u8 a0_4) ∧ w'.cell? ⟨gb231, 5, none⟩ = some (.int .u8 a0_5) ∧ w'.cell? ⟨gb232, 0, none⟩ = some (.int .u8 a1_0) ∧ w'.cell? ⟨gb232, 1, none⟩ = some (.int .u8 a1_1) ∧ w'.cell? ⟨gb232, 2, none⟩ = some (.int .u8 a1_2) ∧ w'.cell? ⟨gb232, 3, none⟩ = some (.int .u8 a1_3) ∧ w'.cell? ⟨gb232, 4, none⟩ = some (.int .u8 a1_4) ∧ w'.cell? ⟨gb232, 5, none⟩ = some (.int .u8 a1_5) ∧ w'.cell? ⟨gb233, 0, none⟩ = some (.int .u8 a2_0) ∧ w'.cell? ⟨gb233, 1, none⟩ = some (.int .u8 a2_1) ∧ w'.cell? ⟨gb233, 2, none⟩ = some (.int .u8 a2_2) ∧ w'.cell? ⟨gb233, 3, none⟩ = some (.int .u8 a2_3) ∧ w'.cell? ⟨gb233, 4, none⟩ = some (.int .u8 a2_4) ∧ w'.cell? ⟨gb233, 5, none⟩ = some (.int .u8 a2_5)) ∧ (Kd.R Kd.string 9 w' w.heap.size (fun _ => True) v236 t235) ∧ (Kd.N (Kd.slice 9 Kd.string) 25 w' w.heap.size (fun k_ => some k_ ≠ (v236 : Value).ownBlock ∧ some k_ ≠ (s_.1 : Value).ownBlock ∧ some k_ ≠ (s_.2.1 : Value).ownBlock ∧ some k_ ≠ (s_.2.2.1 : Value).ownBlock ∧ some k_ ≠ (s_.2.2.2.1 : Value).ownBlock ∧ some k_ ≠ (s_.2.2.2.2.1 : Value).ownBlock ∧ some k_ ≠ (s_.2.2.2.2.2.1 : Value).ownBlock ∧ k_ ≠ gb231 ∧ k_ ≠ gb232 ∧ k_ ≠ gb233 ∧ k_ ≠ s_.2.2.2.2.2.2.1 ∧ k_ ≠ s_.2.2.2.2.2.2.2.1 ∧ k_ ≠ s_.2.2.2.2.2.2.2.2) v239 t238) ∧ (Kd.N (Kd.slice 3 (Kd.int .i64)) 28 w' w.heap.size (fun k_ => some k_ ≠ (v236 : Value).ownBlock ∧ some k_ ≠ (v239 : Value).ownBlock ∧ some k_ ≠ (s_.2.1 : Value).ownBlock ∧ some k_ ≠ (s_.2.2.1 : Value).ownBlock ∧ some k_ ≠ (s_.2.2.2.1 : Value).ownBlock ∧ some k_ ≠ (s_.2.2.2.2.1 : Value).ownBlock ∧ some k_ ≠ (s_.2.2.2.2.2.1 : Value).ownBlock ∧ k_ ≠ gb231 ∧ k_ ≠ gb232 ∧ k_ ≠ gb233 ∧ k_ ≠ s_.2.2.2.2.2.2.1 ∧ k_ ≠ s_.2.2.2.2.2.2.2.1 ∧ k_ ≠ s_.2.2.2.2.2.2.2.2) s_.1 t241) ∧ (Kd.R (Kd.int .i64) 3 w' w.heap.size (fun k_ => some k_ ≠ (s_.2.2.2.1 : Value).ownBlock ∧ some k_ ≠ (s_.2.2.2.2.2.1 : Value).ownBlock) s_.2.1 t244) ∧ (Kd.N (Kd.slice 3 (Kd.int .i64)) 28 w' w.heap.size (fun k_ => some k_ ≠ (v236 : Value).ownBlock ∧ some k_ ≠ (v239 : Value).ownBlock ∧ some k_ ≠ (s_.1 : Value).ownBlock ∧ some k_ ≠ (s_.2.1 : Value).ownBlock ∧ some k_ ≠ (s_.2.2.2.1 : Value).ownBlock ∧ some k_ ≠ (s_.2.2.2.2.1 : Value).ownBlock ∧ some k_ ≠ (s_.2.2.2.2.2.1 : Value).ownBlock ∧ k_ ≠ gb231 ∧ k_ ≠ gb232 ∧ k_ ≠ gb233 ∧ k_ ≠ s_.2.2.2.2.2.2.1 ∧ k_ ≠ s_.2.2.2.2.2.2.2.1 ∧ k_ ≠ s_.2.2.2.2.2.2.2.2) s_.2.2.1 t247) ∧ (Kd.R (Kd.int .i64) 3 w' w.heap.size (fun k_ => some k_ ≠ (s_.2.1 : Value).ownBlock ∧ some k_ ≠ (s_.2.2.2.2.2.1 : Value).ownBlock) s_.2.2.2.1 t250) ∧ (Kd.N (Kd.slice 3 (Kd.int .i64)) 28 w' w.heap.size (fun k_ => some k_ ≠ (v236 : Value).ownBlock ∧ some k_ ≠ (v239 : Value).ownBlock ∧ some k_ ≠ (s_.1 : Value).ownBlock ∧ some k_ ≠ (s_.2.1 : Value).ownBlock ∧ some k_ ≠ (s_.2.2.1 : Value).ownBlock ∧ some k_ ≠ (s_.2.2.2.1 : Value).ownBlock ∧ some k_ ≠ (s_.2.2.2.2.2.1 : Value).ownBlock ∧ k_ ≠ gb231 ∧ k_ ≠ gb232 ∧ k_ ≠ gb233 ∧ k_ ≠ s_.2.2.2.2.2.2.1 ∧ k_ ≠ s_.2.2.2.2.2.2.2.1 ∧ k_ ≠ s_.2.2.2.2.2.2.2.2) s_.2.2.2.2.1 t253) ∧ (Kd.R (Kd.int .i64) 3 w' w.heap.size (fun k_ => some k_ ≠ (s_.2.1 : Value).ownBlock ∧ some k_ ≠ (s_.2.2.2.1 : Value).ownBlock) s_.2.2.2.2.2.1 t256) ∧ (w'.heap[gb231]? = some (.cells #[.int .u8 a0_0, .int .u8 a0_1, .int .u8 a0_2, .int .u8 a0_3, .int .u8 a0_4, .int .u8 a0_5] 41 (0, 0))) ∧ (w'.heap[gb232]? = some (.cells #[.int .u8 a1_0, .int .u8 a1_1, .int .u8 a1_2, .int .u8 a1_3, .int .u8 a1_4, .int .u8 a1_5] 41 (0, 0))) ∧ (w'.heap[gb233]? = some (.cells #[.int .u8 a2_0, .int .u8 a2_1, .int .u8 a2_2, .int .u8 a2_3, .int .u8 a2_4, .int .u8 a2_5] 41 (0, 0))) ∧ (w'.heap[s_.2.2.2.2.2.2.1]? = some (.cells #[.slice none 0 0, .slice none 0 0] 30 (0, 0))) ∧ (w'.heap[s_.2.2.2.2.2.2.2.1]? = some (.cells #[.slice none 0 0, .slice none 0 0] 30 (0, 0))) ∧ (w'.heap[s_.2.2.2.2.2.2.2.2]? = some (.cells #[.slice none 0 0, .slice none 0 0] 30 (0, 0))) ∧ (w.heap.size ≤ s_.2.2.2.2.2.2.1) ∧ (w.heap.size ≤ s_.2.2.2.2.2.2.1) ∧ (gb231 ≠ s_.2.2.2.2.2.2.1) ∧ (s_.2.2.2.2.2.2.1 ≠ gb231) ∧ (gb232 ≠ s_.2.2.2.2.2.2.1) ∧ (s_.2.2.2.2.2.2.1 ≠ gb232) ∧ (gb233 ≠ s_.2.2.2.2.2.2.1) ∧ (s_.2.2.2.2.2.2.1 ≠ gb233) ∧ (s_.2.2.2.2.2.2.2.1 ≠ s_.2.2.2.2.2.2.1) ∧ (s_.2.2.2.2.2.2.1 ≠ s_.2.2.2.2.2.2.2.1) ∧ (s_.2.2.2.2.2.2.2.2 ≠ s_.2.2.2.2.2.2.1) ∧ (s_.2.2.2.2.2.2.1 ≠ s_.2.2.2.2.2.2.2.2) ∧ (w.heap.size ≤ s_.2.2.2.2.2.2.2.1) ∧ (w.heap.size ≤ s_.2.2.2.2.2.2.2.1) ∧ (gb231 ≠ s_.2.2.2.2.2.2.2.1) ∧ (s_.2.2.2.2.2.2.2.1 ≠ gb231) ∧ (gb232 ≠ s_.2.2.2.2.2.2.2.1) ∧ (s_.2.2.2.2.2.2.2.1 ≠ gb232) ∧ (gb233 ≠ s_.2.2.2.2.2.2.2.1) ∧ (s_.2.2.2.2.2.2.2.1 ≠ gb233) ∧ (s_.2.2.2.2.2.2.2.2 ≠ s_.2.2.2.2.2.2.2.1) ∧ (s_.2.2.2.2.2.2.2.1 ≠ s_.2.2.2.2.2.2.2.2) ∧ (w.heap.size ≤ s_.2.2.2.2.2.2.2.2) ∧ (w.heap.size ≤ s_.2.2.2.2.2.2.2.2) ∧ (gb231 ≠ s_.2.2.2.2.2.2.2.2) ∧ (s_.2.2.2.2.2.2.2.2 ≠ gb231) ∧ (gb232 ≠ s_.2.2.2.2.2.2.2.2) ∧ (s_.2.2.2.2.2.2.2.2 ≠ gb232) ∧ (gb233 ≠ s_.2.2.2.2.2.2.2.2) ∧ (s_.2.2.2.2.2.2.2.2 ≠ gb233) ∧ (Below w.heap.size w w')) ?_ ?_
  rotate_left
  ·intro hJ3111
   have HI : PJ w gb231 gb232 gb233 #[.int .u8 a0_0, .int .u8 a0_1, .int .u8 a0_2, .int .u8 a0_3, .int .u8 a0_4, .int .u8 a0_5] #[.int .u8 a1_0, .int .u8 a1_1, .int .u8 a1_2, .int .u8 a1_3, .int .u8 a1_4, .int .u8 a1_5] #[.int .u8 a2_0, .int .u8 a2_1, .int .u8 a2_2, .int .u8 a2_3, .int .u8 a2_4, .int .u8 a2_5] v236 v239 t235 t238 t241 t247 t253 t244 t250 t256 false false false false false false (.bool false) (.bool false) (.bool false) (.bool false) (.bool false) (.bool false) 0 0 0 _ := ⟨HO237.out, Kd.N_mono HO240.out (fun k hk => ⟨hk.1, nofun, nofun, nofun, hk.2.1, hk.2.2.1, hk.2.2.2, nofun, nofun, nofun⟩), nofun, nofun, BK231.out, nofun, nofun, nofun, nofun, nofun, nofun, nofun, BK232.out, nofun, nofun, nofun, nofun, nofun, nofun, nofun, BK233.out, nofun, nofun, nofun, nofun, nofun, nofun, nofun, nofun, HB.out⟩
   refine join_ (σ := Value × Value × Value × Value × Value × Value × Nat × Nat × Nat) 4 #[true, true, true, true, true, false, true, true, true, false, false, false] (fun s_ => [(20, .agg #[s_.1, s_.2.1]), (22, .agg #[s_.2.2.1, s_.2.2.2.1]), (9, .pointer (some ⟨s_.2.2.2.2.2.2.1, 0, none⟩)), (10, .pointer (some ⟨s_.2.2.2.2.2.2.2.1, 0, none⟩)), (11, .pointer (some ⟨s_.2.2.2.2.2.2.2.2, 0, none⟩))]) (fun s_ w' => PJ w gb231 gb232 gb233 #[.int .u8 a0_0, .int .u8 a0_1, .int .u8 a0_2, .int .u8 a0_3, .int .u8 a0_4, .int .u8 a0_5] #[.int .u8 a1_0, .int .u8 a1_1, .int .u8 a1_2, .int .u8 a1_3, .int .u8 a1_4, .int .u8 a1_5] #[.int .u8 a2_0, .int .u8 a2_1, .int .u8 a2_2, .int .u8 a2_3, .int .u8 a2_4, .int .u8 a2_5] v236 v239 t235 t238 t241 t247 t253 t244 t250 t256 true true false true true true s_.1 s_.2.1 s_.2.2.1 s_.2.2.2.1 s_.2.2.2.2.1 s_.2.2.2.2.2.1 s_.2.2.2.2.2.2.1 s_.2.2.2.2.2.2.2.1 s_.2.2.2.2.2.2.2.2 w') ?_ ?_
   ·clear HI
    rintro ⟨x1, y1, x2, y2, x3, y3, g1, g2, g3⟩ w1 HI
    replace HI : PJ w gb231 gb232 gb233 #[.int .u8 a0_0, .int .u8 a0_1, .int .u8 a0_2, .int .u8 a0_3, .int .u8 a0_4, .int .u8 a0_5] #[.int .u8 a1_0, .int .u8 a1_1, .int .u8 a1_2, .int .u8 a1_3, .int .u8 a1_4, .int .u8 a1_5] #[.int .u8 a2_0, .int .u8 a2_1, .int .u8 a2_2, .int .u8 a2_3, .int .u8 a2_4, .int .u8 a2_5] v236 v239 t235 t238 t241 t247 t253 t244 t250 t256 true true false true true true x1 y1 x2 y2 x3 y3 g1 g2 g3 w1 := HI
    refine norm_ (a' := ?_) ?_ ?_
    rotate_left
    ·simp only [putAll, Act.put, List.setIfInBounds_toArray, List.set_cons_zero, List.set_cons_succ]
     rfl
    refine one_ (i := 5) (N := some 24) #[true, true, true, true, true, true, true, true, true, false, false, false] rfl rfl (one_of HT_.out (by kernel_rfl)) (by decide) (fun K hK => ?_)
    ·refine goes_ Tryd.func18 (by kernel_rfl) rfl #[.agg #[.int .u8 a2_0, .int .u8 a2_1, .int .u8 a2_2, .int .u8 a2_3, .int .u8 a2_4, .int .u8 a2_5]] (by rfl) rfl rfl (by (try simp only [List.map_toArray, List.map_cons, List.map_nil]); first | done | rfl | (simp only [List.length_drop, List.length_take]; rfl)) ?_
     with_reducible refine (withelaw11_made.calls a2_0 a2_1 a2_2 a2_3 a2_4 a2_5 t253 t256 _ A9.out).mono ?_
     rintro e w2 ⟨x, y, rfl, ho0, ho1, hb⟩
     refine ⟨_, rfl, ?_⟩
     have HI2 := HI.call3 ho0 ho1 hb
     refine hK.out _ _ HI2.held (fun _ => ?_)
     clear hK K
     exact norm_ (by rfl) (hJ3111 (x1, y1, x2, y2, x, y, g1, g2, g3) _ HI2.full)
   intro hJ2111
   refine join_ (σ := Value × Value × Value × Value × Value × Value × Nat × Nat × Nat) 4 #[true, true, true, true, true, true, false, true, true, false, false, false] (fun s_ => [(20, .agg #[s_.1, s_.2.1]), (22, .agg #[s_.2.2.1, s_.2.2.2.1]), (24, .agg #[s_.2.2.2.2.1, s_.2.2.2.2.2.1]), (10, .pointer (some ⟨s_.2.2.2.2.2.2.2.1, 0, none⟩)), (11, .pointer (some ⟨s_.2.2.2.2.2.2.2.2, 0, none⟩))]) (fun s_ w' => PJ w gb231 gb232 gb233 #[.int .u8 a0_0, .int .u8 a0_1, .int .u8 a0_2, .int .u8 a0_3, .int .u8 a0_4, .int .u8 a0_5] #[.int .u8 a1_0, .int .u8 a1_1, .int .u8 a1_2, .int .u8 a1_3, .int .u8 a1_4, .int .u8 a1_5] #[.int .u8 a2_0, .int .u8 a2_1, .int .u8 a2_2, .int .u8 a2_3, .int .u8 a2_4, .int .u8 a2_5] v236 v239 t235 t238 t241 t247 t253 t244 t250 t256 true true true false true true s_.1 s_.2.1 s_.2.2.1 s_.2.2.2.1 s_.2.2.2.2.1 s_.2.2.2.2.2.1 s_.2.2.2.2.2.2.1 s_.2.2.2.2.2.2.2.1 s_.2.2.2.2.2.2.2.2 w') ?_ ?_
   ·clear HI
    rintro ⟨x1, y1, x2, y2, x3, y3, g1, g2, g3⟩ w1 HI
    replace HI : PJ w gb231 gb232 gb233 #[.int .u8 a0_0, .int .u8 a0_1, .int .u8 a0_2, .int .u8 a0_3, .int .u8 a0_4, .int .u8 a0_5] #[.int .u8 a1_0, .int .u8 a1_1, .int .u8 a1_2, .int .u8 a1_3, .int .u8 a1_4, .int .u8 a1_5] #[.int .u8 a2_0, .int .u8 a2_1, .int .u8 a2_2, .int .u8 a2_3, .int .u8 a2_4, .int .u8 a2_5] v236 v239 t235 t238 t241 t247 t253 t244 t250 t256 true true true false true true x1 y1 x2 y2 x3 y3 g1 g2 g3 w1 := HI
    refine norm_ (a' := ?_) ?_ ?_
    rotate_left
    ·simp only [putAll, Act.put, List.setIfInBounds_toArray, List.set_cons_zero, List.set_cons_succ]
     rfl
    refine one_ (i := 6) (N := some 9) #[true, true, true, true, true, true, true, true, true, false, false, false] rfl rfl (one_of HT_.out (by kernel_rfl)) (by decide) (fun K hK => ?_)
    ·refine box_step ?hg (N := 9) ?hd (cs := #[.slice none 0 0, .slice none 0 0]) (t := 30) ?hr ?_; (case hd => rfl); (case hg => rfl); (case hr => first | (go_simp; done) | (go_simp; rfl))
     intro g hg w2 hbox hb
     have HI2 := HI.alloc1 hg hbox hb
     refine hK.out _ _ HI2.held (fun _ => ?_)
     clear hK K
     exact norm_ (by rfl) (hJ3111 (x1, y1, x2, y2, x3, y3, g, g2, g3) _ HI2.full)
   intro hJ3011
   refine join_ (σ := Value × Value × Value × Value × Value × Value × Nat × Nat × Nat) 4 #[true, true, true, true, true, true, true, false, true, false, false, false] (fun s_ => [(20, .agg #[s_.1, s_.2.1]), (22, .agg #[s_.2.2.1, s_.2.2.2.1]), (24, .agg #[s_.2.2.2.2.1, s_.2.2.2.2.2.1]), (9, .pointer (some ⟨s_.2.2.2.2.2.2.1, 0, none⟩)), (11, .pointer (some ⟨s_.2.2.2.2.2.2.2.2, 0, none⟩))]) (fun s_ w' => PJ w gb231 gb232 gb233 #[.int .u8 a0_0, .int .u8 a0_1, .int .u8 a0_2, .int .u8 a0_3, .int .u8 a0_4, .int .u8 a0_5] #[.int .u8 a1_0, .int .u8 a1_1, .int .u8 a1_2, .int .u8 a1_3, .int .u8 a1_4, .int .u8 a1_5] #[.int .u8 a2_0, .int .u8 a2_1, .int .u8 a2_2, .int .u8 a2_3, .int .u8 a2_4, .int .u8 a2_5] v236 v239 t235 t238 t241 t247 t253 t244 t250 t256 true true true true false true s_.1 s_.2.1 s_.2.2.1 s_.2.2.2.1 s_.2.2.2.2.1 s_.2.2.2.2.2.1 s_.2.2.2.2.2.2.1 s_.2.2.2.2.2.2.2.1 s_.2.2.2.2.2.2.2.2 w') ?_ ?_
   ·clear HI
    rintro ⟨x1, y1, x2, y2, x3, y3, g1, g2, g3⟩ w1 HI
    replace HI : PJ w gb231 gb232 gb233 #[.int .u8 a0_0, .int .u8 a0_1, .int .u8 a0_2, .int .u8 a0_3, .int .u8 a0_4, .int .u8 a0_5] #[.int .u8 a1_0, .int .u8 a1_1, .int .u8 a1_2, .int .u8 a1_3, .int .u8 a1_4, .int .u8 a1_5] #[.int .u8 a2_0, .int .u8 a2_1, .int .u8 a2_2, .int .u8 a2_3, .int .u8 a2_4, .int .u8 a2_5] v236 v239 t235 t238 t241 t247 t253 t244 t250 t256 true true true true false true x1 y1 x2 y2 x3 y3 g1 g2 g3 w1 := HI
    refine norm_ (a' := ?_) ?_ ?_
    rotate_left
    ·simp only [putAll, Act.put, List.setIfInBounds_toArray, List.set_cons_zero, List.set_cons_succ]
     rfl
    refine one_ (i := 7) (N := some 10) #[true, true, true, true, true, true, true, true, true, false, false, false] rfl rfl (one_of HT_.out (by kernel_rfl)) (by decide) (fun K hK => ?_)
    ·refine box_step ?hg (N := 10) ?hd (cs := #[.slice none 0 0, .slice none 0 0]) (t := 30) ?hr ?_; (case hd => rfl); (case hg => rfl); (case hr => first | (go_simp; done) | (go_simp; rfl))
     intro g hg w2 hbox hb
     have HI2 := HI.alloc2 hg hbox hb
     refine hK.out _ _ HI2.held (fun _ => ?_)
     clear hK K
     exact norm_ (by rfl) (hJ3111 (x1, y1, x2, y2, x3, y3, g1, g, g3) _ HI2.full)
   intro hJ3101
   refine join_ (σ := Value × Value × Value × Value × Value × Value × Nat × Nat × Nat) 4 #[true, true, true, true, true, true, true, true, false, false, false, false] (fun s_ => [(20, .agg #[s_.1, s_.2.1]), (22, .agg #[s_.2.2.1, s_.2.2.2.1]), (24, .agg #[s_.2.2.2.2.1, s_.2.2.2.2.2.1]), (9, .pointer (some ⟨s_.2.2.2.2.2.2.1, 0, none⟩)), (10, .pointer (some ⟨s_.2.2.2.2.2.2.2.1, 0, none⟩))]) (fun s_ w' => PJ w gb231 gb232 gb233 #[.int .u8 a0_0, .int .u8 a0_1, .int .u8 a0_2, .int .u8 a0_3, .int .u8 a0_4, .int .u8 a0_5] #[.int .u8 a1_0, .int .u8 a1_1, .int .u8 a1_2, .int .u8 a1_3, .int .u8 a1_4, .int .u8 a1_5] #[.int .u8 a2_0, .int .u8 a2_1, .int .u8 a2_2, .int .u8 a2_3, .int .u8 a2_4, .int .u8 a2_5] v236 v239 t235 t238 t241 t247 t253 t244 t250 t256 true true true true true false s_.1 s_.2.1 s_.2.2.1 s_.2.2.2.1 s_.2.2.2.2.1 s_.2.2.2.2.2.1 s_.2.2.2.2.2.2.1 s_.2.2.2.2.2.2.2.1 s_.2.2.2.2.2.2.2.2 w') ?_ ?_
   ·clear HI
    rintro ⟨x1, y1, x2, y2, x3, y3, g1, g2, g3⟩ w1 HI
    replace HI : PJ w gb231 gb232 gb233 #[.int .u8 a0_0, .int .u8 a0_1, .int .u8 a0_2, .int .u8 a0_3, .int .u8 a0_4, .int .u8 a0_5] #[.int .u8 a1_0, .int .u8 a1_1, .int .u8 a1_2, .int .u8 a1_3, .int .u8 a1_4, .int .u8 a1_5] #[.int .u8 a2_0, .int .u8 a2_1, .int .u8 a2_2, .int .u8 a2_3, .int .u8 a2_4, .int .u8 a2_5] v236 v239 t235 t238 t241 t247 t253 t244 t250 t256 true true true true true false x1 y1 x2 y2 x3 y3 g1 g2 g3 w1 := HI
    refine norm_ (a' := ?_) ?_ ?_
    rotate_left
    ·simp only [putAll, Act.put, List.setIfInBounds_toArray, List.set_cons_zero, List.set_cons_succ]
     rfl
    refine one_ (i := 8) (N := some 11) #[true, true, true, true, true, true, true, true, true, false, false, false] rfl rfl (one_of HT_.out (by kernel_rfl)) (by decide) (fun K hK => ?_)
    ·refine box_step ?hg (N := 11) ?hd (cs := #[.slice none 0 0, .slice none 0 0]) (t := 30) ?hr ?_; (case hd => rfl); (case hg => rfl); (case hr => first | (go_simp; done) | (go_simp; rfl))
     intro g hg w2 hbox hb
     have HI2 := HI.alloc3 hg hbox hb
     refine hK.out _ _ HI2.held (fun _ => ?_)
     clear hK K
     exact norm_ (by rfl) (hJ3111 (x1, y1, x2, y2, x3, y3, g1, g2, g) _ HI2.full)
   intro hJ3110
   refine join_ (σ := Value × Value × Value × Value × Value × Value × Nat × Nat × Nat) 5 #[true, true, true, false, true, false, true, true, true, false, false, false] (fun s_ => [(20, .agg #[s_.1, s_.2.1]), (9, .pointer (some ⟨s_.2.2.2.2.2.2.1, 0, none⟩)), (10, .pointer (some ⟨s_.2.2.2.2.2.2.2.1, 0, none⟩)), (11, .pointer (some ⟨s_.2.2.2.2.2.2.2.2, 0, none⟩))]) (fun s_ w' => PJ w gb231 gb232 gb233 #[.int .u8 a0_0, .int .u8 a0_1, .int .u8 a0_2, .int .u8 a0_3, .int .u8 a0_4, .int .u8 a0_5] #[.int .u8 a1_0, .int .u8 a1_1, .int .u8 a1_2, .int .u8 a1_3, .int .u8 a1_4, .int .u8 a1_5] #[.int .u8 a2_0, .int .u8 a2_1, .int .u8 a2_2, .int .u8 a2_3, .int .u8 a2_4, .int .u8 a2_5] v236 v239 t235 t238 t241 t247 t253 t244 t250 t256 true false false true true true s_.1 s_.2.1 s_.2.2.1 s_.2.2.2.1 s_.2.2.2.2.1 s_.2.2.2.2.2.1 s_.2.2.2.2.2.2.1 s_.2.2.2.2.2.2.2.1 s_.2.2.2.2.2.2.2.2 w') ?_ ?_
   ·clear HI
    rintro ⟨x1, y1, x2, y2, x3, y3, g1, g2, g3⟩ w1 HI
    replace HI : PJ w gb231 gb232 gb233 #[.int .u8 a0_0, .int .u8 a0_1, .int .u8 a0_2, .int .u8 a0_3, .int .u8 a0_4, .int .u8 a0_5] #[.int .u8 a1_0, .int .u8 a1_1, .int .u8 a1_2, .int .u8 a1_3, .int .u8 a1_4, .int .u8 a1_5] #[.int .u8 a2_0, .int .u8 a2_1, .int .u8 a2_2, .int .u8 a2_3, .int .u8 a2_4, .int .u8 a2_5] v236 v239 t235 t238 t241 t247 t253 t244 t250 t256 true false false true true true x1 y1 x2 y2 x3 y3 g1 g2 g3 w1 := HI
    refine norm_ (a' := ?_) ?_ ?_
    rotate_left
    ·simp only [putAll, Act.put, List.setIfInBounds_toArray, List.set_cons_zero, List.set_cons_succ]
     rfl
    refine one_ (i := 3) (N := some 22) #[true, true, true, true, true, false, true, true, true, false, false, false] rfl rfl (one_of HT_.out (by kernel_rfl)) (by decide) (fun K hK => ?_)
    ·refine goes_ Tryd.func18 (by kernel_rfl) rfl #[.agg #[.int .u8 a1_0, .int .u8 a1_1, .int .u8 a1_2, .int .u8 a1_3, .int .u8 a1_4, .int .u8 a1_5]] (by rfl) rfl rfl (by (try simp only [List.map_toArray, List.map_cons, List.map_nil]); first | done | rfl | (simp only [List.length_drop, List.length_take]; rfl)) ?_
     with_reducible refine (withelaw11_made.calls a1_0 a1_1 a1_2 a1_3 a1_4 a1_5 t247 t250 _ A8.out).mono ?_
     rintro e w2 ⟨x, y, rfl, ho0, ho1, hb⟩
     refine ⟨_, rfl, ?_⟩
     have HI2 := HI.call2 ho0 ho1 hb
     refine hK.out _ _ HI2.held (fun _ => ?_)
     clear hK K
     exact norm_ (by rfl) (hJ2111 (x1, y1, x, y, x3, y3, g1, g2, g3) _ HI2)
   intro hJ1111
   refine join_ (σ := Value × Value × Value × Value × Value × Value × Nat × Nat × Nat) 5 #[true, true, true, true, true, false, false, true, true, false, false, false] (fun s_ => [(20, .agg #[s_.1, s_.2.1]), (22, .agg #[s_.2.2.1, s_.2.2.2.1]), (10, .pointer (some ⟨s_.2.2.2.2.2.2.2.1, 0, none⟩)), (11, .pointer (some ⟨s_.2.2.2.2.2.2.2.2, 0, none⟩))]) (fun s_ w' => PJ w gb231 gb232 gb233 #[.int .u8 a0_0, .int .u8 a0_1, .int .u8 a0_2, .int .u8 a0_3, .int .u8 a0_4, .int .u8 a0_5] #[.int .u8 a1_0, .int .u8 a1_1, .int .u8 a1_2, .int .u8 a1_3, .int .u8 a1_4, .int .u8 a1_5] #[.int .u8 a2_0, .int .u8 a2_1, .int .u8 a2_2, .int .u8 a2_3, .int .u8 a2_4, .int .u8 a2_5] v236 v239 t235 t238 t241 t247 t253 t244 t250 t256 true true false false true true s_.1 s_.2.1 s_.2.2.1 s_.2.2.2.1 s_.2.2.2.2.1 s_.2.2.2.2.2.1 s_.2.2.2.2.2.2.1 s_.2.2.2.2.2.2.2.1 s_.2.2.2.2.2.2.2.2 w') ?_ ?_
   ·clear HI
    rintro ⟨x1, y1, x2, y2, x3, y3, g1, g2, g3⟩ w1 HI
    replace HI : PJ w gb231 gb232 gb233 #[.int .u8 a0_0, .int .u8 a0_1, .int .u8 a0_2, .int .u8 a0_3, .int .u8 a0_4, .int .u8 a0_5] #[.int .u8 a1_0, .int .u8 a1_1, .int .u8 a1_2, .int .u8 a1_3, .int .u8 a1_4, .int .u8 a1_5] #[.int .u8 a2_0, .int .u8 a2_1, .int .u8 a2_2, .int .u8 a2_3, .int .u8 a2_4, .int .u8 a2_5] v236 v239 t235 t238 t241 t247 t253 t244 t250 t256 true true false false true true x1 y1 x2 y2 x3 y3 g1 g2 g3 w1 := HI
    refine norm_ (a' := ?_) ?_ ?_
    rotate_left
    ·simp only [putAll, Act.put, List.setIfInBounds_toArray, List.set_cons_zero, List.set_cons_succ]
     rfl
    refine two_ (i := 5) (j := 6) (Ni := some 24) (Nj := some 9) #[true, true, true, true, true, true, false, true, true, false, false, false] #[true, true, true, true, true, false, true, true, true, false, false, false] rfl rfl rfl rfl (two_of HT_.out (by kernel_rfl)) (by decide) (by decide) (fun K hK => ?_) (fun K hK => ?_)
    ·refine goes_ Tryd.func18 (by kernel_rfl) rfl #[.agg #[.int .u8 a2_0, .int .u8 a2_1, .int .u8 a2_2, .int .u8 a2_3, .int .u8 a2_4, .int .u8 a2_5]] (by rfl) rfl rfl (by (try simp only [List.map_toArray, List.map_cons, List.map_nil]); first | done | rfl | (simp only [List.length_drop, List.length_take]; rfl)) ?_
     with_reducible refine (withelaw11_made.calls a2_0 a2_1 a2_2 a2_3 a2_4 a2_5 t253 t256 _ A9.out).mono ?_
     rintro e w2 ⟨x, y, rfl, ho0, ho1, hb⟩
     refine ⟨_, rfl, ?_⟩
     have HI2 := HI.call3 ho0 ho1 hb
     refine hK.out _ _ HI2.held (fun _ => ?_)
     clear hK K
     exact norm_ (by rfl) (hJ3011 (x1, y1, x2, y2, x, y, g1, g2, g3) _ HI2)
    ·refine box_step ?hg (N := 9) ?hd (cs := #[.slice none 0 0, .slice none 0 0]) (t := 30) ?hr ?_; (case hd => rfl); (case hg => rfl); (case hr => first | (go_simp; done) | (go_simp; rfl))
     intro g hg w2 hbox hb
     have HI2 := HI.alloc1 hg hbox hb
     refine hK.out _ _ HI2.held (fun _ => ?_)
     clear hK K
     exact norm_ (by rfl) (hJ2111 (x1, y1, x2, y2, x3, y3, g, g2, g3) _ HI2)
   intro hJ2011
   refine join_ (σ := Value × Value × Value × Value × Value × Value × Nat × Nat × Nat) 5 #[true, true, true, true, true, false, true, false, true, false, false, false] (fun s_ => [(20, .agg #[s_.1, s_.2.1]), (22, .agg #[s_.2.2.1, s_.2.2.2.1]), (9, .pointer (some ⟨s_.2.2.2.2.2.2.1, 0, none⟩)), (11, .pointer (some ⟨s_.2.2.2.2.2.2.2.2, 0, none⟩))]) (fun s_ w' => PJ w gb231 gb232 gb233 #[.int .u8 a0_0, .int .u8 a0_1, .int .u8 a0_2, .int .u8 a0_3, .int .u8 a0_4, .int .u8 a0_5] #[.int .u8 a1_0, .int .u8 a1_1, .int .u8 a1_2, .int .u8 a1_3, .int .u8 a1_4, .int .u8 a1_5] #[.int .u8 a2_0, .int .u8 a2_1, .int .u8 a2_2, .int .u8 a2_3, .int .u8 a2_4, .int .u8 a2_5] v236 v239 t235 t238 t241 t247 t253 t244 t250 t256 true true false true false true s_.1 s_.2.1 s_.2.2.1 s_.2.2.2.1 s_.2.2.2.2.1 s_.2.2.2.2.2.1 s_.2.2.2.2.2.2.1 s_.2.2.2.2.2.2.2.1 s_.2.2.2.2.2.2.2.2 w') ?_ ?_
   ·clear HI
    rintro ⟨x1, y1, x2, y2, x3, y3, g1, g2, g3⟩ w1 HI
    replace HI : PJ w gb231 gb232 gb233 #[.int .u8 a0_0, .int .u8 a0_1, .int .u8 a0_2, .int .u8 a0_3, .int .u8 a0_4, .int .u8 a0_5] #[.int .u8 a1_0, .int .u8 a1_1, .int .u8 a1_2, .int .u8 a1_3, .int .u8 a1_4, .int .u8 a1_5] #[.int .u8 a2_0, .int .u8 a2_1, .int .u8 a2_2, .int .u8 a2_3, .int .u8 a2_4, .int .u8 a2_5] v236 v239 t235 t238 t241 t247 t253 t244 t250 t256 true true false true false true x1 y1 x2 y2 x3 y3 g1 g2 g3 w1 := HI
    refine norm_ (a' := ?_) ?_ ?_
    rotate_left
    ·simp only [putAll, Act.put, List.setIfInBounds_toArray, List.set_cons_zero, List.set_cons_succ]
     rfl
    refine two_ (i := 5) (j := 7) (Ni := some 24) (Nj := some 10) #[true, true, true, true, true, true, true, false, true, false, false, false] #[true, true, true, true, true, false, true, true, true, false, false, false] rfl rfl rfl rfl (two_of HT_.out (by kernel_rfl)) (by decide) (by decide) (fun K hK => ?_) (fun K hK => ?_)
    ·refine goes_ Tryd.func18 (by kernel_rfl) rfl #[.agg #[.int .u8 a2_0, .int .u8 a2_1, .int .u8 a2_2, .int .u8 a2_3, .int .u8 a2_4, .int .u8 a2_5]] (by rfl) rfl rfl (by (try simp only [List.map_toArray, List.map_cons, List.map_nil]); first | done | rfl | (simp only [List.length_drop, List.length_take]; rfl)) ?_
     with_reducible refine (withelaw11_made.calls a2_0 a2_1 a2_2 a2_3 a2_4 a2_5 t253 t256 _ A9.out).mono ?_
     rintro e w2 ⟨x, y, rfl, ho0, ho1, hb⟩
     refine ⟨_, rfl, ?_⟩
     have HI2 := HI.call3 ho0 ho1 hb
     refine hK.out _ _ HI2.held (fun _ => ?_)
     clear hK K
     exact norm_ (by rfl) (hJ3101 (x1, y1, x2, y2, x, y, g1, g2, g3) _ HI2)
    ·refine box_step ?hg (N := 10) ?hd (cs := #[.slice none 0 0, .slice none 0 0]) (t := 30) ?hr ?_; (case hd => rfl); (case hg => rfl); (case hr => first | (go_simp; done) | (go_simp; rfl))
     intro g hg w2 hbox hb
     have HI2 := HI.alloc2 hg hbox hb
     refine hK.out _ _ HI2.held (fun _ => ?_)
     clear hK K
     exact norm_ (by rfl) (hJ2111 (x1, y1, x2, y2, x3, y3, g1, g, g3) _ HI2)
   intro hJ2101
   refine join_ (σ := Value × Value × Value × Value × Value × Value × Nat × Nat × Nat) 5 #[true, true, true, true, true, false, true, true, false, false, false, false] (fun s_ => [(20, .agg #[s_.1, s_.2.1]), (22, .agg #[s_.2.2.1, s_.2.2.2.1]), (9, .pointer (some ⟨s_.2.2.2.2.2.2.1, 0, none⟩)), (10, .pointer (some ⟨s_.2.2.2.2.2.2.2.1, 0, none⟩))]) (fun s_ w' => PJ w gb231 gb232 gb233 #[.int .u8 a0_0, .int .u8 a0_1, .int .u8 a0_2, .int .u8 a0_3, .int .u8 a0_4, .int .u8 a0_5] #[.int .u8 a1_0, .int .u8 a1_1, .int .u8 a1_2, .int .u8 a1_3, .int .u8 a1_4, .int .u8 a1_5] #[.int .u8 a2_0, .int .u8 a2_1, .int .u8 a2_2, .int .u8 a2_3, .int .u8 a2_4, .int .u8 a2_5] v236 v239 t235 t238 t241 t247 t253 t244 t250 t256 true true false true true false s_.1 s_.2.1 s_.2.2.1 s_.2.2.2.1 s_.2.2.2.2.1 s_.2.2.2.2.2.1 s_.2.2.2.2.2.2.1 s_.2.2.2.2.2.2.2.1 s_.2.2.2.2.2.2.2.2 w') ?_ ?_
   ·clear HI
    rintro ⟨x1, y1, x2, y2, x3, y3, g1, g2, g3⟩ w1 HI
    replace HI : PJ w gb231 gb232 gb233 #[.int .u8 a0_0, .int .u8 a0_1, .int .u8 a0_2, .int .u8 a0_3, .int .u8 a0_4, .int .u8 a0_5] #[.int .u8 a1_0, .int .u8 a1_1, .int .u8 a1_2, .int .u8 a1_3, .int .u8 a1_4, .int .u8 a1_5] #[.int .u8 a2_0, .int .u8 a2_1, .int .u8 a2_2, .int .u8 a2_3, .int .u8 a2_4, .int .u8 a2_5] v236 v239 t235 t238 t241 t247 t253 t244 t250 t256 true true false true true false x1 y1 x2 y2 x3 y3 g1 g2 g3 w1 := HI
    refine norm_ (a' := ?_) ?_ ?_
    rotate_left
    ·simp only [putAll, Act.put, List.setIfInBounds_toArray, List.set_cons_zero, List.set_cons_succ]
     rfl
    refine two_ (i := 5) (j := 8) (Ni := some 24) (Nj := some 11) #[true, true, true, true, true, true, true, true, false, false, false, false] #[true, true, true, true, true, false, true, true, true, false, false, false] rfl rfl rfl rfl (two_of HT_.out (by kernel_rfl)) (by decide) (by decide) (fun K hK => ?_) (fun K hK => ?_)
    ·refine goes_ Tryd.func18 (by kernel_rfl) rfl #[.agg #[.int .u8 a2_0, .int .u8 a2_1, .int .u8 a2_2, .int .u8 a2_3, .int .u8 a2_4, .int .u8 a2_5]] (by rfl) rfl rfl (by (try simp only [List.map_toArray, List.map_cons, List.map_nil]); first | done | rfl | (simp only [List.length_drop, List.length_take]; rfl)) ?_
     with_reducible refine (withelaw11_made.calls a2_0 a2_1 a2_2 a2_3 a2_4 a2_5 t253 t256 _ A9.out).mono ?_
     rintro e w2 ⟨x, y, rfl, ho0, ho1, hb⟩
     refine ⟨_, rfl, ?_⟩
     have HI2 := HI.call3 ho0 ho1 hb
     refine hK.out _ _ HI2.held (fun _ => ?_)
     clear hK K
     exact norm_ (by rfl) (hJ3110 (x1, y1, x2, y2, x, y, g1, g2, g3) _ HI2)
    ·refine box_step ?hg (N := 11) ?hd (cs := #[.slice none 0 0, .slice none 0 0]) (t := 30) ?hr ?_; (case hd => rfl); (case hg => rfl); (case hr => first | (go_simp; done) | (go_simp; rfl))
     intro g hg w2 hbox hb
     have HI2 := HI.alloc3 hg hbox hb
     refine hK.out _ _ HI2.held (fun _ => ?_)
     clear hK K
     exact norm_ (by rfl) (hJ2111 (x1, y1, x2, y2, x3, y3, g1, g2, g) _ HI2)
   intro hJ2110
   refine join_ (σ := Value × Value × Value × Value × Value × Value × Nat × Nat × Nat) 5 #[true, true, true, true, true, true, false, false, true, false, false, false] (fun s_ => [(20, .agg #[s_.1, s_.2.1]), (22, .agg #[s_.2.2.1, s_.2.2.2.1]), (24, .agg #[s_.2.2.2.2.1, s_.2.2.2.2.2.1]), (11, .pointer (some ⟨s_.2.2.2.2.2.2.2.2, 0, none⟩))]) (fun s_ w' => PJ w gb231 gb232 gb233 #[.int .u8 a0_0, .int .u8 a0_1, .int .u8 a0_2, .int .u8 a0_3, .int .u8 a0_4, .int .u8 a0_5] #[.int .u8 a1_0, .int .u8 a1_1, .int .u8 a1_2, .int .u8 a1_3, .int .u8 a1_4, .int .u8 a1_5] #[.int .u8 a2_0, .int .u8 a2_1, .int .u8 a2_2, .int .u8 a2_3, .int .u8 a2_4, .int .u8 a2_5] v236 v239 t235 t238 t241 t247 t253 t244 t250 t256 true true true false false true s_.1 s_.2.1 s_.2.2.1 s_.2.2.2.1 s_.2.2.2.2.1 s_.2.2.2.2.2.1 s_.2.2.2.2.2.2.1 s_.2.2.2.2.2.2.2.1 s_.2.2.2.2.2.2.2.2 w') ?_ ?_
   ·clear HI
    rintro ⟨x1, y1, x2, y2, x3, y3, g1, g2, g3⟩ w1 HI
    replace HI : PJ w gb231 gb232 gb233 #[.int .u8 a0_0, .int .u8 a0_1, .int .u8 a0_2, .int .u8 a0_3, .int .u8 a0_4, .int .u8 a0_5] #[.int .u8 a1_0, .int .u8 a1_1, .int .u8 a1_2, .int .u8 a1_3, .int .u8 a1_4, .int .u8 a1_5] #[.int .u8 a2_0, .int .u8 a2_1, .int .u8 a2_2, .int .u8 a2_3, .int .u8 a2_4, .int .u8 a2_5] v236 v239 t235 t238 t241 t247 t253 t244 t250 t256 true true true false false true x1 y1 x2 y2 x3 y3 g1 g2 g3 w1 := HI
    refine norm_ (a' := ?_) ?_ ?_
    rotate_left
    ·simp only [putAll, Act.put, List.setIfInBounds_toArray, List.set_cons_zero, List.set_cons_succ]
     rfl
    refine two_ (i := 6) (j := 7) (Ni := some 9) (Nj := some 10) #[true, true, true, true, true, true, true, false, true, false, false, false] #[true, true, true, true, true, true, false, true, true, false, false, false] rfl rfl rfl rfl (two_of HT_.out (by kernel_rfl)) (by decide) (by decide) (fun K hK => ?_) (fun K hK => ?_)
    ·refine box_step ?hg (N := 9) ?hd (cs := #[.slice none 0 0, .slice none 0 0]) (t := 30) ?hr ?_; (case hd => rfl); (case hg => rfl); (case hr => first | (go_simp; done) | (go_simp; rfl))
     intro g hg w2 hbox hb
     have HI2 := HI.alloc1 hg hbox hb
     refine hK.out _ _ HI2.held (fun _ => ?_)
     clear hK K
     exact norm_ (by rfl) (hJ3101 (x1, y1, x2, y2, x3, y3, g, g2, g3) _ HI2)
    ·refine box_step ?hg (N := 10) ?hd (cs := #[.slice none 0 0, .slice none 0 0]) (t := 30) ?hr ?_; (case hd => rfl); (case hg => rfl); (case hr => first | (go_simp; done) | (go_simp; rfl))
     intro g hg w2 hbox hb
     have HI2 := HI.alloc2 hg hbox hb
     refine hK.out _ _ HI2.held (fun _ => ?_)
     clear hK K
     exact norm_ (by rfl) (hJ3011 (x1, y1, x2, y2, x3, y3, g1, g, g3) _ HI2)
   intro hJ3001
   refine join_ (σ := Value × Value × Value × Value × Value × Value × Nat × Nat × Nat) 5 #[true, true, true, true, true, true, false, true, false, false, false, false] (fun s_ => [(20, .agg #[s_.1, s_.2.1]), (22, .agg #[s_.2.2.1, s_.2.2.2.1]), (24, .agg #[s_.2.2.2.2.1, s_.2.2.2.2.2.1]), (10, .pointer (some ⟨s_.2.2.2.2.2.2.2.1, 0, none⟩))]) (fun s_ w' => PJ w gb231 gb232 gb233 #[.int .u8 a0_0, .int .u8 a0_1, .int .u8 a0_2, .int .u8 a0_3, .int .u8 a0_4, .int .u8 a0_5] #[.int .u8 a1_0, .int .u8 a1_1, .int .u8 a1_2, .int .u8 a1_3, .int .u8 a1_4, .int .u8 a1_5] #[.int .u8 a2_0, .int .u8 a2_1, .int .u8 a2_2, .int .u8 a2_3, .int .u8 a2_4, .int .u8 a2_5] v236 v239 t235 t238 t241 t247 t253 t244 t250 t256 true true true false true false s_.1 s_.2.1 s_.2.2.1 s_.2.2.2.1 s_.2.2.2.2.1 s_.2.2.2.2.2.1 s_.2.2.2.2.2.2.1 s_.2.2.2.2.2.2.2.1 s_.2.2.2.2.2.2.2.2 w') ?_ ?_
   ·clear HI
    rintro ⟨x1, y1, x2, y2, x3, y3, g1, g2, g3⟩ w1 HI
    replace HI : PJ w gb231 gb232 gb233 #[.int .u8 a0_0, .int .u8 a0_1, .int .u8 a0_2, .int .u8 a0_3, .int .u8 a0_4, .int .u8 a0_5] #[.int .u8 a1_0, .int .u8 a1_1, .int .u8 a1_2, .int .u8 a1_3, .int .u8 a1_4, .int .u8 a1_5] #[.int .u8 a2_0, .int .u8 a2_1, .int .u8 a2_2, .int .u8 a2_3, .int .u8 a2_4, .int .u8 a2_5] v236 v239 t235 t238 t241 t247 t253 t244 t250 t256 true true true false true false x1 y1 x2 y2 x3 y3 g1 g2 g3 w1 := HI
    refine norm_ (a' := ?_) ?_ ?_
    rotate_left
    ·simp only [putAll, Act.put, List.setIfInBounds_toArray, List.set_cons_zero, List.set_cons_succ]
     rfl
    refine two_ (i := 6) (j := 8) (Ni := some 9) (Nj := some 11) #[true, true, true, true, true, true, true, true, false, false, false, false] #[true, true, true, true, true, true, false, true, true, false, false, false] rfl rfl rfl rfl (two_of HT_.out (by kernel_rfl)) (by decide) (by decide) (fun K hK => ?_) (fun K hK => ?_)
    ·refine box_step ?hg (N := 9) ?hd (cs := #[.slice none 0 0, .slice none 0 0]) (t := 30) ?hr ?_; (case hd => rfl); (case hg => rfl); (case hr => first | (go_simp; done) | (go_simp; rfl))
     intro g hg w2 hbox hb
     have HI2 := HI.alloc1 hg hbox hb
     refine hK.out _ _ HI2.held (fun _ => ?_)
     clear hK K
     exact norm_ (by rfl) (hJ3110 (x1, y1, x2, y2, x3, y3, g, g2, g3) _ HI2)
    ·refine box_step ?hg (N := 11) ?hd (cs := #[.slice none 0 0, .slice none 0 0]) (t := 30) ?hr ?_; (case hd => rfl); (case hg => rfl); (case hr => first | (go_simp; done) | (go_simp; rfl))
     intro g hg w2 hbox hb
     have HI2 := HI.alloc3 hg hbox hb
     refine hK.out _ _ HI2.held (fun _ => ?_)
     clear hK K
     exact norm_ (by rfl) (hJ3011 (x1, y1, x2, y2, x3, y3, g1, g2, g) _ HI2)
   intro hJ3010
   refine join_ (σ := Value × Value × Value × Value × Value × Value × Nat × Nat × Nat) 5 #[true, true, true, true, true, true, true, false, false, false, false, false] (fun s_ => [(20, .agg #[s_.1, s_.2.1]), (22, .agg #[s_.2.2.1, s_.2.2.2.1]), (24, .agg #[s_.2.2.2.2.1, s_.2.2.2.2.2.1]), (9, .pointer (some ⟨s_.2.2.2.2.2.2.1, 0, none⟩))]) (fun s_ w' => PJ w gb231 gb232 gb233 #[.int .u8 a0_0, .int .u8 a0_1, .int .u8 a0_2, .int .u8 a0_3, .int .u8 a0_4, .int .u8 a0_5] #[.int .u8 a1_0, .int .u8 a1_1, .int .u8 a1_2, .int .u8 a1_3, .int .u8 a1_4, .int .u8 a1_5] #[.int .u8 a2_0, .int .u8 a2_1, .int .u8 a2_2, .int .u8 a2_3, .int .u8 a2_4, .int .u8 a2_5] v236 v239 t235 t238 t241 t247 t253 t244 t250 t256 true true true true false false s_.1 s_.2.1 s_.2.2.1 s_.2.2.2.1 s_.2.2.2.2.1 s_.2.2.2.2.2.1 s_.2.2.2.2.2.2.1 s_.2.2.2.2.2.2.2.1 s_.2.2.2.2.2.2.2.2 w') ?_ ?_
   ·clear HI
    rintro ⟨x1, y1, x2, y2, x3, y3, g1, g2, g3⟩ w1 HI
    replace HI : PJ w gb231 gb232 gb233 #[.int .u8 a0_0, .int .u8 a0_1, .int .u8 a0_2, .int .u8 a0_3, .int .u8 a0_4, .int .u8 a0_5] #[.int .u8 a1_0, .int .u8 a1_1, .int .u8 a1_2, .int .u8 a1_3, .int .u8 a1_4, .int .u8 a1_5] #[.int .u8 a2_0, .int .u8 a2_1, .int .u8 a2_2, .int .u8 a2_3, .int .u8 a2_4, .int .u8 a2_5] v236 v239 t235 t238 t241 t247 t253 t244 t250 t256 true true true true false false x1 y1 x2 y2 x3 y3 g1 g2 g3 w1 := HI
    refine norm_ (a' := ?_) ?_ ?_
    rotate_left
    ·simp only [putAll, Act.put, List.setIfInBounds_toArray, List.set_cons_zero, List.set_cons_succ]
     rfl
    refine two_ (i := 7) (j := 8) (Ni := some 10) (Nj := some 11) #[true, true, true, true, true, true, true, true, false, false, false, false] #[true, true, true, true, true, true, true, false, true, false, false, false] rfl rfl rfl rfl (two_of HT_.out (by kernel_rfl)) (by decide) (by decide) (fun K hK => ?_) (fun K hK => ?_)
    ·refine box_step ?hg (N := 10) ?hd (cs := #[.slice none 0 0, .slice none 0 0]) (t := 30) ?hr ?_; (case hd => rfl); (case hg => rfl); (case hr => first | (go_simp; done) | (go_simp; rfl))
     intro g hg w2 hbox hb
     have HI2 := HI.alloc2 hg hbox hb
     refine hK.out _ _ HI2.held (fun _ => ?_)
     clear hK K
     exact norm_ (by rfl) (hJ3110 (x1, y1, x2, y2, x3, y3, g1, g, g3) _ HI2)
    ·refine box_step ?hg (N := 11) ?hd (cs := #[.slice none 0 0, .slice none 0 0]) (t := 30) ?hr ?_; (case hd => rfl); (case hg => rfl); (case hr => first | (go_simp; done) | (go_simp; rfl))
     intro g hg w2 hbox hb
     have HI2 := HI.alloc3 hg hbox hb
     refine hK.out _ _ HI2.held (fun _ => ?_)
     clear hK K
     exact norm_ (by rfl) (hJ3101 (x1, y1, x2, y2, x3, y3, g1, g2, g) _ HI2)
   intro hJ3100
   refine join_ (σ := Value × Value × Value × Value × Value × Value × Nat × Nat × Nat) 6 #[true, false, true, false, true, false, true, true, true, false, false, false] (fun s_ => [(9, .pointer (some ⟨s_.2.2.2.2.2.2.1, 0, none⟩)), (10, .pointer (some ⟨s_.2.2.2.2.2.2.2.1, 0, none⟩)), (11, .pointer (some ⟨s_.2.2.2.2.2.2.2.2, 0, none⟩))]) (fun s_ w' => PJ w gb231 gb232 gb233 #[.int .u8 a0_0, .int .u8 a0_1, .int .u8 a0_2, .int .u8 a0_3, .int .u8 a0_4, .int .u8 a0_5] #[.int .u8 a1_0, .int .u8 a1_1, .int .u8 a1_2, .int .u8 a1_3, .int .u8 a1_4, .int .u8 a1_5] #[.int .u8 a2_0, .int .u8 a2_1, .int .u8 a2_2, .int .u8 a2_3, .int .u8 a2_4, .int .u8 a2_5] v236 v239 t235 t238 t241 t247 t253 t244 t250 t256 false false false true true true s_.1 s_.2.1 s_.2.2.1 s_.2.2.2.1 s_.2.2.2.2.1 s_.2.2.2.2.2.1 s_.2.2.2.2.2.2.1 s_.2.2.2.2.2.2.2.1 s_.2.2.2.2.2.2.2.2 w') ?_ ?_
   ·clear HI
    rintro ⟨x1, y1, x2, y2, x3, y3, g1, g2, g3⟩ w1 HI
    replace HI : PJ w gb231 gb232 gb233 #[.int .u8 a0_0, .int .u8 a0_1, .int .u8 a0_2, .int .u8 a0_3, .int .u8 a0_4, .int .u8 a0_5] #[.int .u8 a1_0, .int .u8 a1_1, .int .u8 a1_2, .int .u8 a1_3, .int .u8 a1_4, .int .u8 a1_5] #[.int .u8 a2_0, .int .u8 a2_1, .int .u8 a2_2, .int .u8 a2_3, .int .u8 a2_4, .int .u8 a2_5] v236 v239 t235 t238 t241 t247 t253 t244 t250 t256 false false false true true true x1 y1 x2 y2 x3 y3 g1 g2 g3 w1 := HI
    refine norm_ (a' := ?_) ?_ ?_
    rotate_left
    ·simp only [putAll, Act.put, List.setIfInBounds_toArray, List.set_cons_zero, List.set_cons_succ]
     rfl
    refine one_ (i := 1) (N := some 20) #[true, true, true, false, true, false, true, true, true, false, false, false] rfl rfl (one_of HT_.out (by kernel_rfl)) (by decide) (fun K hK => ?_)
    ·refine goes_ Tryd.func18 (by kernel_rfl) rfl #[.agg #[.int .u8 a0_0, .int .u8 a0_1, .int .u8 a0_2, .int .u8 a0_3, .int .u8 a0_4, .int .u8 a0_5]] (by rfl) rfl rfl (by (try simp only [List.map_toArray, List.map_cons, List.map_nil]); first | done | rfl | (simp only [List.length_drop, List.length_take]; rfl)) ?_
     with_reducible refine (withelaw11_made.calls a0_0 a0_1 a0_2 a0_3 a0_4 a0_5 t241 t244 _ A7.out).mono ?_
     rintro e w2 ⟨x, y, rfl, ho0, ho1, hb⟩
     refine ⟨_, rfl, ?_⟩
     have HI2 := HI.call1 ho0 ho1 hb
     refine hK.out _ _ HI2.held (fun _ => ?_)
     clear hK K
     exact norm_ (by rfl) (hJ1111 (x, y, x2, y2, x3, y3, g1, g2, g3) _ HI2)
   intro hJ0111
   refine join_ (σ := Value × Value × Value × Value × Value × Value × Nat × Nat × Nat) 6 #[true, true, true, false, true, false, false, true, true, false, false, false] (fun s_ => [(20, .agg #[s_.1, s_.2.1]), (10, .pointer (some ⟨s_.2.2.2.2.2.2.2.1, 0, none⟩)), (11, .pointer (some ⟨s_.2.2.2.2.2.2.2.2, 0, none⟩))]) (fun s_ w' => PJ w gb231 gb232 gb233 #[.int .u8 a0_0, .int .u8 a0_1, .int .u8 a0_2, .int .u8 a0_3, .int .u8 a0_4, .int .u8 a0_5] #[.int .u8 a1_0, .int .u8 a1_1, .int .u8 a1_2, .int .u8 a1_3, .int .u8 a1_4, .int .u8 a1_5] #[.int .u8 a2_0, .int .u8 a2_1, .int .u8 a2_2, .int .u8 a2_3, .int .u8 a2_4, .int .u8 a2_5] v236 v239 t235 t238 t241 t247 t253 t244 t250 t256 true false false false true true s_.1 s_.2.1 s_.2.2.1 s_.2.2.2.1 s_.2.2.2.2.1 s_.2.2.2.2.2.1 s_.2.2.2.2.2.2.1 s_.2.2.2.2.2.2.2.1 s_.2.2.2.2.2.2.2.2 w') ?_ ?_
   ·clear HI
    rintro ⟨x1, y1, x2, y2, x3, y3, g1, g2, g3⟩ w1 HI
    replace HI : PJ w gb231 gb232 gb233 #[.int .u8 a0_0, .int .u8 a0_1, .int .u8 a0_2, .int .u8 a0_3, .int .u8 a0_4, .int .u8 a0_5] #[.int .u8 a1_0, .int .u8 a1_1, .int .u8 a1_2, .int .u8 a1_3, .int .u8 a1_4, .int .u8 a1_5] #[.int .u8 a2_0, .int .u8 a2_1, .int .u8 a2_2, .int .u8 a2_3, .int .u8 a2_4, .int .u8 a2_5] v236 v239 t235 t238 t241 t247 t253 t244 t250 t256 true false false false true true x1 y1 x2 y2 x3 y3 g1 g2 g3 w1 := HI
    refine norm_ (a' := ?_) ?_ ?_
    rotate_left
    ·simp only [putAll, Act.put, List.setIfInBounds_toArray, List.set_cons_zero, List.set_cons_succ]
     rfl
    refine two_ (i := 3) (j := 6) (Ni := some 22) (Nj := some 9) #[true, true, true, true, true, false, false, true, true, false, false, false] #[true, true, true, false, true, false, true, true, true, false, false, false] rfl rfl rfl rfl (two_of HT_.out (by kernel_rfl)) (by decide) (by decide) (fun K hK => ?_) (fun K hK => ?_)
    ·refine goes_ Tryd.func18 (by kernel_rfl) rfl #[.agg #[.int .u8 a1_0, .int .u8 a1_1, .int .u8 a1_2, .int .u8 a1_3, .int .u8 a1_4, .int .u8 a1_5]] (by rfl) rfl rfl (by (try simp only [List.map_toArray, List.map_cons, List.map_nil]); first | done | rfl | (simp only [List.length_drop, List.length_take]; rfl)) ?_
     with_reducible refine (withelaw11_made.calls a1_0 a1_1 a1_2 a1_3 a1_4 a1_5 t247 t250 _ A8.out).mono ?_
     rintro e w2 ⟨x, y, rfl, ho0, ho1, hb⟩
     refine ⟨_, rfl, ?_⟩
     have HI2 := HI.call2 ho0 ho1 hb
     refine hK.out _ _ HI2.held (fun _ => ?_)
     clear hK K
     exact norm_ (by rfl) (hJ2011 (x1, y1, x, y, x3, y3, g1, g2, g3) _ HI2)
    ·refine box_step ?hg (N := 9) ?hd (cs := #[.slice none 0 0, .slice none 0 0]) (t := 30) ?hr ?_; (case hd => rfl); (case hg => rfl); (case hr => first | (go_simp; done) | (go_simp; rfl))
     intro g hg w2 hbox hb
     have HI2 := HI.alloc1 hg hbox hb
     refine hK.out _ _ HI2.held (fun _ => ?_)
     clear hK K
     exact norm_ (by rfl) (hJ1111 (x1, y1, x2, y2, x3, y3, g, g2, g3) _ HI2)
   intro hJ1011
   refine join_ (σ := Value × Value × Value × Value × Value × Value × Nat × Nat × Nat) 6 #[true, true, true, false, true, false, true, false, true, false, false, false] (fun s_ => [(20, .agg #[s_.1, s_.2.1]), (9, .pointer (some ⟨s_.2.2.2.2.2.2.1, 0, none⟩)), (11, .pointer (some ⟨s_.2.2.2.2.2.2.2.2, 0, none⟩))]) (fun s_ w' => PJ w gb231 gb232 gb233 #[.int .u8 a0_0, .int .u8 a0_1, .int .u8 a0_2, .int .u8 a0_3, .int .u8 a0_4, .int .u8 a0_5] #[.int .u8 a1_0, .int .u8 a1_1, .int .u8 a1_2, .int .u8 a1_3, .int .u8 a1_4, .int .u8 a1_5] #[.int .u8 a2_0, .int .u8 a2_1, .int .u8 a2_2, .int .u8 a2_3, .int .u8 a2_4, .int .u8 a2_5] v236 v239 t235 t238 t241 t247 t253 t244 t250 t256 true false false true false true s_.1 s_.2.1 s_.2.2.1 s_.2.2.2.1 s_.2.2.2.2.1 s_.2.2.2.2.2.1 s_.2.2.2.2.2.2.1 s_.2.2.2.2.2.2.2.1 s_.2.2.2.2.2.2.2.2 w') ?_ ?_
   ·clear HI
    rintro ⟨x1, y1, x2, y2, x3, y3, g1, g2, g3⟩ w1 HI
    replace HI : PJ w gb231 gb232 gb233 #[.int .u8 a0_0, .int .u8 a0_1, .int .u8 a0_2, .int .u8 a0_3, .int .u8 a0_4, .int .u8 a0_5] #[.int .u8 a1_0, .int .u8 a1_1, .int .u8 a1_2, .int .u8 a1_3, .int .u8 a1_4, .int .u8 a1_5] #[.int .u8 a2_0, .int .u8 a2_1, .int .u8 a2_2, .int .u8 a2_3, .int .u8 a2_4, .int .u8 a2_5] v236 v239 t235 t238 t241 t247 t253 t244 t250 t256 true false false true false true x1 y1 x2 y2 x3 y3 g1 g2 g3 w1 := HI
    refine norm_ (a' := ?_) ?_ ?_
    rotate_left
    ·simp only [putAll, Act.put, List.setIfInBounds_toArray, List.set_cons_zero, List.set_cons_succ]
     rfl
    refine two_ (i := 3) (j := 7) (Ni := some 22) (Nj := some 10) #[true, true, true, true, true, false, true, false, true, false, false, false] #[true, true, true, false, true, false, true, true, true, false, false, false] rfl rfl rfl rfl (two_of HT_.out (by kernel_rfl)) (by decide) (by decide) (fun K hK => ?_) (fun K hK => ?_)
    ·refine goes_ Tryd.func18 (by kernel_rfl) rfl #[.agg #[.int .u8 a1_0, .int .u8 a1_1, .int .u8 a1_2, .int .u8 a1_3, .int .u8 a1_4, .int .u8 a1_5]] (by rfl) rfl rfl (by (try simp only [List.map_toArray, List.map_cons, List.map_nil]); first | done | rfl | (simp only [List.length_drop, List.length_take]; rfl)) ?_
     with_reducible refine (withelaw11_made.calls a1_0 a1_1 a1_2 a1_3 a1_4 a1_5 t247 t250 _ A8.out).mono ?_
     rintro e w2 ⟨x, y, rfl, ho0, ho1, hb⟩
     refine ⟨_, rfl, ?_⟩
     have HI2 := HI.call2 ho0 ho1 hb
     refine hK.out _ _ HI2.held (fun _ => ?_)
     clear hK K
     exact norm_ (by rfl) (hJ2101 (x1, y1, x, y, x3, y3, g1, g2, g3) _ HI2)
    ·refine box_step ?hg (N := 10) ?hd (cs := #[.slice none 0 0, .slice none 0 0]) (t := 30) ?hr ?_; (case hd => rfl); (case hg => rfl); (case hr => first | (go_simp; done) | (go_simp; rfl))
     intro g hg w2 hbox hb
     have HI2 := HI.alloc2 hg hbox hb
     refine hK.out _ _ HI2.held (fun _ => ?_)
     clear hK K
     exact norm_ (by rfl) (hJ1111 (x1, y1, x2, y2, x3, y3, g1, g, g3) _ HI2)
   intro hJ1101
   refine join_ (σ := Value × Value × Value × Value × Value × Value × Nat × Nat × Nat) 6 #[true, true, true, false, true, false, true, true, false, false, false, false] (fun s_ => [(20, .agg #[s_.1, s_.2.1]), (9, .pointer (some ⟨s_.2.2.2.2.2.2.1, 0, none⟩)), (10, .pointer (some ⟨s_.2.2.2.2.2.2.2.1, 0, none⟩))]) (fun s_ w' => PJ w gb231 gb232 gb233 #[.int .u8 a0_0, .int .u8 a0_1, .int .u8 a0_2, .int .u8 a0_3, .int .u8 a0_4, .int .u8 a0_5] #[.int .u8 a1_0, .int .u8 a1_1, .int .u8 a1_2, .int .u8 a1_3, .int .u8 a1_4, .int .u8 a1_5] #[.int .u8 a2_0, .int .u8 a2_1, .int .u8 a2_2, .int .u8 a2_3, .int .u8 a2_4, .int .u8 a2_5] v236 v239 t235 t238 t241 t247 t253 t244 t250 t256 true false false true true false s_.1 s_.2.1 s_.2.2.1 s_.2.2.2.1 s_.2.2.2.2.1 s_.2.2.2.2.2.1 s_.2.2.2.2.2.2.1 s_.2.2.2.2.2.2.2.1 s_.2.2.2.2.2.2.2.2 w') ?_ ?_
   ·clear HI
    rintro ⟨x1, y1, x2, y2, x3, y3, g1, g2, g3⟩ w1 HI
    replace HI : PJ w gb231 gb232 gb233 #[.int .u8 a0_0, .int .u8 a0_1, .int .u8 a0_2, .int .u8 a0_3, .int .u8 a0_4, .int .u8 a0_5] #[.int .u8 a1_0, .int .u8 a1_1, .int .u8 a1_2, .int .u8 a1_3, .int .u8 a1_4, .int .u8 a1_5] #[.int .u8 a2_0, .int .u8 a2_1, .int .u8 a2_2, .int .u8 a2_3, .int .u8 a2_4, .int .u8 a2_5] v236 v239 t235 t238 t241 t247 t253 t244 t250 t256 true false false true true false x1 y1 x2 y2 x3 y3 g1 g2 g3 w1 := HI
    refine norm_ (a' := ?_) ?_ ?_
    rotate_left
    ·simp only [putAll, Act.put, List.setIfInBounds_toArray, List.set_cons_zero, List.set_cons_succ]
     rfl
    refine two_ (i := 3) (j := 8) (Ni := some 22) (Nj := some 11) #[true, true, true, true, true, false, true, true, false, false, false, false] #[true, true, true, false, true, false, true, true, true, false, false, false] rfl rfl rfl rfl (two_of HT_.out (by kernel_rfl)) (by decide) (by decide) (fun K hK => ?_) (fun K hK => ?_)
    ·refine goes_ Tryd.func18 (by kernel_rfl) rfl #[.agg #[.int .u8 a1_0, .int .u8 a1_1, .int .u8 a1_2, .int .u8 a1_3, .int .u8 a1_4, .int .u8 a1_5]] (by rfl) rfl rfl (by (try simp only [List.map_toArray, List.map_cons, List.map_nil]); first | done | rfl | (simp only [List.length_drop, List.length_take]; rfl)) ?_
     with_reducible refine (withelaw11_made.calls a1_0 a1_1 a1_2 a1_3 a1_4 a1_5 t247 t250 _ A8.out).mono ?_
     rintro e w2 ⟨x, y, rfl, ho0, ho1, hb⟩
     refine ⟨_, rfl, ?_⟩
     have HI2 := HI.call2 ho0 ho1 hb
     refine hK.out _ _ HI2.held (fun _ => ?_)
     clear hK K
     exact norm_ (by rfl) (hJ2110 (x1, y1, x, y, x3, y3, g1, g2, g3) _ HI2)
    ·refine box_step ?hg (N := 11) ?hd (cs := #[.slice none 0 0, .slice none 0 0]) (t := 30) ?hr ?_; (case hd => rfl); (case hg => rfl); (case hr => first | (go_simp; done) | (go_simp; rfl))
     intro g hg w2 hbox hb
     have HI2 := HI.alloc3 hg hbox hb
     refine hK.out _ _ HI2.held (fun _ => ?_)
     clear hK K
     exact norm_ (by rfl) (hJ1111 (x1, y1, x2, y2, x3, y3, g1, g2, g) _ HI2)
   intro hJ1110
   refine join_ (σ := Value × Value × Value × Value × Value × Value × Nat × Nat × Nat) 6 #[true, true, true, true, true, false, false, false, true, false, false, false] (fun s_ => [(20, .agg #[s_.1, s_.2.1]), (22, .agg #[s_.2.2.1, s_.2.2.2.1]), (11, .pointer (some ⟨s_.2.2.2.2.2.2.2.2, 0, none⟩))]) (fun s_ w' => PJ w gb231 gb232 gb233 #[.int .u8 a0_0, .int .u8 a0_1, .int .u8 a0_2, .int .u8 a0_3, .int .u8 a0_4, .int .u8 a0_5] #[.int .u8 a1_0, .int .u8 a1_1, .int .u8 a1_2, .int .u8 a1_3, .int .u8 a1_4, .int .u8 a1_5] #[.int .u8 a2_0, .int .u8 a2_1, .int .u8 a2_2, .int .u8 a2_3, .int .u8 a2_4, .int .u8 a2_5] v236 v239 t235 t238 t241 t247 t253 t244 t250 t256 true true false false false true s_.1 s_.2.1 s_.2.2.1 s_.2.2.2.1 s_.2.2.2.2.1 s_.2.2.2.2.2.1 s_.2.2.2.2.2.2.1 s_.2.2.2.2.2.2.2.1 s_.2.2.2.2.2.2.2.2 w') ?_ ?_
   ·clear HI
    rintro ⟨x1, y1, x2, y2, x3, y3, g1, g2, g3⟩ w1 HI
    replace HI : PJ w gb231 gb232 gb233 #[.int .u8 a0_0, .int .u8 a0_1, .int .u8 a0_2, .int .u8 a0_3, .int .u8 a0_4, .int .u8 a0_5] #[.int .u8 a1_0, .int .u8 a1_1, .int .u8 a1_2, .int .u8 a1_3, .int .u8 a1_4, .int .u8 a1_5] #[.int .u8 a2_0, .int .u8 a2_1, .int .u8 a2_2, .int .u8 a2_3, .int .u8 a2_4, .int .u8 a2_5] v236 v239 t235 t238 t241 t247 t253 t244 t250 t256 true true false false false true x1 y1 x2 y2 x3 y3 g1 g2 g3 w1 := HI
    refine norm_ (a' := ?_) ?_ ?_
    rotate_left
    ·simp only [putAll, Act.put, List.setIfInBounds_toArray, List.set_cons_zero, List.set_cons_succ]
     rfl
    refine three_ (i := 5) (j := 6) (k := 7) (Ni := some 24) (Nj := some 9) (Nk := some 10) #[true, true, true, true, true, true, false, false, true, false, false, false] #[true, true, true, true, true, false, true, false, true, false, false, false] #[true, true, true, true, true, false, false, true, true, false, false, false] rfl rfl rfl rfl rfl rfl (three_of HT_.out (by kernel_rfl)) (by decide) (by decide) (by decide) (fun K hK => ?_) (fun K hK => ?_) (fun K hK => ?_)
    ·refine goes_ Tryd.func18 (by kernel_rfl) rfl #[.agg #[.int .u8 a2_0, .int .u8 a2_1, .int .u8 a2_2, .int .u8 a2_3, .int .u8 a2_4, .int .u8 a2_5]] (by rfl) rfl rfl (by (try simp only [List.map_toArray, List.map_cons, List.map_nil]); first | done | rfl | (simp only [List.length_drop, List.length_take]; rfl)) ?_
     with_reducible refine (withelaw11_made.calls a2_0 a2_1 a2_2 a2_3 a2_4 a2_5 t253 t256 _ A9.out).mono ?_
     rintro e w2 ⟨x, y, rfl, ho0, ho1, hb⟩
     refine ⟨_, rfl, ?_⟩
     have HI2 := HI.call3 ho0 ho1 hb
     refine hK.out _ _ HI2.held (fun _ => ?_)
     clear hK K
     exact norm_ (by rfl) (hJ3001 (x1, y1, x2, y2, x, y, g1, g2, g3) _ HI2)
    ·refine box_step ?hg (N := 9) ?hd (cs := #[.slice none 0 0, .slice none 0 0]) (t := 30) ?hr ?_; (case hd => rfl); (case hg => rfl); (case hr => first | (go_simp; done) | (go_simp; rfl))
     intro g hg w2 hbox hb
     have HI2 := HI.alloc1 hg hbox hb
     refine hK.out _ _ HI2.held (fun _ => ?_)
     clear hK K
     exact norm_ (by rfl) (hJ2101 (x1, y1, x2, y2, x3, y3, g, g2, g3) _ HI2)
    ·refine box_step ?hg (N := 10) ?hd (cs := #[.slice none 0 0, .slice none 0 0]) (t := 30) ?hr ?_; (case hd => rfl); (case hg => rfl); (case hr => first | (go_simp; done) | (go_simp; rfl))
     intro g hg w2 hbox hb
     have HI2 := HI.alloc2 hg hbox hb
     refine hK.out _ _ HI2.held (fun _ => ?_)
     clear hK K
     exact norm_ (by rfl) (hJ2011 (x1, y1, x2, y2, x3, y3, g1, g, g3) _ HI2)
   intro hJ2001
   refine join_ (σ := Value × Value × Value × Value × Value × Value × Nat × Nat × Nat) 6 #[true, true, true, true, true, false, false, true, false, false, false, false] (fun s_ => [(20, .agg #[s_.1, s_.2.1]), (22, .agg #[s_.2.2.1, s_.2.2.2.1]), (10, .pointer (some ⟨s_.2.2.2.2.2.2.2.1, 0, none⟩))]) (fun s_ w' => PJ w gb231 gb232 gb233 #[.int .u8 a0_0, .int .u8 a0_1, .int .u8 a0_2, .int .u8 a0_3, .int .u8 a0_4, .int .u8 a0_5] #[.int .u8 a1_0, .int .u8 a1_1, .int .u8 a1_2, .int .u8 a1_3, .int .u8 a1_4, .int .u8 a1_5] #[.int .u8 a2_0, .int .u8 a2_1, .int .u8 a2_2, .int .u8 a2_3, .int .u8 a2_4, .int .u8 a2_5] v236 v239 t235 t238 t241 t247 t253 t244 t250 t256 true true false false true false s_.1 s_.2.1 s_.2.2.1 s_.2.2.2.1 s_.2.2.2.2.1 s_.2.2.2.2.2.1 s_.2.2.2.2.2.2.1 s_.2.2.2.2.2.2.2.1 s_.2.2.2.2.2.2.2.2 w') ?_ ?_
   ·clear HI
    rintro ⟨x1, y1, x2, y2, x3, y3, g1, g2, g3⟩ w1 HI
    replace HI : PJ w gb231 gb232 gb233 #[.int .u8 a0_0, .int .u8 a0_1, .int .u8 a0_2, .int .u8 a0_3, .int .u8 a0_4, .int .u8 a0_5] #[.int .u8 a1_0, .int .u8 a1_1, .int .u8 a1_2, .int .u8 a1_3, .int .u8 a1_4, .int .u8 a1_5] #[.int .u8 a2_0, .int .u8 a2_1, .int .u8 a2_2, .int .u8 a2_3, .int .u8 a2_4, .int .u8 a2_5] v236 v239 t235 t238 t241 t247 t253 t244 t250 t256 true true false false true false x1 y1 x2 y2 x3 y3 g1 g2 g3 w1 := HI
    refine norm_ (a' := ?_) ?_ ?_
    rotate_left
    ·simp only [putAll, Act.put, List.setIfInBounds_toArray, List.set_cons_zero, List.set_cons_succ]
     rfl
    refine three_ (i := 5) (j := 6) (k := 8) (Ni := some 24) (Nj := some 9) (Nk := some 11) #[true, true, true, true, true, true, false, true, false, false, false, false] #[true, true, true, true, true, false, true, true, false, false, false, false] #[true, true, true, true, true, false, false, true, true, false, false, false] rfl rfl rfl rfl rfl rfl (three_of HT_.out (by kernel_rfl)) (by decide) (by decide) (by decide) (fun K hK => ?_) (fun K hK => ?_) (fun K hK => ?_)
    ·refine goes_ Tryd.func18 (by kernel_rfl) rfl #[.agg #[.int .u8 a2_0, .int .u8 a2_1, .int .u8 a2_2, .int .u8 a2_3, .int .u8 a2_4, .int .u8 a2_5]] (by rfl) rfl rfl (by (try simp only [List.map_toArray, List.map_cons, List.map_nil]); first | done | rfl | (simp only [List.length_drop, List.length_take]; rfl)) ?_
     with_reducible refine (withelaw11_made.calls a2_0 a2_1 a2_2 a2_3 a2_4 a2_5 t253 t256 _ A9.out).mono ?_
     rintro e w2 ⟨x, y, rfl, ho0, ho1, hb⟩
     refine ⟨_, rfl, ?_⟩
     have HI2 := HI.call3 ho0 ho1 hb
     refine hK.out _ _ HI2.held (fun _ => ?_)
     clear hK K
     exact norm_ (by rfl) (hJ3010 (x1, y1, x2, y2, x, y, g1, g2, g3) _ HI2)
    ·refine box_step ?hg (N := 9) ?hd (cs := #[.slice none 0 0, .slice none 0 0]) (t := 30) ?hr ?_; (case hd => rfl); (case hg => rfl); (case hr => first | (go_simp; done) | (go_simp; rfl))
     intro g hg w2 hbox hb
     have HI2 := HI.alloc1 hg hbox hb
     refine hK.out _ _ HI2.held (fun _ => ?_)
     clear hK K
     exact norm_ (by rfl) (hJ2110 (x1, y1, x2, y2, x3, y3, g, g2, g3) _ HI2)
    ·refine box_step ?hg (N := 11) ?hd (cs := #[.slice none 0 0, .slice none 0 0]) (t := 30) ?hr ?_; (case hd => rfl); (case hg => rfl); (case hr => first | (go_simp; done) | (go_simp; rfl))
     intro g hg w2 hbox hb
     have HI2 := HI.alloc3 hg hbox hb
     refine hK.out _ _ HI2.held (fun _ => ?_)
     clear hK K
     exact norm_ (by rfl) (hJ2011 (x1, y1, x2, y2, x3, y3, g1, g2, g) _ HI2)
   intro hJ2010
   refine join_ (σ := Value × Value × Value × Value × Value × Value × Nat × Nat × Nat) 6 #[true, true, true, true, true, false, true, false, false, false, false, false] (fun s_ => [(20, .agg #[s_.1, s_.2.1]), (22, .agg #[s_.2.2.1, s_.2.2.2.1]), (9, .pointer (some ⟨s_.2.2.2.2.2.2.1, 0, none⟩))]) (fun s_ w' => PJ w gb231 gb232 gb233 #[.int .u8 a0_0, .int .u8 a0_1, .int .u8 a0_2, .int .u8 a0_3, .int .u8 a0_4, .int .u8 a0_5] #[.int .u8 a1_0, .int .u8 a1_1, .int .u8 a1_2, .int .u8 a1_3, .int .u8 a1_4, .int .u8 a1_5] #[.int .u8 a2_0, .int .u8 a2_1, .int .u8 a2_2, .int .u8 a2_3, .int .u8 a2_4, .int .u8 a2_5] v236 v239 t235 t238 t241 t247 t253 t244 t250 t256 true true false true false false s_.1 s_.2.1 s_.2.2.1 s_.2.2.2.1 s_.2.2.2.2.1 s_.2.2.2.2.2.1 s_.2.2.2.2.2.2.1 s_.2.2.2.2.2.2.2.1 s_.2.2.2.2.2.2.2.2 w') ?_ ?_
   ·clear HI
    rintro ⟨x1, y1, x2, y2, x3, y3, g1, g2, g3⟩ w1 HI
    replace HI : PJ w gb231 gb232 gb233 #[.int .u8 a0_0, .int .u8 a0_1, .int .u8 a0_2, .int .u8 a0_3, .int .u8 a0_4, .int .u8 a0_5] #[.int .u8 a1_0, .int .u8 a1_1, .int .u8 a1_2, .int .u8 a1_3, .int .u8 a1_4, .int .u8 a1_5] #[.int .u8 a2_0, .int .u8 a2_1, .int .u8 a2_2, .int .u8 a2_3, .int .u8 a2_4, .int .u8 a2_5] v236 v239 t235 t238 t241 t247 t253 t244 t250 t256 true true false true false false x1 y1 x2 y2 x3 y3 g1 g2 g3 w1 := HI
    refine norm_ (a' := ?_) ?_ ?_
    rotate_left
    ·simp only [putAll, Act.put, List.setIfInBounds_toArray, List.set_cons_zero, List.set_cons_succ]
     rfl
    refine three_ (i := 5) (j := 7) (k := 8) (Ni := some 24) (Nj := some 10) (Nk := some 11) #[true, true, true, true, true, true, true, false, false, false, false, false] #[true, true, true, true, true, false, true, true, false, false, false, false] #[true, true, true, true, true, false, true, false, true, false, false, false] rfl rfl rfl rfl rfl rfl (three_of HT_.out (by kernel_rfl)) (by decide) (by decide) (by decide) (fun K hK => ?_) (fun K hK => ?_) (fun K hK => ?_)
    ·refine goes_ Tryd.func18 (by kernel_rfl) rfl #[.agg #[.int .u8 a2_0, .int .u8 a2_1, .int .u8 a2_2, .int .u8 a2_3, .int .u8 a2_4, .int .u8 a2_5]] (by rfl) rfl rfl (by (try simp only [List.map_toArray, List.map_cons, List.map_nil]); first | done | rfl | (simp only [List.length_drop, List.length_take]; rfl)) ?_
     with_reducible refine (withelaw11_made.calls a2_0 a2_1 a2_2 a2_3 a2_4 a2_5 t253 t256 _ A9.out).mono ?_
     rintro e w2 ⟨x, y, rfl, ho0, ho1, hb⟩
     refine ⟨_, rfl, ?_⟩
     have HI2 := HI.call3 ho0 ho1 hb
     refine hK.out _ _ HI2.held (fun _ => ?_)
     clear hK K
     exact norm_ (by rfl) (hJ3100 (x1, y1, x2, y2, x, y, g1, g2, g3) _ HI2)
    ·refine box_step ?hg (N := 10) ?hd (cs := #[.slice none 0 0, .slice none 0 0]) (t := 30) ?hr ?_; (case hd => rfl); (case hg => rfl); (case hr => first | (go_simp; done) | (go_simp; rfl))
     intro g hg w2 hbox hb
     have HI2 := HI.alloc2 hg hbox hb
     refine hK.out _ _ HI2.held (fun _ => ?_)
     clear hK K
     exact norm_ (by rfl) (hJ2110 (x1, y1, x2, y2, x3, y3, g1, g, g3) _ HI2)
    ·refine box_step ?hg (N := 11) ?hd (cs := #[.slice none 0 0, .slice none 0 0]) (t := 30) ?hr ?_; (case hd => rfl); (case hg => rfl); (case hr => first | (go_simp; done) | (go_simp; rfl))
     intro g hg w2 hbox hb
     have HI2 := HI.alloc3 hg hbox hb
     refine hK.out _ _ HI2.held (fun _ => ?_)
     clear hK K
     exact norm_ (by rfl) (hJ2101 (x1, y1, x2, y2, x3, y3, g1, g2, g) _ HI2)
   intro hJ2100
   refine join_ (σ := Value × Value × Value × Value × Value × Value × Nat × Nat × Nat) 6 #[true, true, true, true, true, true, false, false, false, false, false, false] (fun s_ => [(20, .agg #[s_.1, s_.2.1]), (22, .agg #[s_.2.2.1, s_.2.2.2.1]), (24, .agg #[s_.2.2.2.2.1, s_.2.2.2.2.2.1])]) (fun s_ w' => PJ w gb231 gb232 gb233 #[.int .u8 a0_0, .int .u8 a0_1, .int .u8 a0_2, .int .u8 a0_3, .int .u8 a0_4, .int .u8 a0_5] #[.int .u8 a1_0, .int .u8 a1_1, .int .u8 a1_2, .int .u8 a1_3, .int .u8 a1_4, .int .u8 a1_5] #[.int .u8 a2_0, .int .u8 a2_1, .int .u8 a2_2, .int .u8 a2_3, .int .u8 a2_4, .int .u8 a2_5] v236 v239 t235 t238 t241 t247 t253 t244 t250 t256 true true true false false false s_.1 s_.2.1 s_.2.2.1 s_.2.2.2.1 s_.2.2.2.2.1 s_.2.2.2.2.2.1 s_.2.2.2.2.2.2.1 s_.2.2.2.2.2.2.2.1 s_.2.2.2.2.2.2.2.2 w') ?_ ?_
   ·clear HI
    rintro ⟨x1, y1, x2, y2, x3, y3, g1, g2, g3⟩ w1 HI
    replace HI : PJ w gb231 gb232 gb233 #[.int .u8 a0_0, .int .u8 a0_1, .int .u8 a0_2, .int .u8 a0_3, .int .u8 a0_4, .int .u8 a0_5] #[.int .u8 a1_0, .int .u8 a1_1, .int .u8 a1_2, .int .u8 a1_3, .int .u8 a1_4, .int .u8 a1_5] #[.int .u8 a2_0, .int .u8 a2_1, .int .u8 a2_2, .int .u8 a2_3, .int .u8 a2_4, .int .u8 a2_5] v236 v239 t235 t238 t241 t247 t253 t244 t250 t256 true true true false false false x1 y1 x2 y2 x3 y3 g1 g2 g3 w1 := HI
    refine norm_ (a' := ?_) ?_ ?_
    rotate_left
    ·simp only [putAll, Act.put, List.setIfInBounds_toArray, List.set_cons_zero, List.set_cons_succ]
     rfl
    refine three_ (i := 6) (j := 7) (k := 8) (Ni := some 9) (Nj := some 10) (Nk := some 11) #[true, true, true, true, true, true, true, false, false, false, false, false] #[true, true, true, true, true, true, false, true, false, false, false, false] #[true, true, true, true, true, true, false, false, true, false, false, false] rfl rfl rfl rfl rfl rfl (three_of HT_.out (by kernel_rfl)) (by decide) (by decide) (by decide) (fun K hK => ?_) (fun K hK => ?_) (fun K hK => ?_)
    ·refine box_step ?hg (N := 9) ?hd (cs := #[.slice none 0 0, .slice none 0 0]) (t := 30) ?hr ?_; (case hd => rfl); (case hg => rfl); (case hr => first | (go_simp; done) | (go_simp; rfl))
     intro g hg w2 hbox hb
     have HI2 := HI.alloc1 hg hbox hb
     refine hK.out _ _ HI2.held (fun _ => ?_)
     clear hK K
     exact norm_ (by rfl) (hJ3100 (x1, y1, x2, y2, x3, y3, g, g2, g3) _ HI2)
    ·refine box_step ?hg (N := 10) ?hd (cs := #[.slice none 0 0, .slice none 0 0]) (t := 30) ?hr ?_; (case hd => rfl); (case hg => rfl); (case hr => first | (go_simp; done) | (go_simp; rfl))
     intro g hg w2 hbox hb
     have HI2 := HI.alloc2 hg hbox hb
     refine hK.out _ _ HI2.held (fun _ => ?_)
     clear hK K
     exact norm_ (by rfl) (hJ3010 (x1, y1, x2, y2, x3, y3, g1, g, g3) _ HI2)
    ·refine box_step ?hg (N := 11) ?hd (cs := #[.slice none 0 0, .slice none 0 0]) (t := 30) ?hr ?_; (case hd => rfl); (case hg => rfl); (case hr => first | (go_simp; done) | (go_simp; rfl))
     intro g hg w2 hbox hb
     have HI2 := HI.alloc3 hg hbox hb
     refine hK.out _ _ HI2.held (fun _ => ?_)
     clear hK K
     exact norm_ (by rfl) (hJ3001 (x1, y1, x2, y2, x3, y3, g1, g2, g) _ HI2)
   intro hJ3000
   refine join_ (σ := Value × Value × Value × Value × Value × Value × Nat × Nat × Nat) 7 #[true, false, true, false, true, false, false, true, true, false, false, false] (fun s_ => [(10, .pointer (some ⟨s_.2.2.2.2.2.2.2.1, 0, none⟩)), (11, .pointer (some ⟨s_.2.2.2.2.2.2.2.2, 0, none⟩))]) (fun s_ w' => PJ w gb231 gb232 gb233 #[.int .u8 a0_0, .int .u8 a0_1, .int .u8 a0_2, .int .u8 a0_3, .int .u8 a0_4, .int .u8 a0_5] #[.int .u8 a1_0, .int .u8 a1_1, .int .u8 a1_2, .int .u8 a1_3, .int .u8 a1_4, .int .u8 a1_5] #[.int .u8 a2_0, .int .u8 a2_1, .int .u8 a2_2, .int .u8 a2_3, .int .u8 a2_4, .int .u8 a2_5] v236 v239 t235 t238 t241 t247 t253 t244 t250 t256 false false false false true true s_.1 s_.2.1 s_.2.2.1 s_.2.2.2.1 s_.2.2.2.2.1 s_.2.2.2.2.2.1 s_.2.2.2.2.2.2.1 s_.2.2.2.2.2.2.2.1 s_.2.2.2.2.2.2.2.2 w') ?_ ?_
   ·clear HI
    rintro ⟨x1, y1, x2, y2, x3, y3, g1, g2, g3⟩ w1 HI
    replace HI : PJ w gb231 gb232 gb233 #[.int .u8 a0_0, .int .u8 a0_1, .int .u8 a0_2, .int .u8 a0_3, .int .u8 a0_4, .int .u8 a0_5] #[.int .u8 a1_0, .int .u8 a1_1, .int .u8 a1_2, .int .u8 a1_3, .int .u8 a1_4, .int .u8 a1_5] #[.int .u8 a2_0, .int .u8 a2_1, .int .u8 a2_2, .int .u8 a2_3, .int .u8 a2_4, .int .u8 a2_5] v236 v239 t235 t238 t241 t247 t253 t244 t250 t256 false false false false true true x1 y1 x2 y2 x3 y3 g1 g2 g3 w1 := HI
    refine norm_ (a' := ?_) ?_ ?_
    rotate_left
    ·simp only [putAll, Act.put, List.setIfInBounds_toArray, List.set_cons_zero, List.set_cons_succ]
     rfl
    refine two_ (i := 1) (j := 6) (Ni := some 20) (Nj := some 9) #[true, true, true, false, true, false, false, true, true, false, false, false] #[true, false, true, false, true, false, true, true, true, false, false, false] rfl rfl rfl rfl (two_of HT_.out (by kernel_rfl)) (by decide) (by decide) (fun K hK => ?_) (fun K hK => ?_)
    ·refine goes_ Tryd.func18 (by kernel_rfl) rfl #[.agg #[.int .u8 a0_0, .int .u8 a0_1, .int .u8 a0_2, .int .u8 a0_3, .int .u8 a0_4, .int .u8 a0_5]] (by rfl) rfl rfl (by (try simp only [List.map_toArray, List.map_cons, List.map_nil]); first | done | rfl | (simp only [List.length_drop, List.length_take]; rfl)) ?_
     with_reducible refine (withelaw11_made.calls a0_0 a0_1 a0_2 a0_3 a0_4 a0_5 t241 t244 _ A7.out).mono ?_
     rintro e w2 ⟨x, y, rfl, ho0, ho1, hb⟩
     refine ⟨_, rfl, ?_⟩
     have HI2 := HI.call1 ho0 ho1 hb
     refine hK.out _ _ HI2.held (fun _ => ?_)
     clear hK K
     exact norm_ (by rfl) (hJ1011 (x, y, x2, y2, x3, y3, g1, g2, g3) _ HI2)
    ·refine box_step ?hg (N := 9) ?hd (cs := #[.slice none 0 0, .slice none 0 0]) (t := 30) ?hr ?_; (case hd => rfl); (case hg => rfl); (case hr => first | (go_simp; done) | (go_simp; rfl))
     intro g hg w2 hbox hb
     have HI2 := HI.alloc1 hg hbox hb
     refine hK.out _ _ HI2.held (fun _ => ?_)
     clear hK K
     exact norm_ (by rfl) (hJ0111 (x1, y1, x2, y2, x3, y3, g, g2, g3) _ HI2)
   intro hJ0011
   refine join_ (σ := Value × Value × Value × Value × Value × Value × Nat × Nat × Nat) 7 #[true, false, true, false, true, false, true, false, true, false, false, false] (fun s_ => [(9, .pointer (some ⟨s_.2.2.2.2.2.2.1, 0, none⟩)), (11, .pointer (some ⟨s_.2.2.2.2.2.2.2.2, 0, none⟩))]) (fun s_ w' => PJ w gb231 gb232 gb233 #[.int .u8 a0_0, .int .u8 a0_1, .int .u8 a0_2, .int .u8 a0_3, .int .u8 a0_4, .int .u8 a0_5] #[.int .u8 a1_0, .int .u8 a1_1, .int .u8 a1_2, .int .u8 a1_3, .int .u8 a1_4, .int .u8 a1_5] #[.int .u8 a2_0, .int .u8 a2_1, .int .u8 a2_2, .int .u8 a2_3, .int .u8 a2_4, .int .u8 a2_5] v236 v239 t235 t238 t241 t247 t253 t244 t250 t256 false false false true false true s_.1 s_.2.1 s_.2.2.1 s_.2.2.2.1 s_.2.2.2.2.1 s_.2.2.2.2.2.1 s_.2.2.2.2.2.2.1 s_.2.2.2.2.2.2.2.1 s_.2.2.2.2.2.2.2.2 w') ?_ ?_
   ·clear HI
    rintro ⟨x1, y1, x2, y2, x3, y3, g1, g2, g3⟩ w1 HI
    replace HI : PJ w gb231 gb232 gb233 #[.int .u8 a0_0, .int .u8 a0_1, .int .u8 a0_2, .int .u8 a0_3, .int .u8 a0_4, .int .u8 a0_5] #[.int .u8 a1_0, .int .u8 a1_1, .int .u8 a1_2, .int .u8 a1_3, .int .u8 a1_4, .int .u8 a1_5] #[.int .u8 a2_0, .int .u8 a2_1, .int .u8 a2_2, .int .u8 a2_3, .int .u8 a2_4, .int .u8 a2_5] v236 v239 t235 t238 t241 t247 t253 t244 t250 t256 false false false true false true x1 y1 x2 y2 x3 y3 g1 g2 g3 w1 := HI
    refine norm_ (a' := ?_) ?_ ?_
    rotate_left
    ·simp only [putAll, Act.put, List.setIfInBounds_toArray, List.set_cons_zero, List.set_cons_succ]
     rfl
    refine two_ (i := 1) (j := 7) (Ni := some 20) (Nj := some 10) #[true, true, true, false, true, false, true, false, true, false, false, false] #[true, false, true, false, true, false, true, true, true, false, false, false] rfl rfl rfl rfl (two_of HT_.out (by kernel_rfl)) (by decide) (by decide) (fun K hK => ?_) (fun K hK => ?_)
    ·refine goes_ Tryd.func18 (by kernel_rfl) rfl #[.agg #[.int .u8 a0_0, .int .u8 a0_1, .int .u8 a0_2, .int .u8 a0_3, .int .u8 a0_4, .int .u8 a0_5]] (by rfl) rfl rfl (by (try simp only [List.map_toArray, List.map_cons, List.map_nil]); first | done | rfl | (simp only [List.length_drop, List.length_take]; rfl)) ?_
     with_reducible refine (withelaw11_made.calls a0_0 a0_1 a0_2 a0_3 a0_4 a0_5 t241 t244 _ A7.out).mono ?_
     rintro e w2 ⟨x, y, rfl, ho0, ho1, hb⟩
     refine ⟨_, rfl, ?_⟩
     have HI2 := HI.call1 ho0 ho1 hb
     refine hK.out _ _ HI2.held (fun _ => ?_)
     clear hK K
     exact norm_ (by rfl) (hJ1101 (x, y, x2, y2, x3, y3, g1, g2, g3) _ HI2)
    ·refine box_step ?hg (N := 10) ?hd (cs := #[.slice none 0 0, .slice none 0 0]) (t := 30) ?hr ?_; (case hd => rfl); (case hg => rfl); (case hr => first | (go_simp; done) | (go_simp; rfl))
     intro g hg w2 hbox hb
     have HI2 := HI.alloc2 hg hbox hb
     refine hK.out _ _ HI2.held (fun _ => ?_)
     clear hK K
     exact norm_ (by rfl) (hJ0111 (x1, y1, x2, y2, x3, y3, g1, g, g3) _ HI2)
   intro hJ0101
   refine join_ (σ := Value × Value × Value × Value × Value × Value × Nat × Nat × Nat) 7 #[true, false, true, false, true, false, true, true, false, false, false, false] (fun s_ => [(9, .pointer (some ⟨s_.2.2.2.2.2.2.1, 0, none⟩)), (10, .pointer (some ⟨s_.2.2.2.2.2.2.2.1, 0, none⟩))]) (fun s_ w' => PJ w gb231 gb232 gb233 #[.int .u8 a0_0, .int .u8 a0_1, .int .u8 a0_2, .int .u8 a0_3, .int .u8 a0_4, .int .u8 a0_5] #[.int .u8 a1_0, .int .u8 a1_1, .int .u8 a1_2, .int .u8 a1_3, .int .u8 a1_4, .int .u8 a1_5] #[.int .u8 a2_0, .int .u8 a2_1, .int .u8 a2_2, .int .u8 a2_3, .int .u8 a2_4, .int .u8 a2_5] v236 v239 t235 t238 t241 t247 t253 t244 t250 t256 false false false true true false s_.1 s_.2.1 s_.2.2.1 s_.2.2.2.1 s_.2.2.2.2.1 s_.2.2.2.2.2.1 s_.2.2.2.2.2.2.1 s_.2.2.2.2.2.2.2.1 s_.2.2.2.2.2.2.2.2 w') ?_ ?_
   ·clear HI
    rintro ⟨x1, y1, x2, y2, x3, y3, g1, g2, g3⟩ w1 HI
    replace HI : PJ w gb231 gb232 gb233 #[.int .u8 a0_0, .int .u8 a0_1, .int .u8 a0_2, .int .u8 a0_3, .int .u8 a0_4, .int .u8 a0_5] #[.int .u8 a1_0, .int .u8 a1_1, .int .u8 a1_2, .int .u8 a1_3, .int .u8 a1_4, .int .u8 a1_5] #[.int .u8 a2_0, .int .u8 a2_1, .int .u8 a2_2, .int .u8 a2_3, .int .u8 a2_4, .int .u8 a2_5] v236 v239 t235 t238 t241 t247 t253 t244 t250 t256 false false false true true false x1 y1 x2 y2 x3 y3 g1 g2 g3 w1 := HI
    refine norm_ (a' := ?_) ?_ ?_
    rotate_left
    ·simp only [putAll, Act.put, List.setIfInBounds_toArray, List.set_cons_zero, List.set_cons_succ]
     rfl
    refine two_ (i := 1) (j := 8) (Ni := some 20) (Nj := some 11) #[true, true, true, false, true, false, true, true, false, false, false, false] #[true, false, true, false, true, false, true, true, true, false, false, false] rfl rfl rfl rfl (two_of HT_.out (by kernel_rfl)) (by decide) (by decide) (fun K hK => ?_) (fun K hK => ?_)
    ·refine goes_ Tryd.func18 (by kernel_rfl) rfl #[.agg #[.int .u8 a0_0, .int .u8 a0_1, .int .u8 a0_2, .int .u8 a0_3, .int .u8 a0_4, .int .u8 a0_5]] (by rfl) rfl rfl (by (try simp only [List.map_toArray, List.map_cons, List.map_nil]); first | done | rfl | (simp only [List.length_drop, List.length_take]; rfl)) ?_
     with_reducible refine (withelaw11_made.calls a0_0 a0_1 a0_2 a0_3 a0_4 a0_5 t241 t244 _ A7.out).mono ?_
     rintro e w2 ⟨x, y, rfl, ho0, ho1, hb⟩
     refine ⟨_, rfl, ?_⟩
     have HI2 := HI.call1 ho0 ho1 hb
     refine hK.out _ _ HI2.held (fun _ => ?_)
     clear hK K
     exact norm_ (by rfl) (hJ1110 (x, y, x2, y2, x3, y3, g1, g2, g3) _ HI2)
    ·refine box_step ?hg (N := 11) ?hd (cs := #[.slice none 0 0, .slice none 0 0]) (t := 30) ?hr ?_; (case hd => rfl); (case hg => rfl); (case hr => first | (go_simp; done) | (go_simp; rfl))
     intro g hg w2 hbox hb
     have HI2 := HI.alloc3 hg hbox hb
     refine hK.out _ _ HI2.held (fun _ => ?_)
     clear hK K
     exact norm_ (by rfl) (hJ0111 (x1, y1, x2, y2, x3, y3, g1, g2, g) _ HI2)
   intro hJ0110
   refine join_ (σ := Value × Value × Value × Value × Value × Value × Nat × Nat × Nat) 7 #[true, true, true, false, true, false, false, false, true, false, false, false] (fun s_ => [(20, .agg #[s_.1, s_.2.1]), (11, .pointer (some ⟨s_.2.2.2.2.2.2.2.2, 0, none⟩))]) (fun s_ w' => PJ w gb231 gb232 gb233 #[.int .u8 a0_0, .int .u8 a0_1, .int .u8 a0_2, .int .u8 a0_3, .int .u8 a0_4, .int .u8 a0_5] #[.int .u8 a1_0, .int .u8 a1_1, .int .u8 a1_2, .int .u8 a1_3, .int .u8 a1_4, .int .u8 a1_5] #[.int .u8 a2_0, .int .u8 a2_1, .int .u8 a2_2, .int .u8 a2_3, .int .u8 a2_4, .int .u8 a2_5] v236 v239 t235 t238 t241 t247 t253 t244 t250 t256 true false false false false true s_.1 s_.2.1 s_.2.2.1 s_.2.2.2.1 s_.2.2.2.2.1 s_.2.2.2.2.2.1 s_.2.2.2.2.2.2.1 s_.2.2.2.2.2.2.2.1 s_.2.2.2.2.2.2.2.2 w') ?_ ?_
   ·clear HI
    rintro ⟨x1, y1, x2, y2, x3, y3, g1, g2, g3⟩ w1 HI
    replace HI : PJ w gb231 gb232 gb233 #[.int .u8 a0_0, .int .u8 a0_1, .int .u8 a0_2, .int .u8 a0_3, .int .u8 a0_4, .int .u8 a0_5] #[.int .u8 a1_0, .int .u8 a1_1, .int .u8 a1_2, .int .u8 a1_3, .int .u8 a1_4, .int .u8 a1_5] #[.int .u8 a2_0, .int .u8 a2_1, .int .u8 a2_2, .int .u8 a2_3, .int .u8 a2_4, .int .u8 a2_5] v236 v239 t235 t238 t241 t247 t253 t244 t250 t256 true false false false false true x1 y1 x2 y2 x3 y3 g1 g2 g3 w1 := HI
    refine norm_ (a' := ?_) ?_ ?_
    rotate_left
    ·simp only [putAll, Act.put, List.setIfInBounds_toArray, List.set_cons_zero, List.set_cons_succ]
     rfl
    refine three_ (i := 3) (j := 6) (k := 7) (Ni := some 22) (Nj := some 9) (Nk := some 10) #[true, true, true, true, true, false, false, false, true, false, false, false] #[true, true, true, false, true, false, true, false, true, false, false, false] #[true, true, true, false, true, false, false, true, true, false, false, false] rfl rfl rfl rfl rfl rfl (three_of HT_.out (by kernel_rfl)) (by decide) (by decide) (by decide) (fun K hK => ?_) (fun K hK => ?_) (fun K hK => ?_)
    ·refine goes_ Tryd.func18 (by kernel_rfl) rfl #[.agg #[.int .u8 a1_0, .int .u8 a1_1, .int .u8 a1_2, .int .u8 a1_3, .int .u8 a1_4, .int .u8 a1_5]] (by rfl) rfl rfl (by (try simp only [List.map_toArray, List.map_cons, List.map_nil]); first | done | rfl | (simp only [List.length_drop, List.length_take]; rfl)) ?_
     with_reducible refine (withelaw11_made.calls a1_0 a1_1 a1_2 a1_3 a1_4 a1_5 t247 t250 _ A8.out).mono ?_
     rintro e w2 ⟨x, y, rfl, ho0, ho1, hb⟩
     refine ⟨_, rfl, ?_⟩
     have HI2 := HI.call2 ho0 ho1 hb
     refine hK.out _ _ HI2.held (fun _ => ?_)
     clear hK K
     exact norm_ (by rfl) (hJ2001 (x1, y1, x, y, x3, y3, g1, g2, g3) _ HI2)
    ·refine box_step ?hg (N := 9) ?hd (cs := #[.slice none 0 0, .slice none 0 0]) (t := 30) ?hr ?_; (case hd => rfl); (case hg => rfl); (case hr => first | (go_simp; done) | (go_simp; rfl))
     intro g hg w2 hbox hb
     have HI2 := HI.alloc1 hg hbox hb
     refine hK.out _ _ HI2.held (fun _ => ?_)
     clear hK K
     exact norm_ (by rfl) (hJ1101 (x1, y1, x2, y2, x3, y3, g, g2, g3) _ HI2)
    ·refine box_step ?hg (N := 10) ?hd (cs := #[.slice none 0 0, .slice none 0 0]) (t := 30) ?hr ?_; (case hd => rfl); (case hg => rfl); (case hr => first | (go_simp; done) | (go_simp; rfl))
     intro g hg w2 hbox hb
     have HI2 := HI.alloc2 hg hbox hb
     refine hK.out _ _ HI2.held (fun _ => ?_)
     clear hK K
     exact norm_ (by rfl) (hJ1011 (x1, y1, x2, y2, x3, y3, g1, g, g3) _ HI2)
   intro hJ1001
   refine join_ (σ := Value × Value × Value × Value × Value × Value × Nat × Nat × Nat) 7 #[true, true, true, false, true, false, false, true, false, false, false, false] (fun s_ => [(20, .agg #[s_.1, s_.2.1]), (10, .pointer (some ⟨s_.2.2.2.2.2.2.2.1, 0, none⟩))]) (fun s_ w' => PJ w gb231 gb232 gb233 #[.int .u8 a0_0, .int .u8 a0_1, .int .u8 a0_2, .int .u8 a0_3, .int .u8 a0_4, .int .u8 a0_5] #[.int .u8 a1_0, .int .u8 a1_1, .int .u8 a1_2, .int .u8 a1_3, .int .u8 a1_4, .int .u8 a1_5] #[.int .u8 a2_0, .int .u8 a2_1, .int .u8 a2_2, .int .u8 a2_3, .int .u8 a2_4, .int .u8 a2_5] v236 v239 t235 t238 t241 t247 t253 t244 t250 t256 true false false false true false s_.1 s_.2.1 s_.2.2.1 s_.2.2.2.1 s_.2.2.2.2.1 s_.2.2.2.2.2.1 s_.2.2.2.2.2.2.1 s_.2.2.2.2.2.2.2.1 s_.2.2.2.2.2.2.2.2 w') ?_ ?_
   ·clear HI
    rintro ⟨x1, y1, x2, y2, x3, y3, g1, g2, g3⟩ w1 HI
    replace HI : PJ w gb231 gb232 gb233 #[.int .u8 a0_0, .int .u8 a0_1, .int .u8 a0_2, .int .u8 a0_3, .int .u8 a0_4, .int .u8 a0_5] #[.int .u8 a1_0, .int .u8 a1_1, .int .u8 a1_2, .int .u8 a1_3, .int .u8 a1_4, .int .u8 a1_5] #[.int .u8 a2_0, .int .u8 a2_1, .int .u8 a2_2, .int .u8 a2_3, .int .u8 a2_4, .int .u8 a2_5] v236 v239 t235 t238 t241 t247 t253 t244 t250 t256 true false false false true false x1 y1 x2 y2 x3 y3 g1 g2 g3 w1 := HI
    refine norm_ (a' := ?_) ?_ ?_
    rotate_left
    ·simp only [putAll, Act.put, List.setIfInBounds_toArray, List.set_cons_zero, List.set_cons_succ]
     rfl
    refine three_ (i := 3) (j := 6) (k := 8) (Ni := some 22) (Nj := some 9) (Nk := some 11) #[true, true, true, true, true, false, false, true, false, false, false, false] #[true, true, true, false, true, false, true, true, false, false, false, false] #[true, true, true, false, true, false, false, true, true, false, false, false] rfl rfl rfl rfl rfl rfl (three_of HT_.out (by kernel_rfl)) (by decide) (by decide) (by decide) (fun K hK => ?_) (fun K hK => ?_) (fun K hK => ?_)
    ·refine goes_ Tryd.func18 (by kernel_rfl) rfl #[.agg #[.int .u8 a1_0, .int .u8 a1_1, .int .u8 a1_2, .int .u8 a1_3, .int .u8 a1_4, .int .u8 a1_5]] (by rfl) rfl rfl (by (try simp only [List.map_toArray, List.map_cons, List.map_nil]); first | done | rfl | (simp only [List.length_drop, List.length_take]; rfl)) ?_
     with_reducible refine (withelaw11_made.calls a1_0 a1_1 a1_2 a1_3 a1_4 a1_5 t247 t250 _ A8.out).mono ?_
     rintro e w2 ⟨x, y, rfl, ho0, ho1, hb⟩
     refine ⟨_, rfl, ?_⟩
     have HI2 := HI.call2 ho0 ho1 hb
     refine hK.out _ _ HI2.held (fun _ => ?_)
     clear hK K
     exact norm_ (by rfl) (hJ2010 (x1, y1, x, y, x3, y3, g1, g2, g3) _ HI2)
    ·refine box_step ?hg (N := 9) ?hd (cs := #[.slice none 0 0, .slice none 0 0]) (t := 30) ?hr ?_; (case hd => rfl); (case hg => rfl); (case hr => first | (go_simp; done) | (go_simp; rfl))
     intro g hg w2 hbox hb
     have HI2 := HI.alloc1 hg hbox hb
     refine hK.out _ _ HI2.held (fun _ => ?_)
     clear hK K
     exact norm_ (by rfl) (hJ1110 (x1, y1, x2, y2, x3, y3, g, g2, g3) _ HI2)
    ·refine box_step ?hg (N := 11) ?hd (cs := #[.slice none 0 0, .slice none 0 0]) (t := 30) ?hr ?_; (case hd => rfl); (case hg => rfl); (case hr => first | (go_simp; done) | (go_simp; rfl))
     intro g hg w2 hbox hb
     have HI2 := HI.alloc3 hg hbox hb
     refine hK.out _ _ HI2.held (fun _ => ?_)
     clear hK K
     exact norm_ (by rfl) (hJ1011 (x1, y1, x2, y2, x3, y3, g1, g2, g) _ HI2)
   intro hJ1010
   refine join_ (σ := Value × Value × Value × Value × Value × Value × Nat × Nat × Nat) 7 #[true, true, true, false, true, false, true, false, false, false, false, false] (fun s_ => [(20, .agg #[s_.1, s_.2.1]), (9, .pointer (some ⟨s_.2.2.2.2.2.2.1, 0, none⟩))]) (fun s_ w' => PJ w gb231 gb232 gb233 #[.int .u8 a0_0, .int .u8 a0_1, .int .u8 a0_2, .int .u8 a0_3, .int .u8 a0_4, .int .u8 a0_5] #[.int .u8 a1_0, .int .u8 a1_1, .int .u8 a1_2, .int .u8 a1_3, .int .u8 a1_4, .int .u8 a1_5] #[.int .u8 a2_0, .int .u8 a2_1, .int .u8 a2_2, .int .u8 a2_3, .int .u8 a2_4, .int .u8 a2_5] v236 v239 t235 t238 t241 t247 t253 t244 t250 t256 true false false true false false s_.1 s_.2.1 s_.2.2.1 s_.2.2.2.1 s_.2.2.2.2.1 s_.2.2.2.2.2.1 s_.2.2.2.2.2.2.1 s_.2.2.2.2.2.2.2.1 s_.2.2.2.2.2.2.2.2 w') ?_ ?_
   ·clear HI
    rintro ⟨x1, y1, x2, y2, x3, y3, g1, g2, g3⟩ w1 HI
    replace HI : PJ w gb231 gb232 gb233 #[.int .u8 a0_0, .int .u8 a0_1, .int .u8 a0_2, .int .u8 a0_3, .int .u8 a0_4, .int .u8 a0_5] #[.int .u8 a1_0, .int .u8 a1_1, .int .u8 a1_2, .int .u8 a1_3, .int .u8 a1_4, .int .u8 a1_5] #[.int .u8 a2_0, .int .u8 a2_1, .int .u8 a2_2, .int .u8 a2_3, .int .u8 a2_4, .int .u8 a2_5] v236 v239 t235 t238 t241 t247 t253 t244 t250 t256 true false false true false false x1 y1 x2 y2 x3 y3 g1 g2 g3 w1 := HI
    refine norm_ (a' := ?_) ?_ ?_
    rotate_left
    ·simp only [putAll, Act.put, List.setIfInBounds_toArray, List.set_cons_zero, List.set_cons_succ]
     rfl
    refine three_ (i := 3) (j := 7) (k := 8) (Ni := some 22) (Nj := some 10) (Nk := some 11) #[true, true, true, true, true, false, true, false, false, false, false, false] #[true, true, true, false, true, false, true, true, false, false, false, false] #[true, true, true, false, true, false, true, false, true, false, false, false] rfl rfl rfl rfl rfl rfl (three_of HT_.out (by kernel_rfl)) (by decide) (by decide) (by decide) (fun K hK => ?_) (fun K hK => ?_) (fun K hK => ?_)
    ·refine goes_ Tryd.func18 (by kernel_rfl) rfl #[.agg #[.int .u8 a1_0, .int .u8 a1_1, .int .u8 a1_2, .int .u8 a1_3, .int .u8 a1_4, .int .u8 a1_5]] (by rfl) rfl rfl (by (try simp only [List.map_toArray, List.map_cons, List.map_nil]); first | done | rfl | (simp only [List.length_drop, List.length_take]; rfl)) ?_
     with_reducible refine (withelaw11_made.calls a1_0 a1_1 a1_2 a1_3 a1_4 a1_5 t247 t250 _ A8.out).mono ?_
     rintro e w2 ⟨x, y, rfl, ho0, ho1, hb⟩
     refine ⟨_, rfl, ?_⟩
     have HI2 := HI.call2 ho0 ho1 hb
     refine hK.out _ _ HI2.held (fun _ => ?_)
     clear hK K
     exact norm_ (by rfl) (hJ2100 (x1, y1, x, y, x3, y3, g1, g2, g3) _ HI2)
    ·refine box_step ?hg (N := 10) ?hd (cs := #[.slice none 0 0, .slice none 0 0]) (t := 30) ?hr ?_; (case hd => rfl); (case hg => rfl); (case hr => first | (go_simp; done) | (go_simp; rfl))
     intro g hg w2 hbox hb
     have HI2 := HI.alloc2 hg hbox hb
     refine hK.out _ _ HI2.held (fun _ => ?_)
     clear hK K
     exact norm_ (by rfl) (hJ1110 (x1, y1, x2, y2, x3, y3, g1, g, g3) _ HI2)
    ·refine box_step ?hg (N := 11) ?hd (cs := #[.slice none 0 0, .slice none 0 0]) (t := 30) ?hr ?_; (case hd => rfl); (case hg => rfl); (case hr => first | (go_simp; done) | (go_simp; rfl))
     intro g hg w2 hbox hb
     have HI2 := HI.alloc3 hg hbox hb
     refine hK.out _ _ HI2.held (fun _ => ?_)
     clear hK K
     exact norm_ (by rfl) (hJ1101 (x1, y1, x2, y2, x3, y3, g1, g2, g) _ HI2)
   intro hJ1100
   refine join_ (σ := Value × Value × Value × Value × Value × Value × Nat × Nat × Nat) 7 #[true, true, true, true, true, false, false, false, false, false, false, false] (fun s_ => [(20, .agg #[s_.1, s_.2.1]), (22, .agg #[s_.2.2.1, s_.2.2.2.1])]) (fun s_ w' => PJ w gb231 gb232 gb233 #[.int .u8 a0_0, .int .u8 a0_1, .int .u8 a0_2, .int .u8 a0_3, .int .u8 a0_4, .int .u8 a0_5] #[.int .u8 a1_0, .int .u8 a1_1, .int .u8 a1_2, .int .u8 a1_3, .int .u8 a1_4, .int .u8 a1_5] #[.int .u8 a2_0, .int .u8 a2_1, .int .u8 a2_2, .int .u8 a2_3, .int .u8 a2_4, .int .u8 a2_5] v236 v239 t235 t238 t241 t247 t253 t244 t250 t256 true true false false false false s_.1 s_.2.1 s_.2.2.1 s_.2.2.2.1 s_.2.2.2.2.1 s_.2.2.2.2.2.1 s_.2.2.2.2.2.2.1 s_.2.2.2.2.2.2.2.1 s_.2.2.2.2.2.2.2.2 w') ?_ ?_
   ·clear HI
    rintro ⟨x1, y1, x2, y2, x3, y3, g1, g2, g3⟩ w1 HI
    replace HI : PJ w gb231 gb232 gb233 #[.int .u8 a0_0, .int .u8 a0_1, .int .u8 a0_2, .int .u8 a0_3, .int .u8 a0_4, .int .u8 a0_5] #[.int .u8 a1_0, .int .u8 a1_1, .int .u8 a1_2, .int .u8 a1_3, .int .u8 a1_4, .int .u8 a1_5] #[.int .u8 a2_0, .int .u8 a2_1, .int .u8 a2_2, .int .u8 a2_3, .int .u8 a2_4, .int .u8 a2_5] v236 v239 t235 t238 t241 t247 t253 t244 t250 t256 true true false false false false x1 y1 x2 y2 x3 y3 g1 g2 g3 w1 := HI
    refine norm_ (a' := ?_) ?_ ?_
    rotate_left
    ·simp only [putAll, Act.put, List.setIfInBounds_toArray, List.set_cons_zero, List.set_cons_succ]
     rfl
    refine four_ (i := 5) (j := 6) (k := 7) (m := 8) (Ni := some 24) (Nj := some 9) (Nk := some 10) (Nm := some 11) #[true, true, true, true, true, true, false, false, false, false, false, false] #[true, true, true, true, true, false, true, false, false, false, false, false] #[true, true, true, true, true, false, false, true, false, false, false, false] #[true, true, true, true, true, false, false, false, true, false, false, false] rfl rfl rfl rfl rfl rfl rfl rfl (four_of HT_.out (by kernel_rfl)) (by decide) (by decide) (by decide) (by decide) (fun K hK => ?_) (fun K hK => ?_) (fun K hK => ?_) (fun K hK => ?_)
    ·refine goes_ Tryd.func18 (by kernel_rfl) rfl #[.agg #[.int .u8 a2_0, .int .u8 a2_1, .int .u8 a2_2, .int .u8 a2_3, .int .u8 a2_4, .int .u8 a2_5]] (by rfl) rfl rfl (by (try simp only [List.map_toArray, List.map_cons, List.map_nil]); first | done | rfl | (simp only [List.length_drop, List.length_take]; rfl)) ?_
     with_reducible refine (withelaw11_made.calls a2_0 a2_1 a2_2 a2_3 a2_4 a2_5 t253 t256 _ A9.out).mono ?_
     rintro e w2 ⟨x, y, rfl, ho0, ho1, hb⟩
     refine ⟨_, rfl, ?_⟩
     have HI2 := HI.call3 ho0 ho1 hb
     refine hK.out _ _ HI2.held (fun _ => ?_)
     clear hK K
     exact norm_ (by rfl) (hJ3000 (x1, y1, x2, y2, x, y, g1, g2, g3) _ HI2)
    ·refine box_step ?hg (N := 9) ?hd (cs := #[.slice none 0 0, .slice none 0 0]) (t := 30) ?hr ?_; (case hd => rfl); (case hg => rfl); (case hr => first | (go_simp; done) | (go_simp; rfl))
     intro g hg w2 hbox hb
     have HI2 := HI.alloc1 hg hbox hb
     refine hK.out _ _ HI2.held (fun _ => ?_)
     clear hK K
     exact norm_ (by rfl) (hJ2100 (x1, y1, x2, y2, x3, y3, g, g2, g3) _ HI2)
    ·refine box_step ?hg (N := 10) ?hd (cs := #[.slice none 0 0, .slice none 0 0]) (t := 30) ?hr ?_; (case hd => rfl); (case hg => rfl); (case hr => first | (go_simp; done) | (go_simp; rfl))
     intro g hg w2 hbox hb
     have HI2 := HI.alloc2 hg hbox hb
     refine hK.out _ _ HI2.held (fun _ => ?_)
     clear hK K
     exact norm_ (by rfl) (hJ2010 (x1, y1, x2, y2, x3, y3, g1, g, g3) _ HI2)
    ·refine box_step ?hg (N := 11) ?hd (cs := #[.slice none 0 0, .slice none 0 0]) (t := 30) ?hr ?_; (case hd => rfl); (case hg => rfl); (case hr => first | (go_simp; done) | (go_simp; rfl))
     intro g hg w2 hbox hb
     have HI2 := HI.alloc3 hg hbox hb
     refine hK.out _ _ HI2.held (fun _ => ?_)
     clear hK K
     exact norm_ (by rfl) (hJ2001 (x1, y1, x2, y2, x3, y3, g1, g2, g) _ HI2)
   intro hJ2000
   refine join_ (σ := Value × Value × Value × Value × Value × Value × Nat × Nat × Nat) 8 #[true, false, true, false, true, false, false, false, true, false, false, false] (fun s_ => [(11, .pointer (some ⟨s_.2.2.2.2.2.2.2.2, 0, none⟩))]) (fun s_ w' => PJ w gb231 gb232 gb233 #[.int .u8 a0_0, .int .u8 a0_1, .int .u8 a0_2, .int .u8 a0_3, .int .u8 a0_4, .int .u8 a0_5] #[.int .u8 a1_0, .int .u8 a1_1, .int .u8 a1_2, .int .u8 a1_3, .int .u8 a1_4, .int .u8 a1_5] #[.int .u8 a2_0, .int .u8 a2_1, .int .u8 a2_2, .int .u8 a2_3, .int .u8 a2_4, .int .u8 a2_5] v236 v239 t235 t238 t241 t247 t253 t244 t250 t256 false false false false false true s_.1 s_.2.1 s_.2.2.1 s_.2.2.2.1 s_.2.2.2.2.1 s_.2.2.2.2.2.1 s_.2.2.2.2.2.2.1 s_.2.2.2.2.2.2.2.1 s_.2.2.2.2.2.2.2.2 w') ?_ ?_
   ·clear HI
    rintro ⟨x1, y1, x2, y2, x3, y3, g1, g2, g3⟩ w1 HI
    replace HI : PJ w gb231 gb232 gb233 #[.int .u8 a0_0, .int .u8 a0_1, .int .u8 a0_2, .int .u8 a0_3, .int .u8 a0_4, .int .u8 a0_5] #[.int .u8 a1_0, .int .u8 a1_1, .int .u8 a1_2, .int .u8 a1_3, .int .u8 a1_4, .int .u8 a1_5] #[.int .u8 a2_0, .int .u8 a2_1, .int .u8 a2_2, .int .u8 a2_3, .int .u8 a2_4, .int .u8 a2_5] v236 v239 t235 t238 t241 t247 t253 t244 t250 t256 false false false false false true x1 y1 x2 y2 x3 y3 g1 g2 g3 w1 := HI
    refine norm_ (a' := ?_) ?_ ?_
    rotate_left
    ·simp only [putAll, Act.put, List.setIfInBounds_toArray, List.set_cons_zero, List.set_cons_succ]
     rfl
    refine three_ (i := 1) (j := 6) (k := 7) (Ni := some 20) (Nj := some 9) (Nk := some 10) #[true, true, true, false, true, false, false, false, true, false, false, false] #[true, false, true, false, true, false, true, false, true, false, false, false] #[true, false, true, false, true, false, false, true, true, false, false, false] rfl rfl rfl rfl rfl rfl (three_of HT_.out (by kernel_rfl)) (by decide) (by decide) (by decide) (fun K hK => ?_) (fun K hK => ?_) (fun K hK => ?_)
    ·refine goes_ Tryd.func18 (by kernel_rfl) rfl #[.agg #[.int .u8 a0_0, .int .u8 a0_1, .int .u8 a0_2, .int .u8 a0_3, .int .u8 a0_4, .int .u8 a0_5]] (by rfl) rfl rfl (by (try simp only [List.map_toArray, List.map_cons, List.map_nil]); first | done | rfl | (simp only [List.length_drop, List.length_take]; rfl)) ?_
     with_reducible refine (withelaw11_made.calls a0_0 a0_1 a0_2 a0_3 a0_4 a0_5 t241 t244 _ A7.out).mono ?_
     rintro e w2 ⟨x, y, rfl, ho0, ho1, hb⟩
     refine ⟨_, rfl, ?_⟩
     have HI2 := HI.call1 ho0 ho1 hb
     refine hK.out _ _ HI2.held (fun _ => ?_)
     clear hK K
     exact norm_ (by rfl) (hJ1001 (x, y, x2, y2, x3, y3, g1, g2, g3) _ HI2)
    ·refine box_step ?hg (N := 9) ?hd (cs := #[.slice none 0 0, .slice none 0 0]) (t := 30) ?hr ?_; (case hd => rfl); (case hg => rfl); (case hr => first | (go_simp; done) | (go_simp; rfl))
     intro g hg w2 hbox hb
     have HI2 := HI.alloc1 hg hbox hb
     refine hK.out _ _ HI2.held (fun _ => ?_)
     clear hK K
     exact norm_ (by rfl) (hJ0101 (x1, y1, x2, y2, x3, y3, g, g2, g3) _ HI2)
    ·refine box_step ?hg (N := 10) ?hd (cs := #[.slice none 0 0, .slice none 0 0]) (t := 30) ?hr ?_; (case hd => rfl); (case hg => rfl); (case hr => first | (go_simp; done) | (go_simp; rfl))
     intro g hg w2 hbox hb
     have HI2 := HI.alloc2 hg hbox hb
     refine hK.out _ _ HI2.held (fun _ => ?_)
     clear hK K
     exact norm_ (by rfl) (hJ0011 (x1, y1, x2, y2, x3, y3, g1, g, g3) _ HI2)
   intro hJ0001
   refine join_ (σ := Value × Value × Value × Value × Value × Value × Nat × Nat × Nat) 8 #[true, false, true, false, true, false, false, true, false, false, false, false] (fun s_ => [(10, .pointer (some ⟨s_.2.2.2.2.2.2.2.1, 0, none⟩))]) (fun s_ w' => PJ w gb231 gb232 gb233 #[.int .u8 a0_0, .int .u8 a0_1, .int .u8 a0_2, .int .u8 a0_3, .int .u8 a0_4, .int .u8 a0_5] #[.int .u8 a1_0, .int .u8 a1_1, .int .u8 a1_2, .int .u8 a1_3, .int .u8 a1_4, .int .u8 a1_5] #[.int .u8 a2_0, .int .u8 a2_1, .int .u8 a2_2, .int .u8 a2_3, .int .u8 a2_4, .int .u8 a2_5] v236 v239 t235 t238 t241 t247 t253 t244 t250 t256 false false false false true false s_.1 s_.2.1 s_.2.2.1 s_.2.2.2.1 s_.2.2.2.2.1 s_.2.2.2.2.2.1 s_.2.2.2.2.2.2.1 s_.2.2.2.2.2.2.2.1 s_.2.2.2.2.2.2.2.2 w') ?_ ?_
   ·clear HI
    rintro ⟨x1, y1, x2, y2, x3, y3, g1, g2, g3⟩ w1 HI
    replace HI : PJ w gb231 gb232 gb233 #[.int .u8 a0_0, .int .u8 a0_1, .int .u8 a0_2, .int .u8 a0_3, .int .u8 a0_4, .int .u8 a0_5] #[.int .u8 a1_0, .int .u8 a1_1, .int .u8 a1_2, .int .u8 a1_3, .int .u8 a1_4, .int .u8 a1_5] #[.int .u8 a2_0, .int .u8 a2_1, .int .u8 a2_2, .int .u8 a2_3, .int .u8 a2_4, .int .u8 a2_5] v236 v239 t235 t238 t241 t247 t253 t244 t250 t256 false false false false true false x1 y1 x2 y2 x3 y3 g1 g2 g3 w1 := HI
    refine norm_ (a' := ?_) ?_ ?_
    rotate_left
    ·simp only [putAll, Act.put, List.setIfInBounds_toArray, List.set_cons_zero, List.set_cons_succ]
     rfl
    refine three_ (i := 1) (j := 6) (k := 8) (Ni := some 20) (Nj := some 9) (Nk := some 11) #[true, true, true, false, true, false, false, true, false, false, false, false] #[true, false, true, false, true, false, true, true, false, false, false, false] #[true, false, true, false, true, false, false, true, true, false, false, false] rfl rfl rfl rfl rfl rfl (three_of HT_.out (by kernel_rfl)) (by decide) (by decide) (by decide) (fun K hK => ?_) (fun K hK => ?_) (fun K hK => ?_)
    ·refine goes_ Tryd.func18 (by kernel_rfl) rfl #[.agg #[.int .u8 a0_0, .int .u8 a0_1, .int .u8 a0_2, .int .u8 a0_3, .int .u8 a0_4, .int .u8 a0_5]] (by rfl) rfl rfl (by (try simp only [List.map_toArray, List.map_cons, List.map_nil]); first | done | rfl | (simp only [List.length_drop, List.length_take]; rfl)) ?_
     with_reducible refine (withelaw11_made.calls a0_0 a0_1 a0_2 a0_3 a0_4 a0_5 t241 t244 _ A7.out).mono ?_
     rintro e w2 ⟨x, y, rfl, ho0, ho1, hb⟩
     refine ⟨_, rfl, ?_⟩
     have HI2 := HI.call1 ho0 ho1 hb
     refine hK.out _ _ HI2.held (fun _ => ?_)
     clear hK K
     exact norm_ (by rfl) (hJ1010 (x, y, x2, y2, x3, y3, g1, g2, g3) _ HI2)
    ·refine box_step ?hg (N := 9) ?hd (cs := #[.slice none 0 0, .slice none 0 0]) (t := 30) ?hr ?_; (case hd => rfl); (case hg => rfl); (case hr => first | (go_simp; done) | (go_simp; rfl))
     intro g hg w2 hbox hb
     have HI2 := HI.alloc1 hg hbox hb
     refine hK.out _ _ HI2.held (fun _ => ?_)
     clear hK K
     exact norm_ (by rfl) (hJ0110 (x1, y1, x2, y2, x3, y3, g, g2, g3) _ HI2)
    ·refine box_step ?hg (N := 11) ?hd (cs := #[.slice none 0 0, .slice none 0 0]) (t := 30) ?hr ?_; (case hd => rfl); (case hg => rfl); (case hr => first | (go_simp; done) | (go_simp; rfl))
     intro g hg w2 hbox hb
     have HI2 := HI.alloc3 hg hbox hb
     refine hK.out _ _ HI2.held (fun _ => ?_)
     clear hK K
     exact norm_ (by rfl) (hJ0011 (x1, y1, x2, y2, x3, y3, g1, g2, g) _ HI2)
   intro hJ0010
   refine join_ (σ := Value × Value × Value × Value × Value × Value × Nat × Nat × Nat) 8 #[true, false, true, false, true, false, true, false, false, false, false, false] (fun s_ => [(9, .pointer (some ⟨s_.2.2.2.2.2.2.1, 0, none⟩))]) (fun s_ w' => PJ w gb231 gb232 gb233 #[.int .u8 a0_0, .int .u8 a0_1, .int .u8 a0_2, .int .u8 a0_3, .int .u8 a0_4, .int .u8 a0_5] #[.int .u8 a1_0, .int .u8 a1_1, .int .u8 a1_2, .int .u8 a1_3, .int .u8 a1_4, .int .u8 a1_5] #[.int .u8 a2_0, .int .u8 a2_1, .int .u8 a2_2, .int .u8 a2_3, .int .u8 a2_4, .int .u8 a2_5] v236 v239 t235 t238 t241 t247 t253 t244 t250 t256 false false false true false false s_.1 s_.2.1 s_.2.2.1 s_.2.2.2.1 s_.2.2.2.2.1 s_.2.2.2.2.2.1 s_.2.2.2.2.2.2.1 s_.2.2.2.2.2.2.2.1 s_.2.2.2.2.2.2.2.2 w') ?_ ?_
   ·clear HI
    rintro ⟨x1, y1, x2, y2, x3, y3, g1, g2, g3⟩ w1 HI
    replace HI : PJ w gb231 gb232 gb233 #[.int .u8 a0_0, .int .u8 a0_1, .int .u8 a0_2, .int .u8 a0_3, .int .u8 a0_4, .int .u8 a0_5] #[.int .u8 a1_0, .int .u8 a1_1, .int .u8 a1_2, .int .u8 a1_3, .int .u8 a1_4, .int .u8 a1_5] #[.int .u8 a2_0, .int .u8 a2_1, .int .u8 a2_2, .int .u8 a2_3, .int .u8 a2_4, .int .u8 a2_5] v236 v239 t235 t238 t241 t247 t253 t244 t250 t256 false false false true false false x1 y1 x2 y2 x3 y3 g1 g2 g3 w1 := HI
    refine norm_ (a' := ?_) ?_ ?_
    rotate_left
    ·simp only [putAll, Act.put, List.setIfInBounds_toArray, List.set_cons_zero, List.set_cons_succ]
     rfl
    refine three_ (i := 1) (j := 7) (k := 8) (Ni := some 20) (Nj := some 10) (Nk := some 11) #[true, true, true, false, true, false, true, false, false, false, false, false] #[true, false, true, false, true, false, true, true, false, false, false, false] #[true, false, true, false, true, false, true, false, true, false, false, false] rfl rfl rfl rfl rfl rfl (three_of HT_.out (by kernel_rfl)) (by decide) (by decide) (by decide) (fun K hK => ?_) (fun K hK => ?_) (fun K hK => ?_)
    ·refine goes_ Tryd.func18 (by kernel_rfl) rfl #[.agg #[.int .u8 a0_0, .int .u8 a0_1, .int .u8 a0_2, .int .u8 a0_3, .int .u8 a0_4, .int .u8 a0_5]] (by rfl) rfl rfl (by (try simp only [List.map_toArray, List.map_cons, List.map_nil]); first | done | rfl | (simp only [List.length_drop, List.length_take]; rfl)) ?_
     with_reducible refine (withelaw11_made.calls a0_0 a0_1 a0_2 a0_3 a0_4 a0_5 t241 t244 _ A7.out).mono ?_
     rintro e w2 ⟨x, y, rfl, ho0, ho1, hb⟩
     refine ⟨_, rfl, ?_⟩
     have HI2 := HI.call1 ho0 ho1 hb
     refine hK.out _ _ HI2.held (fun _ => ?_)
     clear hK K
     exact norm_ (by rfl) (hJ1100 (x, y, x2, y2, x3, y3, g1, g2, g3) _ HI2)
    ·refine box_step ?hg (N := 10) ?hd (cs := #[.slice none 0 0, .slice none 0 0]) (t := 30) ?hr ?_; (case hd => rfl); (case hg => rfl); (case hr => first | (go_simp; done) | (go_simp; rfl))
     intro g hg w2 hbox hb
     have HI2 := HI.alloc2 hg hbox hb
     refine hK.out _ _ HI2.held (fun _ => ?_)
     clear hK K
     exact norm_ (by rfl) (hJ0110 (x1, y1, x2, y2, x3, y3, g1, g, g3) _ HI2)
    ·refine box_step ?hg (N := 11) ?hd (cs := #[.slice none 0 0, .slice none 0 0]) (t := 30) ?hr ?_; (case hd => rfl); (case hg => rfl); (case hr => first | (go_simp; done) | (go_simp; rfl))
     intro g hg w2 hbox hb
     have HI2 := HI.alloc3 hg hbox hb
     refine hK.out _ _ HI2.held (fun _ => ?_)
     clear hK K
     exact norm_ (by rfl) (hJ0101 (x1, y1, x2, y2, x3, y3, g1, g2, g) _ HI2)
   intro hJ0100
   refine join_ (σ := Value × Value × Value × Value × Value × Value × Nat × Nat × Nat) 8 #[true, true, true, false, true, false, false, false, false, false, false, false] (fun s_ => [(20, .agg #[s_.1, s_.2.1])]) (fun s_ w' => PJ w gb231 gb232 gb233 #[.int .u8 a0_0, .int .u8 a0_1, .int .u8 a0_2, .int .u8 a0_3, .int .u8 a0_4, .int .u8 a0_5] #[.int .u8 a1_0, .int .u8 a1_1, .int .u8 a1_2, .int .u8 a1_3, .int .u8 a1_4, .int .u8 a1_5] #[.int .u8 a2_0, .int .u8 a2_1, .int .u8 a2_2, .int .u8 a2_3, .int .u8 a2_4, .int .u8 a2_5] v236 v239 t235 t238 t241 t247 t253 t244 t250 t256 true false false false false false s_.1 s_.2.1 s_.2.2.1 s_.2.2.2.1 s_.2.2.2.2.1 s_.2.2.2.2.2.1 s_.2.2.2.2.2.2.1 s_.2.2.2.2.2.2.2.1 s_.2.2.2.2.2.2.2.2 w') ?_ ?_
   ·clear HI
    rintro ⟨x1, y1, x2, y2, x3, y3, g1, g2, g3⟩ w1 HI
    replace HI : PJ w gb231 gb232 gb233 #[.int .u8 a0_0, .int .u8 a0_1, .int .u8 a0_2, .int .u8 a0_3, .int .u8 a0_4, .int .u8 a0_5] #[.int .u8 a1_0, .int .u8 a1_1, .int .u8 a1_2, .int .u8 a1_3, .int .u8 a1_4, .int .u8 a1_5] #[.int .u8 a2_0, .int .u8 a2_1, .int .u8 a2_2, .int .u8 a2_3, .int .u8 a2_4, .int .u8 a2_5] v236 v239 t235 t238 t241 t247 t253 t244 t250 t256 true false false false false false x1 y1 x2 y2 x3 y3 g1 g2 g3 w1 := HI
    refine norm_ (a' := ?_) ?_ ?_
    rotate_left
    ·simp only [putAll, Act.put, List.setIfInBounds_toArray, List.set_cons_zero, List.set_cons_succ]
     rfl
    refine four_ (i := 3) (j := 6) (k := 7) (m := 8) (Ni := some 22) (Nj := some 9) (Nk := some 10) (Nm := some 11) #[true, true, true, true, true, false, false, false, false, false, false, false] #[true, true, true, false, true, false, true, false, false, false, false, false] #[true, true, true, false, true, false, false, true, false, false, false, false] #[true, true, true, false, true, false, false, false, true, false, false, false] rfl rfl rfl rfl rfl rfl rfl rfl (four_of HT_.out (by kernel_rfl)) (by decide) (by decide) (by decide) (by decide) (fun K hK => ?_) (fun K hK => ?_) (fun K hK => ?_) (fun K hK => ?_)
    ·refine goes_ Tryd.func18 (by kernel_rfl) rfl #[.agg #[.int .u8 a1_0, .int .u8 a1_1, .int .u8 a1_2, .int .u8 a1_3, .int .u8 a1_4, .int .u8 a1_5]] (by rfl) rfl rfl (by (try simp only [List.map_toArray, List.map_cons, List.map_nil]); first | done | rfl | (simp only [List.length_drop, List.length_take]; rfl)) ?_
     with_reducible refine (withelaw11_made.calls a1_0 a1_1 a1_2 a1_3 a1_4 a1_5 t247 t250 _ A8.out).mono ?_
     rintro e w2 ⟨x, y, rfl, ho0, ho1, hb⟩
     refine ⟨_, rfl, ?_⟩
     have HI2 := HI.call2 ho0 ho1 hb
     refine hK.out _ _ HI2.held (fun _ => ?_)
     clear hK K
     exact norm_ (by rfl) (hJ2000 (x1, y1, x, y, x3, y3, g1, g2, g3) _ HI2)
    ·refine box_step ?hg (N := 9) ?hd (cs := #[.slice none 0 0, .slice none 0 0]) (t := 30) ?hr ?_; (case hd => rfl); (case hg => rfl); (case hr => first | (go_simp; done) | (go_simp; rfl))
     intro g hg w2 hbox hb
     have HI2 := HI.alloc1 hg hbox hb
     refine hK.out _ _ HI2.held (fun _ => ?_)
     clear hK K
     exact norm_ (by rfl) (hJ1100 (x1, y1, x2, y2, x3, y3, g, g2, g3) _ HI2)
    ·refine box_step ?hg (N := 10) ?hd (cs := #[.slice none 0 0, .slice none 0 0]) (t := 30) ?hr ?_; (case hd => rfl); (case hg => rfl); (case hr => first | (go_simp; done) | (go_simp; rfl))
     intro g hg w2 hbox hb
     have HI2 := HI.alloc2 hg hbox hb
     refine hK.out _ _ HI2.held (fun _ => ?_)
     clear hK K
     exact norm_ (by rfl) (hJ1010 (x1, y1, x2, y2, x3, y3, g1, g, g3) _ HI2)
    ·refine box_step ?hg (N := 11) ?hd (cs := #[.slice none 0 0, .slice none 0 0]) (t := 30) ?hr ?_; (case hd => rfl); (case hg => rfl); (case hr => first | (go_simp; done) | (go_simp; rfl))
     intro g hg w2 hbox hb
     have HI2 := HI.alloc3 hg hbox hb
     refine hK.out _ _ HI2.held (fun _ => ?_)
     clear hK K
     exact norm_ (by rfl) (hJ1001 (x1, y1, x2, y2, x3, y3, g1, g2, g) _ HI2)
   intro hJ1000
   refine four_ (i := 1) (j := 6) (k := 7) (m := 8) (Ni := some 20) (Nj := some 9) (Nk := some 10) (Nm := some 11) #[true, true, true, false, true, false, false, false, false, false, false, false] #[true, false, true, false, true, false, true, false, false, false, false, false] #[true, false, true, false, true, false, false, true, false, false, false, false] #[true, false, true, false, true, false, false, false, true, false, false, false] rfl rfl rfl rfl rfl rfl rfl rfl (four_of HT_.out (by kernel_rfl)) (by decide) (by decide) (by decide) (by decide) (fun K hK => ?_) (fun K hK => ?_) (fun K hK => ?_) (fun K hK => ?_)
   ·refine goes_ Tryd.func18 (by kernel_rfl) rfl #[.agg #[.int .u8 a0_0, .int .u8 a0_1, .int .u8 a0_2, .int .u8 a0_3, .int .u8 a0_4, .int .u8 a0_5]] (by rfl) rfl rfl (by (try simp only [List.map_toArray, List.map_cons, List.map_nil]); first | done | rfl | (simp only [List.length_drop, List.length_take]; rfl)) ?_
    with_reducible refine (withelaw11_made.calls a0_0 a0_1 a0_2 a0_3 a0_4 a0_5 t241 t244 _ A7.out).mono ?_
    rintro e w2 ⟨x, y, rfl, ho0, ho1, hb⟩
    refine ⟨_, rfl, ?_⟩
    have HI2 := HI.call1 ho0 ho1 hb
    refine hK.out _ _ HI2.held (fun _ => ?_)
    clear hK K
    exact norm_ (by rfl) (hJ1000 (x, y, (.bool false), (.bool false), (.bool false), (.bool false), 0, 0, 0) _ HI2)
   ·refine box_step ?hg (N := 9) ?hd (cs := #[.slice none 0 0, .slice none 0 0]) (t := 30) ?hr ?_; (case hd => rfl); (case hg => rfl); (case hr => first | (go_simp; done) | (go_simp; rfl))
    intro g hg w2 hbox hb
    have HI2 := HI.alloc1 hg hbox hb
    refine hK.out _ _ HI2.held (fun _ => ?_)
    clear hK K
    exact norm_ (by rfl) (hJ0100 ((.bool false), (.bool false), (.bool false), (.bool false), (.bool false), (.bool false), g, 0, 0) _ HI2)
   ·refine box_step ?hg (N := 10) ?hd (cs := #[.slice none 0 0, .slice none 0 0]) (t := 30) ?hr ?_; (case hd => rfl); (case hg => rfl); (case hr => first | (go_simp; done) | (go_simp; rfl))
    intro g hg w2 hbox hb
    have HI2 := HI.alloc2 hg hbox hb
    refine hK.out _ _ HI2.held (fun _ => ?_)
    clear hK K
    exact norm_ (by rfl) (hJ0010 ((.bool false), (.bool false), (.bool false), (.bool false), (.bool false), (.bool false), 0, g, 0) _ HI2)
   ·refine box_step ?hg (N := 11) ?hd (cs := #[.slice none 0 0, .slice none 0 0]) (t := 30) ?hr ?_; (case hd => rfl); (case hg => rfl); (case hr => first | (go_simp; done) | (go_simp; rfl))
    intro g hg w2 hbox hb
    have HI2 := HI.alloc3 hg hbox hb
    refine hK.out _ _ HI2.held (fun _ => ?_)
    clear hK K
    exact norm_ (by rfl) (hJ0001 ((.bool false), (.bool false), (.bool false), (.bool false), (.bool false), (.bool false), 0, 0, g) _ HI2)
  rintro ⟨v242, v245, v248, v251, v254, v257, gb259, gb260, gb261⟩ w23 ⟨hS_, h0_, h1_, h2_, h3_, h4_, h5_, h6_, h7_, h8_, h9_, h10_, h11_, h12_, h13_, h14_, h15_, h16_, h17_, h18_, h19_, h20_, h21_, h22_, h23_, h24_, h25_, h26_, h27_, h28_, h29_, h30_, h31_, h32_, h33_, h34_, h35_, h36_, h37_, h38_, h39_, h40_, h41_, h42_, h43_, h44_⟩
  have n0_ : Aside0 (Kd.R Kd.string 9 w23 w.heap.size (fun _ => True) v236 t235) := ⟨h0_⟩
  have n1_ : Aside0 (Kd.N (Kd.slice 9 Kd.string) 25 w23 w.heap.size (fun k_ => some k_ ≠ (v236 : Value).ownBlock ∧ some k_ ≠ (v242 : Value).ownBlock ∧ some k_ ≠ (v245 : Value).ownBlock ∧ some k_ ≠ (v248 : Value).ownBlock ∧ some k_ ≠ (v251 : Value).ownBlock ∧ some k_ ≠ (v254 : Value).ownBlock ∧ some k_ ≠ (v257 : Value).ownBlock ∧ k_ ≠ gb231 ∧ k_ ≠ gb232 ∧ k_ ≠ gb233 ∧ k_ ≠ gb259 ∧ k_ ≠ gb260 ∧ k_ ≠ gb261) v239 t238) := ⟨h1_⟩
  have n2_ : Aside0 (Kd.N (Kd.slice 3 (Kd.int .i64)) 28 w23 w.heap.size (fun k_ => some k_ ≠ (v236 : Value).ownBlock ∧ some k_ ≠ (v239 : Value).ownBlock ∧ some k_ ≠ (v245 : Value).ownBlock ∧ some k_ ≠ (v248 : Value).ownBlock ∧ some k_ ≠ (v251 : Value).ownBlock ∧ some k_ ≠ (v254 : Value).ownBlock ∧ some k_ ≠ (v257 : Value).ownBlock ∧ k_ ≠ gb231 ∧ k_ ≠ gb232 ∧ k_ ≠ gb233 ∧ k_ ≠ gb259 ∧ k_ ≠ gb260 ∧ k_ ≠ gb261) v242 t241) := ⟨h2_⟩
  have n3_ : Aside0 (Kd.R (Kd.int .i64) 3 w23 w.heap.size (fun k_ => some k_ ≠ (v251 : Value).ownBlock ∧ some k_ ≠ (v257 : Value).ownBlock) v245 t244) := ⟨h3_⟩
  have n4_ : Aside0 (Kd.N (Kd.slice 3 (Kd.int .i64)) 28 w23 w.heap.size (fun k_ => some k_ ≠ (v236 : Value).ownBlock ∧ some k_ ≠ (v239 : Value).ownBlock ∧ some k_ ≠ (v242 : Value).ownBlock ∧ some k_ ≠ (v245 : Value).ownBlock ∧ some k_ ≠ (v251 : Value).ownBlock ∧ some k_ ≠ (v254 : Value).ownBlock ∧ some k_ ≠ (v257 : Value).ownBlock ∧ k_ ≠ gb231 ∧ k_ ≠ gb232 ∧ k_ ≠ gb233 ∧ k_ ≠ gb259 ∧ k_ ≠ gb260 ∧ k_ ≠ gb261) v248 t247) := ⟨h4_⟩
  have n5_ : Aside0 (Kd.R (Kd.int .i64) 3 w23 w.heap.size (fun k_ => some k_ ≠ (v245 : Value).ownBlock ∧ some k_ ≠ (v257 : Value).ownBlock) v251 t250) := ⟨h5_⟩
  have n6_ : Aside0 (Kd.N (Kd.slice 3 (Kd.int .i64)) 28 w23 w.heap.size (fun k_ => some k_ ≠ (v236 : Value).ownBlock ∧ some k_ ≠ (v239 : Value).ownBlock ∧ some k_ ≠ (v242 : Value).ownBlock ∧ some k_ ≠ (v245 : Value).ownBlock ∧ some k_ ≠ (v248 : Value).ownBlock ∧ some k_ ≠ (v251 : Value).ownBlock ∧ some k_ ≠ (v257 : Value).ownBlock ∧ k_ ≠ gb231 ∧ k_ ≠ gb232 ∧ k_ ≠ gb233 ∧ k_ ≠ gb259 ∧ k_ ≠ gb260 ∧ k_ ≠ gb261) v254 t253) := ⟨h6_⟩
  have n7_ : Aside0 (Kd.R (Kd.int .i64) 3 w23 w.heap.size (fun k_ => some k_ ≠ (v245 : Value).ownBlock ∧ some k_ ≠ (v251 : Value).ownBlock) v257 t256) := ⟨h7_⟩
  have n8_ : Aside0 (w23.heap[gb231]? = some (.cells #[.int .u8 a0_0, .int .u8 a0_1, .int .u8 a0_2, .int .u8 a0_3, .int .u8 a0_4, .int .u8 a0_5] 41 (0, 0))) := ⟨h8_⟩
  have n9_ : Aside0 (w23.heap[gb232]? = some (.cells #[.int .u8 a1_0, .int .u8 a1_1, .int .u8 a1_2, .int .u8 a1_3, .int .u8 a1_4, .int .u8 a1_5] 41 (0, 0))) := ⟨h9_⟩
  have n10_ : Aside0 (w23.heap[gb233]? = some (.cells #[.int .u8 a2_0, .int .u8 a2_1, .int .u8 a2_2, .int .u8 a2_3, .int .u8 a2_4, .int .u8 a2_5] 41 (0, 0))) := ⟨h10_⟩
  have n11_ : Aside0 (w23.heap[gb259]? = some (.cells #[.slice none 0 0, .slice none 0 0] 30 (0, 0))) := ⟨h11_⟩
  have n12_ : Aside0 (w23.heap[gb260]? = some (.cells #[.slice none 0 0, .slice none 0 0] 30 (0, 0))) := ⟨h12_⟩
  have n13_ : Aside0 (w23.heap[gb261]? = some (.cells #[.slice none 0 0, .slice none 0 0] 30 (0, 0))) := ⟨h13_⟩
  have n14_ : Aside0 (w.heap.size ≤ gb259) := ⟨h14_⟩
  have n15_ : Aside0 (w.heap.size ≤ gb259) := ⟨h15_⟩
  have n16_ : Aside0 (gb231 ≠ gb259) := ⟨h16_⟩
  have n17_ : Aside0 (gb259 ≠ gb231) := ⟨h17_⟩
  have n18_ : Aside0 (gb232 ≠ gb259) := ⟨h18_⟩
  have n19_ : Aside0 (gb259 ≠ gb232) := ⟨h19_⟩
  have n20_ : Aside0 (gb233 ≠ gb259) := ⟨h20_⟩
  have n21_ : Aside0 (gb259 ≠ gb233) := ⟨h21_⟩
  have n22_ : Aside0 (gb260 ≠ gb259) := ⟨h22_⟩
  have n23_ : Aside0 (gb259 ≠ gb260) := ⟨h23_⟩
  have n24_ : Aside0 (gb261 ≠ gb259) := ⟨h24_⟩
  have n25_ : Aside0 (gb259 ≠ gb261) := ⟨h25_⟩
  have n26_ : Aside0 (w.heap.size ≤ gb260) := ⟨h26_⟩
  have n27_ : Aside0 (w.heap.size ≤ gb260) := ⟨h27_⟩
  have n28_ : Aside0 (gb231 ≠ gb260) := ⟨h28_⟩
  have n29_ : Aside0 (gb260 ≠ gb231) := ⟨h29_⟩
  have n30_ : Aside0 (gb232 ≠ gb260) := ⟨h30_⟩
  have n31_ : Aside0 (gb260 ≠ gb232) := ⟨h31_⟩
  have n32_ : Aside0 (gb233 ≠ gb260) := ⟨h32_⟩
  have n33_ : Aside0 (gb260 ≠ gb233) := ⟨h33_⟩
  have n34_ : Aside0 (gb261 ≠ gb260) := ⟨h34_⟩
  have n35_ : Aside0 (gb260 ≠ gb261) := ⟨h35_⟩
  have n36_ : Aside0 (w.heap.size ≤ gb261) := ⟨h36_⟩
  have n37_ : Aside0 (w.heap.size ≤ gb261) := ⟨h37_⟩
  have n38_ : Aside0 (gb231 ≠ gb261) := ⟨h38_⟩
  have n39_ : Aside0 (gb261 ≠ gb231) := ⟨h39_⟩
  have n40_ : Aside0 (gb232 ≠ gb261) := ⟨h40_⟩
  have n41_ : Aside0 (gb261 ≠ gb232) := ⟨h41_⟩
  have n42_ : Aside0 (gb233 ≠ gb261) := ⟨h42_⟩
  have n43_ : Aside0 (gb261 ≠ gb233) := ⟨h43_⟩
  have n44_ : Aside0 (Below w.heap.size w w23) := ⟨h44_⟩
  clear HO237
  clear HO240
  clear BK231
  clear BK232
  clear BK233
  clear HB
  clear h0_ h1_ h2_ h3_ h4_ h5_ h6_ h7_ h8_ h9_ h10_ h11_ h12_ h13_ h14_ h15_ h16_ h17_ h18_ h19_ h20_ h21_ h22_ h23_ h24_ h25_ h26_ h27_ h28_ h29_ h30_ h31_ h32_ h33_ h34_ h35_ h36_ h37_ h38_ h39_ h40_ h41_ h42_ h43_ h44_
  have HO237 := n0_
  have HO240 := n1_
  have HO243 := n2_
  have HO246 := n3_
  have HO249 := n4_
  have HO252 := n5_
  have HO255 := n6_
  have HO258 := n7_
  have BK231 := n8_
  have BK232 := n9_
  have BK233 := n10_
  have BK259 := n11_
  have BK260 := n12_
  have BK261 := n13_
  have GW259 := n14_
  have GE259 := n15_
  have NB231_259 := n16_
  have NB259_231 := n17_
  have NB232_259 := n18_
  have NB259_232 := n19_
  have NB233_259 := n20_
  have NB259_233 := n21_
  have NB260_259 := n22_
  have NB259_260 := n23_
  have NB261_259 := n24_
  have NB259_261 := n25_
  have GW260 := n26_
  have GE260 := n27_
  have NB231_260 := n28_
  have NB260_231 := n29_
  have NB232_260 := n30_
  have NB260_232 := n31_
  have NB233_260 := n32_
  have NB260_233 := n33_
  have NB261_260 := n34_
  have NB260_261 := n35_
  have GW261 := n36_
  have GE261 := n37_
  have NB231_261 := n38_
  have NB261_231 := n39_
  have NB232_261 := n40_
  have NB261_232 := n41_
  have NB233_261 := n42_
  have NB261_233 := n43_
  have HB := n44_
  clear n0_ n1_ n2_ n3_ n4_ n5_ n6_ n7_ n8_ n9_ n10_ n11_ n12_ n13_ n14_ n15_ n16_ n17_ n18_ n19_ n20_ n21_ n22_ n23_ n24_ n25_ n26_ n27_ n28_ n29_ n30_ n31_ n32_ n33_ n34_ n35_ n36_ n37_ n38_ n39_ n40_ n41_ n42_ n43_ n44_
  have hHeld : w23.cell? ⟨gb231, 0, none⟩ = some (.int .u8 a0_0) ∧ w23.cell? ⟨gb231, 1, none⟩ = some (.int .u8 a0_1) ∧ w23.cell? ⟨gb231, 2, none⟩ = some (.int .u8 a0_2) ∧ w23.cell? ⟨gb231, 3, none⟩ = some (.int .u8 a0_3) ∧ w23.cell? ⟨gb231, 4, none⟩ = some (.int .u8 a0_4) ∧ w23.cell? ⟨gb231, 5, none⟩ = some (.int .u8 a0_5) ∧ w23.cell? ⟨gb232, 0, none⟩ = some (.int .u8 a1_0) ∧ w23.cell? ⟨gb232, 1, none⟩ = some (.int .u8 a1_1) ∧ w23.cell? ⟨gb232, 2, none⟩ = some (.int .u8 a1_2) ∧ w23.cell? ⟨gb232, 3, none⟩ = some (.int .u8 a1_3) ∧ w23.cell? ⟨gb232, 4, none⟩ = some (.int .u8 a1_4) ∧ w23.cell? ⟨gb232, 5, none⟩ = some (.int .u8 a1_5) ∧ w23.cell? ⟨gb233, 0, none⟩ = some (.int .u8 a2_0) ∧ w23.cell? ⟨gb233, 1, none⟩ = some (.int .u8 a2_1) ∧ w23.cell? ⟨gb233, 2, none⟩ = some (.int .u8 a2_2) ∧ w23.cell? ⟨gb233, 3, none⟩ = some (.int .u8 a2_3) ∧ w23.cell? ⟨gb233, 4, none⟩ = some (.int .u8 a2_4) ∧ w23.cell? ⟨gb233, 5, none⟩ = some (.int .u8 a2_5) := hS_
  obtain ⟨Ao24, co24, eo24⟩ := Kd.N_slice HO243.out
  (first | subst eo24 | (injection eo24 with f1_ f2_ f3_; have f4_ := f1_.symm; have f5_ := f3_.symm; clear f1_ f2_ f3_; subst f4_; subst f5_))
  obtain ⟨Ao26, co26, eo26⟩ := Kd.R_slice HO246.out
  (first | subst eo26 | (injection eo26 with f1_ f2_ f3_; have f4_ := f1_.symm; have f5_ := f3_.symm; clear f1_ f2_ f3_; subst f4_; subst f5_))
  obtain ⟨Ao28, co28, eo28⟩ := Kd.N_slice HO249.out
  (first | subst eo28 | (injection eo28 with f1_ f2_ f3_; have f4_ := f1_.symm; have f5_ := f3_.symm; clear f1_ f2_ f3_; subst f4_; subst f5_))
  obtain ⟨Ao30, co30, eo30⟩ := Kd.R_slice HO252.out
  (first | subst eo30 | (injection eo30 with f1_ f2_ f3_; have f4_ := f1_.symm; have f5_ := f3_.symm; clear f1_ f2_ f3_; subst f4_; subst f5_))
  obtain ⟨Ao32, co32, eo32⟩ := Kd.N_slice HO255.out
  (first | subst eo32 | (injection eo32 with f1_ f2_ f3_; have f4_ := f1_.symm; have f5_ := f3_.symm; clear f1_ f2_ f3_; subst f4_; subst f5_))
  obtain ⟨Ao34, co34, eo34⟩ := Kd.R_slice HO258.out
  (first | subst eo34 | (injection eo34 with f1_ f2_ f3_; have f4_ := f1_.symm; have f5_ := f3_.symm; clear f1_ f2_ f3_; subst f4_; subst f5_))
  refine norm_ (a' := ?_) ?_ ?_
  rotate_left
  ·simp only [putAll, Act.put, List.setIfInBounds_toArray, List.set_cons_zero, List.set_cons_succ]
   rfl
  refine one_ (i := 9) (N := none) #[true, true, true, true, true, true, true, true, true, true, false, false] rfl rfl (one_of HT_.out (by kernel_rfl)) (by decide) (fun K hK => ?_)
  have hs25 : w23.cell? ⟨gb259, 0, none⟩ = some (.slice none 0 0) := (blk_cell BK259.out 0).trans rfl
  have hfs25 := blk_frozen BK259.out 0
  have hns25_0 := NB231_259.out
  have hns25_1 := NB232_259.out
  have hns25_2 := NB233_259.out
  have hns25_4 := NB260_259.out
  have hns25_5 := NB261_259.out
  have hms25_0 := NB259_231.out
  have hms25_1 := NB259_232.out
  have hms25_2 := NB259_233.out
  have hms25_4 := NB259_260.out
  have hms25_5 := NB259_261.out
  have hs27 : w23.cell? ⟨gb259, 1, none⟩ = some (.slice none 0 0) := (blk_cell BK259.out 1).trans rfl
  have hfs27 := blk_frozen BK259.out 1
  have hns27_0 := NB231_259.out
  have hns27_1 := NB232_259.out
  have hns27_2 := NB233_259.out
  have hns27_4 := NB260_259.out
  have hns27_5 := NB261_259.out
  have hms27_0 := NB259_231.out
  have hms27_1 := NB259_232.out
  have hms27_2 := NB259_233.out
  have hms27_4 := NB259_260.out
  have hms27_5 := NB259_261.out
  refine skip_ (w1 := ?_) (by rfl) rfl ?_ ?_
  rotate_left
  ·go_simp
   rfl
  refine hK.out _ _ ⟨((cell_far (p := ⟨gb259, _, none⟩) NB231_259.out _).trans (((cell_far (p := ⟨gb259, _, none⟩) NB231_259.out _).trans (hHeld.1)))), ((cell_far (p := ⟨gb259, _, none⟩) NB231_259.out _).trans (((cell_far (p := ⟨gb259, _, none⟩) NB231_259.out _).trans (hHeld.2.1)))), ((cell_far (p := ⟨gb259, _, none⟩) NB231_259.out _).trans (((cell_far (p := ⟨gb259, _, none⟩) NB231_259.out _).trans (hHeld.2.2.1)))), ((cell_far (p := ⟨gb259, _, none⟩) NB231_259.out _).trans (((cell_far (p := ⟨gb259, _, none⟩) NB231_259.out _).trans (hHeld.2.2.2.1)))), ((cell_far (p := ⟨gb259, _, none⟩) NB231_259.out _).trans (((cell_far (p := ⟨gb259, _, none⟩) NB231_259.out _).trans (hHeld.2.2.2.2.1)))), ((cell_far (p := ⟨gb259, _, none⟩) NB231_259.out _).trans (((cell_far (p := ⟨gb259, _, none⟩) NB231_259.out _).trans (hHeld.2.2.2.2.2.1)))), ((cell_far (p := ⟨gb259, _, none⟩) NB232_259.out _).trans (((cell_far (p := ⟨gb259, _, none⟩) NB232_259.out _).trans (hHeld.2.2.2.2.2.2.1)))), ((cell_far (p := ⟨gb259, _, none⟩) NB232_259.out _).trans (((cell_far (p := ⟨gb259, _, none⟩) NB232_259.out _).trans (hHeld.2.2.2.2.2.2.2.1)))), ((cell_far (p := ⟨gb259, _, none⟩) NB232_259.out _).trans (((cell_far (p := ⟨gb259, _, none⟩) NB232_259.out _).trans (hHeld.2.2.2.2.2.2.2.2.1)))), ((cell_far (p := ⟨gb259, _, none⟩) NB232_259.out _).trans (((cell_far (p := ⟨gb259, _, none⟩) NB232_259.out _).trans (hHeld.2.2.2.2.2.2.2.2.2.1)))), ((cell_far (p := ⟨gb259, _, none⟩) NB232_259.out _).trans (((cell_far (p := ⟨gb259, _, none⟩) NB232_259.out _).trans (hHeld.2.2.2.2.2.2.2.2.2.2.1)))), ((cell_far (p := ⟨gb259, _, none⟩) NB232_259.out _).trans (((cell_far (p := ⟨gb259, _, none⟩) NB232_259.out _).trans (hHeld.2.2.2.2.2.2.2.2.2.2.2.1)))), ((cell_far (p := ⟨gb259, _, none⟩) NB233_259.out _).trans (((cell_far (p := ⟨gb259, _, none⟩) NB233_259.out _).trans (hHeld.2.2.2.2.2.2.2.2.2.2.2.2.1)))), ((cell_far (p := ⟨gb259, _, none⟩) NB233_259.out _).trans (((cell_far (p := ⟨gb259, _, none⟩) NB233_259.out _).trans (hHeld.2.2.2.2.2.2.2.2.2.2.2.2.2.1)))), ((cell_far (p := ⟨gb259, _, none⟩) NB233_259.out _).trans (((cell_far (p := ⟨gb259, _, none⟩) NB233_259.out _).trans (hHeld.2.2.2.2.2.2.2.2.2.2.2.2.2.2.1)))), ((cell_far (p := ⟨gb259, _, none⟩) NB233_259.out _).trans (((cell_far (p := ⟨gb259, _, none⟩) NB233_259.out _).trans (hHeld.2.2.2.2.2.2.2.2.2.2.2.2.2.2.2.1)))), ((cell_far (p := ⟨gb259, _, none⟩) NB233_259.out _).trans (((cell_far (p := ⟨gb259, _, none⟩) NB233_259.out _).trans (hHeld.2.2.2.2.2.2.2.2.2.2.2.2.2.2.2.2.1)))), ((cell_far (p := ⟨gb259, _, none⟩) NB233_259.out _).trans (((cell_far (p := ⟨gb259, _, none⟩) NB233_259.out _).trans (hHeld.2.2.2.2.2.2.2.2.2.2.2.2.2.2.2.2.2))))⟩ (fun hHeld => ?_)
  clear hK K
  refine one_ (i := 10) (N := none) #[true, true, true, true, true, true, true, true, true, true, true, false] rfl rfl (one_of HT_.out (by kernel_rfl)) (by decide) (fun K hK => ?_)
  have hs29 : w23.cell? ⟨gb260, 0, none⟩ = some (.slice none 0 0) := (blk_cell BK260.out 0).trans rfl
  have hfs29 := blk_frozen BK260.out 0
  have hns29_0 := NB231_260.out
  have hns29_1 := NB232_260.out
  have hns29_2 := NB233_260.out
  have hns29_3 := NB259_260.out
  have hns29_5 := NB261_260.out
  have hms29_0 := NB260_231.out
  have hms29_1 := NB260_232.out
  have hms29_2 := NB260_233.out
  have hms29_3 := NB260_259.out
  have hms29_5 := NB260_261.out
  have hs31 : w23.cell? ⟨gb260, 1, none⟩ = some (.slice none 0 0) := (blk_cell BK260.out 1).trans rfl
  have hfs31 := blk_frozen BK260.out 1
  have hns31_0 := NB231_260.out
  have hns31_1 := NB232_260.out
  have hns31_2 := NB233_260.out
  have hns31_3 := NB259_260.out
  have hns31_5 := NB261_260.out
  have hms31_0 := NB260_231.out
  have hms31_1 := NB260_232.out
  have hms31_2 := NB260_233.out
  have hms31_3 := NB260_259.out
  have hms31_5 := NB260_261.out
  refine skip_ (w1 := ?_) (by rfl) rfl ?_ ?_
  rotate_left
  ·go_simp
   rfl
  refine hK.out _ _ ⟨((cell_far (p := ⟨gb260, _, none⟩) NB231_260.out _).trans (((cell_far (p := ⟨gb260, _, none⟩) NB231_260.out _).trans (hHeld.1)))), ((cell_far (p := ⟨gb260, _, none⟩) NB231_260.out _).trans (((cell_far (p := ⟨gb260, _, none⟩) NB231_260.out _).trans (hHeld.2.1)))), ((cell_far (p := ⟨gb260, _, none⟩) NB231_260.out _).trans (((cell_far (p := ⟨gb260, _, none⟩) NB231_260.out _).trans (hHeld.2.2.1)))), ((cell_far (p := ⟨gb260, _, none⟩) NB231_260.out _).trans (((cell_far (p := ⟨gb260, _, none⟩) NB231_260.out _).trans (hHeld.2.2.2.1)))), ((cell_far (p := ⟨gb260, _, none⟩) NB231_260.out _).trans (((cell_far (p := ⟨gb260, _, none⟩) NB231_260.out _).trans (hHeld.2.2.2.2.1)))), ((cell_far (p := ⟨gb260, _, none⟩) NB231_260.out _).trans (((cell_far (p := ⟨gb260, _, none⟩) NB231_260.out _).trans (hHeld.2.2.2.2.2.1)))), ((cell_far (p := ⟨gb260, _, none⟩) NB232_260.out _).trans (((cell_far (p := ⟨gb260, _, none⟩) NB232_260.out _).trans (hHeld.2.2.2.2.2.2.1)))), ((cell_far (p := ⟨gb260, _, none⟩) NB232_260.out _).trans (((cell_far (p := ⟨gb260, _, none⟩) NB232_260.out _).trans (hHeld.2.2.2.2.2.2.2.1)))), ((cell_far (p := ⟨gb260, _, none⟩) NB232_260.out _).trans (((cell_far (p := ⟨gb260, _, none⟩) NB232_260.out _).trans (hHeld.2.2.2.2.2.2.2.2.1)))), ((cell_far (p := ⟨gb260, _, none⟩) NB232_260.out _).trans (((cell_far (p := ⟨gb260, _, none⟩) NB232_260.out _).trans (hHeld.2.2.2.2.2.2.2.2.2.1)))), ((cell_far (p := ⟨gb260, _, none⟩) NB232_260.out _).trans (((cell_far (p := ⟨gb260, _, none⟩) NB232_260.out _).trans (hHeld.2.2.2.2.2.2.2.2.2.2.1)))), ((cell_far (p := ⟨gb260, _, none⟩) NB232_260.out _).trans (((cell_far (p := ⟨gb260, _, none⟩) NB232_260.out _).trans (hHeld.2.2.2.2.2.2.2.2.2.2.2.1)))), ((cell_far (p := ⟨gb260, _, none⟩) NB233_260.out _).trans (((cell_far (p := ⟨gb260, _, none⟩) NB233_260.out _).trans (hHeld.2.2.2.2.2.2.2.2.2.2.2.2.1)))), ((cell_far (p := ⟨gb260, _, none⟩) NB233_260.out _).trans (((cell_far (p := ⟨gb260, _, none⟩) NB233_260.out _).trans (hHeld.2.2.2.2.2.2.2.2.2.2.2.2.2.1)))), ((cell_far (p := ⟨gb260, _, none⟩) NB233_260.out _).trans (((cell_far (p := ⟨gb260, _, none⟩) NB233_260.out _).trans (hHeld.2.2.2.2.2.2.2.2.2.2.2.2.2.2.1)))), ((cell_far (p := ⟨gb260, _, none⟩) NB233_260.out _).trans (((cell_far (p := ⟨gb260, _, none⟩) NB233_260.out _).trans (hHeld.2.2.2.2.2.2.2.2.2.2.2.2.2.2.2.1)))), ((cell_far (p := ⟨gb260, _, none⟩) NB233_260.out _).trans (((cell_far (p := ⟨gb260, _, none⟩) NB233_260.out _).trans (hHeld.2.2.2.2.2.2.2.2.2.2.2.2.2.2.2.2.1)))), ((cell_far (p := ⟨gb260, _, none⟩) NB233_260.out _).trans (((cell_far (p := ⟨gb260, _, none⟩) NB233_260.out _).trans (hHeld.2.2.2.2.2.2.2.2.2.2.2.2.2.2.2.2.2))))⟩ (fun hHeld => ?_)
  clear hK K
  refine one_ (i := 11) (N := none) #[true, true, true, true, true, true, true, true, true, true, true, true] rfl rfl (one_of HT_.out (by kernel_rfl)) (by decide) (fun K hK => ?_)
  have hs33 : w23.cell? ⟨gb261, 0, none⟩ = some (.slice none 0 0) := (blk_cell BK261.out 0).trans rfl
  have hfs33 := blk_frozen BK261.out 0
  have hns33_0 := NB231_261.out
  have hns33_1 := NB232_261.out
  have hns33_2 := NB233_261.out
  have hns33_3 := NB259_261.out
  have hns33_4 := NB260_261.out
  have hms33_0 := NB261_231.out
  have hms33_1 := NB261_232.out
  have hms33_2 := NB261_233.out
  have hms33_3 := NB261_259.out
  have hms33_4 := NB261_260.out
  have hs35 : w23.cell? ⟨gb261, 1, none⟩ = some (.slice none 0 0) := (blk_cell BK261.out 1).trans rfl
  have hfs35 := blk_frozen BK261.out 1
  have hns35_0 := NB231_261.out
  have hns35_1 := NB232_261.out
  have hns35_2 := NB233_261.out
  have hns35_3 := NB259_261.out
  have hns35_4 := NB260_261.out
  have hms35_0 := NB261_231.out
  have hms35_1 := NB261_232.out
  have hms35_2 := NB261_233.out
  have hms35_3 := NB261_259.out
  have hms35_4 := NB261_260.out
  refine skip_ (w1 := ?_) (by rfl) rfl ?_ ?_
  rotate_left
  ·go_simp
   rfl
  refine hK.out _ _ ⟨((cell_far (p := ⟨gb261, _, none⟩) NB231_261.out _).trans (((cell_far (p := ⟨gb261, _, none⟩) NB231_261.out _).trans (hHeld.1)))), ((cell_far (p := ⟨gb261, _, none⟩) NB231_261.out _).trans (((cell_far (p := ⟨gb261, _, none⟩) NB231_261.out _).trans (hHeld.2.1)))), ((cell_far (p := ⟨gb261, _, none⟩) NB231_261.out _).trans (((cell_far (p := ⟨gb261, _, none⟩) NB231_261.out _).trans (hHeld.2.2.1)))), ((cell_far (p := ⟨gb261, _, none⟩) NB231_261.out _).trans (((cell_far (p := ⟨gb261, _, none⟩) NB231_261.out _).trans (hHeld.2.2.2.1)))), ((cell_far (p := ⟨gb261, _, none⟩) NB231_261.out _).trans (((cell_far (p := ⟨gb261, _, none⟩) NB231_261.out _).trans (hHeld.2.2.2.2.1)))), ((cell_far (p := ⟨gb261, _, none⟩) NB231_261.out _).trans (((cell_far (p := ⟨gb261, _, none⟩) NB231_261.out _).trans (hHeld.2.2.2.2.2.1)))), ((cell_far (p := ⟨gb261, _, none⟩) NB232_261.out _).trans (((cell_far (p := ⟨gb261, _, none⟩) NB232_261.out _).trans (hHeld.2.2.2.2.2.2.1)))), ((cell_far (p := ⟨gb261, _, none⟩) NB232_261.out _).trans (((cell_far (p := ⟨gb261, _, none⟩) NB232_261.out _).trans (hHeld.2.2.2.2.2.2.2.1)))), ((cell_far (p := ⟨gb261, _, none⟩) NB232_261.out _).trans (((cell_far (p := ⟨gb261, _, none⟩) NB232_261.out _).trans (hHeld.2.2.2.2.2.2.2.2.1)))), ((cell_far (p := ⟨gb261, _, none⟩) NB232_261.out _).trans (((cell_far (p := ⟨gb261, _, none⟩) NB232_261.out _).trans (hHeld.2.2.2.2.2.2.2.2.2.1)))), ((cell_far (p := ⟨gb261, _, none⟩) NB232_261.out _).trans (((cell_far (p := ⟨gb261, _, none⟩) NB232_261.out _).trans (hHeld.2.2.2.2.2.2.2.2.2.2.1)))), ((cell_far (p := ⟨gb261, _, none⟩) NB232_261.out _).trans (((cell_far (p := ⟨gb261, _, none⟩) NB232_261.out _).trans (hHeld.2.2.2.2.2.2.2.2.2.2.2.1)))), ((cell_far (p := ⟨gb261, _, none⟩) NB233_261.out _).trans (((cell_far (p := ⟨gb261, _, none⟩) NB233_261.out _).trans (hHeld.2.2.2.2.2.2.2.2.2.2.2.2.1)))), ((cell_far (p := ⟨gb261, _, none⟩) NB233_261.out _).trans (((cell_far (p := ⟨gb261, _, none⟩) NB233_261.out _).trans (hHeld.2.2.2.2.2.2.2.2.2.2.2.2.2.1)))), ((cell_far (p := ⟨gb261, _, none⟩) NB233_261.out _).trans (((cell_far (p := ⟨gb261, _, none⟩) NB233_261.out _).trans (hHeld.2.2.2.2.2.2.2.2.2.2.2.2.2.2.1)))), ((cell_far (p := ⟨gb261, _, none⟩) NB233_261.out _).trans (((cell_far (p := ⟨gb261, _, none⟩) NB233_261.out _).trans (hHeld.2.2.2.2.2.2.2.2.2.2.2.2.2.2.2.1)))), ((cell_far (p := ⟨gb261, _, none⟩) NB233_261.out _).trans (((cell_far (p := ⟨gb261, _, none⟩) NB233_261.out _).trans (hHeld.2.2.2.2.2.2.2.2.2.2.2.2.2.2.2.2.1)))), ((cell_far (p := ⟨gb261, _, none⟩) NB233_261.out _).trans (((cell_far (p := ⟨gb261, _, none⟩) NB233_261.out _).trans (hHeld.2.2.2.2.2.2.2.2.2.2.2.2.2.2.2.2.2))))⟩ (fun hHeld => ?_)
  clear hK K
  refine done_ (done_of HT_.out (by kernel_rfl)) ?_
  go_upto_region 5 with (fail)
  have n0_ : Aside0 (Kd.R Kd.string 9 ((((((w23.setCell ⟨gb259, 0, none⟩ (.slice Ao24 t241.length co24)).setCell ⟨gb259, 1, none⟩ (.slice Ao26 t244.length co26)).setCell ⟨gb260, 0, none⟩ (.slice Ao28 t247.length co28)).setCell ⟨gb260, 1, none⟩ (.slice Ao30 t250.length co30)).setCell ⟨gb261, 0, none⟩ (.slice Ao32 t253.length co32)).setCell ⟨gb261, 1, none⟩ (.slice Ao34 t256.length co34)) w.heap.size (fun _ => True) v236 t235) := ⟨by (with_reducible repeat (first | apply Kd.R_alloc | apply Kd.R_drewN | apply Kd.R_drew)); exact Kd.R_mono (Kd.R_far (p := ⟨gb261, 1, none⟩) (Kd.R_far (p := ⟨gb261, 0, none⟩) (Kd.R_far (p := ⟨gb260, 1, none⟩) (Kd.R_far (p := ⟨gb260, 0, none⟩) (Kd.R_far (p := ⟨gb259, 1, none⟩) (Kd.R_far (p := ⟨gb259, 0, none⟩) (Kd.R_types (Kd.R_types (Kd.R_types HO237.out BK259.out (by decide)) BK260.out (by decide)) BK261.out (by decide)) (fun _ hk => hk.1.1.2) (.slice Ao24 t241.length co24)) (fun _ hk => hk.1.1.2) (.slice Ao26 t244.length co26)) (fun _ hk => hk.1.2) (.slice Ao28 t247.length co28)) (fun _ hk => hk.1.2) (.slice Ao30 t250.length co30)) (fun _ hk => hk.2) (.slice Ao32 t253.length co32)) (fun _ hk => hk.2) (.slice Ao34 t256.length co34)) (fun _ hk => trivial)⟩
  have n1_ : Aside0 (Kd.N (Kd.slice 9 Kd.string) 25 ((((((w23.setCell ⟨gb259, 0, none⟩ (.slice Ao24 t241.length co24)).setCell ⟨gb259, 1, none⟩ (.slice Ao26 t244.length co26)).setCell ⟨gb260, 0, none⟩ (.slice Ao28 t247.length co28)).setCell ⟨gb260, 1, none⟩ (.slice Ao30 t250.length co30)).setCell ⟨gb261, 0, none⟩ (.slice Ao32 t253.length co32)).setCell ⟨gb261, 1, none⟩ (.slice Ao34 t256.length co34)) w.heap.size (fun k_ => some k_ ≠ (v236 : Value).ownBlock ∧ some k_ ≠ (.slice Ao24 t241.length co24 : Value).ownBlock ∧ some k_ ≠ (.slice Ao26 t244.length co26 : Value).ownBlock ∧ some k_ ≠ (.slice Ao28 t247.length co28 : Value).ownBlock ∧ some k_ ≠ (.slice Ao30 t250.length co30 : Value).ownBlock ∧ some k_ ≠ (.slice Ao32 t253.length co32 : Value).ownBlock ∧ some k_ ≠ (.slice Ao34 t256.length co34 : Value).ownBlock ∧ k_ ≠ gb231 ∧ k_ ≠ gb232 ∧ k_ ≠ gb233 ∧ k_ ≠ gb259 ∧ k_ ≠ gb260 ∧ k_ ≠ gb261) v239 t238) := ⟨by (with_reducible repeat (first | apply Kd.N_alloc | apply Kd.N_drewN | apply Kd.N_drew)); exact Kd.N_mono (Kd.N_far (p := ⟨gb261, 1, none⟩) (Kd.N_far (p := ⟨gb261, 0, none⟩) (Kd.N_far (p := ⟨gb260, 1, none⟩) (Kd.N_far (p := ⟨gb260, 0, none⟩) (Kd.N_far (p := ⟨gb259, 1, none⟩) (Kd.N_far (p := ⟨gb259, 0, none⟩) (Kd.N_mono (Kd.N_mono (Kd.N_mono HO240.out (fun k_ hk => (⟨hk, hk.2.2.2.2.2.2.2.2.2.2.1⟩ : _ ∧ k_ ≠ gb259))) (fun k_ hk => (⟨hk, hk.1.2.2.2.2.2.2.2.2.2.2.2.1⟩ : _ ∧ k_ ≠ gb260))) (fun k_ hk => (⟨hk, hk.1.1.2.2.2.2.2.2.2.2.2.2.2.2⟩ : _ ∧ k_ ≠ gb261))) (fun _ hk => hk.1.1.2) (.slice Ao24 t241.length co24)) (fun _ hk => hk.1.1.2) (.slice Ao26 t244.length co26)) (fun _ hk => hk.1.2) (.slice Ao28 t247.length co28)) (fun _ hk => hk.1.2) (.slice Ao30 t250.length co30)) (fun _ hk => hk.2) (.slice Ao32 t253.length co32)) (fun _ hk => hk.2) (.slice Ao34 t256.length co34)) (fun _ hk => ⟨hk.1.1.1.1, ⟨hk.1.1.1.2.1, ⟨hk.1.1.1.2.2.1, ⟨hk.1.1.1.2.2.2.1, ⟨hk.1.1.1.2.2.2.2.1, ⟨hk.1.1.1.2.2.2.2.2.1, ⟨hk.1.1.1.2.2.2.2.2.2.1, ⟨hk.1.1.1.2.2.2.2.2.2.2.1, ⟨hk.1.1.1.2.2.2.2.2.2.2.2.1, ⟨hk.1.1.1.2.2.2.2.2.2.2.2.2.1, ⟨hk.1.1.1.2.2.2.2.2.2.2.2.2.2.1, ⟨hk.1.1.1.2.2.2.2.2.2.2.2.2.2.2.1, hk.1.1.1.2.2.2.2.2.2.2.2.2.2.2.2⟩⟩⟩⟩⟩⟩⟩⟩⟩⟩⟩⟩)⟩
  have n2_ : Aside0 (Kd.N (Kd.slice 3 (Kd.int .i64)) 28 ((((((w23.setCell ⟨gb259, 0, none⟩ (.slice Ao24 t241.length co24)).setCell ⟨gb259, 1, none⟩ (.slice Ao26 t244.length co26)).setCell ⟨gb260, 0, none⟩ (.slice Ao28 t247.length co28)).setCell ⟨gb260, 1, none⟩ (.slice Ao30 t250.length co30)).setCell ⟨gb261, 0, none⟩ (.slice Ao32 t253.length co32)).setCell ⟨gb261, 1, none⟩ (.slice Ao34 t256.length co34)) w.heap.size (fun k_ => some k_ ≠ (v236 : Value).ownBlock ∧ some k_ ≠ (v239 : Value).ownBlock ∧ some k_ ≠ (.slice Ao26 t244.length co26 : Value).ownBlock ∧ some k_ ≠ (.slice Ao28 t247.length co28 : Value).ownBlock ∧ some k_ ≠ (.slice Ao30 t250.length co30 : Value).ownBlock ∧ some k_ ≠ (.slice Ao32 t253.length co32 : Value).ownBlock ∧ some k_ ≠ (.slice Ao34 t256.length co34 : Value).ownBlock ∧ k_ ≠ gb231 ∧ k_ ≠ gb232 ∧ k_ ≠ gb233 ∧ k_ ≠ gb259 ∧ k_ ≠ gb260 ∧ k_ ≠ gb261) (.slice Ao24 t241.length co24) t241) := ⟨by (with_reducible repeat (first | apply Kd.N_alloc | apply Kd.N_drewN | apply Kd.N_drew)); exact Kd.N_mono (Kd.N_far (p := ⟨gb261, 1, none⟩) (Kd.N_far (p := ⟨gb261, 0, none⟩) (Kd.N_far (p := ⟨gb260, 1, none⟩) (Kd.N_far (p := ⟨gb260, 0, none⟩) (Kd.N_far (p := ⟨gb259, 1, none⟩) (Kd.N_far (p := ⟨gb259, 0, none⟩) (Kd.N_mono (Kd.N_mono (Kd.N_mono HO243.out (fun k_ hk => (⟨hk, hk.2.2.2.2.2.2.2.2.2.2.1⟩ : _ ∧ k_ ≠ gb259))) (fun k_ hk => (⟨hk, hk.1.2.2.2.2.2.2.2.2.2.2.2.1⟩ : _ ∧ k_ ≠ gb260))) (fun k_ hk => (⟨hk, hk.1.1.2.2.2.2.2.2.2.2.2.2.2.2⟩ : _ ∧ k_ ≠ gb261))) (fun _ hk => hk.1.1.2) (.slice Ao24 t241.length co24)) (fun _ hk => hk.1.1.2) (.slice Ao26 t244.length co26)) (fun _ hk => hk.1.2) (.slice Ao28 t247.length co28)) (fun _ hk => hk.1.2) (.slice Ao30 t250.length co30)) (fun _ hk => hk.2) (.slice Ao32 t253.length co32)) (fun _ hk => hk.2) (.slice Ao34 t256.length co34)) (fun _ hk => ⟨hk.1.1.1.1, ⟨hk.1.1.1.2.1, ⟨hk.1.1.1.2.2.1, ⟨hk.1.1.1.2.2.2.1, ⟨hk.1.1.1.2.2.2.2.1, ⟨hk.1.1.1.2.2.2.2.2.1, ⟨hk.1.1.1.2.2.2.2.2.2.1, ⟨hk.1.1.1.2.2.2.2.2.2.2.1, ⟨hk.1.1.1.2.2.2.2.2.2.2.2.1, ⟨hk.1.1.1.2.2.2.2.2.2.2.2.2.1, ⟨hk.1.1.1.2.2.2.2.2.2.2.2.2.2.1, ⟨hk.1.1.1.2.2.2.2.2.2.2.2.2.2.2.1, hk.1.1.1.2.2.2.2.2.2.2.2.2.2.2.2⟩⟩⟩⟩⟩⟩⟩⟩⟩⟩⟩⟩)⟩
  have n3_ : Aside0 (Kd.R (Kd.int .i64) 3 ((((((w23.setCell ⟨gb259, 0, none⟩ (.slice Ao24 t241.length co24)).setCell ⟨gb259, 1, none⟩ (.slice Ao26 t244.length co26)).setCell ⟨gb260, 0, none⟩ (.slice Ao28 t247.length co28)).setCell ⟨gb260, 1, none⟩ (.slice Ao30 t250.length co30)).setCell ⟨gb261, 0, none⟩ (.slice Ao32 t253.length co32)).setCell ⟨gb261, 1, none⟩ (.slice Ao34 t256.length co34)) w.heap.size (fun k_ => some k_ ≠ (.slice Ao30 t250.length co30 : Value).ownBlock ∧ some k_ ≠ (.slice Ao34 t256.length co34 : Value).ownBlock) (.slice Ao26 t244.length co26) t244) := ⟨by (with_reducible repeat (first | apply Kd.R_alloc | apply Kd.R_drewN | apply Kd.R_drew)); exact Kd.R_mono (Kd.R_far (p := ⟨gb261, 1, none⟩) (Kd.R_far (p := ⟨gb261, 0, none⟩) (Kd.R_far (p := ⟨gb260, 1, none⟩) (Kd.R_far (p := ⟨gb260, 0, none⟩) (Kd.R_far (p := ⟨gb259, 1, none⟩) (Kd.R_far (p := ⟨gb259, 0, none⟩) (Kd.R_types (Kd.R_types (Kd.R_types HO246.out BK259.out (by decide)) BK260.out (by decide)) BK261.out (by decide)) (fun _ hk => hk.1.1.2) (.slice Ao24 t241.length co24)) (fun _ hk => hk.1.1.2) (.slice Ao26 t244.length co26)) (fun _ hk => hk.1.2) (.slice Ao28 t247.length co28)) (fun _ hk => hk.1.2) (.slice Ao30 t250.length co30)) (fun _ hk => hk.2) (.slice Ao32 t253.length co32)) (fun _ hk => hk.2) (.slice Ao34 t256.length co34)) (fun _ hk => ⟨hk.1.1.1.1, hk.1.1.1.2⟩)⟩
  have n4_ : Aside0 (Kd.N (Kd.slice 3 (Kd.int .i64)) 28 ((((((w23.setCell ⟨gb259, 0, none⟩ (.slice Ao24 t241.length co24)).setCell ⟨gb259, 1, none⟩ (.slice Ao26 t244.length co26)).setCell ⟨gb260, 0, none⟩ (.slice Ao28 t247.length co28)).setCell ⟨gb260, 1, none⟩ (.slice Ao30 t250.length co30)).setCell ⟨gb261, 0, none⟩ (.slice Ao32 t253.length co32)).setCell ⟨gb261, 1, none⟩ (.slice Ao34 t256.length co34)) w.heap.size (fun k_ => some k_ ≠ (v236 : Value).ownBlock ∧ some k_ ≠ (v239 : Value).ownBlock ∧ some k_ ≠ (.slice Ao24 t241.length co24 : Value).ownBlock ∧ some k_ ≠ (.slice Ao26 t244.length co26 : Value).ownBlock ∧ some k_ ≠ (.slice Ao30 t250.length co30 : Value).ownBlock ∧ some k_ ≠ (.slice Ao32 t253.length co32 : Value).ownBlock ∧ some k_ ≠ (.slice Ao34 t256.length co34 : Value).ownBlock ∧ k_ ≠ gb231 ∧ k_ ≠ gb232 ∧ k_ ≠ gb233 ∧ k_ ≠ gb259 ∧ k_ ≠ gb260 ∧ k_ ≠ gb261) (.slice Ao28 t247.length co28) t247) := ⟨by (with_reducible repeat (first | apply Kd.N_alloc | apply Kd.N_drewN | apply Kd.N_drew)); exact Kd.N_mono (Kd.N_far (p := ⟨gb261, 1, none⟩) (Kd.N_far (p := ⟨gb261, 0, none⟩) (Kd.N_far (p := ⟨gb260, 1, none⟩) (Kd.N_far (p := ⟨gb260, 0, none⟩) (Kd.N_far (p := ⟨gb259, 1, none⟩) (Kd.N_far (p := ⟨gb259, 0, none⟩) (Kd.N_mono (Kd.N_mono (Kd.N_mono HO249.out (fun k_ hk => (⟨hk, hk.2.2.2.2.2.2.2.2.2.2.1⟩ : _ ∧ k_ ≠ gb259))) (fun k_ hk => (⟨hk, hk.1.2.2.2.2.2.2.2.2.2.2.2.1⟩ : _ ∧ k_ ≠ gb260))) (fun k_ hk => (⟨hk, hk.1.1.2.2.2.2.2.2.2.2.2.2.2.2⟩ : _ ∧ k_ ≠ gb261))) (fun _ hk => hk.1.1.2) (.slice Ao24 t241.length co24)) (fun _ hk => hk.1.1.2) (.slice Ao26 t244.length co26)) (fun _ hk => hk.1.2) (.slice Ao28 t247.length co28)) (fun _ hk => hk.1.2) (.slice Ao30 t250.length co30)) (fun _ hk => hk.2) (.slice Ao32 t253.length co32)) (fun _ hk => hk.2) (.slice Ao34 t256.length co34)) (fun _ hk => ⟨hk.1.1.1.1, ⟨hk.1.1.1.2.1, ⟨hk.1.1.1.2.2.1, ⟨hk.1.1.1.2.2.2.1, ⟨hk.1.1.1.2.2.2.2.1, ⟨hk.1.1.1.2.2.2.2.2.1, ⟨hk.1.1.1.2.2.2.2.2.2.1, ⟨hk.1.1.1.2.2.2.2.2.2.2.1, ⟨hk.1.1.1.2.2.2.2.2.2.2.2.1, ⟨hk.1.1.1.2.2.2.2.2.2.2.2.2.1, ⟨hk.1.1.1.2.2.2.2.2.2.2.2.2.2.1, ⟨hk.1.1.1.2.2.2.2.2.2.2.2.2.2.2.1, hk.1.1.1.2.2.2.2.2.2.2.2.2.2.2.2⟩⟩⟩⟩⟩⟩⟩⟩⟩⟩⟩⟩)⟩
  have n5_ : Aside0 (Kd.R (Kd.int .i64) 3 ((((((w23.setCell ⟨gb259, 0, none⟩ (.slice Ao24 t241.length co24)).setCell ⟨gb259, 1, none⟩ (.slice Ao26 t244.length co26)).setCell ⟨gb260, 0, none⟩ (.slice Ao28 t247.length co28)).setCell ⟨gb260, 1, none⟩ (.slice Ao30 t250.length co30)).setCell ⟨gb261, 0, none⟩ (.slice Ao32 t253.length co32)).setCell ⟨gb261, 1, none⟩ (.slice Ao34 t256.length co34)) w.heap.size (fun k_ => some k_ ≠ (.slice Ao26 t244.length co26 : Value).ownBlock ∧ some k_ ≠ (.slice Ao34 t256.length co34 : Value).ownBlock) (.slice Ao30 t250.length co30) t250) := ⟨by (with_reducible repeat (first | apply Kd.R_alloc | apply Kd.R_drewN | apply Kd.R_drew)); exact Kd.R_mono (Kd.R_far (p := ⟨gb261, 1, none⟩) (Kd.R_far (p := ⟨gb261, 0, none⟩) (Kd.R_far (p := ⟨gb260, 1, none⟩) (Kd.R_far (p := ⟨gb260, 0, none⟩) (Kd.R_far (p := ⟨gb259, 1, none⟩) (Kd.R_far (p := ⟨gb259, 0, none⟩) (Kd.R_types (Kd.R_types (Kd.R_types HO252.out BK259.out (by decide)) BK260.out (by decide)) BK261.out (by decide)) (fun _ hk => hk.1.1.2) (.slice Ao24 t241.length co24)) (fun _ hk => hk.1.1.2) (.slice Ao26 t244.length co26)) (fun _ hk => hk.1.2) (.slice Ao28 t247.length co28)) (fun _ hk => hk.1.2) (.slice Ao30 t250.length co30)) (fun _ hk => hk.2) (.slice Ao32 t253.length co32)) (fun _ hk => hk.2) (.slice Ao34 t256.length co34)) (fun _ hk => ⟨hk.1.1.1.1, hk.1.1.1.2⟩)⟩
  have n6_ : Aside0 (Kd.N (Kd.slice 3 (Kd.int .i64)) 28 ((((((w23.setCell ⟨gb259, 0, none⟩ (.slice Ao24 t241.length co24)).setCell ⟨gb259, 1, none⟩ (.slice Ao26 t244.length co26)).setCell ⟨gb260, 0, none⟩ (.slice Ao28 t247.length co28)).setCell ⟨gb260, 1, none⟩ (.slice Ao30 t250.length co30)).setCell ⟨gb261, 0, none⟩ (.slice Ao32 t253.length co32)).setCell ⟨gb261, 1, none⟩ (.slice Ao34 t256.length co34)) w.heap.size (fun k_ => some k_ ≠ (v236 : Value).ownBlock ∧ some k_ ≠ (v239 : Value).ownBlock ∧ some k_ ≠ (.slice Ao24 t241.length co24 : Value).ownBlock ∧ some k_ ≠ (.slice Ao26 t244.length co26 : Value).ownBlock ∧ some k_ ≠ (.slice Ao28 t247.length co28 : Value).ownBlock ∧ some k_ ≠ (.slice Ao30 t250.length co30 : Value).ownBlock ∧ some k_ ≠ (.slice Ao34 t256.length co34 : Value).ownBlock ∧ k_ ≠ gb231 ∧ k_ ≠ gb232 ∧ k_ ≠ gb233 ∧ k_ ≠ gb259 ∧ k_ ≠ gb260 ∧ k_ ≠ gb261) (.slice Ao32 t253.length co32) t253) := ⟨by (with_reducible repeat (first | apply Kd.N_alloc | apply Kd.N_drewN | apply Kd.N_drew)); exact Kd.N_mono (Kd.N_far (p := ⟨gb261, 1, none⟩) (Kd.N_far (p := ⟨gb261, 0, none⟩) (Kd.N_far (p := ⟨gb260, 1, none⟩) (Kd.N_far (p := ⟨gb260, 0, none⟩) (Kd.N_far (p := ⟨gb259, 1, none⟩) (Kd.N_far (p := ⟨gb259, 0, none⟩) (Kd.N_mono (Kd.N_mono (Kd.N_mono HO255.out (fun k_ hk => (⟨hk, hk.2.2.2.2.2.2.2.2.2.2.1⟩ : _ ∧ k_ ≠ gb259))) (fun k_ hk => (⟨hk, hk.1.2.2.2.2.2.2.2.2.2.2.2.1⟩ : _ ∧ k_ ≠ gb260))) (fun k_ hk => (⟨hk, hk.1.1.2.2.2.2.2.2.2.2.2.2.2.2⟩ : _ ∧ k_ ≠ gb261))) (fun _ hk => hk.1.1.2) (.slice Ao24 t241.length co24)) (fun _ hk => hk.1.1.2) (.slice Ao26 t244.length co26)) (fun _ hk => hk.1.2) (.slice Ao28 t247.length co28)) (fun _ hk => hk.1.2) (.slice Ao30 t250.length co30)) (fun _ hk => hk.2) (.slice Ao32 t253.length co32)) (fun _ hk => hk.2) (.slice Ao34 t256.length co34)) (fun _ hk => ⟨hk.1.1.1.1, ⟨hk.1.1.1.2.1, ⟨hk.1.1.1.2.2.1, ⟨hk.1.1.1.2.2.2.1, ⟨hk.1.1.1.2.2.2.2.1, ⟨hk.1.1.1.2.2.2.2.2.1, ⟨hk.1.1.1.2.2.2.2.2.2.1, ⟨hk.1.1.1.2.2.2.2.2.2.2.1, ⟨hk.1.1.1.2.2.2.2.2.2.2.2.1, ⟨hk.1.1.1.2.2.2.2.2.2.2.2.2.1, ⟨hk.1.1.1.2.2.2.2.2.2.2.2.2.2.1, ⟨hk.1.1.1.2.2.2.2.2.2.2.2.2.2.2.1, hk.1.1.1.2.2.2.2.2.2.2.2.2.2.2.2⟩⟩⟩⟩⟩⟩⟩⟩⟩⟩⟩⟩)⟩
  have n7_ : Aside0 (Kd.R (Kd.int .i64) 3 ((((((w23.setCell ⟨gb259, 0, none⟩ (.slice Ao24 t241.length co24)).setCell ⟨gb259, 1, none⟩ (.slice Ao26 t244.length co26)).setCell ⟨gb260, 0, none⟩ (.slice Ao28 t247.length co28)).setCell ⟨gb260, 1, none⟩ (.slice Ao30 t250.length co30)).setCell ⟨gb261, 0, none⟩ (.slice Ao32 t253.length co32)).setCell ⟨gb261, 1, none⟩ (.slice Ao34 t256.length co34)) w.heap.size (fun k_ => some k_ ≠ (.slice Ao26 t244.length co26 : Value).ownBlock ∧ some k_ ≠ (.slice Ao30 t250.length co30 : Value).ownBlock) (.slice Ao34 t256.length co34) t256) := ⟨by (with_reducible repeat (first | apply Kd.R_alloc | apply Kd.R_drewN | apply Kd.R_drew)); exact Kd.R_mono (Kd.R_far (p := ⟨gb261, 1, none⟩) (Kd.R_far (p := ⟨gb261, 0, none⟩) (Kd.R_far (p := ⟨gb260, 1, none⟩) (Kd.R_far (p := ⟨gb260, 0, none⟩) (Kd.R_far (p := ⟨gb259, 1, none⟩) (Kd.R_far (p := ⟨gb259, 0, none⟩) (Kd.R_types (Kd.R_types (Kd.R_types HO258.out BK259.out (by decide)) BK260.out (by decide)) BK261.out (by decide)) (fun _ hk => hk.1.1.2) (.slice Ao24 t241.length co24)) (fun _ hk => hk.1.1.2) (.slice Ao26 t244.length co26)) (fun _ hk => hk.1.2) (.slice Ao28 t247.length co28)) (fun _ hk => hk.1.2) (.slice Ao30 t250.length co30)) (fun _ hk => hk.2) (.slice Ao32 t253.length co32)) (fun _ hk => hk.2) (.slice Ao34 t256.length co34)) (fun _ hk => ⟨hk.1.1.1.1, hk.1.1.1.2⟩)⟩
  have n8_ : Aside0 (((((((w23.setCell ⟨gb259, 0, none⟩ (.slice Ao24 t241.length co24)).setCell ⟨gb259, 1, none⟩ (.slice Ao26 t244.length co26)).setCell ⟨gb260, 0, none⟩ (.slice Ao28 t247.length co28)).setCell ⟨gb260, 1, none⟩ (.slice Ao30 t250.length co30)).setCell ⟨gb261, 0, none⟩ (.slice Ao32 t253.length co32)).setCell ⟨gb261, 1, none⟩ (.slice Ao34 t256.length co34)).heap[gb231]? = some (.cells #[.int .u8 a0_0, .int .u8 a0_1, .int .u8 a0_2, .int .u8 a0_3, .int .u8 a0_4, .int .u8 a0_5] 41 (0, 0))) := ⟨by (with_reducible repeat (first | refine blk_drewN ?_ _ | refine blk_drew ?_ | refine blk_alloc ?_ _)); refine blk_far ?_ NB231_261.out _; (with_reducible repeat (first | refine blk_drewN ?_ _ | refine blk_drew ?_ | refine blk_alloc ?_ _)); refine blk_far ?_ NB231_261.out _; (with_reducible repeat (first | refine blk_drewN ?_ _ | refine blk_drew ?_ | refine blk_alloc ?_ _)); refine blk_far ?_ NB231_260.out _; (with_reducible repeat (first | refine blk_drewN ?_ _ | refine blk_drew ?_ | refine blk_alloc ?_ _)); refine blk_far ?_ NB231_260.out _; (with_reducible repeat (first | refine blk_drewN ?_ _ | refine blk_drew ?_ | refine blk_alloc ?_ _)); refine blk_far ?_ NB231_259.out _; (with_reducible repeat (first | refine blk_drewN ?_ _ | refine blk_drew ?_ | refine blk_alloc ?_ _)); refine blk_far ?_ NB231_259.out _; (with_reducible repeat (first | refine blk_drewN ?_ _ | refine blk_drew ?_ | refine blk_alloc ?_ _)); exact BK231.out⟩
  have n9_ : Aside0 (((((((w23.setCell ⟨gb259, 0, none⟩ (.slice Ao24 t241.length co24)).setCell ⟨gb259, 1, none⟩ (.slice Ao26 t244.length co26)).setCell ⟨gb260, 0, none⟩ (.slice Ao28 t247.length co28)).setCell ⟨gb260, 1, none⟩ (.slice Ao30 t250.length co30)).setCell ⟨gb261, 0, none⟩ (.slice Ao32 t253.length co32)).setCell ⟨gb261, 1, none⟩ (.slice Ao34 t256.length co34)).heap[gb232]? = some (.cells #[.int .u8 a1_0, .int .u8 a1_1, .int .u8 a1_2, .int .u8 a1_3, .int .u8 a1_4, .int .u8 a1_5] 41 (0, 0))) := ⟨by (with_reducible repeat (first | refine blk_drewN ?_ _ | refine blk_drew ?_ | refine blk_alloc ?_ _)); refine blk_far ?_ NB232_261.out _; (with_reducible repeat (first | refine blk_drewN ?_ _ | refine blk_drew ?_ | refine blk_alloc ?_ _)); refine blk_far ?_ NB232_261.out _; (with_reducible repeat (first | refine blk_drewN ?_ _ | refine blk_drew ?_ | refine blk_alloc ?_ _)); refine blk_far ?_ NB232_260.out _; (with_reducible repeat (first | refine blk_drewN ?_ _ | refine blk_drew ?_ | refine blk_alloc ?_ _)); refine blk_far ?_ NB232_260.out _; (with_reducible repeat (first | refine blk_drewN ?_ _ | refine blk_drew ?_ | refine blk_alloc ?_ _)); refine blk_far ?_ NB232_259.out _; (with_reducible repeat (first | refine blk_drewN ?_ _ | refine blk_drew ?_ | refine blk_alloc ?_ _)); refine blk_far ?_ NB232_259.out _; (with_reducible repeat (first | refine blk_drewN ?_ _ | refine blk_drew ?_ | refine blk_alloc ?_ _)); exact BK232.out⟩
  have n10_ : Aside0 (((((((w23.setCell ⟨gb259, 0, none⟩ (.slice Ao24 t241.length co24)).setCell ⟨gb259, 1, none⟩ (.slice Ao26 t244.length co26)).setCell ⟨gb260, 0, none⟩ (.slice Ao28 t247.length co28)).setCell ⟨gb260, 1, none⟩ (.slice Ao30 t250.length co30)).setCell ⟨gb261, 0, none⟩ (.slice Ao32 t253.length co32)).setCell ⟨gb261, 1, none⟩ (.slice Ao34 t256.length co34)).heap[gb233]? = some (.cells #[.int .u8 a2_0, .int .u8 a2_1, .int .u8 a2_2, .int .u8 a2_3, .int .u8 a2_4, .int .u8 a2_5] 41 (0, 0))) := ⟨by (with_reducible repeat (first | refine blk_drewN ?_ _ | refine blk_drew ?_ | refine blk_alloc ?_ _)); refine blk_far ?_ NB233_261.out _; (with_reducible repeat (first | refine blk_drewN ?_ _ | refine blk_drew ?_ | refine blk_alloc ?_ _)); refine blk_far ?_ NB233_261.out _; (with_reducible repeat (first | refine blk_drewN ?_ _ | refine blk_drew ?_ | refine blk_alloc ?_ _)); refine blk_far ?_ NB233_260.out _; (with_reducible repeat (first | refine blk_drewN ?_ _ | refine blk_drew ?_ | refine blk_alloc ?_ _)); refine blk_far ?_ NB233_260.out _; (with_reducible repeat (first | refine blk_drewN ?_ _ | refine blk_drew ?_ | refine blk_alloc ?_ _)); refine blk_far ?_ NB233_259.out _; (with_reducible repeat (first | refine blk_drewN ?_ _ | refine blk_drew ?_ | refine blk_alloc ?_ _)); refine blk_far ?_ NB233_259.out _; (with_reducible repeat (first | refine blk_drewN ?_ _ | refine blk_drew ?_ | refine blk_alloc ?_ _)); exact BK233.out⟩
  have n11_ : Aside0 (((((((w23.setCell ⟨gb259, 0, none⟩ (.slice Ao24 t241.length co24)).setCell ⟨gb259, 1, none⟩ (.slice Ao26 t244.length co26)).setCell ⟨gb260, 0, none⟩ (.slice Ao28 t247.length co28)).setCell ⟨gb260, 1, none⟩ (.slice Ao30 t250.length co30)).setCell ⟨gb261, 0, none⟩ (.slice Ao32 t253.length co32)).setCell ⟨gb261, 1, none⟩ (.slice Ao34 t256.length co34)).heap[gb259]? = some (.cells #[.slice Ao24 t241.length co24, .slice Ao26 t244.length co26] 30 (0, 0))) := ⟨by (with_reducible repeat (first | refine blk_drewN ?_ _ | refine blk_drew ?_ | refine blk_alloc ?_ _)); refine blk_far ?_ NB259_261.out _; (with_reducible repeat (first | refine blk_drewN ?_ _ | refine blk_drew ?_ | refine blk_alloc ?_ _)); refine blk_far ?_ NB259_261.out _; (with_reducible repeat (first | refine blk_drewN ?_ _ | refine blk_drew ?_ | refine blk_alloc ?_ _)); refine blk_far ?_ NB259_260.out _; (with_reducible repeat (first | refine blk_drewN ?_ _ | refine blk_drew ?_ | refine blk_alloc ?_ _)); refine blk_far ?_ NB259_260.out _; (with_reducible repeat (first | refine blk_drewN ?_ _ | refine blk_drew ?_ | refine blk_alloc ?_ _)); refine blk_put (cs := #[.slice Ao24 t241.length co24, .slice none 0 0]) ?_ 1 _ rfl; (with_reducible repeat (first | refine blk_drewN ?_ _ | refine blk_drew ?_ | refine blk_alloc ?_ _)); refine blk_put (cs := #[.slice none 0 0, .slice none 0 0]) ?_ 0 _ rfl; (with_reducible repeat (first | refine blk_drewN ?_ _ | refine blk_drew ?_ | refine blk_alloc ?_ _)); exact BK259.out⟩
  have n12_ : Aside0 (((((((w23.setCell ⟨gb259, 0, none⟩ (.slice Ao24 t241.length co24)).setCell ⟨gb259, 1, none⟩ (.slice Ao26 t244.length co26)).setCell ⟨gb260, 0, none⟩ (.slice Ao28 t247.length co28)).setCell ⟨gb260, 1, none⟩ (.slice Ao30 t250.length co30)).setCell ⟨gb261, 0, none⟩ (.slice Ao32 t253.length co32)).setCell ⟨gb261, 1, none⟩ (.slice Ao34 t256.length co34)).heap[gb260]? = some (.cells #[.slice Ao28 t247.length co28, .slice Ao30 t250.length co30] 30 (0, 0))) := ⟨by (with_reducible repeat (first | refine blk_drewN ?_ _ | refine blk_drew ?_ | refine blk_alloc ?_ _)); refine blk_far ?_ NB260_261.out _; (with_reducible repeat (first | refine blk_drewN ?_ _ | refine blk_drew ?_ | refine blk_alloc ?_ _)); refine blk_far ?_ NB260_261.out _; (with_reducible repeat (first | refine blk_drewN ?_ _ | refine blk_drew ?_ | refine blk_alloc ?_ _)); refine blk_put (cs := #[.slice Ao28 t247.length co28, .slice none 0 0]) ?_ 1 _ rfl; (with_reducible repeat (first | refine blk_drewN ?_ _ | refine blk_drew ?_ | refine blk_alloc ?_ _)); refine blk_put (cs := #[.slice none 0 0, .slice none 0 0]) ?_ 0 _ rfl; (with_reducible repeat (first | refine blk_drewN ?_ _ | refine blk_drew ?_ | refine blk_alloc ?_ _)); refine blk_far ?_ NB260_259.out _; (with_reducible repeat (first | refine blk_drewN ?_ _ | refine blk_drew ?_ | refine blk_alloc ?_ _)); refine blk_far ?_ NB260_259.out _; (with_reducible repeat (first | refine blk_drewN ?_ _ | refine blk_drew ?_ | refine blk_alloc ?_ _)); exact BK260.out⟩
  have n13_ : Aside0 (((((((w23.setCell ⟨gb259, 0, none⟩ (.slice Ao24 t241.length co24)).setCell ⟨gb259, 1, none⟩ (.slice Ao26 t244.length co26)).setCell ⟨gb260, 0, none⟩ (.slice Ao28 t247.length co28)).setCell ⟨gb260, 1, none⟩ (.slice Ao30 t250.length co30)).setCell ⟨gb261, 0, none⟩ (.slice Ao32 t253.length co32)).setCell ⟨gb261, 1, none⟩ (.slice Ao34 t256.length co34)).heap[gb261]? = some (.cells #[.slice Ao32 t253.length co32, .slice Ao34 t256.length co34] 30 (0, 0))) := ⟨by (with_reducible repeat (first | refine blk_drewN ?_ _ | refine blk_drew ?_ | refine blk_alloc ?_ _)); refine blk_put (cs := #[.slice Ao32 t253.length co32, .slice none 0 0]) ?_ 1 _ rfl; (with_reducible repeat (first | refine blk_drewN ?_ _ | refine blk_drew ?_ | refine blk_alloc ?_ _)); refine blk_put (cs := #[.slice none 0 0, .slice none 0 0]) ?_ 0 _ rfl; (with_reducible repeat (first | refine blk_drewN ?_ _ | refine blk_drew ?_ | refine blk_alloc ?_ _)); refine blk_far ?_ NB261_260.out _; (with_reducible repeat (first | refine blk_drewN ?_ _ | refine blk_drew ?_ | refine blk_alloc ?_ _)); refine blk_far ?_ NB261_260.out _; (with_reducible repeat (first | refine blk_drewN ?_ _ | refine blk_drew ?_ | refine blk_alloc ?_ _)); refine blk_far ?_ NB261_259.out _; (with_reducible repeat (first | refine blk_drewN ?_ _ | refine blk_drew ?_ | refine blk_alloc ?_ _)); refine blk_far ?_ NB261_259.out _; (with_reducible repeat (first | refine blk_drewN ?_ _ | refine blk_drew ?_ | refine blk_alloc ?_ _)); exact BK261.out⟩
  have n14_ : Aside0 (Below w.heap.size w ((((((w23.setCell ⟨gb259, 0, none⟩ (.slice Ao24 t241.length co24)).setCell ⟨gb259, 1, none⟩ (.slice Ao26 t244.length co26)).setCell ⟨gb260, 0, none⟩ (.slice Ao28 t247.length co28)).setCell ⟨gb260, 1, none⟩ (.slice Ao30 t250.length co30)).setCell ⟨gb261, 0, none⟩ (.slice Ao32 t253.length co32)).setCell ⟨gb261, 1, none⟩ (.slice Ao34 t256.length co34))) := ⟨by repeat (first | (with_reducible first | exact HB.out | apply below_alloc | apply pw_below_drewN | apply below_drew1 | refine below_set ?_ GE231.out | refine below_set ?_ GE232.out | refine below_set ?_ GE233.out | refine below_set ?_ GE259.out | refine below_set ?_ GE260.out | refine below_set ?_ GE261.out) | exact HB.out)⟩
  (try clear HO237)
  (try clear HO240)
  (try clear HO243)
  (try clear HO246)
  (try clear HO249)
  (try clear HO252)
  (try clear HO255)
  (try clear HO258)
  (try clear BK231)
  (try clear BK232)
  (try clear BK233)
  (try clear BK259)
  (try clear BK260)
  (try clear BK261)
  (try clear HB)
  generalize ((((((w23.setCell ⟨gb259, 0, none⟩ (.slice Ao24 t241.length co24)).setCell ⟨gb259, 1, none⟩ (.slice Ao26 t244.length co26)).setCell ⟨gb260, 0, none⟩ (.slice Ao28 t247.length co28)).setCell ⟨gb260, 1, none⟩ (.slice Ao30 t250.length co30)).setCell ⟨gb261, 0, none⟩ (.slice Ao32 t253.length co32)).setCell ⟨gb261, 1, none⟩ (.slice Ao34 t256.length co34)) = w38 at n0_ n1_ n2_ n3_ n4_ n5_ n6_ n7_ n8_ n9_ n10_ n11_ n12_ n13_ n14_ ⊢
  have HO237 := n0_
  have HO240 := n1_
  have HO243 := n2_
  have HO246 := n3_
  have HO249 := n4_
  have HO252 := n5_
  have HO255 := n6_
  have HO258 := n7_
  have BK231 := n8_
  have BK232 := n9_
  have BK233 := n10_
  have BK259 := n11_
  have BK260 := n12_
  have BK261 := n13_
  have HB := n14_
  clear n0_ n1_ n2_ n3_ n4_ n5_ n6_ n7_ n8_ n9_ n10_ n11_ n12_ n13_ n14_
  have KP := Aside0.mk (PK.mk HO237.out HO240.out HO243.out HO246.out HO249.out HO252.out HO255.out HO258.out BK231.out BK232.out BK233.out BK259.out BK260.out BK261.out HB.out : PK w gb231 gb232 gb233 #[.int .u8 a0_0, .int .u8 a0_1, .int .u8 a0_2, .int .u8 a0_3, .int .u8 a0_4, .int .u8 a0_5] #[.int .u8 a1_0, .int .u8 a1_1, .int .u8 a1_2, .int .u8 a1_3, .int .u8 a1_4, .int .u8 a1_5] #[.int .u8 a2_0, .int .u8 a2_1, .int .u8 a2_2, .int .u8 a2_3, .int .u8 a2_4, .int .u8 a2_5] v236 v239 t235 t238 t241 t247 t253 t244 t250 t256 (.slice Ao24 t241.length co24) (.slice Ao26 t244.length co26) (.slice Ao28 t247.length co28) (.slice Ao30 t250.length co30) (.slice Ao32 t253.length co32) (.slice Ao34 t256.length co34) gb259 gb260 gb261 w38)
  (try clear HO237)
  (try clear HO240)
  (try clear HO243)
  (try clear HO246)
  (try clear HO249)
  (try clear HO252)
  (try clear HO255)
  (try clear HO258)
  (try clear BK231)
  (try clear BK232)
  (try clear BK233)
  (try clear BK259)
  (try clear BK260)
  (try clear BK261)
  (try clear HB)
  go_cut [42] (fun v42 wc => ∃ (kq : Nat) (x42_9 : Bool), v42 = .bool x42_9 ∧ Aside0 (withelaw11_PostOrder.j0 kq t235 t238 x42_9 t241 t244 t247 t250 t253 t256 = some r) ∧ Aside0 (kq ≤ k) ∧ Aside0 (PK w gb231 gb232 gb233 #[.int .u8 a0_0, .int .u8 a0_1, .int .u8 a0_2, .int .u8 a0_3, .int .u8 a0_4, .int .u8 a0_5] #[.int .u8 a1_0, .int .u8 a1_1, .int .u8 a1_2, .int .u8 a1_3, .int .u8 a1_4, .int .u8 a1_5] #[.int .u8 a2_0, .int .u8 a2_1, .int .u8 a2_2, .int .u8 a2_3, .int .u8 a2_4, .int .u8 a2_5] v236 v239 t235 t238 t241 t247 t253 t244 t250 t256 (.slice Ao24 t241.length co24) (.slice Ao26 t244.length co26) (.slice Ao28 t247.length co28) (.slice Ao30 t250.length co30) (.slice Ao32 t253.length co32) (.slice Ao34 t256.length co34) gb259 gb260 gb261 wc))
  case first =>
   have H := HC10.out
   clear HC10
   replace H := Option.bind_eq_some_iff.mp H
   obtain ⟨t262, A360, H⟩ := H
   replace H : (if t262 = true then (withelaw11_PostOrder.j0 k t235 t238 true t241 t244 t247 t250 t253 t256) else ((post_Same.f k t241 t244 t241 t244).bind fun t263 => (if t263 = true then ((post_Same.f k t241 t244 t247 t250).bind fun t264 => ((post_Same.f k t247 t250 t241 t244).bind fun t265 => (withelaw11_PostOrder.j0 k t235 t238 (t264 != t265) t241 t244 t247 t250 t253 t256))) else (withelaw11_PostOrder.j0 k t235 t238 true t241 t244 t247 t250 t253 t256)))) = some r := H
   have A36 := Aside0.mk A360
   clear A360
   by_cases c37 : t262 = true
   ·subst c37
    have H1 : (withelaw11_PostOrder.j0 k t235 t238 true t241 t244 t247 t250 t253 t256) = some r := by rw [if_pos rfl] at H; exact H
    exact absurd H1 (by cases k <;> simp [withelaw11_PostOrder.j0])
   ·replace c37 := Bool.eq_false_iff.mpr c37
    subst c37
    have H1 : ((post_Same.f k t241 t244 t241 t244).bind fun t263 => (if t263 = true then ((post_Same.f k t241 t244 t247 t250).bind fun t264 => ((post_Same.f k t247 t250 t241 t244).bind fun t265 => (withelaw11_PostOrder.j0 k t235 t238 (t264 != t265) t241 t244 t247 t250 t253 t256))) else (withelaw11_PostOrder.j0 k t235 t238 true t241 t244 t247 t250 t253 t256))) = some r := by rw [if_neg (show ¬ (false = true) by decide)] at H; exact H
    clear H
    have H := H1
    clear H1
    replace H := Option.bind_eq_some_iff.mp H
    obtain ⟨t263, A410, H⟩ := H
    replace H : (if t263 = true then ((post_Same.f k t241 t244 t247 t250).bind fun t264 => ((post_Same.f k t247 t250 t241 t244).bind fun t265 => (withelaw11_PostOrder.j0 k t235 t238 (t264 != t265) t241 t244 t247 t250 t253 t256))) else (withelaw11_PostOrder.j0 k t235 t238 true t241 t244 t247 t250 t253 t256)) = some r := H
    have A41 := Aside0.mk A410
    clear A410
    by_cases c42 : t263 = true
    ·subst c42
     have H1 : ((post_Same.f k t241 t244 t247 t250).bind fun t264 => ((post_Same.f k t247 t250 t241 t244).bind fun t265 => (withelaw11_PostOrder.j0 k t235 t238 (t264 != t265) t241 t244 t247 t250 t253 t256))) = some r := by rw [if_pos rfl] at H; exact H
     clear H
     have H := H1
     clear H1
     replace H := Option.bind_eq_some_iff.mp H
     obtain ⟨t264, A430, H⟩ := H
     replace H : ((post_Same.f k t247 t250 t241 t244).bind fun t265 => (withelaw11_PostOrder.j0 k t235 t238 (t264 != t265) t241 t244 t247 t250 t253 t256)) = some r := H
     have A43 := Aside0.mk A430
     clear A430
     replace H := Option.bind_eq_some_iff.mp H
     obtain ⟨t265, A440, H⟩ := H
     replace H : (withelaw11_PostOrder.j0 k t235 t238 (t264 != t265) t241 t244 t247 t250 t253 t256) = some r := H
     have A44 := Aside0.mk A440
     clear A440
     have H' := Aside0.mk H
     clear H
     try go_wp2
     have n0_ := Aside0.mk (KP.out.drew)
     clear KP
     have KP := n0_
     clear n0_
     refine start_ (n := 18) (S := fun w' => w'.cell? ⟨gb259, 0, none⟩ = some (.slice Ao24 t241.length co24) ∧ w'.cell? ⟨gb259, 1, none⟩ = some (.slice Ao26 t244.length co26) ∧ w'.cell? ⟨gb260, 0, none⟩ = some (.slice Ao28 t247.length co28) ∧ w'.cell? ⟨gb260, 1, none⟩ = some (.slice Ao30 t250.length co30)) (ds := []) #[false, false, false, false, false, false, false, false, false, false, false, false, false, false, false, false, false, false] (by kernel_rfl) rfl rfl ⟨(blk_cell KP.out.c1 0).trans rfl, (blk_cell KP.out.c1 1).trans rfl, (blk_cell KP.out.c2 0).trans rfl, (blk_cell KP.out.c2 1).trans rfl⟩ (fun hHeld => ?_); refine with_tabW withelaw11_PostOrder.tab5 withelaw11_PostOrder.bits5 (fun HT_ HW_ => ?_)
     generalize w38.drew = w46 at KP hHeld ⊢
     refine take_ (i := 0) (N := some 25) (v := ?_) (a' := ?_) #[true, false, false, false, false, false, false, false, false, false, false, false, false, false, false, false, false, false] rfl rfl (take_ofW HT_.out HW_.out (by kernel_rfl)) (fun _ _ _ h => h) (Or.inl ⟨by rfl, ?_⟩) hHeld ?_ ?_
     rotate_left
     ·rintro w' ⟨s0, s1, s2, s3⟩
      go_simp
      with_reducible rfl
     rotate_left
     ·simp only [Act.put, List.setIfInBounds_toArray, List.set_cons_zero, List.set_cons_succ, i64_w, i32_w]
      rfl
     refine take_ (i := 1) (N := some 26) (v := ?_) (a' := ?_) #[true, true, false, false, false, false, false, false, false, false, false, false, false, false, false, false, false, false] rfl rfl (take_ofW HT_.out HW_.out (by kernel_rfl)) (fun _ _ _ h => h) (Or.inl ⟨by rfl, ?_⟩) hHeld ?_ ?_
     rotate_left
     ·rintro w' ⟨s0, s1, s2, s3⟩
      go_simp
      with_reducible rfl
     rotate_left
     ·simp only [Act.put, List.setIfInBounds_toArray, List.set_cons_zero, List.set_cons_succ, i64_w, i32_w]
      rfl
     refine one_ (i := 2) (N := some 27) #[true, true, true, false, false, false, false, false, false, false, false, false, false, false, false, false, false, false] rfl rfl (one_of HT_.out (by kernel_rfl)) (by decide) (fun K hK => ?_)
     refine goes_ Tryd.func14 (by kernel_rfl) rfl #[.agg #[.slice Ao24 t241.length co24, .slice Ao26 t244.length co26], .agg #[.slice Ao24 t241.length co24, .slice Ao26 t244.length co26]] (by rfl) rfl rfl (by (try simp only [List.map_toArray, List.map_cons, List.map_nil]); first | done | rfl | (simp only [List.length_drop, List.length_take]; rfl)) ?_
     with_reducible refine (post_Less.calls k _ _ t241 _ _ t244 _ _ t241 _ _ t244 false _ ?side1 ?side2 ?side3 ?side4 ?side5 ?side6 ?side7 ?side8 A36.out).mono ?_
     (case side1 => repeat (first | exact (Kd.N_reads' KP.out.n1).2.2 | (with_reducible refine Kd.C_alloc ?_ _) | (with_reducible refine Kd.C_drewN ?_ _) | (with_reducible refine Kd.C_drew ?_)))
     (case side2 => exact (Kd.N_reads' KP.out.n1).2.1)
     (case side3 => repeat (first | exact (Kd.R_reads' KP.out.m1).2.2 | (with_reducible refine Kd.C_alloc ?_ _) | (with_reducible refine Kd.C_drewN ?_ _) | (with_reducible refine Kd.C_drew ?_)))
     (case side4 => exact (Kd.R_reads' KP.out.m1).2.1)
     (case side5 => repeat (first | exact (Kd.N_reads' KP.out.n1).2.2 | (with_reducible refine Kd.C_alloc ?_ _) | (with_reducible refine Kd.C_drewN ?_ _) | (with_reducible refine Kd.C_drew ?_)))
     (case side6 => exact (Kd.N_reads' KP.out.n1).2.1)
     (case side7 => repeat (first | exact (Kd.R_reads' KP.out.m1).2.2 | (with_reducible refine Kd.C_alloc ?_ _) | (with_reducible refine Kd.C_drewN ?_ _) | (with_reducible refine Kd.C_drew ?_)))
     (case side8 => exact (Kd.R_reads' KP.out.m1).2.1)
     rintro e w47 ⟨rfl, hb⟩
     refine ⟨_, rfl, ?_⟩
     have n0_ := Aside0.mk (KP.out.step hb rfl (by repeat (first | (with_reducible first | exact KP.out.hb | apply below_alloc | apply pw_below_drewN | apply below_drew1) | exact KP.out.hb)))
     clear KP
     have KP := n0_
     clear n0_
     (try clear hb)
     (try clear hb2)
     (try clear hk)
     (try clear hi)
     refine hK.out _ _ ⟨(blk_cell KP.out.c1 0).trans rfl, (blk_cell KP.out.c1 1).trans rfl, (blk_cell KP.out.c2 0).trans rfl, (blk_cell KP.out.c2 1).trans rfl⟩ (fun hHeld => ?_)
     clear hK K
     refine norm_ (a' := ?_) ?_ ?_
     rotate_left
     ·show Act.put _ (some 27) _ = _
      simp only [Act.put, List.setIfInBounds_toArray, List.set_cons_zero, List.set_cons_succ, i64_w, i32_w]
      rfl
     refine pure_ (i := 3) (N := some 28) (v := ?_) (a' := ?_) #[true, true, true, true, false, false, false, false, false, false, false, false, false, false, false, false, false, false] rfl rfl (any_of HT_.out (by kernel_rfl)) (fun _ _ _ h => h) (Or.inl ⟨by rfl, ?_⟩) ?_ ?_
     rotate_left
     ·intro w'
      go_simp
      with_reducible rfl
     rotate_left
     ·simp only [Act.put, List.setIfInBounds_toArray, List.set_cons_zero, List.set_cons_succ, i64_w, i32_w]
      rfl
     refine take_ (i := 4) (N := some 29) (v := ?_) (a' := ?_) #[true, true, true, true, true, false, false, false, false, false, false, false, false, false, false, false, false, false] rfl rfl (take_ofW HT_.out HW_.out (by kernel_rfl)) (fun _ _ _ h => h) (Or.inl ⟨by rfl, ?_⟩) hHeld ?_ ?_
     rotate_left
     ·rintro w' ⟨s0, s1, s2, s3⟩
      go_simp
      with_reducible rfl
     rotate_left
     ·simp only [Act.put, List.setIfInBounds_toArray, List.set_cons_zero, List.set_cons_succ, i64_w, i32_w]
      rfl
     refine take_ (i := 5) (N := some 30) (v := ?_) (a' := ?_) #[true, true, true, true, true, true, false, false, false, false, false, false, false, false, false, false, false, false] rfl rfl (take_ofW HT_.out HW_.out (by kernel_rfl)) (fun _ _ _ h => h) (Or.inl ⟨by rfl, ?_⟩) hHeld ?_ ?_
     rotate_left
     ·rintro w' ⟨s0, s1, s2, s3⟩
      go_simp
      with_reducible rfl
     rotate_left
     ·simp only [Act.put, List.setIfInBounds_toArray, List.set_cons_zero, List.set_cons_succ, i64_w, i32_w]
      rfl
     refine one_ (i := 6) (N := some 31) #[true, true, true, true, true, true, true, false, false, false, false, false, false, false, false, false, false, false] rfl rfl (one_of HT_.out (by kernel_rfl)) (by decide) (fun K hK => ?_)
     refine goes_ Tryd.func12 (by kernel_rfl) rfl #[.agg #[.slice Ao24 t241.length co24, .slice Ao26 t244.length co26], .agg #[.slice Ao24 t241.length co24, .slice Ao26 t244.length co26]] (by rfl) rfl rfl (by (try simp only [List.map_toArray, List.map_cons, List.map_nil]); first | done | rfl | (simp only [List.length_drop, List.length_take]; rfl)) ?_
     with_reducible refine (post_Same.calls k _ _ t241 _ _ t244 _ _ t241 _ _ t244 true _ ?side1 ?side2 ?side3 ?side4 ?side5 ?side6 ?side7 ?side8 A41.out).mono ?_
     (case side1 => repeat (first | exact (Kd.N_reads' KP.out.n1).2.2 | (with_reducible refine Kd.C_alloc ?_ _) | (with_reducible refine Kd.C_drewN ?_ _) | (with_reducible refine Kd.C_drew ?_)))
     (case side2 => exact (Kd.N_reads' KP.out.n1).2.1)
     (case side3 => repeat (first | exact (Kd.R_reads' KP.out.m1).2.2 | (with_reducible refine Kd.C_alloc ?_ _) | (with_reducible refine Kd.C_drewN ?_ _) | (with_reducible refine Kd.C_drew ?_)))
     (case side4 => exact (Kd.R_reads' KP.out.m1).2.1)
     (case side5 => repeat (first | exact (Kd.N_reads' KP.out.n1).2.2 | (with_reducible refine Kd.C_alloc ?_ _) | (with_reducible refine Kd.C_drewN ?_ _) | (with_reducible refine Kd.C_drew ?_)))
     (case side6 => exact (Kd.N_reads' KP.out.n1).2.1)
     (case side7 => repeat (first | exact (Kd.R_reads' KP.out.m1).2.2 | (with_reducible refine Kd.C_alloc ?_ _) | (with_reducible refine Kd.C_drewN ?_ _) | (with_reducible refine Kd.C_drew ?_)))
     (case side8 => exact (Kd.R_reads' KP.out.m1).2.1)
     rintro e w48 ⟨rfl, hb⟩
     refine ⟨_, rfl, ?_⟩
     have n0_ := Aside0.mk (KP.out.step hb rfl (by repeat (first | (with_reducible first | exact KP.out.hb | apply below_alloc | apply pw_below_drewN | apply below_drew1) | exact KP.out.hb)))
     clear KP
     have KP := n0_
     clear n0_
     (try clear hb)
     (try clear hb2)
     (try clear hk)
     (try clear hi)
     refine hK.out _ _ ⟨(blk_cell KP.out.c1 0).trans rfl, (blk_cell KP.out.c1 1).trans rfl, (blk_cell KP.out.c2 0).trans rfl, (blk_cell KP.out.c2 1).trans rfl⟩ (fun hHeld => ?_)
     clear hK K
     refine norm_ (a' := ?_) ?_ ?_
     rotate_left
     ·show Act.put _ (some 31) _ = _
      simp only [Act.put, List.setIfInBounds_toArray, List.set_cons_zero, List.set_cons_succ, i64_w, i32_w]
      rfl
     refine pure_ (i := 7) (N := some 32) (v := ?_) (a' := ?_) #[true, true, true, true, true, true, true, true, false, false, false, false, false, false, false, false, false, false] rfl rfl (any_of HT_.out (by kernel_rfl)) (fun _ _ _ h => h) (Or.inl ⟨by rfl, ?_⟩) ?_ ?_
     rotate_left
     ·intro w'
      go_simp
      with_reducible rfl
     rotate_left
     ·simp only [Act.put, List.setIfInBounds_toArray, List.set_cons_zero, List.set_cons_succ, i64_w, i32_w]
      rfl
     refine pure_ (i := 8) (N := some 33) (v := ?_) (a' := ?_) #[true, true, true, true, true, true, true, true, true, false, false, false, false, false, false, false, false, false] rfl rfl (any_of HT_.out (by kernel_rfl)) (fun _ _ _ h => h) (Or.inl ⟨by rfl, ?_⟩) ?_ ?_
     rotate_left
     ·intro w'
      go_simp
      with_reducible rfl
     rotate_left
     ·simp only [Act.put, List.setIfInBounds_toArray, List.set_cons_zero, List.set_cons_succ, i64_w, i32_w]
      rfl
     refine pure_ (i := 9) (N := some 34) (v := ?_) (a' := ?_) #[true, true, true, true, true, true, true, true, true, true, false, false, false, false, false, false, false, false] rfl rfl (any_of HT_.out (by kernel_rfl)) (fun _ _ _ h => h) (Or.inl ⟨by rfl, ?_⟩) ?_ ?_
     rotate_left
     ·intro w'
      go_simp
      with_reducible rfl
     rotate_left
     ·simp only [Act.put, List.setIfInBounds_toArray, List.set_cons_zero, List.set_cons_succ, i64_w, i32_w]
      rfl
     refine take_ (i := 10) (N := some 35) (v := ?_) (a' := ?_) #[true, true, true, true, true, true, true, true, true, true, true, false, false, false, false, false, false, false] rfl rfl (take_ofW HT_.out HW_.out (by kernel_rfl)) (fun _ _ _ h => h) (Or.inl ⟨by rfl, ?_⟩) hHeld ?_ ?_
     rotate_left
     ·rintro w' ⟨s0, s1, s2, s3⟩
      go_simp
      with_reducible rfl
     rotate_left
     ·simp only [Act.put, List.setIfInBounds_toArray, List.set_cons_zero, List.set_cons_succ, i64_w, i32_w]
      rfl
     refine take_ (i := 11) (N := some 36) (v := ?_) (a' := ?_) #[true, true, true, true, true, true, true, true, true, true, true, true, false, false, false, false, false, false] rfl rfl (take_ofW HT_.out HW_.out (by kernel_rfl)) (fun _ _ _ h => h) (Or.inl ⟨by rfl, ?_⟩) hHeld ?_ ?_
     rotate_left
     ·rintro w' ⟨s0, s1, s2, s3⟩
      go_simp
      with_reducible rfl
     rotate_left
     ·simp only [Act.put, List.setIfInBounds_toArray, List.set_cons_zero, List.set_cons_succ, i64_w, i32_w]
      rfl
     refine take_ (i := 13) (N := some 38) (v := ?_) (a' := ?_) #[true, true, true, true, true, true, true, true, true, true, true, true, false, true, false, false, false, false] rfl rfl (take_ofW HT_.out HW_.out (by kernel_rfl)) (fun _ _ _ h => h) (Or.inl ⟨by rfl, ?_⟩) hHeld ?_ ?_
     rotate_left
     ·rintro w' ⟨s0, s1, s2, s3⟩
      go_simp
      with_reducible rfl
     rotate_left
     ·simp only [Act.put, List.setIfInBounds_toArray, List.set_cons_zero, List.set_cons_succ, i64_w, i32_w]
      rfl
     refine take_ (i := 14) (N := some 39) (v := ?_) (a' := ?_) #[true, true, true, true, true, true, true, true, true, true, true, true, false, true, true, false, false, false] rfl rfl (take_ofW HT_.out HW_.out (by kernel_rfl)) (fun _ _ _ h => h) (Or.inl ⟨by rfl, ?_⟩) hHeld ?_ ?_
     rotate_left
     ·rintro w' ⟨s0, s1, s2, s3⟩
      go_simp
      with_reducible rfl
     rotate_left
     ·simp only [Act.put, List.setIfInBounds_toArray, List.set_cons_zero, List.set_cons_succ, i64_w, i32_w]
      rfl
     refine one_ (i := 12) (N := some 37) #[true, true, true, true, true, true, true, true, true, true, true, true, true, true, true, false, false, false] rfl rfl (one_of HT_.out (by kernel_rfl)) (by decide) (fun K hK => ?_)
     refine goes_ Tryd.func12 (by kernel_rfl) rfl #[.agg #[.slice Ao24 t241.length co24, .slice Ao26 t244.length co26], .agg #[.slice Ao28 t247.length co28, .slice Ao30 t250.length co30]] (by rfl) rfl rfl (by (try simp only [List.map_toArray, List.map_cons, List.map_nil]); first | done | rfl | (simp only [List.length_drop, List.length_take]; rfl)) ?_
     with_reducible refine (post_Same.calls k _ _ t241 _ _ t244 _ _ t247 _ _ t250 t264 _ ?side1 ?side2 ?side3 ?side4 ?side5 ?side6 ?side7 ?side8 A43.out).mono ?_
     (case side1 => repeat (first | exact (Kd.N_reads' KP.out.n1).2.2 | (with_reducible refine Kd.C_alloc ?_ _) | (with_reducible refine Kd.C_drewN ?_ _) | (with_reducible refine Kd.C_drew ?_)))
     (case side2 => exact (Kd.N_reads' KP.out.n1).2.1)
     (case side3 => repeat (first | exact (Kd.R_reads' KP.out.m1).2.2 | (with_reducible refine Kd.C_alloc ?_ _) | (with_reducible refine Kd.C_drewN ?_ _) | (with_reducible refine Kd.C_drew ?_)))
     (case side4 => exact (Kd.R_reads' KP.out.m1).2.1)
     (case side5 => repeat (first | exact (Kd.N_reads' KP.out.n2).2.2 | (with_reducible refine Kd.C_alloc ?_ _) | (with_reducible refine Kd.C_drewN ?_ _) | (with_reducible refine Kd.C_drew ?_)))
     (case side6 => exact (Kd.N_reads' KP.out.n2).2.1)
     (case side7 => repeat (first | exact (Kd.R_reads' KP.out.m2).2.2 | (with_reducible refine Kd.C_alloc ?_ _) | (with_reducible refine Kd.C_drewN ?_ _) | (with_reducible refine Kd.C_drew ?_)))
     (case side8 => exact (Kd.R_reads' KP.out.m2).2.1)
     rintro e w49 ⟨rfl, hb⟩
     refine ⟨_, rfl, ?_⟩
     have n0_ := Aside0.mk (KP.out.step hb rfl (by repeat (first | (with_reducible first | exact KP.out.hb | apply below_alloc | apply pw_below_drewN | apply below_drew1) | exact KP.out.hb)))
     clear KP
     have KP := n0_
     clear n0_
     (try clear hb)
     (try clear hb2)
     (try clear hk)
     (try clear hi)
     refine hK.out _ _ ⟨(blk_cell KP.out.c1 0).trans rfl, (blk_cell KP.out.c1 1).trans rfl, (blk_cell KP.out.c2 0).trans rfl, (blk_cell KP.out.c2 1).trans rfl⟩ (fun hHeld => ?_)
     clear hK K
     refine norm_ (a' := ?_) ?_ ?_
     rotate_left
     ·show Act.put _ (some 37) _ = _
      simp only [Act.put, List.setIfInBounds_toArray, List.set_cons_zero, List.set_cons_succ, i64_w, i32_w]
      rfl
     refine one_ (i := 15) (N := some 40) #[true, true, true, true, true, true, true, true, true, true, true, true, true, true, true, true, false, false] rfl rfl (one_of HT_.out (by kernel_rfl)) (by decide) (fun K hK => ?_)
     refine goes_ Tryd.func12 (by kernel_rfl) rfl #[.agg #[.slice Ao28 t247.length co28, .slice Ao30 t250.length co30], .agg #[.slice Ao24 t241.length co24, .slice Ao26 t244.length co26]] (by rfl) rfl rfl (by (try simp only [List.map_toArray, List.map_cons, List.map_nil]); first | done | rfl | (simp only [List.length_drop, List.length_take]; rfl)) ?_
     with_reducible refine (post_Same.calls k _ _ t247 _ _ t250 _ _ t241 _ _ t244 t265 _ ?side1 ?side2 ?side3 ?side4 ?side5 ?side6 ?side7 ?side8 A44.out).mono ?_
     (case side1 => repeat (first | exact (Kd.N_reads' KP.out.n2).2.2 | (with_reducible refine Kd.C_alloc ?_ _) | (with_reducible refine Kd.C_drewN ?_ _) | (with_reducible refine Kd.C_drew ?_)))
     (case side2 => exact (Kd.N_reads' KP.out.n2).2.1)
     (case side3 => repeat (first | exact (Kd.R_reads' KP.out.m2).2.2 | (with_reducible refine Kd.C_alloc ?_ _) | (with_reducible refine Kd.C_drewN ?_ _) | (with_reducible refine Kd.C_drew ?_)))
     (case side4 => exact (Kd.R_reads' KP.out.m2).2.1)
     (case side5 => repeat (first | exact (Kd.N_reads' KP.out.n1).2.2 | (with_reducible refine Kd.C_alloc ?_ _) | (with_reducible refine Kd.C_drewN ?_ _) | (with_reducible refine Kd.C_drew ?_)))
     (case side6 => exact (Kd.N_reads' KP.out.n1).2.1)
     (case side7 => repeat (first | exact (Kd.R_reads' KP.out.m1).2.2 | (with_reducible refine Kd.C_alloc ?_ _) | (with_reducible refine Kd.C_drewN ?_ _) | (with_reducible refine Kd.C_drew ?_)))
     (case side8 => exact (Kd.R_reads' KP.out.m1).2.1)
     rintro e w50 ⟨rfl, hb⟩
     refine ⟨_, rfl, ?_⟩
     have n0_ := Aside0.mk (KP.out.step hb rfl (by repeat (first | (with_reducible first | exact KP.out.hb | apply below_alloc | apply pw_below_drewN | apply below_drew1) | exact KP.out.hb)))
     clear KP
     have KP := n0_
     clear n0_
     (try clear hb)
     (try clear hb2)
     (try clear hk)
     (try clear hi)
     refine hK.out _ _ ⟨(blk_cell KP.out.c1 0).trans rfl, (blk_cell KP.out.c1 1).trans rfl, (blk_cell KP.out.c2 0).trans rfl, (blk_cell KP.out.c2 1).trans rfl⟩ (fun hHeld => ?_)
     clear hK K
     refine norm_ (a' := ?_) ?_ ?_
     rotate_left
     ·show Act.put _ (some 40) _ = _
      simp only [Act.put, List.setIfInBounds_toArray, List.set_cons_zero, List.set_cons_succ, i64_w, i32_w]
      rfl
     refine pure_ (i := 16) (N := some 41) (v := ?_) (a' := ?_) #[true, true, true, true, true, true, true, true, true, true, true, true, true, true, true, true, true, false] rfl rfl (any_of HT_.out (by kernel_rfl)) (fun _ _ _ h => h) (Or.inl ⟨by rfl, ?_⟩) ?_ ?_
     rotate_left
     ·intro w'
      go_simp
      with_reducible rfl
     rotate_left
     ·simp only [Act.put, List.setIfInBounds_toArray, List.set_cons_zero, List.set_cons_succ, i64_w, i32_w]
      rfl
     refine pure_ (i := 17) (N := some 42) (v := ?_) (a' := ?_) #[true, true, true, true, true, true, true, true, true, true, true, true, true, true, true, true, true, true] rfl rfl (any_of HT_.out (by kernel_rfl)) (fun _ _ _ h => h) (Or.inl ⟨by rfl, ?_⟩) ?_ ?_
     rotate_left
     ·intro w'
      go_simp
      with_reducible rfl
     rotate_left
     ·simp only [Act.put, List.setIfInBounds_toArray, List.set_cons_zero, List.set_cons_succ, i64_w, i32_w]
      rfl
     refine done_ (done_of HT_.out (by kernel_rfl)) ?_
     try go_wp2
     go_meet
     case rel => exact ⟨_, ((t264 != t265)), (by first | rfl | (simp; done) | (simp [*]; done)), H', ⟨by first | omega | exact Nat.le_refl _⟩, ⟨by first | exact KP.out | exact KP.out.drew⟩⟩
    ·replace c42 := Bool.eq_false_iff.mpr c42
     subst c42
     have H1 : (withelaw11_PostOrder.j0 k t235 t238 true t241 t244 t247 t250 t253 t256) = some r := by rw [if_neg (show ¬ (false = true) by decide)] at H; exact H
     exact absurd H1 (by cases k <;> simp [withelaw11_PostOrder.j0])
  case rest =>
   clear HC10
   try clear c1
   try clear p2
   try clear c4
   try clear c12
   try clear c14
   try clear c42
   obtain ⟨kq, x42_9, rfl, HA, HJ9, KP⟩ := hcut
   cases kq with
   | zero => exact absurd HA.out (by simp [withelaw11_PostOrder.j0])
   | succ kj9 =>
    have H := HA.out
    clear HA
    simp only [withelaw11_PostOrder.j0] at H
    by_cases c55 : x42_9 = true
    ·subst c55
     have H1 : (none) = some r := by rw [if_pos rfl] at H; exact H
     clear H
     have H := H1
     clear H1
     exact absurd H (by simp)
    ·replace c55 := Bool.eq_false_iff.mpr c55
     subst c55
     have H1 : ((post_Less.f kj9 t241 t244 t247 t250).bind fun t266 => (if t266 = true then (withelaw11_PostOrder.j1 kj9 t235 t238 (0 + 1) t241 t244 t247 t250 t253 t256) else (withelaw11_PostOrder.j1 kj9 t235 t238 0 t241 t244 t247 t250 t253 t256))) = some r := by rw [if_neg (show ¬ (false = true) by decide)] at H; exact H
     clear H
     have H := H1
     clear H1
     replace H := Option.bind_eq_some_iff.mp H
     obtain ⟨t266, A560, H⟩ := H
     replace H : (if t266 = true then (withelaw11_PostOrder.j1 kj9 t235 t238 (0 + 1) t241 t244 t247 t250 t253 t256) else (withelaw11_PostOrder.j1 kj9 t235 t238 0 t241 t244 t247 t250 t253 t256)) = some r := H
     have A56 := Aside0.mk A560
     clear A560
     have HC57 := Aside0.mk H
     clear H
     have hnb58 := NB259_231.out
     have hnc58 := NB231_259.out
     have hnb59 := NB259_232.out
     have hnc59 := NB232_259.out
     have hnb60 := NB259_233.out
     have hnc60 := NB233_259.out
     have hnb61 := NB259_260.out
     have hnc61 := NB260_259.out
     have hnb62 := NB259_261.out
     have hnc62 := NB261_259.out
     have hcz63_0 : wc.cell? ⟨gb259, 0, none⟩ = some (.slice Ao24 t241.length co24) := (blk_cell KP.out.c1 0).trans rfl
     have hcz63_1 : wc.cell? ⟨gb259, 1, none⟩ = some (.slice Ao26 t244.length co26) := (blk_cell KP.out.c1 1).trans rfl
     have hfz63_0 := blk_frozen KP.out.c1 0
     have hfz63_1 := blk_frozen KP.out.c1 1
     have hnb64 := NB260_231.out
     have hnc64 := NB231_260.out
     have hnb65 := NB260_232.out
     have hnc65 := NB232_260.out
     have hnb66 := NB260_233.out
     have hnc66 := NB233_260.out
     have hnb67 := NB260_261.out
     have hnc67 := NB261_260.out
     have hcz68_0 : wc.cell? ⟨gb260, 0, none⟩ = some (.slice Ao28 t247.length co28) := (blk_cell KP.out.c2 0).trans rfl
     have hcz68_1 : wc.cell? ⟨gb260, 1, none⟩ = some (.slice Ao30 t250.length co30) := (blk_cell KP.out.c2 1).trans rfl
     have hfz68_0 := blk_frozen KP.out.c2 0
     have hfz68_1 := blk_frozen KP.out.c2 1
     go_upto_if 45 with (first | ((with_reducible refine gate_callee (f := 14) rfl ?_); refine goesL_ (some 45) rfl rfl Tryd.func14 (by kernel_rfl) rfl #[.agg #[.slice Ao24 t241.length co24, .slice Ao26 t244.length co26], .agg #[.slice Ao28 t247.length co28, .slice Ao30 t250.length co30]] rfl (by (try simp only [List.map_toArray, List.map_cons, List.map_nil]); first | done | rfl | (simp only [List.length_drop, List.length_take]; rfl)) ?_; (with_reducible refine (post_Less.calls kj9 _ _ t241 _ _ t244 _ _ t247 _ _ t250 t266 _ ?side1 ?side2 ?side3 ?side4 ?side5 ?side6 ?side7 ?side8 A56.out).mono ?_); (case side1 => repeat (first | exact (Kd.N_reads' KP.out.n1).2.2 | (with_reducible refine Kd.C_alloc ?_ _) | (with_reducible refine Kd.C_drewN ?_ _) | (with_reducible refine Kd.C_drew ?_))); (case side2 => exact (Kd.N_reads' KP.out.n1).2.1); (case side3 => repeat (first | exact (Kd.R_reads' KP.out.m1).2.2 | (with_reducible refine Kd.C_alloc ?_ _) | (with_reducible refine Kd.C_drewN ?_ _) | (with_reducible refine Kd.C_drew ?_))); (case side4 => exact (Kd.R_reads' KP.out.m1).2.1); (case side5 => repeat (first | exact (Kd.N_reads' KP.out.n2).2.2 | (with_reducible refine Kd.C_alloc ?_ _) | (with_reducible refine Kd.C_drewN ?_ _) | (with_reducible refine Kd.C_drew ?_))); (case side6 => exact (Kd.N_reads' KP.out.n2).2.1); (case side7 => repeat (first | exact (Kd.R_reads' KP.out.m2).2.2 | (with_reducible refine Kd.C_alloc ?_ _) | (with_reducible refine Kd.C_drewN ?_ _) | (with_reducible refine Kd.C_drew ?_))); (case side8 => exact (Kd.R_reads' KP.out.m2).2.1); rintro e w69 ⟨rfl, hb⟩; refine ⟨_, rfl, ?_⟩; have n0_ := Aside0.mk (KP.out.step hb rfl (by repeat (first | (with_reducible first | exact KP.out.hb | apply below_alloc | apply pw_below_drewN | apply below_drew1) | exact KP.out.hb))); clear KP; have KP := n0_; clear n0_; (try clear hb); (try clear hb2); (try clear hk); (try clear hi)))
     (try simp only [Act.put, List.setIfInBounds_toArray, List.set_cons_zero, List.set_cons_succ])
     go_cut [12] (fun v12 wc => ∃ (kq : Nat) (x12_56 : Int), v12 = .int .i64 x12_56 ∧ Aside0 (withelaw11_PostOrder.j1 kq t235 t238 x12_56 t241 t244 t247 t250 t253 t256 = some r) ∧ Aside0 (kq ≤ kj9) ∧ Aside0 (PK w gb231 gb232 gb233 #[.int .u8 a0_0, .int .u8 a0_1, .int .u8 a0_2, .int .u8 a0_3, .int .u8 a0_4, .int .u8 a0_5] #[.int .u8 a1_0, .int .u8 a1_1, .int .u8 a1_2, .int .u8 a1_3, .int .u8 a1_4, .int .u8 a1_5] #[.int .u8 a2_0, .int .u8 a2_1, .int .u8 a2_2, .int .u8 a2_3, .int .u8 a2_4, .int .u8 a2_5] v236 v239 t235 t238 t241 t247 t253 t244 t250 t256 (.slice Ao24 t241.length co24) (.slice Ao26 t244.length co26) (.slice Ao28 t247.length co28) (.slice Ao30 t250.length co30) (.slice Ao32 t253.length co32) (.slice Ao34 t256.length co34) gb259 gb260 gb261 wc))
     case first =>
      have H := HC57.out
      clear HC57
      by_cases c70 : t266 = true
      ·subst c70
       have H1 : (withelaw11_PostOrder.j1 kj9 t235 t238 (0 + 1) t241 t244 t247 t250 t253 t256) = some r := by rw [if_pos rfl] at H; exact H
       clear H
       have H := H1
       clear H1
       have H' := Aside0.mk H
       clear H
       go_wp2
       go_meet
       case rel => exact ⟨_, (0 + 1), (by first | rfl | (simp; done) | (simp [*]; done)), H', ⟨by have := HJ9.out; first | omega | exact Nat.le_refl _⟩, ⟨by first | exact KP.out | exact KP.out.drew⟩⟩
      ·replace c70 := Bool.eq_false_iff.mpr c70
       subst c70
       have H1 : (withelaw11_PostOrder.j1 kj9 t235 t238 0 t241 t244 t247 t250 t253 t256) = some r := by rw [if_neg (show ¬ (false = true) by decide)] at H; exact H
       clear H
       have H := H1
       clear H1
       have H' := Aside0.mk H
       clear H
       go_wp2
       go_meet
       case rel => exact ⟨_, (0), (by first | rfl | (simp; done) | (simp [*]; done)), H', ⟨by have := HJ9.out; first | omega | exact Nat.le_refl _⟩, ⟨by first | exact KP.out | exact KP.out.drew⟩⟩
     case rest =>
      clear HC57
      try clear c1
      try clear p2
      try clear c4
      try clear c5
      try clear c6
      try clear c7
      try clear c12
      try clear c14
      try clear c42
      try clear c55
      try clear c58
      try clear c59
      try clear c60
      try clear c61
      try clear c62
      try clear c64
      try clear c65
      try clear c66
      try clear c67
      try clear c70
      try clear hcz63_0
      try clear hcz63_1
      try clear hcz68_0
      try clear hcz68_1
      try clear hfz63_0
      try clear hfz63_1
      try clear hfz68_0
      try clear hfz68_1
      try clear p2
      obtain ⟨kq, x12_56, rfl, HA, HJ56, KP⟩ := hcut
      cases kq with
      | zero => exact absurd HA.out (by simp [withelaw11_PostOrder.j1])
      | succ kj56 =>
       have H := HA.out
       clear HA
       simp only [withelaw11_PostOrder.j1] at H
       replace H := Option.bind_eq_some_iff.mp H
       obtain ⟨t267, A710, H⟩ := H
       replace H : (if t267 = true then (withelaw11_PostOrder.j2 kj56 t235 t238 (wrap64 (x12_56 + 1)) t241 t244 t247 t250 t253 t256) else (withelaw11_PostOrder.j2 kj56 t235 t238 x12_56 t241 t244 t247 t250 t253 t256)) = some r := H
       have A71 := Aside0.mk A710
       clear A710
       have HC72 := Aside0.mk H
       clear H
       have hnb73 := NB260_231.out
       have hnc73 := NB231_260.out
       have hnb74 := NB260_232.out
       have hnc74 := NB232_260.out
       have hnb75 := NB260_233.out
       have hnc75 := NB233_260.out
       have hnb76 := NB260_259.out
       have hnc76 := NB259_260.out
       have hnb77 := NB260_261.out
       have hnc77 := NB261_260.out
       have hcz78_0 : wc.cell? ⟨gb260, 0, none⟩ = some (.slice Ao28 t247.length co28) := (blk_cell KP.out.c2 0).trans rfl
       have hcz78_1 : wc.cell? ⟨gb260, 1, none⟩ = some (.slice Ao30 t250.length co30) := (blk_cell KP.out.c2 1).trans rfl
       have hfz78_0 := blk_frozen KP.out.c2 0
       have hfz78_1 := blk_frozen KP.out.c2 1
       have hnb79 := NB259_231.out
       have hnc79 := NB231_259.out
       have hnb80 := NB259_232.out
       have hnc80 := NB232_259.out
       have hnb81 := NB259_233.out
       have hnc81 := NB233_259.out
       have hnb82 := NB259_261.out
       have hnc82 := NB261_259.out
       have hcz83_0 : wc.cell? ⟨gb259, 0, none⟩ = some (.slice Ao24 t241.length co24) := (blk_cell KP.out.c1 0).trans rfl
       have hcz83_1 : wc.cell? ⟨gb259, 1, none⟩ = some (.slice Ao26 t244.length co26) := (blk_cell KP.out.c1 1).trans rfl
       have hfz83_0 := blk_frozen KP.out.c1 0
       have hfz83_1 := blk_frozen KP.out.c1 1
       go_upto_if 50 with (first | ((with_reducible refine gate_callee (f := 14) rfl ?_); refine goesL_ (some 50) rfl rfl Tryd.func14 (by kernel_rfl) rfl #[.agg #[.slice Ao28 t247.length co28, .slice Ao30 t250.length co30], .agg #[.slice Ao24 t241.length co24, .slice Ao26 t244.length co26]] rfl (by (try simp only [List.map_toArray, List.map_cons, List.map_nil]); first | done | rfl | (simp only [List.length_drop, List.length_take]; rfl)) ?_; (with_reducible refine (post_Less.calls kj56 _ _ t247 _ _ t250 _ _ t241 _ _ t244 t267 _ ?side1 ?side2 ?side3 ?side4 ?side5 ?side6 ?side7 ?side8 A71.out).mono ?_); (case side1 => repeat (first | exact (Kd.N_reads' KP.out.n2).2.2 | (with_reducible refine Kd.C_alloc ?_ _) | (with_reducible refine Kd.C_drewN ?_ _) | (with_reducible refine Kd.C_drew ?_))); (case side2 => exact (Kd.N_reads' KP.out.n2).2.1); (case side3 => repeat (first | exact (Kd.R_reads' KP.out.m2).2.2 | (with_reducible refine Kd.C_alloc ?_ _) | (with_reducible refine Kd.C_drewN ?_ _) | (with_reducible refine Kd.C_drew ?_))); (case side4 => exact (Kd.R_reads' KP.out.m2).2.1); (case side5 => repeat (first | exact (Kd.N_reads' KP.out.n1).2.2 | (with_reducible refine Kd.C_alloc ?_ _) | (with_reducible refine Kd.C_drewN ?_ _) | (with_reducible refine Kd.C_drew ?_))); (case side6 => exact (Kd.N_reads' KP.out.n1).2.1); (case side7 => repeat (first | exact (Kd.R_reads' KP.out.m1).2.2 | (with_reducible refine Kd.C_alloc ?_ _) | (with_reducible refine Kd.C_drewN ?_ _) | (with_reducible refine Kd.C_drew ?_))); (case side8 => exact (Kd.R_reads' KP.out.m1).2.1); rintro e w84 ⟨rfl, hb⟩; refine ⟨_, rfl, ?_⟩; have n0_ := Aside0.mk (KP.out.step hb rfl (by repeat (first | (with_reducible first | exact KP.out.hb | apply below_alloc | apply pw_below_drewN | apply below_drew1) | exact KP.out.hb))); clear KP; have KP := n0_; clear n0_; (try clear hb); (try clear hb2); (try clear hk); (try clear hi)))
       (try simp only [Act.put, List.setIfInBounds_toArray, List.set_cons_zero, List.set_cons_succ])
       go_cut [12] (fun v12 wc => ∃ (kq : Nat) (x12_71 : Int), v12 = .int .i64 x12_71 ∧ Aside0 (withelaw11_PostOrder.j2 kq t235 t238 x12_71 t241 t244 t247 t250 t253 t256 = some r) ∧ Aside0 (kq ≤ kj56) ∧ Aside0 (PK w gb231 gb232 gb233 #[.int .u8 a0_0, .int .u8 a0_1, .int .u8 a0_2, .int .u8 a0_3, .int .u8 a0_4, .int .u8 a0_5] #[.int .u8 a1_0, .int .u8 a1_1, .int .u8 a1_2, .int .u8 a1_3, .int .u8 a1_4, .int .u8 a1_5] #[.int .u8 a2_0, .int .u8 a2_1, .int .u8 a2_2, .int .u8 a2_3, .int .u8 a2_4, .int .u8 a2_5] v236 v239 t235 t238 t241 t247 t253 t244 t250 t256 (.slice Ao24 t241.length co24) (.slice Ao26 t244.length co26) (.slice Ao28 t247.length co28) (.slice Ao30 t250.length co30) (.slice Ao32 t253.length co32) (.slice Ao34 t256.length co34) gb259 gb260 gb261 wc))
       case first =>
        have H := HC72.out
        clear HC72
        by_cases c85 : t267 = true
        ·subst c85
         have H1 : (withelaw11_PostOrder.j2 kj56 t235 t238 (wrap64 (x12_56 + 1)) t241 t244 t247 t250 t253 t256) = some r := by rw [if_pos rfl] at H; exact H
         clear H
         have H := H1
         clear H1
         have H' := Aside0.mk H
         clear H
         go_wp2
         go_meet
         case rel => exact ⟨_, (wrap64 (x12_56 + 1)), (by first | rfl | (simp; done) | (simp [*]; done)), H', ⟨by have := HJ9.out; have := HJ56.out; first | omega | exact Nat.le_refl _⟩, ⟨by first | exact KP.out | exact KP.out.drew⟩⟩
        ·replace c85 := Bool.eq_false_iff.mpr c85
         subst c85
         have H1 : (withelaw11_PostOrder.j2 kj56 t235 t238 x12_56 t241 t244 t247 t250 t253 t256) = some r := by rw [if_neg (show ¬ (false = true) by decide)] at H; exact H
         clear H
         have H := H1
         clear H1
         have H' := Aside0.mk H
         clear H
         go_wp2
         go_meet
         case rel => exact ⟨_, (x12_56), (by first | rfl | (simp; done) | (simp [*]; done)), H', ⟨by have := HJ9.out; have := HJ56.out; first | omega | exact Nat.le_refl _⟩, ⟨by first | exact KP.out | exact KP.out.drew⟩⟩
       case rest =>
        clear HC72
        try clear c1
        try clear p2
        try clear c4
        try clear c5
        try clear c6
        try clear p6
        try clear c7
        try clear c8
        try clear c12
        try clear c14
        try clear c42
        try clear c55
        try clear c58
        try clear c59
        try clear c60
        try clear c61
        try clear c62
        try clear c64
        try clear p64
        try clear c65
        try clear c66
        try clear c67
        try clear c70
        try clear c73
        try clear c74
        try clear c75
        try clear c76
        try clear c77
        try clear c79
        try clear c80
        try clear c81
        try clear c82
        try clear c85
        try clear hcz63_0
        try clear hcz63_1
        try clear hcz68_0
        try clear hcz68_1
        try clear hcz78_0
        try clear hcz78_1
        try clear hcz83_0
        try clear hcz83_1
        try clear hfz63_0
        try clear hfz63_1
        try clear hfz68_0
        try clear hfz68_1
        try clear hfz78_0
        try clear hfz78_1
        try clear hfz83_0
        try clear hfz83_1
        try clear p2
        obtain ⟨kq, x12_71, rfl, HA, HJ71, KP⟩ := hcut
        cases kq with
        | zero => exact absurd HA.out (by simp [withelaw11_PostOrder.j2])
        | succ kj71 =>
         have H := HA.out
         clear HA
         simp only [withelaw11_PostOrder.j2] at H
         replace H := Option.bind_eq_some_iff.mp H
         obtain ⟨t268, A860, H⟩ := H
         replace H : (if t268 = true then (withelaw11_PostOrder.j3 kj71 t235 t238 (wrap64 (x12_71 + 1)) t241 t244 t247 t250 t253 t256) else (withelaw11_PostOrder.j3 kj71 t235 t238 x12_71 t241 t244 t247 t250 t253 t256)) = some r := H
         have A86 := Aside0.mk A860
         clear A860
         have HC87 := Aside0.mk H
         clear H
         have hnb88 := NB259_231.out
         have hnc88 := NB231_259.out
         have hnb89 := NB259_232.out
         have hnc89 := NB232_259.out
         have hnb90 := NB259_233.out
         have hnc90 := NB233_259.out
         have hnb91 := NB259_260.out
         have hnc91 := NB260_259.out
         have hnb92 := NB259_261.out
         have hnc92 := NB261_259.out
         have hcz93_0 : wc.cell? ⟨gb259, 0, none⟩ = some (.slice Ao24 t241.length co24) := (blk_cell KP.out.c1 0).trans rfl
         have hcz93_1 : wc.cell? ⟨gb259, 1, none⟩ = some (.slice Ao26 t244.length co26) := (blk_cell KP.out.c1 1).trans rfl
         have hfz93_0 := blk_frozen KP.out.c1 0
         have hfz93_1 := blk_frozen KP.out.c1 1
         have hnb94 := NB260_231.out
         have hnc94 := NB231_260.out
         have hnb95 := NB260_232.out
         have hnc95 := NB232_260.out
         have hnb96 := NB260_233.out
         have hnc96 := NB233_260.out
         have hnb97 := NB260_261.out
         have hnc97 := NB261_260.out
         have hcz98_0 : wc.cell? ⟨gb260, 0, none⟩ = some (.slice Ao28 t247.length co28) := (blk_cell KP.out.c2 0).trans rfl
         have hcz98_1 : wc.cell? ⟨gb260, 1, none⟩ = some (.slice Ao30 t250.length co30) := (blk_cell KP.out.c2 1).trans rfl
         have hfz98_0 := blk_frozen KP.out.c2 0
         have hfz98_1 := blk_frozen KP.out.c2 1
         go_upto_if 55 with (first | ((with_reducible refine gate_callee (f := 12) rfl ?_); refine goesL_ (some 55) rfl rfl Tryd.func12 (by kernel_rfl) rfl #[.agg #[.slice Ao24 t241.length co24, .slice Ao26 t244.length co26], .agg #[.slice Ao28 t247.length co28, .slice Ao30 t250.length co30]] rfl (by (try simp only [List.map_toArray, List.map_cons, List.map_nil]); first | done | rfl | (simp only [List.length_drop, List.length_take]; rfl)) ?_; (with_reducible refine (post_Same.calls kj71 _ _ t241 _ _ t244 _ _ t247 _ _ t250 t268 _ ?side1 ?side2 ?side3 ?side4 ?side5 ?side6 ?side7 ?side8 A86.out).mono ?_); (case side1 => repeat (first | exact (Kd.N_reads' KP.out.n1).2.2 | (with_reducible refine Kd.C_alloc ?_ _) | (with_reducible refine Kd.C_drewN ?_ _) | (with_reducible refine Kd.C_drew ?_))); (case side2 => exact (Kd.N_reads' KP.out.n1).2.1); (case side3 => repeat (first | exact (Kd.R_reads' KP.out.m1).2.2 | (with_reducible refine Kd.C_alloc ?_ _) | (with_reducible refine Kd.C_drewN ?_ _) | (with_reducible refine Kd.C_drew ?_))); (case side4 => exact (Kd.R_reads' KP.out.m1).2.1); (case side5 => repeat (first | exact (Kd.N_reads' KP.out.n2).2.2 | (with_reducible refine Kd.C_alloc ?_ _) | (with_reducible refine Kd.C_drewN ?_ _) | (with_reducible refine Kd.C_drew ?_))); (case side6 => exact (Kd.N_reads' KP.out.n2).2.1); (case side7 => repeat (first | exact (Kd.R_reads' KP.out.m2).2.2 | (with_reducible refine Kd.C_alloc ?_ _) | (with_reducible refine Kd.C_drewN ?_ _) | (with_reducible refine Kd.C_drew ?_))); (case side8 => exact (Kd.R_reads' KP.out.m2).2.1); rintro e w99 ⟨rfl, hb⟩; refine ⟨_, rfl, ?_⟩; have n0_ := Aside0.mk (KP.out.step hb rfl (by repeat (first | (with_reducible first | exact KP.out.hb | apply below_alloc | apply pw_below_drewN | apply below_drew1) | exact KP.out.hb))); clear KP; have KP := n0_; clear n0_; (try clear hb); (try clear hb2); (try clear hk); (try clear hi)))
         (try simp only [Act.put, List.setIfInBounds_toArray, List.set_cons_zero, List.set_cons_succ])
         go_cut [12] (fun v12 wc => ∃ (kq : Nat) (x12_86 : Int), v12 = .int .i64 x12_86 ∧ Aside0 (withelaw11_PostOrder.j3 kq t235 t238 x12_86 t241 t244 t247 t250 t253 t256 = some r) ∧ Aside0 (kq ≤ kj71) ∧ Aside0 (PK w gb231 gb232 gb233 #[.int .u8 a0_0, .int .u8 a0_1, .int .u8 a0_2, .int .u8 a0_3, .int .u8 a0_4, .int .u8 a0_5] #[.int .u8 a1_0, .int .u8 a1_1, .int .u8 a1_2, .int .u8 a1_3, .int .u8 a1_4, .int .u8 a1_5] #[.int .u8 a2_0, .int .u8 a2_1, .int .u8 a2_2, .int .u8 a2_3, .int .u8 a2_4, .int .u8 a2_5] v236 v239 t235 t238 t241 t247 t253 t244 t250 t256 (.slice Ao24 t241.length co24) (.slice Ao26 t244.length co26) (.slice Ao28 t247.length co28) (.slice Ao30 t250.length co30) (.slice Ao32 t253.length co32) (.slice Ao34 t256.length co34) gb259 gb260 gb261 wc))
         case first =>
          have H := HC87.out
          clear HC87
          by_cases c100 : t268 = true
          ·subst c100
           have H1 : (withelaw11_PostOrder.j3 kj71 t235 t238 (wrap64 (x12_71 + 1)) t241 t244 t247 t250 t253 t256) = some r := by rw [if_pos rfl] at H; exact H
           clear H
           have H := H1
           clear H1
           have H' := Aside0.mk H
           clear H
           go_wp2
           go_meet
           case rel => exact ⟨_, (wrap64 (x12_71 + 1)), (by first | rfl | (simp; done) | (simp [*]; done)), H', ⟨by have := HJ9.out; have := HJ56.out; have := HJ71.out; first | omega | exact Nat.le_refl _⟩, ⟨by first | exact KP.out | exact KP.out.drew⟩⟩
          ·replace c100 := Bool.eq_false_iff.mpr c100
           subst c100
           have H1 : (withelaw11_PostOrder.j3 kj71 t235 t238 x12_71 t241 t244 t247 t250 t253 t256) = some r := by rw [if_neg (show ¬ (false = true) by decide)] at H; exact H
           clear H
           have H := H1
           clear H1
           have H' := Aside0.mk H
           clear H
           go_wp2
           go_meet
           case rel => exact ⟨_, (x12_71), (by first | rfl | (simp; done) | (simp [*]; done)), H', ⟨by have := HJ9.out; have := HJ56.out; have := HJ71.out; first | omega | exact Nat.le_refl _⟩, ⟨by first | exact KP.out | exact KP.out.drew⟩⟩
         case rest =>
          clear HC87
          try clear c1
          try clear p2
          try clear c4
          try clear c5
          try clear c6
          try clear p6
          try clear c7
          try clear c8
          try clear c9
          try clear c10
          try clear c12
          try clear c14
          try clear c42
          try clear c55
          try clear c58
          try clear c59
          try clear c60
          try clear c61
          try clear c62
          try clear c64
          try clear p64
          try clear c65
          try clear c66
          try clear c67
          try clear c70
          try clear c73
          try clear c74
          try clear c75
          try clear c76
          try clear c77
          try clear c79
          try clear c80
          try clear c81
          try clear c82
          try clear c85
          try clear c88
          try clear c89
          try clear c90
          try clear c91
          try clear c92
          try clear c94
          try clear c95
          try clear c96
          try clear c97
          try clear c100
          try clear hcz63_0
          try clear hcz63_1
          try clear hcz68_0
          try clear hcz68_1
          try clear hcz78_0
          try clear hcz78_1
          try clear hcz83_0
          try clear hcz83_1
          try clear hcz93_0
          try clear hcz93_1
          try clear hcz98_0
          try clear hcz98_1
          try clear hfz63_0
          try clear hfz63_1
          try clear hfz68_0
          try clear hfz68_1
          try clear hfz78_0
          try clear hfz78_1
          try clear hfz83_0
          try clear hfz83_1
          try clear hfz93_0
          try clear hfz93_1
          try clear hfz98_0
          try clear hfz98_1
          try clear p2
          try clear p6
          try clear p64
          obtain ⟨kq, x12_86, rfl, HA, HJ86, KP⟩ := hcut
          cases kq with
          | zero => exact absurd HA.out (by simp [withelaw11_PostOrder.j3])
          | succ kj86 =>
           have H := HA.out
           clear HA
           simp only [withelaw11_PostOrder.j3] at H
           have HC101 := Aside0.mk H
           clear H
           go_upto_region 14 with (fail)
           go_cut [75] (fun v75 wc => ∃ (kq : Nat) (x75_100 : Bool), v75 = .bool x75_100 ∧ Aside0 (withelaw11_PostOrder.j4 kq t235 t238 x75_100 t241 t244 t247 t250 = some r) ∧ Aside0 (kq ≤ kj86) ∧ Aside0 (PK w gb231 gb232 gb233 #[.int .u8 a0_0, .int .u8 a0_1, .int .u8 a0_2, .int .u8 a0_3, .int .u8 a0_4, .int .u8 a0_5] #[.int .u8 a1_0, .int .u8 a1_1, .int .u8 a1_2, .int .u8 a1_3, .int .u8 a1_4, .int .u8 a1_5] #[.int .u8 a2_0, .int .u8 a2_1, .int .u8 a2_2, .int .u8 a2_3, .int .u8 a2_4, .int .u8 a2_5] v236 v239 t235 t238 t241 t247 t253 t244 t250 t256 (.slice Ao24 t241.length co24) (.slice Ao26 t244.length co26) (.slice Ao28 t247.length co28) (.slice Ao30 t250.length co30) (.slice Ao32 t253.length co32) (.slice Ao34 t256.length co34) gb259 gb260 gb261 wc))
           case first =>
            have H := HC101.out
            clear HC101
            by_cases c102 : x12_86 = 1
            ·rw [if_pos c102] at H
             have c102b0 : (x12_86 == 1) = true := beq_iff_eq.mpr c102
             have c102b1 : (x12_86 != 1) = false := bne_eq_false_iff_eq.mpr c102
             clear c102
             (first | rw [c102b0] | (simp only [i64_w, i32_w]; rw [c102b0]) | skip)
             replace H := Option.bind_eq_some_iff.mp H
             obtain ⟨t269, A1030, H⟩ := H
             replace H : (if t269 = true then ((post_Less.f kj86 t247 t250 t253 t256).bind fun t270 => (if t270 = true then ((post_Less.f kj86 t241 t244 t253 t256).bind fun t271 => (withelaw11_PostOrder.j4 kj86 t235 t238 (!t271) t241 t244 t247 t250)) else (withelaw11_PostOrder.j4 kj86 t235 t238 false t241 t244 t247 t250))) else (withelaw11_PostOrder.j4 kj86 t235 t238 false t241 t244 t247 t250)) = some r := H
             have A103 := Aside0.mk A1030
             clear A1030
             by_cases c104 : t269 = true
             ·subst c104
              have H1 : ((post_Less.f kj86 t247 t250 t253 t256).bind fun t270 => (if t270 = true then ((post_Less.f kj86 t241 t244 t253 t256).bind fun t271 => (withelaw11_PostOrder.j4 kj86 t235 t238 (!t271) t241 t244 t247 t250)) else (withelaw11_PostOrder.j4 kj86 t235 t238 false t241 t244 t247 t250))) = some r := by rw [if_pos rfl] at H; exact H
              clear H
              have H := H1
              clear H1
              replace H := Option.bind_eq_some_iff.mp H
              obtain ⟨t270, A1050, H⟩ := H
              replace H : (if t270 = true then ((post_Less.f kj86 t241 t244 t253 t256).bind fun t271 => (withelaw11_PostOrder.j4 kj86 t235 t238 (!t271) t241 t244 t247 t250)) else (withelaw11_PostOrder.j4 kj86 t235 t238 false t241 t244 t247 t250)) = some r := H
              have A105 := Aside0.mk A1050
              clear A1050
              by_cases c106 : t270 = true
              ·subst c106
               have H1 : ((post_Less.f kj86 t241 t244 t253 t256).bind fun t271 => (withelaw11_PostOrder.j4 kj86 t235 t238 (!t271) t241 t244 t247 t250)) = some r := by rw [if_pos rfl] at H; exact H
               clear H
               have H := H1
               clear H1
               replace H := Option.bind_eq_some_iff.mp H
               obtain ⟨t271, A1070, H⟩ := H
               replace H : (withelaw11_PostOrder.j4 kj86 t235 t238 (!t271) t241 t244 t247 t250) = some r := H
               have A107 := Aside0.mk A1070
               clear A1070
               have H' := Aside0.mk H
               clear H
               have hnb108 := NB259_231.out
               have hnc108 := NB231_259.out
               have hnb109 := NB259_232.out
               have hnc109 := NB232_259.out
               have hnb110 := NB259_233.out
               have hnc110 := NB233_259.out
               have hnb111 := NB259_260.out
               have hnc111 := NB260_259.out
               have hnb112 := NB259_261.out
               have hnc112 := NB261_259.out
               have hcz113_0 : wc.cell? ⟨gb259, 0, none⟩ = some (.slice Ao24 t241.length co24) := (blk_cell KP.out.c1 0).trans rfl
               have hcz113_1 : wc.cell? ⟨gb259, 1, none⟩ = some (.slice Ao26 t244.length co26) := (blk_cell KP.out.c1 1).trans rfl
               have hfz113_0 := blk_frozen KP.out.c1 0
               have hfz113_1 := blk_frozen KP.out.c1 1
               have hnb114 := NB260_231.out
               have hnc114 := NB231_260.out
               have hnb115 := NB260_232.out
               have hnc115 := NB232_260.out
               have hnb116 := NB260_233.out
               have hnc116 := NB233_260.out
               have hnb117 := NB260_261.out
               have hnc117 := NB261_260.out
               have hcz118_0 : wc.cell? ⟨gb260, 0, none⟩ = some (.slice Ao28 t247.length co28) := (blk_cell KP.out.c2 0).trans rfl
               have hcz118_1 : wc.cell? ⟨gb260, 1, none⟩ = some (.slice Ao30 t250.length co30) := (blk_cell KP.out.c2 1).trans rfl
               have hfz118_0 := blk_frozen KP.out.c2 0
               have hfz118_1 := blk_frozen KP.out.c2 1
               go_wp2_with (first | ((first | ((with_reducible refine gate_callee (f := 14) rfl ?_); (refine gate_guard (by rfl) ?_; dsimp only); refine goesL_ (some 63) rfl rfl Tryd.func14 (by kernel_rfl) rfl #[.agg #[.slice Ao24 t241.length co24, .slice Ao26 t244.length co26], .agg #[.slice Ao28 t247.length co28, .slice Ao30 t250.length co30]] rfl (by (try simp only [List.map_toArray, List.map_cons, List.map_nil]); first | done | rfl | (simp only [List.length_drop, List.length_take]; rfl)) ?_; (with_reducible refine (post_Less.calls kj86 _ _ t241 _ _ t244 _ _ t247 _ _ t250 true _ ?side1 ?side2 ?side3 ?side4 ?side5 ?side6 ?side7 ?side8 A103.out).mono ?_); (case side1 => repeat (first | exact (Kd.N_reads' KP.out.n1).2.2 | (with_reducible refine Kd.C_alloc ?_ _) | (with_reducible refine Kd.C_drewN ?_ _) | (with_reducible refine Kd.C_drew ?_))); (case side2 => exact (Kd.N_reads' KP.out.n1).2.1); (case side3 => repeat (first | exact (Kd.R_reads' KP.out.m1).2.2 | (with_reducible refine Kd.C_alloc ?_ _) | (with_reducible refine Kd.C_drewN ?_ _) | (with_reducible refine Kd.C_drew ?_))); (case side4 => exact (Kd.R_reads' KP.out.m1).2.1); (case side5 => repeat (first | exact (Kd.N_reads' KP.out.n2).2.2 | (with_reducible refine Kd.C_alloc ?_ _) | (with_reducible refine Kd.C_drewN ?_ _) | (with_reducible refine Kd.C_drew ?_))); (case side6 => exact (Kd.N_reads' KP.out.n2).2.1); (case side7 => repeat (first | exact (Kd.R_reads' KP.out.m2).2.2 | (with_reducible refine Kd.C_alloc ?_ _) | (with_reducible refine Kd.C_drewN ?_ _) | (with_reducible refine Kd.C_drew ?_))); (case side8 => exact (Kd.R_reads' KP.out.m2).2.1); rintro e w119 ⟨rfl, hb⟩; refine ⟨_, rfl, ?_⟩; have n0_ := Aside0.mk (KP.out.step hb rfl (by repeat (first | (with_reducible first | exact KP.out.hb | apply below_alloc | apply pw_below_drewN | apply below_drew1) | exact KP.out.hb))); clear KP; have KP := n0_; clear n0_; (try clear hb); (try clear hb2); (try clear hk); (try clear hi)) | (go_at_call 14; (with_reducible refine (post_Less.calls kj86 _ _ t241 _ _ t244 _ _ t247 _ _ t250 true _ ?side1 ?side2 ?side3 ?side4 ?side5 ?side6 ?side7 ?side8 A103.out).mono ?_); (case side1 => repeat (first | exact (Kd.N_reads' KP.out.n1).2.2 | (with_reducible refine Kd.C_alloc ?_ _) | (with_reducible refine Kd.C_drewN ?_ _) | (with_reducible refine Kd.C_drew ?_))); (case side2 => exact (Kd.N_reads' KP.out.n1).2.1); (case side3 => repeat (first | exact (Kd.R_reads' KP.out.m1).2.2 | (with_reducible refine Kd.C_alloc ?_ _) | (with_reducible refine Kd.C_drewN ?_ _) | (with_reducible refine Kd.C_drew ?_))); (case side4 => exact (Kd.R_reads' KP.out.m1).2.1); (case side5 => repeat (first | exact (Kd.N_reads' KP.out.n2).2.2 | (with_reducible refine Kd.C_alloc ?_ _) | (with_reducible refine Kd.C_drewN ?_ _) | (with_reducible refine Kd.C_drew ?_))); (case side6 => exact (Kd.N_reads' KP.out.n2).2.1); (case side7 => repeat (first | exact (Kd.R_reads' KP.out.m2).2.2 | (with_reducible refine Kd.C_alloc ?_ _) | (with_reducible refine Kd.C_drewN ?_ _) | (with_reducible refine Kd.C_drew ?_))); (case side8 => exact (Kd.R_reads' KP.out.m2).2.1); rintro e w119 ⟨rfl, hb⟩; have n0_ := Aside0.mk (KP.out.step hb rfl (by repeat (first | (with_reducible first | exact KP.out.hb | apply below_alloc | apply pw_below_drewN | apply below_drew1) | exact KP.out.hb))); clear KP; have KP := n0_; clear n0_; (try clear hb); (try clear hb2); (try clear hk); (try clear hi))); have hcz120_0 : w119.cell? ⟨gb260, 0, none⟩ = some (.slice Ao28 t247.length co28) := (blk_cell KP.out.c2 0).trans rfl; have hcz120_1 : w119.cell? ⟨gb260, 1, none⟩ = some (.slice Ao30 t250.length co30) := (blk_cell KP.out.c2 1).trans rfl; have hfz120_0 := blk_frozen KP.out.c2 0; have hfz120_1 := blk_frozen KP.out.c2 1; have hnb121 := NB261_231.out; have hnc121 := NB231_261.out; have hnb122 := NB261_232.out; have hnc122 := NB232_261.out; have hnb123 := NB261_233.out; have hnc123 := NB233_261.out; have hcz124_0 : w119.cell? ⟨gb261, 0, none⟩ = some (.slice Ao32 t253.length co32) := (blk_cell KP.out.c3 0).trans rfl; have hcz124_1 : w119.cell? ⟨gb261, 1, none⟩ = some (.slice Ao34 t256.length co34) := (blk_cell KP.out.c3 1).trans rfl; have hfz124_0 := blk_frozen KP.out.c3 0; have hfz124_1 := blk_frozen KP.out.c3 1) | ((first | ((with_reducible refine gate_callee (f := 14) rfl ?_); (refine gate_guard (by rfl) ?_; dsimp only); refine goesL_ (some 67) rfl rfl Tryd.func14 (by kernel_rfl) rfl #[.agg #[.slice Ao28 t247.length co28, .slice Ao30 t250.length co30], .agg #[.slice Ao32 t253.length co32, .slice Ao34 t256.length co34]] rfl (by (try simp only [List.map_toArray, List.map_cons, List.map_nil]); first | done | rfl | (simp only [List.length_drop, List.length_take]; rfl)) ?_; (with_reducible refine (post_Less.calls kj86 _ _ t247 _ _ t250 _ _ t253 _ _ t256 true _ ?side1 ?side2 ?side3 ?side4 ?side5 ?side6 ?side7 ?side8 A105.out).mono ?_); (case side1 => repeat (first | exact (Kd.N_reads' KP.out.n2).2.2 | (with_reducible refine Kd.C_alloc ?_ _) | (with_reducible refine Kd.C_drewN ?_ _) | (with_reducible refine Kd.C_drew ?_))); (case side2 => exact (Kd.N_reads' KP.out.n2).2.1); (case side3 => repeat (first | exact (Kd.R_reads' KP.out.m2).2.2 | (with_reducible refine Kd.C_alloc ?_ _) | (with_reducible refine Kd.C_drewN ?_ _) | (with_reducible refine Kd.C_drew ?_))); (case side4 => exact (Kd.R_reads' KP.out.m2).2.1); (case side5 => repeat (first | exact (Kd.N_reads' KP.out.n3).2.2 | (with_reducible refine Kd.C_alloc ?_ _) | (with_reducible refine Kd.C_drewN ?_ _) | (with_reducible refine Kd.C_drew ?_))); (case side6 => exact (Kd.N_reads' KP.out.n3).2.1); (case side7 => repeat (first | exact (Kd.R_reads' KP.out.m3).2.2 | (with_reducible refine Kd.C_alloc ?_ _) | (with_reducible refine Kd.C_drewN ?_ _) | (with_reducible refine Kd.C_drew ?_))); (case side8 => exact (Kd.R_reads' KP.out.m3).2.1); rintro e w125 ⟨rfl, hb⟩; refine ⟨_, rfl, ?_⟩; have n0_ := Aside0.mk (KP.out.step hb rfl (by repeat (first | (with_reducible first | exact KP.out.hb | apply below_alloc | apply pw_below_drewN | apply below_drew1) | exact KP.out.hb))); clear KP; have KP := n0_; clear n0_; (try clear hb); (try clear hb2); (try clear hk); (try clear hi)) | (go_at_call 14; (with_reducible refine (post_Less.calls kj86 _ _ t247 _ _ t250 _ _ t253 _ _ t256 true _ ?side1 ?side2 ?side3 ?side4 ?side5 ?side6 ?side7 ?side8 A105.out).mono ?_); (case side1 => repeat (first | exact (Kd.N_reads' KP.out.n2).2.2 | (with_reducible refine Kd.C_alloc ?_ _) | (with_reducible refine Kd.C_drewN ?_ _) | (with_reducible refine Kd.C_drew ?_))); (case side2 => exact (Kd.N_reads' KP.out.n2).2.1); (case side3 => repeat (first | exact (Kd.R_reads' KP.out.m2).2.2 | (with_reducible refine Kd.C_alloc ?_ _) | (with_reducible refine Kd.C_drewN ?_ _) | (with_reducible refine Kd.C_drew ?_))); (case side4 => exact (Kd.R_reads' KP.out.m2).2.1); (case side5 => repeat (first | exact (Kd.N_reads' KP.out.n3).2.2 | (with_reducible refine Kd.C_alloc ?_ _) | (with_reducible refine Kd.C_drewN ?_ _) | (with_reducible refine Kd.C_drew ?_))); (case side6 => exact (Kd.N_reads' KP.out.n3).2.1); (case side7 => repeat (first | exact (Kd.R_reads' KP.out.m3).2.2 | (with_reducible refine Kd.C_alloc ?_ _) | (with_reducible refine Kd.C_drewN ?_ _) | (with_reducible refine Kd.C_drew ?_))); (case side8 => exact (Kd.R_reads' KP.out.m3).2.1); rintro e w125 ⟨rfl, hb⟩; have n0_ := Aside0.mk (KP.out.step hb rfl (by repeat (first | (with_reducible first | exact KP.out.hb | apply below_alloc | apply pw_below_drewN | apply below_drew1) | exact KP.out.hb))); clear KP; have KP := n0_; clear n0_; (try clear hb); (try clear hb2); (try clear hk); (try clear hi))); have hcz126_0 : w125.cell? ⟨gb259, 0, none⟩ = some (.slice Ao24 t241.length co24) := (blk_cell KP.out.c1 0).trans rfl; have hcz126_1 : w125.cell? ⟨gb259, 1, none⟩ = some (.slice Ao26 t244.length co26) := (blk_cell KP.out.c1 1).trans rfl; have hfz126_0 := blk_frozen KP.out.c1 0; have hfz126_1 := blk_frozen KP.out.c1 1; have hcz127_0 : w125.cell? ⟨gb261, 0, none⟩ = some (.slice Ao32 t253.length co32) := (blk_cell KP.out.c3 0).trans rfl; have hcz127_1 : w125.cell? ⟨gb261, 1, none⟩ = some (.slice Ao34 t256.length co34) := (blk_cell KP.out.c3 1).trans rfl; have hfz127_0 := blk_frozen KP.out.c3 0; have hfz127_1 := blk_frozen KP.out.c3 1) | ((first | ((with_reducible refine gate_callee (f := 14) rfl ?_); (refine gate_guard (by rfl) ?_; dsimp only); refine goesL_ (some 72) rfl rfl Tryd.func14 (by kernel_rfl) rfl #[.agg #[.slice Ao24 t241.length co24, .slice Ao26 t244.length co26], .agg #[.slice Ao32 t253.length co32, .slice Ao34 t256.length co34]] rfl (by (try simp only [List.map_toArray, List.map_cons, List.map_nil]); first | done | rfl | (simp only [List.length_drop, List.length_take]; rfl)) ?_; (with_reducible refine (post_Less.calls kj86 _ _ t241 _ _ t244 _ _ t253 _ _ t256 t271 _ ?side1 ?side2 ?side3 ?side4 ?side5 ?side6 ?side7 ?side8 A107.out).mono ?_); (case side1 => repeat (first | exact (Kd.N_reads' KP.out.n1).2.2 | (with_reducible refine Kd.C_alloc ?_ _) | (with_reducible refine Kd.C_drewN ?_ _) | (with_reducible refine Kd.C_drew ?_))); (case side2 => exact (Kd.N_reads' KP.out.n1).2.1); (case side3 => repeat (first | exact (Kd.R_reads' KP.out.m1).2.2 | (with_reducible refine Kd.C_alloc ?_ _) | (with_reducible refine Kd.C_drewN ?_ _) | (with_reducible refine Kd.C_drew ?_))); (case side4 => exact (Kd.R_reads' KP.out.m1).2.1); (case side5 => repeat (first | exact (Kd.N_reads' KP.out.n3).2.2 | (with_reducible refine Kd.C_alloc ?_ _) | (with_reducible refine Kd.C_drewN ?_ _) | (with_reducible refine Kd.C_drew ?_))); (case side6 => exact (Kd.N_reads' KP.out.n3).2.1); (case side7 => repeat (first | exact (Kd.R_reads' KP.out.m3).2.2 | (with_reducible refine Kd.C_alloc ?_ _) | (with_reducible refine Kd.C_drewN ?_ _) | (with_reducible refine Kd.C_drew ?_))); (case side8 => exact (Kd.R_reads' KP.out.m3).2.1); rintro e w128 ⟨rfl, hb⟩; refine ⟨_, rfl, ?_⟩; have n0_ := Aside0.mk (KP.out.step hb rfl (by repeat (first | (with_reducible first | exact KP.out.hb | apply below_alloc | apply pw_below_drewN | apply below_drew1) | exact KP.out.hb))); clear KP; have KP := n0_; clear n0_; (try clear hb); (try clear hb2); (try clear hk); (try clear hi)) | (go_at_call 14; (with_reducible refine (post_Less.calls kj86 _ _ t241 _ _ t244 _ _ t253 _ _ t256 t271 _ ?side1 ?side2 ?side3 ?side4 ?side5 ?side6 ?side7 ?side8 A107.out).mono ?_); (case side1 => repeat (first | exact (Kd.N_reads' KP.out.n1).2.2 | (with_reducible refine Kd.C_alloc ?_ _) | (with_reducible refine Kd.C_drewN ?_ _) | (with_reducible refine Kd.C_drew ?_))); (case side2 => exact (Kd.N_reads' KP.out.n1).2.1); (case side3 => repeat (first | exact (Kd.R_reads' KP.out.m1).2.2 | (with_reducible refine Kd.C_alloc ?_ _) | (with_reducible refine Kd.C_drewN ?_ _) | (with_reducible refine Kd.C_drew ?_))); (case side4 => exact (Kd.R_reads' KP.out.m1).2.1); (case side5 => repeat (first | exact (Kd.N_reads' KP.out.n3).2.2 | (with_reducible refine Kd.C_alloc ?_ _) | (with_reducible refine Kd.C_drewN ?_ _) | (with_reducible refine Kd.C_drew ?_))); (case side6 => exact (Kd.N_reads' KP.out.n3).2.1); (case side7 => repeat (first | exact (Kd.R_reads' KP.out.m3).2.2 | (with_reducible refine Kd.C_alloc ?_ _) | (with_reducible refine Kd.C_drewN ?_ _) | (with_reducible refine Kd.C_drew ?_))); (case side8 => exact (Kd.R_reads' KP.out.m3).2.1); rintro e w128 ⟨rfl, hb⟩; have n0_ := Aside0.mk (KP.out.step hb rfl (by repeat (first | (with_reducible first | exact KP.out.hb | apply below_alloc | apply pw_below_drewN | apply below_drew1) | exact KP.out.hb))); clear KP; have KP := n0_; clear n0_; (try clear hb); (try clear hb2); (try clear hk); (try clear hi)))))
               go_meet
               case rel => exact ⟨_, (!t271), (by first | rfl | (simp; done) | (simp [*]; done)), H', ⟨by have := HJ9.out; have := HJ56.out; have := HJ71.out; have := HJ86.out; first | omega | exact Nat.le_refl _⟩, ⟨by first | exact KP.out | exact KP.out.drew⟩⟩
              ·replace c106 := Bool.eq_false_iff.mpr c106
               subst c106
               have H1 : (withelaw11_PostOrder.j4 kj86 t235 t238 false t241 t244 t247 t250) = some r := by rw [if_neg (show ¬ (false = true) by decide)] at H; exact H
               clear H
               have H := H1
               clear H1
               have H' := Aside0.mk H
               clear H
               have hnb129 := NB259_231.out
               have hnc129 := NB231_259.out
               have hnb130 := NB259_232.out
               have hnc130 := NB232_259.out
               have hnb131 := NB259_233.out
               have hnc131 := NB233_259.out
               have hnb132 := NB259_260.out
               have hnc132 := NB260_259.out
               have hnb133 := NB259_261.out
               have hnc133 := NB261_259.out
               have hcz134_0 : wc.cell? ⟨gb259, 0, none⟩ = some (.slice Ao24 t241.length co24) := (blk_cell KP.out.c1 0).trans rfl
               have hcz134_1 : wc.cell? ⟨gb259, 1, none⟩ = some (.slice Ao26 t244.length co26) := (blk_cell KP.out.c1 1).trans rfl
               have hfz134_0 := blk_frozen KP.out.c1 0
               have hfz134_1 := blk_frozen KP.out.c1 1
               have hnb135 := NB260_231.out
               have hnc135 := NB231_260.out
               have hnb136 := NB260_232.out
               have hnc136 := NB232_260.out
               have hnb137 := NB260_233.out
               have hnc137 := NB233_260.out
               have hnb138 := NB260_261.out
               have hnc138 := NB261_260.out
               have hcz139_0 : wc.cell? ⟨gb260, 0, none⟩ = some (.slice Ao28 t247.length co28) := (blk_cell KP.out.c2 0).trans rfl
               have hcz139_1 : wc.cell? ⟨gb260, 1, none⟩ = some (.slice Ao30 t250.length co30) := (blk_cell KP.out.c2 1).trans rfl
               have hfz139_0 := blk_frozen KP.out.c2 0
               have hfz139_1 := blk_frozen KP.out.c2 1
               go_wp2_with (first | ((first | ((with_reducible refine gate_callee (f := 14) rfl ?_); (refine gate_guard (by rfl) ?_; dsimp only); refine goesL_ (some 63) rfl rfl Tryd.func14 (by kernel_rfl) rfl #[.agg #[.slice Ao24 t241.length co24, .slice Ao26 t244.length co26], .agg #[.slice Ao28 t247.length co28, .slice Ao30 t250.length co30]] rfl (by (try simp only [List.map_toArray, List.map_cons, List.map_nil]); first | done | rfl | (simp only [List.length_drop, List.length_take]; rfl)) ?_; (with_reducible refine (post_Less.calls kj86 _ _ t241 _ _ t244 _ _ t247 _ _ t250 true _ ?side1 ?side2 ?side3 ?side4 ?side5 ?side6 ?side7 ?side8 A103.out).mono ?_); (case side1 => repeat (first | exact (Kd.N_reads' KP.out.n1).2.2 | (with_reducible refine Kd.C_alloc ?_ _) | (with_reducible refine Kd.C_drewN ?_ _) | (with_reducible refine Kd.C_drew ?_))); (case side2 => exact (Kd.N_reads' KP.out.n1).2.1); (case side3 => repeat (first | exact (Kd.R_reads' KP.out.m1).2.2 | (with_reducible refine Kd.C_alloc ?_ _) | (with_reducible refine Kd.C_drewN ?_ _) | (with_reducible refine Kd.C_drew ?_))); (case side4 => exact (Kd.R_reads' KP.out.m1).2.1); (case side5 => repeat (first | exact (Kd.N_reads' KP.out.n2).2.2 | (with_reducible refine Kd.C_alloc ?_ _) | (with_reducible refine Kd.C_drewN ?_ _) | (with_reducible refine Kd.C_drew ?_))); (case side6 => exact (Kd.N_reads' KP.out.n2).2.1); (case side7 => repeat (first | exact (Kd.R_reads' KP.out.m2).2.2 | (with_reducible refine Kd.C_alloc ?_ _) | (with_reducible refine Kd.C_drewN ?_ _) | (with_reducible refine Kd.C_drew ?_))); (case side8 => exact (Kd.R_reads' KP.out.m2).2.1); rintro e w140 ⟨rfl, hb⟩; refine ⟨_, rfl, ?_⟩; have n0_ := Aside0.mk (KP.out.step hb rfl (by repeat (first | (with_reducible first | exact KP.out.hb | apply below_alloc | apply pw_below_drewN | apply below_drew1) | exact KP.out.hb))); clear KP; have KP := n0_; clear n0_; (try clear hb); (try clear hb2); (try clear hk); (try clear hi)) | (go_at_call 14; (with_reducible refine (post_Less.calls kj86 _ _ t241 _ _ t244 _ _ t247 _ _ t250 true _ ?side1 ?side2 ?side3 ?side4 ?side5 ?side6 ?side7 ?side8 A103.out).mono ?_); (case side1 => repeat (first | exact (Kd.N_reads' KP.out.n1).2.2 | (with_reducible refine Kd.C_alloc ?_ _) | (with_reducible refine Kd.C_drewN ?_ _) | (with_reducible refine Kd.C_drew ?_))); (case side2 => exact (Kd.N_reads' KP.out.n1).2.1); (case side3 => repeat (first | exact (Kd.R_reads' KP.out.m1).2.2 | (with_reducible refine Kd.C_alloc ?_ _) | (with_reducible refine Kd.C_drewN ?_ _) | (with_reducible refine Kd.C_drew ?_))); (case side4 => exact (Kd.R_reads' KP.out.m1).2.1); (case side5 => repeat (first | exact (Kd.N_reads' KP.out.n2).2.2 | (with_reducible refine Kd.C_alloc ?_ _) | (with_reducible refine Kd.C_drewN ?_ _) | (with_reducible refine Kd.C_drew ?_))); (case side6 => exact (Kd.N_reads' KP.out.n2).2.1); (case side7 => repeat (first | exact (Kd.R_reads' KP.out.m2).2.2 | (with_reducible refine Kd.C_alloc ?_ _) | (with_reducible refine Kd.C_drewN ?_ _) | (with_reducible refine Kd.C_drew ?_))); (case side8 => exact (Kd.R_reads' KP.out.m2).2.1); rintro e w140 ⟨rfl, hb⟩; have n0_ := Aside0.mk (KP.out.step hb rfl (by repeat (first | (with_reducible first | exact KP.out.hb | apply below_alloc | apply pw_below_drewN | apply below_drew1) | exact KP.out.hb))); clear KP; have KP := n0_; clear n0_; (try clear hb); (try clear hb2); (try clear hk); (try clear hi))); have hcz141_0 : w140.cell? ⟨gb260, 0, none⟩ = some (.slice Ao28 t247.length co28) := (blk_cell KP.out.c2 0).trans rfl; have hcz141_1 : w140.cell? ⟨gb260, 1, none⟩ = some (.slice Ao30 t250.length co30) := (blk_cell KP.out.c2 1).trans rfl; have hfz141_0 := blk_frozen KP.out.c2 0; have hfz141_1 := blk_frozen KP.out.c2 1; have hnb142 := NB261_231.out; have hnc142 := NB231_261.out; have hnb143 := NB261_232.out; have hnc143 := NB232_261.out; have hnb144 := NB261_233.out; have hnc144 := NB233_261.out; have hcz145_0 : w140.cell? ⟨gb261, 0, none⟩ = some (.slice Ao32 t253.length co32) := (blk_cell KP.out.c3 0).trans rfl; have hcz145_1 : w140.cell? ⟨gb261, 1, none⟩ = some (.slice Ao34 t256.length co34) := (blk_cell KP.out.c3 1).trans rfl; have hfz145_0 := blk_frozen KP.out.c3 0; have hfz145_1 := blk_frozen KP.out.c3 1) | ((first | ((with_reducible refine gate_callee (f := 14) rfl ?_); (refine gate_guard (by rfl) ?_; dsimp only); refine goesL_ (some 67) rfl rfl Tryd.func14 (by kernel_rfl) rfl #[.agg #[.slice Ao28 t247.length co28, .slice Ao30 t250.length co30], .agg #[.slice Ao32 t253.length co32, .slice Ao34 t256.length co34]] rfl (by (try simp only [List.map_toArray, List.map_cons, List.map_nil]); first | done | rfl | (simp only [List.length_drop, List.length_take]; rfl)) ?_; (with_reducible refine (post_Less.calls kj86 _ _ t247 _ _ t250 _ _ t253 _ _ t256 false _ ?side1 ?side2 ?side3 ?side4 ?side5 ?side6 ?side7 ?side8 A105.out).mono ?_); (case side1 => repeat (first | exact (Kd.N_reads' KP.out.n2).2.2 | (with_reducible refine Kd.C_alloc ?_ _) | (with_reducible refine Kd.C_drewN ?_ _) | (with_reducible refine Kd.C_drew ?_))); (case side2 => exact (Kd.N_reads' KP.out.n2).2.1); (case side3 => repeat (first | exact (Kd.R_reads' KP.out.m2).2.2 | (with_reducible refine Kd.C_alloc ?_ _) | (with_reducible refine Kd.C_drewN ?_ _) | (with_reducible refine Kd.C_drew ?_))); (case side4 => exact (Kd.R_reads' KP.out.m2).2.1); (case side5 => repeat (first | exact (Kd.N_reads' KP.out.n3).2.2 | (with_reducible refine Kd.C_alloc ?_ _) | (with_reducible refine Kd.C_drewN ?_ _) | (with_reducible refine Kd.C_drew ?_))); (case side6 => exact (Kd.N_reads' KP.out.n3).2.1); (case side7 => repeat (first | exact (Kd.R_reads' KP.out.m3).2.2 | (with_reducible refine Kd.C_alloc ?_ _) | (with_reducible refine Kd.C_drewN ?_ _) | (with_reducible refine Kd.C_drew ?_))); (case side8 => exact (Kd.R_reads' KP.out.m3).2.1); rintro e w146 ⟨rfl, hb⟩; refine ⟨_, rfl, ?_⟩; have n0_ := Aside0.mk (KP.out.step hb rfl (by repeat (first | (with_reducible first | exact KP.out.hb | apply below_alloc | apply pw_below_drewN | apply below_drew1) | exact KP.out.hb))); clear KP; have KP := n0_; clear n0_; (try clear hb); (try clear hb2); (try clear hk); (try clear hi)) | (go_at_call 14; (with_reducible refine (post_Less.calls kj86 _ _ t247 _ _ t250 _ _ t253 _ _ t256 false _ ?side1 ?side2 ?side3 ?side4 ?side5 ?side6 ?side7 ?side8 A105.out).mono ?_); (case side1 => repeat (first | exact (Kd.N_reads' KP.out.n2).2.2 | (with_reducible refine Kd.C_alloc ?_ _) | (with_reducible refine Kd.C_drewN ?_ _) | (with_reducible refine Kd.C_drew ?_))); (case side2 => exact (Kd.N_reads' KP.out.n2).2.1); (case side3 => repeat (first | exact (Kd.R_reads' KP.out.m2).2.2 | (with_reducible refine Kd.C_alloc ?_ _) | (with_reducible refine Kd.C_drewN ?_ _) | (with_reducible refine Kd.C_drew ?_))); (case side4 => exact (Kd.R_reads' KP.out.m2).2.1); (case side5 => repeat (first | exact (Kd.N_reads' KP.out.n3).2.2 | (with_reducible refine Kd.C_alloc ?_ _) | (with_reducible refine Kd.C_drewN ?_ _) | (with_reducible refine Kd.C_drew ?_))); (case side6 => exact (Kd.N_reads' KP.out.n3).2.1); (case side7 => repeat (first | exact (Kd.R_reads' KP.out.m3).2.2 | (with_reducible refine Kd.C_alloc ?_ _) | (with_reducible refine Kd.C_drewN ?_ _) | (with_reducible refine Kd.C_drew ?_))); (case side8 => exact (Kd.R_reads' KP.out.m3).2.1); rintro e w146 ⟨rfl, hb⟩; have n0_ := Aside0.mk (KP.out.step hb rfl (by repeat (first | (with_reducible first | exact KP.out.hb | apply below_alloc | apply pw_below_drewN | apply below_drew1) | exact KP.out.hb))); clear KP; have KP := n0_; clear n0_; (try clear hb); (try clear hb2); (try clear hk); (try clear hi)))))
               go_meet
               case rel => exact ⟨_, (false), (by first | rfl | (simp; done) | (simp [*]; done)), H', ⟨by have := HJ9.out; have := HJ56.out; have := HJ71.out; have := HJ86.out; first | omega | exact Nat.le_refl _⟩, ⟨by first | exact KP.out | exact KP.out.drew⟩⟩
             ·replace c104 := Bool.eq_false_iff.mpr c104
              subst c104
              have H1 : (withelaw11_PostOrder.j4 kj86 t235 t238 false t241 t244 t247 t250) = some r := by rw [if_neg (show ¬ (false = true) by decide)] at H; exact H
              clear H
              have H := H1
              clear H1
              have H' := Aside0.mk H
              clear H
              have hnb147 := NB259_231.out
              have hnc147 := NB231_259.out
              have hnb148 := NB259_232.out
              have hnc148 := NB232_259.out
              have hnb149 := NB259_233.out
              have hnc149 := NB233_259.out
              have hnb150 := NB259_260.out
              have hnc150 := NB260_259.out
              have hnb151 := NB259_261.out
              have hnc151 := NB261_259.out
              have hcz152_0 : wc.cell? ⟨gb259, 0, none⟩ = some (.slice Ao24 t241.length co24) := (blk_cell KP.out.c1 0).trans rfl
              have hcz152_1 : wc.cell? ⟨gb259, 1, none⟩ = some (.slice Ao26 t244.length co26) := (blk_cell KP.out.c1 1).trans rfl
              have hfz152_0 := blk_frozen KP.out.c1 0
              have hfz152_1 := blk_frozen KP.out.c1 1
              have hnb153 := NB260_231.out
              have hnc153 := NB231_260.out
              have hnb154 := NB260_232.out
              have hnc154 := NB232_260.out
              have hnb155 := NB260_233.out
              have hnc155 := NB233_260.out
              have hnb156 := NB260_261.out
              have hnc156 := NB261_260.out
              have hcz157_0 : wc.cell? ⟨gb260, 0, none⟩ = some (.slice Ao28 t247.length co28) := (blk_cell KP.out.c2 0).trans rfl
              have hcz157_1 : wc.cell? ⟨gb260, 1, none⟩ = some (.slice Ao30 t250.length co30) := (blk_cell KP.out.c2 1).trans rfl
              have hfz157_0 := blk_frozen KP.out.c2 0
              have hfz157_1 := blk_frozen KP.out.c2 1
              go_wp2_with (first | ((first | ((with_reducible refine gate_callee (f := 14) rfl ?_); (refine gate_guard (by rfl) ?_; dsimp only); refine goesL_ (some 63) rfl rfl Tryd.func14 (by kernel_rfl) rfl #[.agg #[.slice Ao24 t241.length co24, .slice Ao26 t244.length co26], .agg #[.slice Ao28 t247.length co28, .slice Ao30 t250.length co30]] rfl (by (try simp only [List.map_toArray, List.map_cons, List.map_nil]); first | done | rfl | (simp only [List.length_drop, List.length_take]; rfl)) ?_; (with_reducible refine (post_Less.calls kj86 _ _ t241 _ _ t244 _ _ t247 _ _ t250 false _ ?side1 ?side2 ?side3 ?side4 ?side5 ?side6 ?side7 ?side8 A103.out).mono ?_); (case side1 => repeat (first | exact (Kd.N_reads' KP.out.n1).2.2 | (with_reducible refine Kd.C_alloc ?_ _) | (with_reducible refine Kd.C_drewN ?_ _) | (with_reducible refine Kd.C_drew ?_))); (case side2 => exact (Kd.N_reads' KP.out.n1).2.1); (case side3 => repeat (first | exact (Kd.R_reads' KP.out.m1).2.2 | (with_reducible refine Kd.C_alloc ?_ _) | (with_reducible refine Kd.C_drewN ?_ _) | (with_reducible refine Kd.C_drew ?_))); (case side4 => exact (Kd.R_reads' KP.out.m1).2.1); (case side5 => repeat (first | exact (Kd.N_reads' KP.out.n2).2.2 | (with_reducible refine Kd.C_alloc ?_ _) | (with_reducible refine Kd.C_drewN ?_ _) | (with_reducible refine Kd.C_drew ?_))); (case side6 => exact (Kd.N_reads' KP.out.n2).2.1); (case side7 => repeat (first | exact (Kd.R_reads' KP.out.m2).2.2 | (with_reducible refine Kd.C_alloc ?_ _) | (with_reducible refine Kd.C_drewN ?_ _) | (with_reducible refine Kd.C_drew ?_))); (case side8 => exact (Kd.R_reads' KP.out.m2).2.1); rintro e w158 ⟨rfl, hb⟩; refine ⟨_, rfl, ?_⟩; have n0_ := Aside0.mk (KP.out.step hb rfl (by repeat (first | (with_reducible first | exact KP.out.hb | apply below_alloc | apply pw_below_drewN | apply below_drew1) | exact KP.out.hb))); clear KP; have KP := n0_; clear n0_; (try clear hb); (try clear hb2); (try clear hk); (try clear hi)) | (go_at_call 14; (with_reducible refine (post_Less.calls kj86 _ _ t241 _ _ t244 _ _ t247 _ _ t250 false _ ?side1 ?side2 ?side3 ?side4 ?side5 ?side6 ?side7 ?side8 A103.out).mono ?_); (case side1 => repeat (first | exact (Kd.N_reads' KP.out.n1).2.2 | (with_reducible refine Kd.C_alloc ?_ _) | (with_reducible refine Kd.C_drewN ?_ _) | (with_reducible refine Kd.C_drew ?_))); (case side2 => exact (Kd.N_reads' KP.out.n1).2.1); (case side3 => repeat (first | exact (Kd.R_reads' KP.out.m1).2.2 | (with_reducible refine Kd.C_alloc ?_ _) | (with_reducible refine Kd.C_drewN ?_ _) | (with_reducible refine Kd.C_drew ?_))); (case side4 => exact (Kd.R_reads' KP.out.m1).2.1); (case side5 => repeat (first | exact (Kd.N_reads' KP.out.n2).2.2 | (with_reducible refine Kd.C_alloc ?_ _) | (with_reducible refine Kd.C_drewN ?_ _) | (with_reducible refine Kd.C_drew ?_))); (case side6 => exact (Kd.N_reads' KP.out.n2).2.1); (case side7 => repeat (first | exact (Kd.R_reads' KP.out.m2).2.2 | (with_reducible refine Kd.C_alloc ?_ _) | (with_reducible refine Kd.C_drewN ?_ _) | (with_reducible refine Kd.C_drew ?_))); (case side8 => exact (Kd.R_reads' KP.out.m2).2.1); rintro e w158 ⟨rfl, hb⟩; have n0_ := Aside0.mk (KP.out.step hb rfl (by repeat (first | (with_reducible first | exact KP.out.hb | apply below_alloc | apply pw_below_drewN | apply below_drew1) | exact KP.out.hb))); clear KP; have KP := n0_; clear n0_; (try clear hb); (try clear hb2); (try clear hk); (try clear hi)))))
              go_meet
              case rel => exact ⟨_, (false), (by first | rfl | (simp; done) | (simp [*]; done)), H', ⟨by have := HJ9.out; have := HJ56.out; have := HJ71.out; have := HJ86.out; first | omega | exact Nat.le_refl _⟩, ⟨by first | exact KP.out | exact KP.out.drew⟩⟩
            ·rw [if_neg c102] at H
             have c102b0 : (x12_86 == 1) = false := beq_eq_false_iff_ne.mpr c102
             have c102b1 : (x12_86 != 1) = true := bne_iff_ne.mpr c102
             (first | rw [c102b0] | (simp only [i64_w, i32_w]; rw [c102b0]) | skip)
             have H' := Aside0.mk H
             clear H
             go_wp2
             go_meet
             case rel => exact ⟨_, (true), (by first | rfl | (simp; done) | (simp [*]; done)), H', ⟨by have := HJ9.out; have := HJ56.out; have := HJ71.out; have := HJ86.out; first | omega | exact Nat.le_refl _⟩, ⟨by first | exact KP.out | exact KP.out.drew⟩⟩
           case rest =>
            clear HC101
            try clear c1
            try clear p2
            try clear c4
            try clear c5
            try clear c6
            try clear p6
            try clear c7
            try clear c8
            try clear c9
            try clear c10
            try clear c11
            try clear c12
            try clear c13
            try clear c14
            try clear c15
            try clear c42
            try clear c55
            try clear c58
            try clear c59
            try clear c60
            try clear c61
            try clear c62
            try clear c64
            try clear p64
            try clear c65
            try clear c66
            try clear c67
            try clear c70
            try clear c73
            try clear c74
            try clear c75
            try clear c76
            try clear c77
            try clear c79
            try clear c80
            try clear c81
            try clear c82
            try clear c85
            try clear c88
            try clear c89
            try clear c90
            try clear c91
            try clear c92
            try clear c94
            try clear c95
            try clear c96
            try clear c97
            try clear c100
            try clear c102
            try clear c102b0
            try clear c102b1
            try clear c104
            try clear c106
            try clear c108
            try clear c109
            try clear c110
            try clear c111
            try clear c112
            try clear c114
            try clear c115
            try clear c116
            try clear c117
            try clear c121
            try clear c122
            try clear c123
            try clear c129
            try clear c130
            try clear c131
            try clear c132
            try clear c133
            try clear c135
            try clear c136
            try clear c137
            try clear c138
            try clear c142
            try clear c143
            try clear c144
            try clear c147
            try clear c148
            try clear c149
            try clear c150
            try clear c151
            try clear c153
            try clear c154
            try clear c155
            try clear c156
            try clear hcz113_0
            try clear hcz113_1
            try clear hcz118_0
            try clear hcz118_1
            try clear hcz120_0
            try clear hcz120_1
            try clear hcz124_0
            try clear hcz124_1
            try clear hcz126_0
            try clear hcz126_1
            try clear hcz127_0
            try clear hcz127_1
            try clear hcz134_0
            try clear hcz134_1
            try clear hcz139_0
            try clear hcz139_1
            try clear hcz141_0
            try clear hcz141_1
            try clear hcz145_0
            try clear hcz145_1
            try clear hcz152_0
            try clear hcz152_1
            try clear hcz157_0
            try clear hcz157_1
            try clear hcz63_0
            try clear hcz63_1
            try clear hcz68_0
            try clear hcz68_1
            try clear hcz78_0
            try clear hcz78_1
            try clear hcz83_0
            try clear hcz83_1
            try clear hcz93_0
            try clear hcz93_1
            try clear hcz98_0
            try clear hcz98_1
            try clear hfz113_0
            try clear hfz113_1
            try clear hfz118_0
            try clear hfz118_1
            try clear hfz120_0
            try clear hfz120_1
            try clear hfz124_0
            try clear hfz124_1
            try clear hfz126_0
            try clear hfz126_1
            try clear hfz127_0
            try clear hfz127_1
            try clear hfz134_0
            try clear hfz134_1
            try clear hfz139_0
            try clear hfz139_1
            try clear hfz141_0
            try clear hfz141_1
            try clear hfz145_0
            try clear hfz145_1
            try clear hfz152_0
            try clear hfz152_1
            try clear hfz157_0
            try clear hfz157_1
            try clear hfz63_0
            try clear hfz63_1
            try clear hfz68_0
            try clear hfz68_1
            try clear hfz78_0
            try clear hfz78_1
            try clear hfz83_0
            try clear hfz83_1
            try clear hfz93_0
            try clear hfz93_1
            try clear hfz98_0
            try clear hfz98_1
            try clear p2
            try clear p6
            try clear p64
            obtain ⟨kq, x75_100, rfl, HA, HJ100, KP⟩ := hcut
            cases kq with
            | zero => exact absurd HA.out (by simp [withelaw11_PostOrder.j4])
            | succ kj100 =>
             have H := HA.out
             clear HA
             simp only [withelaw11_PostOrder.j4] at H
             by_cases c159 : x75_100 = true
             ·subst c159
              have H1 : (none) = some r := by rw [if_pos rfl] at H; exact H
              clear H
              have H := H1
              clear H1
              exact absurd H (by simp)
             ·replace c159 := Bool.eq_false_iff.mpr c159
              subst c159
              have H1 : ((post_Line.f kj100 t235 t238 t241 t244).bind fun t272 => ((post_Line.f kj100 t235 t238 t247 t250).bind fun t273 => ((post_Same.f kj100 t241 t244 t247 t250).bind fun t274 => (some ((t272.toList == t273.toList) == t274))))) = some r := by rw [if_neg (show ¬ (false = true) by decide)] at H; exact H
              clear H
              have H := H1
              clear H1
              replace H := Option.bind_eq_some_iff.mp H
              obtain ⟨t272, A1600, H⟩ := H
              replace H : ((post_Line.f kj100 t235 t238 t247 t250).bind fun t273 => ((post_Same.f kj100 t241 t244 t247 t250).bind fun t274 => (some ((t272.toList == t273.toList) == t274)))) = some r := H
              have A160 := Aside0.mk A1600
              clear A1600
              replace H := Option.bind_eq_some_iff.mp H
              obtain ⟨t273, A1610, H⟩ := H
              replace H : ((post_Same.f kj100 t241 t244 t247 t250).bind fun t274 => (some ((t272.toList == t273.toList) == t274))) = some r := H
              have A161 := Aside0.mk A1610
              clear A1610
              replace H := Option.bind_eq_some_iff.mp H
              obtain ⟨t274, A1620, H⟩ := H
              replace H : (some ((t272.toList == t273.toList) == t274)) = some r := H
              have A162 := Aside0.mk A1620
              clear A1620
              obtain rfl := Option.some.inj H
              try go_wp2
              have n0_ := Aside0.mk (KP.out.drew)
              clear KP
              have KP := n0_
              clear n0_
              obtain ⟨Ao164, co164, eo164⟩ := Kd.R_slice KP.out.r0
              (first | subst eo164 | (injection eo164 with f1_ f2_ f3_; have f4_ := f1_.symm; have f5_ := f3_.symm; clear f1_ f2_ f3_; subst f4_; subst f5_))
              obtain ⟨Ao165, co165, eo165⟩ := Kd.N_slice KP.out.n0
              (first | subst eo165 | (injection eo165 with f1_ f2_ f3_; have f4_ := f1_.symm; have f5_ := f3_.symm; clear f1_ f2_ f3_; subst f4_; subst f5_))
              refine start_ (n := 14) (S := fun w' => w'.cell? ⟨gb259, 0, none⟩ = some (.slice Ao24 t241.length co24) ∧ w'.cell? ⟨gb259, 1, none⟩ = some (.slice Ao26 t244.length co26) ∧ w'.cell? ⟨gb260, 0, none⟩ = some (.slice Ao28 t247.length co28) ∧ w'.cell? ⟨gb260, 1, none⟩ = some (.slice Ao30 t250.length co30)) (ds := []) #[false, false, false, false, false, false, false, false, false, false, false, false, false, false] (by kernel_rfl) rfl rfl ⟨(blk_cell KP.out.c1 0).trans rfl, (blk_cell KP.out.c1 1).trans rfl, (blk_cell KP.out.c2 0).trans rfl, (blk_cell KP.out.c2 1).trans rfl⟩ (fun hHeld => ?_); refine with_tabW withelaw11_PostOrder.tab16 withelaw11_PostOrder.bits16 (fun HT_ HW_ => ?_)
              generalize wc.drew = w163 at KP hHeld ⊢
              refine pure_ (i := 0) (N := some 76) (v := ?_) (a' := ?_) #[true, false, false, false, false, false, false, false, false, false, false, false, false, false] rfl rfl (any_of HT_.out (by kernel_rfl)) (fun _ _ _ h => h) (Or.inl ⟨by rfl, ?_⟩) ?_ ?_
              rotate_left
              ·intro w'
               go_simp
               with_reducible rfl
              rotate_left
              ·simp only [Act.put, List.setIfInBounds_toArray, List.set_cons_zero, List.set_cons_succ, i64_w, i32_w]
               rfl
              refine pure_ (i := 1) (N := some 77) (v := ?_) (a' := ?_) #[true, true, false, false, false, false, false, false, false, false, false, false, false, false] rfl rfl (any_of HT_.out (by kernel_rfl)) (fun _ _ _ h => h) (Or.inl ⟨by rfl, ?_⟩) ?_ ?_
              rotate_left
              ·intro w'
               go_simp
               with_reducible rfl
              rotate_left
              ·simp only [Act.put, List.setIfInBounds_toArray, List.set_cons_zero, List.set_cons_succ, i64_w, i32_w]
               rfl
              refine pure_ (i := 4) (N := some 80) (v := ?_) (a' := ?_) #[true, true, false, false, true, false, false, false, false, false, false, false, false, false] rfl rfl (any_of HT_.out (by kernel_rfl)) (fun _ _ _ h => h) (Or.inl ⟨by rfl, ?_⟩) ?_ ?_
              rotate_left
              ·intro w'
               go_simp
               with_reducible rfl
              rotate_left
              ·simp only [Act.put, List.setIfInBounds_toArray, List.set_cons_zero, List.set_cons_succ, i64_w, i32_w]
               rfl
              refine pure_ (i := 5) (N := some 81) (v := ?_) (a' := ?_) #[true, true, false, false, true, true, false, false, false, false, false, false, false, false] rfl rfl (any_of HT_.out (by kernel_rfl)) (fun _ _ _ h => h) (Or.inl ⟨by rfl, ?_⟩) ?_ ?_
              rotate_left
              ·intro w'
               go_simp
               with_reducible rfl
              rotate_left
              ·simp only [Act.put, List.setIfInBounds_toArray, List.set_cons_zero, List.set_cons_succ, i64_w, i32_w]
               rfl
              refine take_ (i := 2) (N := some 78) (v := ?_) (a' := ?_) #[true, true, true, false, true, true, false, false, false, false, false, false, false, false] rfl rfl (take_ofW HT_.out HW_.out (by kernel_rfl)) (fun _ _ _ h => h) (Or.inl ⟨by rfl, ?_⟩) hHeld ?_ ?_
              rotate_left
              ·rintro w' ⟨s0, s1, s2, s3⟩
               go_simp
               with_reducible rfl
              rotate_left
              ·simp only [Act.put, List.setIfInBounds_toArray, List.set_cons_zero, List.set_cons_succ, i64_w, i32_w]
               rfl
              refine take_ (i := 6) (N := some 82) (v := ?_) (a' := ?_) #[true, true, true, false, true, true, true, false, false, false, false, false, false, false] rfl rfl (take_ofW HT_.out HW_.out (by kernel_rfl)) (fun _ _ _ h => h) (Or.inl ⟨by rfl, ?_⟩) hHeld ?_ ?_
              rotate_left
              ·rintro w' ⟨s0, s1, s2, s3⟩
               go_simp
               with_reducible rfl
              rotate_left
              ·simp only [Act.put, List.setIfInBounds_toArray, List.set_cons_zero, List.set_cons_succ, i64_w, i32_w]
               rfl
              refine take_ (i := 9) (N := some 85) (v := ?_) (a' := ?_) #[true, true, true, false, true, true, true, false, false, true, false, false, false, false] rfl rfl (take_ofW HT_.out HW_.out (by kernel_rfl)) (fun _ _ _ h => h) (Or.inl ⟨by rfl, ?_⟩) hHeld ?_ ?_
              rotate_left
              ·rintro w' ⟨s0, s1, s2, s3⟩
               go_simp
               with_reducible rfl
              rotate_left
              ·simp only [Act.put, List.setIfInBounds_toArray, List.set_cons_zero, List.set_cons_succ, i64_w, i32_w]
               rfl
              refine take_ (i := 10) (N := some 86) (v := ?_) (a' := ?_) #[true, true, true, false, true, true, true, false, false, true, true, false, false, false] rfl rfl (take_ofW HT_.out HW_.out (by kernel_rfl)) (fun _ _ _ h => h) (Or.inl ⟨by rfl, ?_⟩) hHeld ?_ ?_
              rotate_left
              ·rintro w' ⟨s0, s1, s2, s3⟩
               go_simp
               with_reducible rfl
              rotate_left
              ·simp only [Act.put, List.setIfInBounds_toArray, List.set_cons_zero, List.set_cons_succ, i64_w, i32_w]
               rfl
              refine one_ (i := 3) (N := some 79) #[true, true, true, true, true, true, true, false, false, true, true, false, false, false] rfl rfl (one_of HT_.out (by kernel_rfl)) (by decide) (fun K hK => ?_)
              refine goes_ Tryd.func15 (by kernel_rfl) rfl #[.slice Ao164 t235.length co164, .slice Ao165 t238.length co165, .agg #[.slice Ao24 t241.length co24, .slice Ao26 t244.length co26]] (by rfl) rfl rfl (by (try simp only [List.map_toArray, List.map_cons, List.map_nil]); first | done | rfl | (simp only [List.length_drop, List.length_take]; rfl)) ?_
              have HB := Aside0.mk KP.out.hb
              with_reducible refine (post_Line.calls kj100 _ _ t235 _ _ t238 _ _ t241 _ _ t244 t272 _ ?side1 ?side2 ?side3 ?side4 ?side5 ?side6 ?side7 ?side8 A160.out).mono ?_
              all_goals (try clear HB)
              (case side1 => repeat (first | exact (Kd.R_reads' KP.out.r0).2.2 | (with_reducible refine Kd.C_alloc ?_ _) | (with_reducible refine Kd.C_drewN ?_ _) | (with_reducible refine Kd.C_drew ?_)))
              (case side2 => exact (Kd.R_reads' KP.out.r0).2.1)
              (case side3 => repeat (first | exact (Kd.N_reads' KP.out.n0).2.2 | (with_reducible refine Kd.C_alloc ?_ _) | (with_reducible refine Kd.C_drewN ?_ _) | (with_reducible refine Kd.C_drew ?_)))
              (case side4 => exact (Kd.N_reads' KP.out.n0).2.1)
              (case side5 => repeat (first | exact (Kd.N_reads' KP.out.n1).2.2 | (with_reducible refine Kd.C_alloc ?_ _) | (with_reducible refine Kd.C_drewN ?_ _) | (with_reducible refine Kd.C_drew ?_)))
              (case side6 => exact (Kd.N_reads' KP.out.n1).2.1)
              (case side7 => repeat (first | exact (Kd.R_reads' KP.out.m1).2.2 | (with_reducible refine Kd.C_alloc ?_ _) | (with_reducible refine Kd.C_drewN ?_ _) | (with_reducible refine Kd.C_drew ?_)))
              (case side8 => exact (Kd.R_reads' KP.out.m1).2.1)
              rintro e w166 ⟨rfl, hb⟩
              refine ⟨_, rfl, ?_⟩
              have n0_ := Aside0.mk (KP.out.step hb rfl (by repeat (first | (with_reducible first | exact KP.out.hb | apply below_alloc | apply pw_below_drewN | apply below_drew1) | exact KP.out.hb)))
              clear KP
              have KP := n0_
              clear n0_
              (try clear hb)
              (try clear hb2)
              (try clear hk)
              (try clear hi)
              refine hK.out _ _ ⟨(blk_cell KP.out.c1 0).trans rfl, (blk_cell KP.out.c1 1).trans rfl, (blk_cell KP.out.c2 0).trans rfl, (blk_cell KP.out.c2 1).trans rfl⟩ (fun hHeld => ?_)
              clear hK K
              refine norm_ (a' := ?_) ?_ ?_
              rotate_left
              ·show Act.put _ (some 79) _ = _
               simp only [Act.put, List.setIfInBounds_toArray, List.set_cons_zero, List.set_cons_succ, i64_w, i32_w]
               rfl
              refine one_ (i := 7) (N := some 83) #[true, true, true, true, true, true, true, true, false, true, true, false, false, false] rfl rfl (one_of HT_.out (by kernel_rfl)) (by decide) (fun K hK => ?_)
              refine goes_ Tryd.func15 (by kernel_rfl) rfl #[.slice Ao164 t235.length co164, .slice Ao165 t238.length co165, .agg #[.slice Ao28 t247.length co28, .slice Ao30 t250.length co30]] (by rfl) rfl rfl (by (try simp only [List.map_toArray, List.map_cons, List.map_nil]); first | done | rfl | (simp only [List.length_drop, List.length_take]; rfl)) ?_
              have HB := Aside0.mk KP.out.hb
              with_reducible refine (post_Line.calls kj100 _ _ t235 _ _ t238 _ _ t247 _ _ t250 t273 _ ?side1 ?side2 ?side3 ?side4 ?side5 ?side6 ?side7 ?side8 A161.out).mono ?_
              all_goals (try clear HB)
              (case side1 => repeat (first | exact (Kd.R_reads' KP.out.r0).2.2 | (with_reducible refine Kd.C_alloc ?_ _) | (with_reducible refine Kd.C_drewN ?_ _) | (with_reducible refine Kd.C_drew ?_)))
              (case side2 => exact (Kd.R_reads' KP.out.r0).2.1)
              (case side3 => repeat (first | exact (Kd.N_reads' KP.out.n0).2.2 | (with_reducible refine Kd.C_alloc ?_ _) | (with_reducible refine Kd.C_drewN ?_ _) | (with_reducible refine Kd.C_drew ?_)))
              (case side4 => exact (Kd.N_reads' KP.out.n0).2.1)
              (case side5 => repeat (first | exact (Kd.N_reads' KP.out.n2).2.2 | (with_reducible refine Kd.C_alloc ?_ _) | (with_reducible refine Kd.C_drewN ?_ _) | (with_reducible refine Kd.C_drew ?_)))
              (case side6 => exact (Kd.N_reads' KP.out.n2).2.1)
              (case side7 => repeat (first | exact (Kd.R_reads' KP.out.m2).2.2 | (with_reducible refine Kd.C_alloc ?_ _) | (with_reducible refine Kd.C_drewN ?_ _) | (with_reducible refine Kd.C_drew ?_)))
              (case side8 => exact (Kd.R_reads' KP.out.m2).2.1)
              rintro e w167 ⟨rfl, hb⟩
              refine ⟨_, rfl, ?_⟩
              have n0_ := Aside0.mk (KP.out.step hb rfl (by repeat (first | (with_reducible first | exact KP.out.hb | apply below_alloc | apply pw_below_drewN | apply below_drew1) | exact KP.out.hb)))
              clear KP
              have KP := n0_
              clear n0_
              (try clear hb)
              (try clear hb2)
              (try clear hk)
              (try clear hi)
              refine hK.out _ _ ⟨(blk_cell KP.out.c1 0).trans rfl, (blk_cell KP.out.c1 1).trans rfl, (blk_cell KP.out.c2 0).trans rfl, (blk_cell KP.out.c2 1).trans rfl⟩ (fun hHeld => ?_)
              clear hK K
              refine norm_ (a' := ?_) ?_ ?_
              rotate_left
              ·show Act.put _ (some 83) _ = _
               simp only [Act.put, List.setIfInBounds_toArray, List.set_cons_zero, List.set_cons_succ, i64_w, i32_w]
               rfl
              refine pure_ (i := 8) (N := some 84) (v := ?_) (a' := ?_) #[true, true, true, true, true, true, true, true, true, true, true, false, false, false] rfl rfl (any_of HT_.out (by kernel_rfl)) (fun _ _ _ h => h) (Or.inl ⟨by rfl, ?_⟩) ?_ ?_
              rotate_left
              ·intro w'
               go_simp
               with_reducible rfl
              rotate_left
              ·simp only [Act.put, List.setIfInBounds_toArray, List.set_cons_zero, List.set_cons_succ, i64_w, i32_w]
               rfl
              refine one_ (i := 11) (N := some 87) #[true, true, true, true, true, true, true, true, true, true, true, true, false, false] rfl rfl (one_of HT_.out (by kernel_rfl)) (by decide) (fun K hK => ?_)
              refine goes_ Tryd.func12 (by kernel_rfl) rfl #[.agg #[.slice Ao24 t241.length co24, .slice Ao26 t244.length co26], .agg #[.slice Ao28 t247.length co28, .slice Ao30 t250.length co30]] (by rfl) rfl rfl (by (try simp only [List.map_toArray, List.map_cons, List.map_nil]); first | done | rfl | (simp only [List.length_drop, List.length_take]; rfl)) ?_
              with_reducible refine (post_Same.calls kj100 _ _ t241 _ _ t244 _ _ t247 _ _ t250 t274 _ ?side1 ?side2 ?side3 ?side4 ?side5 ?side6 ?side7 ?side8 A162.out).mono ?_
              (case side1 => repeat (first | exact (Kd.N_reads' KP.out.n1).2.2 | (with_reducible refine Kd.C_alloc ?_ _) | (with_reducible refine Kd.C_drewN ?_ _) | (with_reducible refine Kd.C_drew ?_)))
              (case side2 => exact (Kd.N_reads' KP.out.n1).2.1)
              (case side3 => repeat (first | exact (Kd.R_reads' KP.out.m1).2.2 | (with_reducible refine Kd.C_alloc ?_ _) | (with_reducible refine Kd.C_drewN ?_ _) | (with_reducible refine Kd.C_drew ?_)))
              (case side4 => exact (Kd.R_reads' KP.out.m1).2.1)
              (case side5 => repeat (first | exact (Kd.N_reads' KP.out.n2).2.2 | (with_reducible refine Kd.C_alloc ?_ _) | (with_reducible refine Kd.C_drewN ?_ _) | (with_reducible refine Kd.C_drew ?_)))
              (case side6 => exact (Kd.N_reads' KP.out.n2).2.1)
              (case side7 => repeat (first | exact (Kd.R_reads' KP.out.m2).2.2 | (with_reducible refine Kd.C_alloc ?_ _) | (with_reducible refine Kd.C_drewN ?_ _) | (with_reducible refine Kd.C_drew ?_)))
              (case side8 => exact (Kd.R_reads' KP.out.m2).2.1)
              rintro e w168 ⟨rfl, hb⟩
              refine ⟨_, rfl, ?_⟩
              have n0_ := Aside0.mk (KP.out.step hb rfl (by repeat (first | (with_reducible first | exact KP.out.hb | apply below_alloc | apply pw_below_drewN | apply below_drew1) | exact KP.out.hb)))
              clear KP
              have KP := n0_
              clear n0_
              (try clear hb)
              (try clear hb2)
              (try clear hk)
              (try clear hi)
              refine hK.out _ _ ⟨(blk_cell KP.out.c1 0).trans rfl, (blk_cell KP.out.c1 1).trans rfl, (blk_cell KP.out.c2 0).trans rfl, (blk_cell KP.out.c2 1).trans rfl⟩ (fun hHeld => ?_)
              clear hK K
              refine norm_ (a' := ?_) ?_ ?_
              rotate_left
              ·show Act.put _ (some 87) _ = _
               simp only [Act.put, List.setIfInBounds_toArray, List.set_cons_zero, List.set_cons_succ, i64_w, i32_w]
               rfl
              refine pure_ (i := 12) (N := some 88) (v := ?_) (a' := ?_) #[true, true, true, true, true, true, true, true, true, true, true, true, true, false] rfl rfl (any_of HT_.out (by kernel_rfl)) (fun _ _ _ h => h) (Or.inl ⟨by rfl, ?_⟩) ?_ ?_
              rotate_left
              ·intro w'
               go_simp
               with_reducible rfl
              rotate_left
              ·simp only [Act.put, List.setIfInBounds_toArray, List.set_cons_zero, List.set_cons_succ, i64_w, i32_w]
               rfl
              refine pure_ (i := 13) (N := some 6) (v := ?_) (a' := ?_) #[true, true, true, true, true, true, true, true, true, true, true, true, true, true] rfl rfl (any_of HT_.out (by kernel_rfl)) (fun _ _ _ h => h) (Or.inl ⟨by rfl, ?_⟩) ?_ ?_
              rotate_left
              ·intro w'
               go_simp
               with_reducible rfl
              rotate_left
              ·simp only [Act.put, List.setIfInBounds_toArray, List.set_cons_zero, List.set_cons_succ, i64_w, i32_w]
               rfl
              refine done_ (done_of HT_.out (by kernel_rfl)) ?_
              try go_wp2
              go_ret
              exact ⟨by first | rfl | (simp [errW_none, errW_some] <;> rfl) | (simp [*, errW_none, errW_some] <;> rfl), by repeat (first | (with_reducible first | exact KP.out.hb | apply below_alloc | apply pw_below_drewN | apply below_drew1) | exact KP.out.hb)⟩
 ·replace c5 := Bool.eq_false_iff.mpr c5
  subst c5
  have H1 : (none) = some r := by rw [if_neg (show ¬ (false = true) by decide)] at H; exact H
  clear H
  have H := H1
  clear H1
  exact absurd H (by simp)

end Go.Proofs.YtbgcmbnnkigjjaaDoor.PP
