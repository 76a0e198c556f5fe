-- made by fvprint.py over the kit's print
import Derived.Test.YtbgcmbnnkigjjaaDoorPPx0
import Derived.Test.YtbgcmbnnkigjjaaDoorPPx17
namespace Go.Proofs.YtbgcmbnnkigjjaaDoor.PP
open Go.RowKit Go.Proofs.YtbgcmbnnkigjjaaDoorW.PrintWords Go.Proofs.YtbgcmbnnkigjjaaDoorW.PrintLast Go.Proofs.YtbgcmbnnkigjjaaDoorW.PrintMore
attribute [local go_sem] max2_int min2_int max_two min_two max_three min_three max_four min_four   -- for this text's walks alone
set_option linter.unusedVariables false
set_option linter.unusedSimpArgs false

attribute [local go_sem] cell_set_some
/-! ### witheref9_Line: function 16 -/
mutual
def witheref9_Line.l0 : Nat → List ByteArray → List (List ByteArray) → ByteArray → Int → List (List Int) → List Int → Option (ByteArray)
 | 0, _, _, _, _, _, _ => none
 | k + 1, x0, x1, x7, x8, x256000, x256001 => if x8 < (x1.length : Int) then (witheref9_Line.j1 k x0 x1 x7 x8 (decide (x8 < (x256000.length : Int))) x256000 x256001) else (witheref9_Line.j1 k x0 x1 x7 x8 false x256000 x256001)
def witheref9_Line.j1 : Nat → List ByteArray → List (List ByteArray) → ByteArray → Int → Bool → List (List Int) → List Int → Option (ByteArray)
 | 0, _, _, _, _, _, _, _ => none
 | k + 1, x0, x1, x7, x8, x21, x256000, x256001 => if x21 = true then (witheref9_Line.l1 k x0 x1 x7 x8 0 x256000 x256001) else (witheref9_Line.l2 k x0 x7 0 x256000 x256001)
def witheref9_Line.l1 : Nat → List ByteArray → List (List ByteArray) → ByteArray → Int → Int → List (List Int) → List Int → Option (ByteArray)
 | 0, _, _, _, _, _, _, _ => none
 | k + 1, x0, x1, x7, x8, x9, x256000, x256001 => if 0 ≤ x8 then (if x8 < (x1.length : Int) then (if x9 < ((rd_L2 x1 x8).length : Int) then (if x8 < (x256000.length : Int) then (witheref9_Line.j3 k x0 x1 x7 x8 x9 (decide (x9 < ((rd_L3 x256000 x8).length : Int))) x256000 x256001) else (none)) else (witheref9_Line.j3 k x0 x1 x7 x8 x9 false x256000 x256001)) else (none)) else (none)
def witheref9_Line.j3 : Nat → List ByteArray → List (List ByteArray) → ByteArray → Int → Int → Bool → List (List Int) → List Int → Option (ByteArray)
 | 0, _, _, _, _, _, _, _, _ => none
 | k + 1, x0, x1, x7, x8, x9, x40, x256000, x256001 => if x40 = true then (if x7.size + 1 ≤ 9223372036854775807 then ((witheref6_Digits.f k x8).bind fun t258 => (if (x7 ++ (⟨#[32]⟩ : ByteArray)).size + t258.size ≤ 9223372036854775807 then (if ((x7 ++ (⟨#[32]⟩ : ByteArray)) ++ t258).size + 1 ≤ 9223372036854775807 then (if 0 ≤ x8 then (if x8 < (x1.length : Int) then (if 0 ≤ x9 then (if x9 < ((rd_L2 x1 x8).length : Int) then (if (((x7 ++ (⟨#[32]⟩ : ByteArray)) ++ t258) ++ (⟨#[58]⟩ : ByteArray)).size + (rdOf ByteArray.empty (rd_L2 x1 x8) x9).size ≤ 9223372036854775807 then (if ((((x7 ++ (⟨#[32]⟩ : ByteArray)) ++ t258) ++ (⟨#[58]⟩ : ByteArray)) ++ (rdOf ByteArray.empty (rd_L2 x1 x8) x9)).size + 1 ≤ 9223372036854775807 then (if x8 < (x256000.length : Int) then (if x9 < ((rd_L3 x256000 x8).length : Int) then ((witheref6_Digits.f k (rd (rd_L3 x256000 x8) x9)).bind fun t263 => (if (((((x7 ++ (⟨#[32]⟩ : ByteArray)) ++ t258) ++ (⟨#[58]⟩ : ByteArray)) ++ (rdOf ByteArray.empty (rd_L2 x1 x8) x9)) ++ (⟨#[61]⟩ : ByteArray)).size + t263.size ≤ 9223372036854775807 then (witheref9_Line.l1 k x0 x1 ((((((x7 ++ (⟨#[32]⟩ : ByteArray)) ++ t258) ++ (⟨#[58]⟩ : ByteArray)) ++ (rdOf ByteArray.empty (rd_L2 x1 x8) x9)) ++ (⟨#[61]⟩ : ByteArray)) ++ t263) x8 (wrap64 (x9 + 1)) x256000 x256001) else (none))) else (none)) else (none)) else (none)) else (none)) else (none)) else (none)) else (none)) else (none)) else (none)) else (none))) else (none)) else (witheref9_Line.l0 k x0 x1 x7 (wrap64 (x8 + 1)) x256000 x256001)
def witheref9_Line.l2 : Nat → List ByteArray → ByteArray → Int → List (List Int) → List Int → Option (ByteArray)
 | 0, _, _, _, _, _ => none
 | k + 1, x0, x7, x10, x256000, x256001 => if x10 < (x0.length : Int) then (if x10 < (x256001.length : Int) then (if x7.size + 1 ≤ 9223372036854775807 then (if 0 ≤ x10 then (if (x7 ++ (⟨#[32]⟩ : ByteArray)).size + (rdOf ByteArray.empty x0 x10).size ≤ 9223372036854775807 then (if ((x7 ++ (⟨#[32]⟩ : ByteArray)) ++ (rdOf ByteArray.empty x0 x10)).size + 1 ≤ 9223372036854775807 then ((witheref6_Digits.f k (rd x256001 x10)).bind fun t266 => (if (((x7 ++ (⟨#[32]⟩ : ByteArray)) ++ (rdOf ByteArray.empty x0 x10)) ++ (⟨#[61]⟩ : ByteArray)).size + t266.size ≤ 9223372036854775807 then (witheref9_Line.l2 k x0 ((((x7 ++ (⟨#[32]⟩ : ByteArray)) ++ (rdOf ByteArray.empty x0 x10)) ++ (⟨#[61]⟩ : ByteArray)) ++ t266) (wrap64 (x10 + 1)) x256000 x256001) else (none))) else (none)) else (none)) else (none)) else (none)) else (if x7.toList = ([] : List UInt8) then (some (⟨#[]⟩ : ByteArray)) else (if 1 ≤ (x7.size : Int) then (some (x7.extract 1 x7.size)) else (none)))) else (if x7.toList = ([] : List UInt8) then (some (⟨#[]⟩ : ByteArray)) else (if 1 ≤ (x7.size : Int) then (some (x7.extract 1 x7.size)) else (none)))
end
def witheref9_Line.f (k : Nat) (l0 : List ByteArray) (l1 : List (List ByteArray)) (l2_0 : List (List Int)) (l2_1 : List Int) : Option (ByteArray) := witheref9_Line.l0 k l0 l1 (⟨#[]⟩ : ByteArray) 0 l2_0 l2_1
theorem witheref9_Line.mono_l : ∀ k, (∀ y0 y1 y2 y3 y4 y5, LeO (witheref9_Line.l0 k y0 y1 y2 y3 y4 y5) (witheref9_Line.l0 (k + 1) y0 y1 y2 y3 y4 y5)) ∧ (∀ y0 y1 y2 y3 y4 y5 y6, LeO (witheref9_Line.j1 k y0 y1 y2 y3 y4 y5 y6) (witheref9_Line.j1 (k + 1) y0 y1 y2 y3 y4 y5 y6)) ∧ (∀ y0 y1 y2 y3 y4 y5 y6, LeO (witheref9_Line.l1 k y0 y1 y2 y3 y4 y5 y6) (witheref9_Line.l1 (k + 1) y0 y1 y2 y3 y4 y5 y6)) ∧ (∀ y0 y1 y2 y3 y4 y5 y6 y7, LeO (witheref9_Line.j3 k y0 y1 y2 y3 y4 y5 y6 y7) (witheref9_Line.j3 (k + 1) y0 y1 y2 y3 y4 y5 y6 y7)) ∧ (∀ y0 y1 y2 y3 y4, LeO (witheref9_Line.l2 k y0 y1 y2 y3 y4) (witheref9_Line.l2 (k + 1) y0 y1 y2 y3 y4))
 | 0 => ⟨fun _ _ _ _ _ _ r h => by simp [witheref9_Line.l0] at h, fun _ _ _ _ _ _ _ r h => by simp [witheref9_Line.j1] at h, fun _ _ _ _ _ _ _ r h => by simp [witheref9_Line.l1] at h, fun _ _ _ _ _ _ _ _ r h => by simp [witheref9_Line.j3] at h, fun _ _ _ _ _ r h => by simp [witheref9_Line.l2] at h⟩
 | k + 1 => by
  obtain ⟨ih0, ih1, ih2, ih3, ih4⟩ := witheref9_Line.mono_l k
  refine ⟨?_, ?_, ?_, ?_, ?_⟩
  ·intro y0 y1 y2 y3 y4 y5
   unfold witheref9_Line.l0
   repeat' first
   | (with_reducible exact ih0 _ _ _ _ _ _)
   | (with_reducible exact ih1 _ _ _ _ _ _ _)
   | (with_reducible exact ih2 _ _ _ _ _ _ _)
   | (with_reducible exact ih3 _ _ _ _ _ _ _ _)
   | (with_reducible exact ih4 _ _ _ _ _)
   | (with_reducible exact witheref6_Digits.mono _ _)
   | (with_reducible exact LeO.refl _)
   | (with_reducible exact LeO.none _)
   | (with_reducible refine LeO.ite ?_ ?_)
   | (with_reducible refine LeO.bind ?_ (fun _ => ?_))
   | exact ih0 _ _ _ _ _ _
   | exact ih1 _ _ _ _ _ _ _
   | exact ih2 _ _ _ _ _ _ _
   | exact ih3 _ _ _ _ _ _ _ _
   | exact ih4 _ _ _ _ _
   | exact witheref6_Digits.mono _ _
   | exact LeO.none _
   | refine LeO.ite ?_ ?_
   | refine LeO.bind ?_ (fun _ => ?_)
  ·intro y0 y1 y2 y3 y4 y5 y6
   unfold witheref9_Line.j1
   repeat' first
   | (with_reducible exact ih0 _ _ _ _ _ _)
   | (with_reducible exact ih1 _ _ _ _ _ _ _)
   | (with_reducible exact ih2 _ _ _ _ _ _ _)
   | (with_reducible exact ih3 _ _ _ _ _ _ _ _)
   | (with_reducible exact ih4 _ _ _ _ _)
   | (with_reducible exact witheref6_Digits.mono _ _)
   | (with_reducible exact LeO.refl _)
   | (with_reducible exact LeO.none _)
   | (with_reducible refine LeO.ite ?_ ?_)
   | (with_reducible refine LeO.bind ?_ (fun _ => ?_))
   | exact ih0 _ _ _ _ _ _
   | exact ih1 _ _ _ _ _ _ _
   | exact ih2 _ _ _ _ _ _ _
   | exact ih3 _ _ _ _ _ _ _ _
   | exact ih4 _ _ _ _ _
   | exact witheref6_Digits.mono _ _
   | exact LeO.none _
   | refine LeO.ite ?_ ?_
   | refine LeO.bind ?_ (fun _ => ?_)
  ·intro y0 y1 y2 y3 y4 y5 y6
   unfold witheref9_Line.l1
   repeat' first
   | (with_reducible exact ih0 _ _ _ _ _ _)
   | (with_reducible exact ih1 _ _ _ _ _ _ _)
   | (with_reducible exact ih2 _ _ _ _ _ _ _)
   | (with_reducible exact ih3 _ _ _ _ _ _ _ _)
   | (with_reducible exact ih4 _ _ _ _ _)
   | (with_reducible exact witheref6_Digits.mono _ _)
   | (with_reducible exact LeO.refl _)
   | (with_reducible exact LeO.none _)
   | (with_reducible refine LeO.ite ?_ ?_)
   | (with_reducible refine LeO.bind ?_ (fun _ => ?_))
   | exact ih0 _ _ _ _ _ _
   | exact ih1 _ _ _ _ _ _ _
   | exact ih2 _ _ _ _ _ _ _
   | exact ih3 _ _ _ _ _ _ _ _
   | exact ih4 _ _ _ _ _
   | exact witheref6_Digits.mono _ _
   | exact LeO.none _
   | refine LeO.ite ?_ ?_
   | refine LeO.bind ?_ (fun _ => ?_)
  ·intro y0 y1 y2 y3 y4 y5 y6 y7
   unfold witheref9_Line.j3
   repeat' first
   | (with_reducible exact ih0 _ _ _ _ _ _)
   | (with_reducible exact ih1 _ _ _ _ _ _ _)
   | (with_reducible exact ih2 _ _ _ _ _ _ _)
   | (with_reducible exact ih3 _ _ _ _ _ _ _ _)
   | (with_reducible exact ih4 _ _ _ _ _)
   | (with_reducible exact witheref6_Digits.mono _ _)
   | (with_reducible exact LeO.refl _)
   | (with_reducible exact LeO.none _)
   | (with_reducible refine LeO.ite ?_ ?_)
   | (with_reducible refine LeO.bind ?_ (fun _ => ?_))
   | exact ih0 _ _ _ _ _ _
   | exact ih1 _ _ _ _ _ _ _
   | exact ih2 _ _ _ _ _ _ _
   | exact ih3 _ _ _ _ _ _ _ _
   | exact ih4 _ _ _ _ _
   | exact witheref6_Digits.mono _ _
   | exact LeO.none _
   | refine LeO.ite ?_ ?_
   | refine LeO.bind ?_ (fun _ => ?_)
  ·intro y0 y1 y2 y3 y4
   unfold witheref9_Line.l2
   repeat' first
   | (with_reducible exact ih0 _ _ _ _ _ _)
   | (with_reducible exact ih1 _ _ _ _ _ _ _)
   | (with_reducible exact ih2 _ _ _ _ _ _ _)
   | (with_reducible exact ih3 _ _ _ _ _ _ _ _)
   | (with_reducible exact ih4 _ _ _ _ _)
   | (with_reducible exact witheref6_Digits.mono _ _)
   | (with_reducible exact LeO.refl _)
   | (with_reducible exact LeO.none _)
   | (with_reducible refine LeO.ite ?_ ?_)
   | (with_reducible refine LeO.bind ?_ (fun _ => ?_))
   | exact ih0 _ _ _ _ _ _
   | exact ih1 _ _ _ _ _ _ _
   | exact ih2 _ _ _ _ _ _ _
   | exact ih3 _ _ _ _ _ _ _ _
   | exact ih4 _ _ _ _ _
   | exact witheref6_Digits.mono _ _
   | exact LeO.none _
   | refine LeO.ite ?_ ?_
   | refine LeO.bind ?_ (fun _ => ?_)
theorem witheref9_Line.mono : ∀ a0 a1 a2 a3 k, LeO (witheref9_Line.f k a0 a1 a2 a3) (witheref9_Line.f (k + 1) a0 a1 a2 a3) := by
 intro a0 a1 a2 a3 k
 obtain ⟨ih0, ih1, ih2, ih3, ih4⟩ := witheref9_Line.mono_l k
 unfold witheref9_Line.f
 repeat' first
  | (with_reducible exact ih0 _ _ _ _ _ _)
  | (with_reducible exact ih1 _ _ _ _ _ _ _)
  | (with_reducible exact ih2 _ _ _ _ _ _ _)
  | (with_reducible exact ih3 _ _ _ _ _ _ _ _)
  | (with_reducible exact ih4 _ _ _ _ _)
  | (with_reducible exact witheref6_Digits.mono _ _)
  | (with_reducible exact LeO.refl _)
  | (with_reducible exact LeO.none _)
  | (with_reducible refine LeO.ite ?_ ?_)
  | (with_reducible refine LeO.bind ?_ (fun _ => ?_))
  | exact ih0 _ _ _ _ _ _
  | exact ih1 _ _ _ _ _ _ _
  | exact ih2 _ _ _ _ _ _ _
  | exact ih3 _ _ _ _ _ _ _ _
  | exact ih4 _ _ _ _ _
  | exact witheref6_Digits.mono _ _
  | exact LeO.none _
  | refine LeO.ite ?_ ?_
  | refine LeO.bind ?_ (fun _ => ?_)
def witheref9_Line.T8 : Bool × List (List Nat × List Nat) := (true, [([], []), ([0], [0]), ([], []), ([2], [2]), ([1, 3], [1, 3]), ([4], [4]), ([], []), ([], []), ([6, 7], [6, 7]), ([8], [8]), ([], []), ([9, 10], [9, 10]), ([11], [11]), ([5, 12], [5, 12]), ([13], [13]), ([], []), ([15], [15]), ([], []), ([16, 17], [16, 17]), ([18], [18]), ([], []), ([19, 20], [19, 20]), ([21], [21]), ([22, 3], [22]), ([14, 23], [14, 23]), ([24, 23, 0, 1, 2, 3, 4, 5, 6, 7, 8, 9, 10, 11, 12, 13, 14, 15, 16, 17, 18, 19, 20, 21, 22, 23, 24], [0, 24])])
def witheref9_Line.B8 : List Nat := [0, 1, 0, 4, 15, 31, 0, 0, 192, 448, 0, 1984, 4032, 8191, 16383, 0, 32768, 0, 229376, 491520, 0, 2064384, 4161536, 8355852, 16777215, 33554431]
theorem witheref9_Line.tab8 : rtab .any (opsOf Tryd.f16 8) = witheref9_Line.T8 := by kernel_rfl
theorem witheref9_Line.bits8 : waitsOk witheref9_Line.T8.2 witheref9_Line.B8 = true := by kernel_rfl
def witheref9_Line.T12 : Bool × List (List Nat × List Nat) := (true, [([], []), ([0], [0]), ([], []), ([], []), ([2, 3], [2, 3]), ([4], [4]), ([1, 5], [1, 5]), ([6], [6]), ([], []), ([8], [8]), ([], []), ([9, 10], [9, 10]), ([11], [11]), ([12], [12]), ([7, 13], [7, 13]), ([14, 13, 0, 1, 2, 3, 4, 5, 6, 7, 8, 9, 10, 11, 12, 13, 14], [0, 14])])
def witheref9_Line.B12 : List Nat := [0, 1, 0, 0, 12, 28, 63, 127, 0, 256, 0, 1792, 3840, 7936, 16383, 32767]
theorem witheref9_Line.tab12 : rtab .any (opsOf Tryd.f16 12) = witheref9_Line.T12 := by kernel_rfl
theorem witheref9_Line.bits12 : waitsOk witheref9_Line.T12.2 witheref9_Line.B12 = true := by kernel_rfl
set_option maxHeartbeats 8000000 in
set_option maxRecDepth 100000 in
theorem witheref9_Line.calls (k : Nat) (A0 : Option Addr) (c0 : Nat) (l0 : List ByteArray) (A1 : Option Addr) (c1 : Nat) (l1 : List (List ByteArray)) (A2_0 : Option Addr) (c2_0 : Nat) (l2_0 : List (List Int)) (A2_1 : Option Addr) (c2_1 : Nat) (l2_1 : List Int) (r : ByteArray) (w : World) (hr0 : Kd.C Kd.string w A0 l0.length l0) (hc0 : l0.length ≤ c0) (hr1 : Kd.C (Kd.slice 9 Kd.string) w A1 l1.length l1) (hc1 : l1.length ≤ c1) (hr2_0 : Kd.C (Kd.slice 3 (Kd.int .i64)) w A2_0 l2_0.length l2_0) (hc2_0 : l2_0.length ≤ c2_0) (hr2_1 : Kd.C (Kd.int .i64) w A2_1 l2_1.length l2_1) (hc2_1 : l2_1.length ≤ c2_1) (h : witheref9_Line.f k l0 l1 l2_0 l2_1 = some r) :
 Calls Tryd.prog 16 #[.slice A0 l0.length c0, .slice A1 l1.length c1, .agg #[.slice A2_0 l2_0.length c2_0, .slice A2_1 l2_1.length c2_1]] w fun e w' => e = .returned (.string r) ∧ Below w.heap.size w w' := by
 have hu30 := Tryd.underlying30
 have HR0 := Aside0.mk hr0
 have HC0 := Aside0.mk hc0
 clear hr0 hc0
 have HR1 := Aside0.mk hr1
 have HC1 := Aside0.mk hc1
 clear hr1 hc1
 have HR2_0 := Aside0.mk hr2_0
 have HC2_0 := Aside0.mk hc2_0
 clear hr2_0 hc2_0
 have HR2_1 := Aside0.mk hr2_1
 have HC2_1 := Aside0.mk hc2_1
 clear hr2_1 hc2_1
 have HB := Aside0.mk (Below.refl w.heap.size w)
 have H : (witheref9_Line.l0 k l0 l1 (⟨#[]⟩ : ByteArray) 0 l2_0 l2_1) = some r := h
 clear h
 have H' := Aside0.mk H
 clear H
 go_enter Tryd.func16, Tryd.ntmps16
 go_wp2_with (first | ((with_reducible refine gate_dst (N := 5) rfl ?_); (try (refine gate_guard (by rfl) ?_; dsimp only)); refine box_event ?hg (N := 5) ?hd (cs := #[.slice A2_0 l2_0.length c2_0, .slice A2_1 l2_1.length c2_1]) (t := 30) ?hr ?_; (case hd => rfl); (case hg => rfl); (case hr => first | (go_simp; done) | (go_simp; rfl)); intro gb255 hg w4 hbox hb; have n0_ := Aside0.mk (below_step (by repeat (first | (with_reducible first | exact HB.out | apply below_alloc | apply pw_below_drewN | apply below_drew1) | exact HB.out)) hb); have n1_ := Aside0.mk (hbox); have n2_ := Aside0.mk ((by rw [hg]; exact (below_size (by repeat (first | (with_reducible first | exact HB.out | apply below_alloc | apply pw_below_drewN | apply below_drew1) | exact HB.out))) : w.heap.size ≤ gb255)); have n3_ := Aside0.mk ((by rw [hg]; exact (below_size (by repeat (first | (with_reducible first | exact HB.out | apply below_alloc | apply pw_below_drewN | apply below_drew1) | exact HB.out))) : w.heap.size ≤ gb255)); clear HB; have HB := n0_; have BK255 := n1_; have GW255 := n2_; have GE255 := n3_; clear n0_ n1_ n2_ n3_; clear hb hbox hg))
 try go_simp
 go_loopg [7, 8] k (fun kq v7 v8 w' => ∃ (x7_1 : ByteArray) (x8_1 : Int), v7 = .string x7_1 ∧ v8 = .int .i64 x8_1 ∧ Aside0 (witheref9_Line.l0 kq l0 l1 x7_1 x8_1 l2_0 l2_1 = some r) ∧ Aside0 (kq ≤ k) ∧ Aside0 (w'.heap[gb255]? = some (.cells #[(.slice A2_0 l2_0.length c2_0), (.slice A2_1 l2_1.length c2_1)] 30 (0, 0))) ∧ Aside0 (Below w.heap.size w w'))
 case atStart => exact ⟨((⟨#[]⟩ : ByteArray)), (0), (by first | rfl | (simp; done) | (simp [*]; done)), (by first | rfl | (simp; done) | (simp [*]; done)), H', ⟨Nat.le_refl _⟩, ⟨by (with_reducible repeat (first | refine blk_drewN ?_ _ | refine blk_drew ?_ | refine blk_alloc ?_ _)); exact BK255.out⟩, ⟨by repeat (first | (with_reducible first | exact HB.out | apply below_alloc | apply pw_below_drewN | apply below_drew1 | refine below_set ?_ GE255.out) | exact HB.out)⟩⟩
 case round =>
  clear H'
  try clear c1
  try clear c2
  try clear p2
  obtain ⟨x7_1, x8_1, rfl, rfl, HA, HK1, BK255, HB⟩ := hrel
  cases gk with
  | zero => exact absurd HA.out (by simp [witheref9_Line.l0])
  | succ k1 =>
   have H := HA.out
   clear HA
   simp only [witheref9_Line.l0] at H
   have HC5 := Aside0.mk H
   clear H
   go_upto_region 3 with (fail)
   go_cut [21] (fun v21 wc => ∃ (kq : Nat) (x21_4 : Bool), v21 = .bool x21_4 ∧ Aside0 (witheref9_Line.j1 kq l0 l1 x7_1 x8_1 x21_4 l2_0 l2_1 = some r) ∧ Aside0 (kq ≤ k1) ∧ Aside0 (wc.heap[gb255]? = some (.cells #[(.slice A2_0 l2_0.length c2_0), (.slice A2_1 l2_1.length c2_1)] 30 (0, 0))) ∧ Aside0 (Below w.heap.size w wc))
   case first =>
    have H := HC5.out
    clear HC5
    by_cases c6 : x8_1 < (l1.length : Int)
    ·rw [if_pos c6] at H
     have c6b0 : decide (x8_1 < (l1.length : Int)) = true := decide_eq_true c6
     clear c6
     (first | rw [c6b0] | (simp only [i64_w, i32_w]; rw [c6b0]) | skip)
     have H' := Aside0.mk H
     clear H
     have hcz7_0 : wr.cell? ⟨gb255, 0, none⟩ = some (.slice A2_0 l2_0.length c2_0) := (blk_cell BK255.out 0).trans rfl
     have hcz7_1 : wr.cell? ⟨gb255, 1, none⟩ = some (.slice A2_1 l2_1.length c2_1) := (blk_cell BK255.out 1).trans rfl
     have hfz7_0 := blk_frozen BK255.out 0
     have hfz7_1 := blk_frozen BK255.out 1
     go_wp2
     go_meet
     case rel => exact ⟨_, (decide (x8_1 < (l2_0.length : Int))), (by first | rfl | (simp; done) | (simp [*]; done)), H', ⟨by have := HK1.out; first | omega | exact Nat.le_refl _⟩, ⟨by (with_reducible repeat (first | refine blk_drewN ?_ _ | refine blk_drew ?_ | refine blk_alloc ?_ _)); exact BK255.out⟩, ⟨by repeat (first | (with_reducible first | exact HB.out | apply below_alloc | apply pw_below_drewN | apply below_drew1 | refine below_set ?_ GE255.out) | exact HB.out)⟩⟩
    ·rw [if_neg c6] at H
     have c6b0 : decide (x8_1 < (l1.length : Int)) = false := decide_eq_false c6
     clear c6
     (first | rw [c6b0] | (simp only [i64_w, i32_w]; rw [c6b0]) | skip)
     have H' := Aside0.mk H
     clear H
     go_wp2
     go_meet
     case rel => exact ⟨_, (false), (by first | rfl | (simp; done) | (simp [*]; done)), H', ⟨by have := HK1.out; first | omega | exact Nat.le_refl _⟩, ⟨by (with_reducible repeat (first | refine blk_drewN ?_ _ | refine blk_drew ?_ | refine blk_alloc ?_ _)); exact BK255.out⟩, ⟨by repeat (first | (with_reducible first | exact HB.out | apply below_alloc | apply pw_below_drewN | apply below_drew1 | refine below_set ?_ GE255.out) | exact HB.out)⟩⟩
   case rest =>
    clear HC5
    try clear c1
    try clear c2
    try clear p2
    try clear c6
    try clear c6b0
    try clear hcz7_0
    try clear hcz7_1
    try clear hfz7_0
    try clear hfz7_1
    try clear p2
    obtain ⟨kq, x21_4, rfl, HA, HJ4, BK255, HB⟩ := hcut
    cases kq with
    | zero => exact absurd HA.out (by simp [witheref9_Line.j1])
    | succ kj4 =>
     have H := HA.out
     clear HA
     simp only [witheref9_Line.j1] at H
     by_cases c8 : x21_4 = true
     ·subst c8
      have H1 : (witheref9_Line.l1 kj4 l0 l1 x7_1 x8_1 0 l2_0 l2_1) = some r := by rw [if_pos rfl] at H; exact H
      clear H
      have H := H1
      clear H1
      have H' := Aside0.mk H
      clear H
      go_wp2
      try go_simp
      go_loopg [7, 9] kj4 (fun kq v7 v9 w' => ∃ (x7_3 : ByteArray) (x9_3 : Int), v7 = .string x7_3 ∧ v9 = .int .i64 x9_3 ∧ Aside0 (witheref9_Line.l1 kq l0 l1 x7_3 x8_1 x9_3 l2_0 l2_1 = some r) ∧ Aside0 (kq ≤ kj4) ∧ Aside0 (w'.heap[gb255]? = some (.cells #[(.slice A2_0 l2_0.length c2_0), (.slice A2_1 l2_1.length c2_1)] 30 (0, 0))) ∧ Aside0 (Below w.heap.size w w'))
      case atStart => exact ⟨(x7_1), (0), (by first | rfl | (simp; done) | (simp [*]; done)), (by first | rfl | (simp; done) | (simp [*]; done)), H', ⟨Nat.le_refl _⟩, ⟨by (with_reducible repeat (first | refine blk_drewN ?_ _ | refine blk_drew ?_ | refine blk_alloc ?_ _)); exact BK255.out⟩, ⟨by repeat (first | (with_reducible first | exact HB.out | apply below_alloc | apply pw_below_drewN | apply below_drew1 | refine below_set ?_ GE255.out) | exact HB.out)⟩⟩
      case round =>
       clear H'
       try clear c1
       try clear c2
       try clear p2
       try clear c6
       try clear c6b0
       try clear c8
       try clear hcz7_0
       try clear hcz7_1
       try clear hfz7_0
       try clear hfz7_1
       try clear p2
       obtain ⟨x7_3, x9_3, rfl, rfl, HA, HK3, BK255, HB⟩ := hrel
       cases gk with
       | zero => exact absurd HA.out (by simp [witheref9_Line.l1])
       | succ k3 =>
        have H := HA.out
        clear HA
        simp only [witheref9_Line.l1] at H
        have HC9 := Aside0.mk H
        clear H
        go_upto_region 6 with (fail)
        go_cut [40] (fun v40 wc => ∃ (kq : Nat) (x40_8 : Bool), v40 = .bool x40_8 ∧ Aside0 (witheref9_Line.j3 kq l0 l1 x7_3 x8_1 x9_3 x40_8 l2_0 l2_1 = some r) ∧ Aside0 (kq ≤ k3) ∧ Aside0 (wc.heap[gb255]? = some (.cells #[(.slice A2_0 l2_0.length c2_0), (.slice A2_1 l2_1.length c2_1)] 30 (0, 0))) ∧ Aside0 (Below w.heap.size w wc))
        case first =>
         have H := HC9.out
         clear HC9
         by_cases c10 : 0 ≤ x8_1
         ·rw [if_pos c10] at H
          have c10b0 : decide (0 ≤ x8_1) = true := decide_eq_true c10
          clear c10
          (first | rw [c10b0] | (simp only [i64_w, i32_w]; rw [c10b0]) | skip)
          by_cases c11 : x8_1 < (l1.length : Int)
          ·rw [if_pos c11] at H
           have c11b0 : decide (x8_1 < (l1.length : Int)) = true := decide_eq_true c11
           clear c11
           by_cases c12 : x9_3 < ((rd_L2 l1 x8_1).length : Int)
           ·rw [if_pos c12] at H
            have c12b0 : decide (x9_3 < ((rd_L2 l1 x8_1).length : Int)) = true := decide_eq_true c12
            clear c12
            by_cases c13 : x8_1 < (l2_0.length : Int)
            ·rw [if_pos c13] at H
             have c13b0 : decide (x8_1 < (l2_0.length : Int)) = true := decide_eq_true c13
             clear c13
             have H' := Aside0.mk H
             clear H
             have p256 : 0 ≤ (x8_1 : Int) := of_decide_eq_true (by first | (with_reducible assumption) | assumption)
             have q256 : x8_1 < (l1.length : Int) := of_decide_eq_true (by first | (with_reducible assumption) | assumption)
             obtain ⟨ad256, A256_0, c256_0, e256, hx256_0, hl256_0, hi256_0⟩ := at_L2 HR1.out x8_1 p256 q256
             cases e256
             replace hx256_0 := (HB.out.cell (World.block_lt_of_cell? w _ hx256_0)).trans hx256_0
             have HR256_0 := Aside0.mk hi256_0
             have HC256_0 := Aside0.mk hl256_0
             clear hi256_0 hl256_0
             replace p256 := eq_true p256
             replace q256 := eq_true q256
             have hcz14_0 : wr.cell? ⟨gb255, 0, none⟩ = some (.slice A2_0 l2_0.length c2_0) := (blk_cell BK255.out 0).trans rfl
             have hcz14_1 : wr.cell? ⟨gb255, 1, none⟩ = some (.slice A2_1 l2_1.length c2_1) := (blk_cell BK255.out 1).trans rfl
             have hfz14_0 := blk_frozen BK255.out 0
             have hfz14_1 := blk_frozen BK255.out 1
             have p257 : 0 ≤ (x8_1 : Int) := of_decide_eq_true (by first | (with_reducible assumption) | assumption)
             have q257 : x8_1 < (l2_0.length : Int) := of_decide_eq_true (by first | (with_reducible assumption) | assumption)
             obtain ⟨ad257, A257_0, c257_0, e257, hx257_0, hl257_0, hi257_0⟩ := at_L3 HR2_0.out x8_1 p257 q257
             cases e257
             replace hx257_0 := (HB.out.cell (World.block_lt_of_cell? w _ hx257_0)).trans hx257_0
             have HR257_0 := Aside0.mk hi257_0
             have HC257_0 := Aside0.mk hl257_0
             clear hi257_0 hl257_0
             replace p257 := eq_true p257
             replace q257 := eq_true q257
             go_wp2
             go_meet
             case rel => exact ⟨_, (decide (x9_3 < ((rd_L3 l2_0 x8_1).length : Int))), (by first | rfl | (simp; done) | (simp [*]; done)), H', ⟨by have := HK1.out; have := HJ4.out; have := HK3.out; first | omega | exact Nat.le_refl _⟩, ⟨by (with_reducible repeat (first | refine blk_drewN ?_ _ | refine blk_drew ?_ | refine blk_alloc ?_ _)); exact BK255.out⟩, ⟨by repeat (first | (with_reducible first | exact HB.out | apply below_alloc | apply pw_below_drewN | apply below_drew1 | refine below_set ?_ GE255.out) | exact HB.out)⟩⟩
            ·rw [if_neg c13] at H
             exact absurd H (by simp)
           ·rw [if_neg c12] at H
            have c12b0 : decide (x9_3 < ((rd_L2 l1 x8_1).length : Int)) = false := decide_eq_false c12
            clear c12
            have H' := Aside0.mk H
            clear H
            have p256 : 0 ≤ (x8_1 : Int) := of_decide_eq_true (by first | (with_reducible assumption) | assumption)
            have q256 : x8_1 < (l1.length : Int) := of_decide_eq_true (by first | (with_reducible assumption) | assumption)
            obtain ⟨ad256, A256_0, c256_0, e256, hx256_0, hl256_0, hi256_0⟩ := at_L2 HR1.out x8_1 p256 q256
            cases e256
            replace hx256_0 := (HB.out.cell (World.block_lt_of_cell? w _ hx256_0)).trans hx256_0
            have HR256_0 := Aside0.mk hi256_0
            have HC256_0 := Aside0.mk hl256_0
            clear hi256_0 hl256_0
            replace p256 := eq_true p256
            replace q256 := eq_true q256
            go_wp2
            go_meet
            case rel => exact ⟨_, (false), (by first | rfl | (simp; done) | (simp [*]; done)), H', ⟨by have := HK1.out; have := HJ4.out; have := HK3.out; first | omega | exact Nat.le_refl _⟩, ⟨by (with_reducible repeat (first | refine blk_drewN ?_ _ | refine blk_drew ?_ | refine blk_alloc ?_ _)); exact BK255.out⟩, ⟨by repeat (first | (with_reducible first | exact HB.out | apply below_alloc | apply pw_below_drewN | apply below_drew1 | refine below_set ?_ GE255.out) | exact HB.out)⟩⟩
          ·rw [if_neg c11] at H
           exact absurd H (by simp)
         ·rw [if_neg c10] at H
          exact absurd H (by simp)
        case rest =>
         clear HC9
         try clear c1
         try clear c2
         try clear p2
         try clear q2
         try clear hx2
         try clear c6
         try clear c6b0
         try clear c8
         try clear c10
         try clear c10b0
         try clear c11
         try clear c11b0
         try clear c12
         try clear c12b0
         try clear c13
         try clear c13b0
         try clear hcz14_0
         try clear hcz14_1
         try clear hcz7_0
         try clear hcz7_1
         try clear hfz14_0
         try clear hfz14_1
         try clear hfz7_0
         try clear hfz7_1
         try clear hx256_0
         try clear hx257_0
         try clear p2
         try clear p256
         try clear p257
         try clear q256
         try clear q257
         obtain ⟨kq, x40_8, rfl, HA, HJ8, BK255, HB⟩ := hcut
         cases kq with
         | zero => exact absurd HA.out (by simp [witheref9_Line.j3])
         | succ kj8 =>
          have H := HA.out
          clear HA
          simp only [witheref9_Line.j3] at H
          by_cases c15 : x40_8 = true
          ·subst c15
           have H1 : (if x7_3.size + 1 ≤ 9223372036854775807 then ((witheref6_Digits.f kj8 x8_1).bind fun t258 => (if (x7_3 ++ (⟨#[32]⟩ : ByteArray)).size + t258.size ≤ 9223372036854775807 then (if ((x7_3 ++ (⟨#[32]⟩ : ByteArray)) ++ t258).size + 1 ≤ 9223372036854775807 then (if 0 ≤ x8_1 then (if x8_1 < (l1.length : Int) then (if 0 ≤ x9_3 then (if x9_3 < ((rd_L2 l1 x8_1).length : Int) then (if (((x7_3 ++ (⟨#[32]⟩ : ByteArray)) ++ t258) ++ (⟨#[58]⟩ : ByteArray)).size + (rdOf ByteArray.empty (rd_L2 l1 x8_1) x9_3).size ≤ 9223372036854775807 then (if ((((x7_3 ++ (⟨#[32]⟩ : ByteArray)) ++ t258) ++ (⟨#[58]⟩ : ByteArray)) ++ (rdOf ByteArray.empty (rd_L2 l1 x8_1) x9_3)).size + 1 ≤ 9223372036854775807 then (if x8_1 < (l2_0.length : Int) then (if x9_3 < ((rd_L3 l2_0 x8_1).length : Int) then ((witheref6_Digits.f kj8 (rd (rd_L3 l2_0 x8_1) x9_3)).bind fun t263 => (if (((((x7_3 ++ (⟨#[32]⟩ : ByteArray)) ++ t258) ++ (⟨#[58]⟩ : ByteArray)) ++ (rdOf ByteArray.empty (rd_L2 l1 x8_1) x9_3)) ++ (⟨#[61]⟩ : ByteArray)).size + t263.size ≤ 9223372036854775807 then (witheref9_Line.l1 kj8 l0 l1 ((((((x7_3 ++ (⟨#[32]⟩ : ByteArray)) ++ t258) ++ (⟨#[58]⟩ : ByteArray)) ++ (rdOf ByteArray.empty (rd_L2 l1 x8_1) x9_3)) ++ (⟨#[61]⟩ : ByteArray)) ++ t263) x8_1 (wrap64 (x9_3 + 1)) l2_0 l2_1) else (none))) else (none)) else (none)) else (none)) else (none)) else (none)) else (none)) else (none)) else (none)) else (none)) else (none))) else (none)) = some r := by rw [if_pos rfl] at H; exact H
           clear H
           have H := H1
           clear H1
           by_cases c16 : x7_3.size + 1 ≤ 9223372036854775807
           ·rw [if_pos c16] at H
            have c16b0 := eq_true c16
            have c16b1 : decide (x7_3.size + 1 ≤ 9223372036854775807) = true := decide_eq_true c16
            try have c16b2 : (9223372036854775807 < x7_3.size + 1) = False := eq_false (Nat.not_lt.2 c16)
            replace H := Option.bind_eq_some_iff.mp H
            obtain ⟨t258, A170, H⟩ := H
            replace H : (if (x7_3 ++ (⟨#[32]⟩ : ByteArray)).size + t258.size ≤ 9223372036854775807 then (if ((x7_3 ++ (⟨#[32]⟩ : ByteArray)) ++ t258).size + 1 ≤ 9223372036854775807 then (if 0 ≤ x8_1 then (if x8_1 < (l1.length : Int) then (if 0 ≤ x9_3 then (if x9_3 < ((rd_L2 l1 x8_1).length : Int) then (if (((x7_3 ++ (⟨#[32]⟩ : ByteArray)) ++ t258) ++ (⟨#[58]⟩ : ByteArray)).size + (rdOf ByteArray.empty (rd_L2 l1 x8_1) x9_3).size ≤ 9223372036854775807 then (if ((((x7_3 ++ (⟨#[32]⟩ : ByteArray)) ++ t258) ++ (⟨#[58]⟩ : ByteArray)) ++ (rdOf ByteArray.empty (rd_L2 l1 x8_1) x9_3)).size + 1 ≤ 9223372036854775807 then (if x8_1 < (l2_0.length : Int) then (if x9_3 < ((rd_L3 l2_0 x8_1).length : Int) then ((witheref6_Digits.f kj8 (rd (rd_L3 l2_0 x8_1) x9_3)).bind fun t263 => (if (((((x7_3 ++ (⟨#[32]⟩ : ByteArray)) ++ t258) ++ (⟨#[58]⟩ : ByteArray)) ++ (rdOf ByteArray.empty (rd_L2 l1 x8_1) x9_3)) ++ (⟨#[61]⟩ : ByteArray)).size + t263.size ≤ 9223372036854775807 then (witheref9_Line.l1 kj8 l0 l1 ((((((x7_3 ++ (⟨#[32]⟩ : ByteArray)) ++ t258) ++ (⟨#[58]⟩ : ByteArray)) ++ (rdOf ByteArray.empty (rd_L2 l1 x8_1) x9_3)) ++ (⟨#[61]⟩ : ByteArray)) ++ t263) x8_1 (wrap64 (x9_3 + 1)) l2_0 l2_1) else (none))) else (none)) else (none)) else (none)) else (none)) else (none)) else (none)) else (none)) else (none)) else (none)) else (none)) = some r := H
            have A17 := Aside0.mk A170
            clear A170
            by_cases c18 : (x7_3 ++ (⟨#[32]⟩ : ByteArray)).size + t258.size ≤ 9223372036854775807
            ·rw [if_pos c18] at H
             have c18b0 := eq_true c18
             have c18b1 : decide ((x7_3 ++ (⟨#[32]⟩ : ByteArray)).size + t258.size ≤ 9223372036854775807) = true := decide_eq_true c18
             try (have c18b1s := c18b1; simp only [ByteArray.size_append, show (⟨#[32]⟩ : ByteArray).size = 1 from rfl] at c18b1s)
             try have c18b2 : (9223372036854775807 < (x7_3 ++ (⟨#[32]⟩ : ByteArray)).size + t258.size) = False := eq_false (Nat.not_lt.2 c18)
             try (have c18b2s := c18b2; simp only [ByteArray.size_append, show (⟨#[32]⟩ : ByteArray).size = 1 from rfl] at c18b2s)
             by_cases c19 : ((x7_3 ++ (⟨#[32]⟩ : ByteArray)) ++ t258).size + 1 ≤ 9223372036854775807
             ·rw [if_pos c19] at H
              have c19b0 := eq_true c19
              have c19b1 : decide (((x7_3 ++ (⟨#[32]⟩ : ByteArray)) ++ t258).size + 1 ≤ 9223372036854775807) = true := decide_eq_true c19
              try (have c19b1s := c19b1; simp only [ByteArray.size_append, show (⟨#[32]⟩ : ByteArray).size = 1 from rfl] at c19b1s)
              try have c19b2 : (9223372036854775807 < ((x7_3 ++ (⟨#[32]⟩ : ByteArray)) ++ t258).size + 1) = False := eq_false (Nat.not_lt.2 c19)
              try (have c19b2s := c19b2; simp only [ByteArray.size_append, show (⟨#[32]⟩ : ByteArray).size = 1 from rfl] at c19b2s)
              by_cases c20 : 0 ≤ x8_1
              ·rw [if_pos c20] at H
               have c20b0 : decide (0 ≤ x8_1) = true := decide_eq_true c20
               clear c20
               by_cases c21 : x8_1 < (l1.length : Int)
               ·rw [if_pos c21] at H
                have c21b0 : decide (x8_1 < (l1.length : Int)) = true := decide_eq_true c21
                clear c21
                by_cases c22 : 0 ≤ x9_3
                ·rw [if_pos c22] at H
                 have c22b0 : decide (0 ≤ x9_3) = true := decide_eq_true c22
                 clear c22
                 by_cases c23 : x9_3 < ((rd_L2 l1 x8_1).length : Int)
                 ·rw [if_pos c23] at H
                  have c23b0 : decide (x9_3 < ((rd_L2 l1 x8_1).length : Int)) = true := decide_eq_true c23
                  clear c23
                  by_cases c24 : (((x7_3 ++ (⟨#[32]⟩ : ByteArray)) ++ t258) ++ (⟨#[58]⟩ : ByteArray)).size + (rdOf ByteArray.empty (rd_L2 l1 x8_1) x9_3).size ≤ 9223372036854775807
                  ·rw [if_pos c24] at H
                   have c24b0 := eq_true c24
                   have c24b1 : decide ((((x7_3 ++ (⟨#[32]⟩ : ByteArray)) ++ t258) ++ (⟨#[58]⟩ : ByteArray)).size + (rdOf ByteArray.empty (rd_L2 l1 x8_1) x9_3).size ≤ 9223372036854775807) = true := decide_eq_true c24
                   try (have c24b1s := c24b1; simp only [ByteArray.size_append, show (⟨#[32]⟩ : ByteArray).size = 1 from rfl, show (⟨#[58]⟩ : ByteArray).size = 1 from rfl] at c24b1s)
                   try have c24b2 : (9223372036854775807 < (((x7_3 ++ (⟨#[32]⟩ : ByteArray)) ++ t258) ++ (⟨#[58]⟩ : ByteArray)).size + (rdOf ByteArray.empty (rd_L2 l1 x8_1) x9_3).size) = False := eq_false (Nat.not_lt.2 c24)
                   try (have c24b2s := c24b2; simp only [ByteArray.size_append, show (⟨#[32]⟩ : ByteArray).size = 1 from rfl, show (⟨#[58]⟩ : ByteArray).size = 1 from rfl] at c24b2s)
                   by_cases c25 : ((((x7_3 ++ (⟨#[32]⟩ : ByteArray)) ++ t258) ++ (⟨#[58]⟩ : ByteArray)) ++ (rdOf ByteArray.empty (rd_L2 l1 x8_1) x9_3)).size + 1 ≤ 9223372036854775807
                   ·rw [if_pos c25] at H
                    have c25b0 := eq_true c25
                    have c25b1 : decide (((((x7_3 ++ (⟨#[32]⟩ : ByteArray)) ++ t258) ++ (⟨#[58]⟩ : ByteArray)) ++ (rdOf ByteArray.empty (rd_L2 l1 x8_1) x9_3)).size + 1 ≤ 9223372036854775807) = true := decide_eq_true c25
                    try (have c25b1s := c25b1; simp only [ByteArray.size_append, show (⟨#[32]⟩ : ByteArray).size = 1 from rfl, show (⟨#[58]⟩ : ByteArray).size = 1 from rfl] at c25b1s)
                    try have c25b2 : (9223372036854775807 < ((((x7_3 ++ (⟨#[32]⟩ : ByteArray)) ++ t258) ++ (⟨#[58]⟩ : ByteArray)) ++ (rdOf ByteArray.empty (rd_L2 l1 x8_1) x9_3)).size + 1) = False := eq_false (Nat.not_lt.2 c25)
                    try (have c25b2s := c25b2; simp only [ByteArray.size_append, show (⟨#[32]⟩ : ByteArray).size = 1 from rfl, show (⟨#[58]⟩ : ByteArray).size = 1 from rfl] at c25b2s)
                    by_cases c26 : x8_1 < (l2_0.length : Int)
                    ·rw [if_pos c26] at H
                     have c26b0 : decide (x8_1 < (l2_0.length : Int)) = true := decide_eq_true c26
                     clear c26
                     by_cases c27 : x9_3 < ((rd_L3 l2_0 x8_1).length : Int)
                     ·rw [if_pos c27] at H
                      have c27b0 : decide (x9_3 < ((rd_L3 l2_0 x8_1).length : Int)) = true := decide_eq_true c27
                      clear c27
                      replace H := Option.bind_eq_some_iff.mp H
                      obtain ⟨t263, A280, H⟩ := H
                      replace H : (if (((((x7_3 ++ (⟨#[32]⟩ : ByteArray)) ++ t258) ++ (⟨#[58]⟩ : ByteArray)) ++ (rdOf ByteArray.empty (rd_L2 l1 x8_1) x9_3)) ++ (⟨#[61]⟩ : ByteArray)).size + t263.size ≤ 9223372036854775807 then (witheref9_Line.l1 kj8 l0 l1 ((((((x7_3 ++ (⟨#[32]⟩ : ByteArray)) ++ t258) ++ (⟨#[58]⟩ : ByteArray)) ++ (rdOf ByteArray.empty (rd_L2 l1 x8_1) x9_3)) ++ (⟨#[61]⟩ : ByteArray)) ++ t263) x8_1 (wrap64 (x9_3 + 1)) l2_0 l2_1) else (none)) = some r := H
                      have A28 := Aside0.mk A280
                      clear A280
                      by_cases c29 : (((((x7_3 ++ (⟨#[32]⟩ : ByteArray)) ++ t258) ++ (⟨#[58]⟩ : ByteArray)) ++ (rdOf ByteArray.empty (rd_L2 l1 x8_1) x9_3)) ++ (⟨#[61]⟩ : ByteArray)).size + t263.size ≤ 9223372036854775807
                      ·rw [if_pos c29] at H
                       have c29b0 := eq_true c29
                       have c29b1 : decide ((((((x7_3 ++ (⟨#[32]⟩ : ByteArray)) ++ t258) ++ (⟨#[58]⟩ : ByteArray)) ++ (rdOf ByteArray.empty (rd_L2 l1 x8_1) x9_3)) ++ (⟨#[61]⟩ : ByteArray)).size + t263.size ≤ 9223372036854775807) = true := decide_eq_true c29
                       try (have c29b1s := c29b1; simp only [ByteArray.size_append, show (⟨#[32]⟩ : ByteArray).size = 1 from rfl, show (⟨#[58]⟩ : ByteArray).size = 1 from rfl, show (⟨#[61]⟩ : ByteArray).size = 1 from rfl] at c29b1s)
                       try have c29b2 : (9223372036854775807 < (((((x7_3 ++ (⟨#[32]⟩ : ByteArray)) ++ t258) ++ (⟨#[58]⟩ : ByteArray)) ++ (rdOf ByteArray.empty (rd_L2 l1 x8_1) x9_3)) ++ (⟨#[61]⟩ : ByteArray)).size + t263.size) = False := eq_false (Nat.not_lt.2 c29)
                       try (have c29b2s := c29b2; simp only [ByteArray.size_append, show (⟨#[32]⟩ : ByteArray).size = 1 from rfl, show (⟨#[58]⟩ : ByteArray).size = 1 from rfl, show (⟨#[61]⟩ : ByteArray).size = 1 from rfl] at c29b2s)
                       have H' := Aside0.mk H
                       clear H
                       try go_wp2
                       have n0_ := Aside0.mk (blk_drew BK255.out)
                       have n1_ := Aside0.mk (below_drew1 HB.out)
                       clear BK255
                       clear HB
                       have BK255 := n0_
                       have HB := n1_
                       clear n0_ n1_
                       have p259 : 0 ≤ (x8_1 : Int) := of_decide_eq_true (by first | (with_reducible assumption) | assumption)
                       have q259 : x8_1 < (l1.length : Int) := of_decide_eq_true (by first | (with_reducible assumption) | assumption)
                       obtain ⟨ad259, A259_0, c259_0, e259, hx259_0, hl259_0, hi259_0⟩ := at_L2 HR1.out x8_1 p259 q259
                       have hw259_0 := hx259_0
                       cases e259
                       replace hx259_0 := (HB.out.cell (World.block_lt_of_cell? w _ hx259_0)).trans hx259_0
                       have HR259_0 := Aside0.mk hi259_0
                       have HC259_0 := Aside0.mk hl259_0
                       clear hi259_0 hl259_0
                       replace p259 := eq_true p259
                       replace q259 := eq_true q259
                       have p260 : 0 ≤ (x9_3 : Int) := of_decide_eq_true (by first | (with_reducible assumption) | assumption)
                       have q260 : x9_3 < ((rd_L2 l1 x8_1).length : Int) := of_decide_eq_true (by first | (with_reducible assumption) | assumption)
                       obtain ⟨ad260, e260, hx260_0⟩ := Kd.at_string HR259_0.out x9_3 p260 q260
                       have hw260_0 := hx260_0
                       cases e260
                       replace hx260_0 := (HB.out.cell (World.block_lt_of_cell? w _ hx260_0)).trans hx260_0
                       replace p260 := eq_true p260
                       replace q260 := eq_true q260
                       have p261 : 0 ≤ (x8_1 : Int) := of_decide_eq_true (by first | (with_reducible assumption) | assumption)
                       have q261 : x8_1 < (l2_0.length : Int) := of_decide_eq_true (by first | (with_reducible assumption) | assumption)
                       obtain ⟨ad261, A261_0, c261_0, e261, hx261_0, hl261_0, hi261_0⟩ := at_L3 HR2_0.out x8_1 p261 q261
                       have hw261_0 := hx261_0
                       cases e261
                       replace hx261_0 := (HB.out.cell (World.block_lt_of_cell? w _ hx261_0)).trans hx261_0
                       have HR261_0 := Aside0.mk hi261_0
                       have HC261_0 := Aside0.mk hl261_0
                       clear hi261_0 hl261_0
                       replace p261 := eq_true p261
                       replace q261 := eq_true q261
                       have p262 : 0 ≤ (x9_3 : Int) := of_decide_eq_true (by first | (with_reducible assumption) | assumption)
                       have q262 : x9_3 < ((rd_L3 l2_0 x8_1).length : Int) := of_decide_eq_true (by first | (with_reducible assumption) | assumption)
                       obtain ⟨ad262, e262, hx262_0⟩ := Kd.at_int HR261_0.out x9_3 p262 q262
                       have hw262_0 := hx262_0
                       cases e262
                       replace hx262_0 := (HB.out.cell (World.block_lt_of_cell? w _ hx262_0)).trans hx262_0
                       replace p262 := eq_true p262
                       replace q262 := eq_true q262
                       refine start_ (n := 26) (S := fun w' => w'.cell? ⟨gb255, 0, none⟩ = some (.slice (some ad261) l2_0.length c2_0) ∧ w'.cell? ⟨gb255, 1, none⟩ = some (.slice A2_1 l2_1.length c2_1) ∧ w'.cell? (ad259.add (x8_1).toNat) = some (.slice (some ad260) (rd_L2 l1 x8_1).length c259_0) ∧ w'.cell? (ad260.add (x9_3).toNat) = some (.string (rdOf ByteArray.empty (rd_L2 l1 x8_1) x9_3)) ∧ w'.cell? (ad261.add (x8_1).toNat) = some (.slice (some ad262) (rd_L3 l2_0 x8_1).length c261_0) ∧ w'.cell? (ad262.add (x9_3).toNat) = some (.int .i64 (rd (rd_L3 l2_0 x8_1) x9_3))) (ds := []) #[false, false, false, false, false, false, false, false, false, false, false, false, false, false, false, false, false, false, false, false, false, false, false, false, false, false] (by kernel_rfl) rfl rfl ⟨(blk_cell BK255.out 0).trans rfl, (blk_cell BK255.out 1).trans rfl, ((HB.out.cell (World.block_lt_of_cell? w _ hw259_0)).trans hw259_0), ((HB.out.cell (World.block_lt_of_cell? w _ hw260_0)).trans hw260_0), ((HB.out.cell (World.block_lt_of_cell? w _ hw261_0)).trans hw261_0), ((HB.out.cell (World.block_lt_of_cell? w _ hw262_0)).trans hw262_0)⟩ (fun hHeld => ?_); refine with_tabW witheref9_Line.tab8 witheref9_Line.bits8 (fun HT_ HW_ => ?_)
                       generalize wc.drew = w30 at BK255 HB HR259_0 HR261_0 hx259_0 hx260_0 hx261_0 hx262_0 hHeld ⊢
                       refine pure_ (i := 0) (N := some 43) (v := ?_) (a' := ?_) #[true, false, false, false, false, false, false, false, false, false, false, false, false, false, false, false, false, false, false, false, false, false, false, false, false, false] rfl rfl (any_of HT_.out (by kernel_rfl)) (fun _ _ _ h => h) (Or.inl ⟨by rfl, ?_⟩) ?_ ?_
                       rotate_left
                       ·intro w'
                        go_simp
                        with_reducible rfl
                       rotate_left
                       ·simp only [Act.put, List.setIfInBounds_toArray, List.set_cons_zero, List.set_cons_succ, i64_w, i32_w]
                        rfl
                       refine pure_ (i := 1) (N := some 44) (v := ?_) (a' := ?_) #[true, true, false, false, false, false, false, false, false, false, false, false, false, false, false, false, false, false, false, false, false, false, false, false, false, false] rfl rfl (any_of HT_.out (by kernel_rfl)) (fun _ _ _ h => h) (Or.inl ⟨by rfl, ?_⟩) ?_ ?_
                       rotate_left
                       ·intro w'
                        go_simp
                        with_reducible rfl
                       rotate_left
                       ·simp only [Act.put, List.setIfInBounds_toArray, List.set_cons_zero, List.set_cons_succ, i64_w, i32_w]
                        rfl
                       refine pure_ (i := 2) (N := some 45) (v := ?_) (a' := ?_) #[true, true, true, false, false, false, false, false, false, false, false, false, false, false, false, false, false, false, false, false, false, false, false, false, false, false] rfl rfl (any_of HT_.out (by kernel_rfl)) (fun _ _ _ h => h) (Or.inl ⟨by rfl, ?_⟩) ?_ ?_
                       rotate_left
                       ·intro w'
                        go_simp
                        with_reducible rfl
                       rotate_left
                       ·simp only [Act.put, List.setIfInBounds_toArray, List.set_cons_zero, List.set_cons_succ, i64_w, i32_w]
                        rfl
                       refine pure_ (i := 6) (N := some 49) (v := ?_) (a' := ?_) #[true, true, true, false, false, false, true, false, false, false, false, false, false, false, false, false, false, false, false, false, false, false, false, false, false, false] rfl rfl (any_of HT_.out (by kernel_rfl)) (fun _ _ _ h => h) (Or.inl ⟨by rfl, ?_⟩) ?_ ?_
                       rotate_left
                       ·intro w'
                        go_simp
                        with_reducible rfl
                       rotate_left
                       ·simp only [Act.put, List.setIfInBounds_toArray, List.set_cons_zero, List.set_cons_succ, i64_w, i32_w]
                        rfl
                       refine pure_ (i := 7) (N := some 50) (v := ?_) (a' := ?_) #[true, true, true, false, false, false, true, true, false, false, false, false, false, false, false, false, false, false, false, false, false, false, false, false, false, false] rfl rfl (any_of HT_.out (by kernel_rfl)) (fun _ _ _ h => h) (Or.inl ⟨by rfl, ?_⟩) ?_ ?_
                       rotate_left
                       ·intro w'
                        go_simp
                        with_reducible rfl
                       rotate_left
                       ·simp only [Act.put, List.setIfInBounds_toArray, List.set_cons_zero, List.set_cons_succ, i64_w, i32_w]
                        rfl
                       refine pure_ (i := 8) (N := some 51) (v := ?_) (a' := ?_) #[true, true, true, false, false, false, true, true, true, false, false, false, false, false, false, false, false, false, false, false, false, false, false, false, false, false] rfl rfl (any_of HT_.out (by kernel_rfl)) (fun _ _ _ h => h) (Or.inl ⟨by rfl, ?_⟩) ?_ ?_
                       rotate_left
                       ·intro w'
                        go_simp
                        with_reducible rfl
                       rotate_left
                       ·simp only [Act.put, List.setIfInBounds_toArray, List.set_cons_zero, List.set_cons_succ, i64_w, i32_w]
                        rfl
                       refine pure_ (i := 10) (N := some 53) (v := ?_) (a' := ?_) #[true, true, true, false, false, false, true, true, true, false, true, false, false, false, false, false, false, false, false, false, false, false, false, false, false, false] rfl rfl (any_of HT_.out (by kernel_rfl)) (fun _ _ _ h => h) (Or.inl ⟨by rfl, ?_⟩) ?_ ?_
                       rotate_left
                       ·intro w'
                        go_simp
                        with_reducible rfl
                       rotate_left
                       ·simp only [Act.put, List.setIfInBounds_toArray, List.set_cons_zero, List.set_cons_succ, i64_w, i32_w]
                        rfl
                       refine pure_ (i := 15) (N := some 58) (v := ?_) (a' := ?_) #[true, true, true, false, false, false, true, true, true, false, true, false, false, false, false, true, false, false, false, false, false, false, false, false, false, false] rfl rfl (any_of HT_.out (by kernel_rfl)) (fun _ _ _ h => h) (Or.inl ⟨by rfl, ?_⟩) ?_ ?_
                       rotate_left
                       ·intro w'
                        go_simp
                        with_reducible rfl
                       rotate_left
                       ·simp only [Act.put, List.setIfInBounds_toArray, List.set_cons_zero, List.set_cons_succ, i64_w, i32_w]
                        rfl
                       refine pure_ (i := 17) (N := some 60) (v := ?_) (a' := ?_) #[true, true, true, false, false, false, true, true, true, false, true, false, false, false, false, true, false, true, false, false, false, false, false, false, false, false] rfl rfl (any_of HT_.out (by kernel_rfl)) (fun _ _ _ h => h) (Or.inl ⟨by rfl, ?_⟩) ?_ ?_
                       rotate_left
                       ·intro w'
                        go_simp
                        with_reducible rfl
                       rotate_left
                       ·simp only [Act.put, List.setIfInBounds_toArray, List.set_cons_zero, List.set_cons_succ, i64_w, i32_w]
                        rfl
                       refine pure_ (i := 20) (N := some 63) (v := ?_) (a' := ?_) #[true, true, true, false, false, false, true, true, true, false, true, false, false, false, false, true, false, true, false, false, true, false, false, false, false, false] rfl rfl (any_of HT_.out (by kernel_rfl)) (fun _ _ _ h => h) (Or.inl ⟨by rfl, ?_⟩) ?_ ?_
                       rotate_left
                       ·intro w'
                        go_simp
                        with_reducible rfl
                       rotate_left
                       ·simp only [Act.put, List.setIfInBounds_toArray, List.set_cons_zero, List.set_cons_succ, i64_w, i32_w]
                        rfl
                       refine take_ (i := 9) (N := some 52) (v := ?_) (a' := ?_) #[true, true, true, false, false, false, true, true, true, true, true, false, false, false, false, true, false, true, false, false, true, false, false, false, false, false] rfl rfl (take_ofW HT_.out HW_.out (by kernel_rfl)) (fun _ _ _ h => h) (Or.inl ⟨by rfl, ?_⟩) hHeld ?_ ?_
                       rotate_left
                       ·rintro w' ⟨s0, s1, s2, s3, s4, s5⟩
                        go_simp
                        with_reducible rfl
                       rotate_left
                       ·simp only [Act.put, List.setIfInBounds_toArray, List.set_cons_zero, List.set_cons_succ, i64_w, i32_w]
                        rfl
                       refine pure_ (i := 11) (N := some 54) (v := ?_) (a' := ?_) #[true, true, true, false, false, false, true, true, true, true, true, true, false, false, false, true, false, true, false, false, true, false, false, false, false, false] rfl rfl (any_of HT_.out (by kernel_rfl)) (fun _ _ _ h => h) (Or.inl ⟨by rfl, ?_⟩) ?_ ?_
                       rotate_left
                       ·intro w'
                        go_simp
                        with_reducible rfl
                       rotate_left
                       ·simp only [Act.put, List.setIfInBounds_toArray, List.set_cons_zero, List.set_cons_succ, i64_w, i32_w]
                        rfl
                       refine take_ (i := 12) (N := some 55) (v := ?_) (a' := ?_) #[true, true, true, false, false, false, true, true, true, true, true, true, true, false, false, true, false, true, false, false, true, false, false, false, false, false] rfl rfl (take_ofW HT_.out HW_.out (by kernel_rfl)) (fun _ _ _ h => h) (Or.inl ⟨by rfl, ?_⟩) hHeld ?_ ?_
                       rotate_left
                       ·rintro w' ⟨s0, s1, s2, s3, s4, s5⟩
                        go_simp
                        with_reducible rfl
                       rotate_left
                       ·simp only [Act.put, List.setIfInBounds_toArray, List.set_cons_zero, List.set_cons_succ, i64_w, i32_w]
                        rfl
                       refine take_ (i := 16) (N := some 59) (v := ?_) (a' := ?_) #[true, true, true, false, false, false, true, true, true, true, true, true, true, false, false, true, true, true, false, false, true, false, false, false, false, false] rfl rfl (take_ofW HT_.out HW_.out (by kernel_rfl)) (fun _ _ _ h => h) (Or.inl ⟨by rfl, ?_⟩) hHeld ?_ ?_
                       rotate_left
                       ·rintro w' ⟨s0, s1, s2, s3, s4, s5⟩
                        go_simp
                        with_reducible rfl
                       rotate_left
                       ·simp only [Act.put, List.setIfInBounds_toArray, List.set_cons_zero, List.set_cons_succ, i64_w, i32_w]
                        rfl
                       refine pure_ (i := 18) (N := some 61) (v := ?_) (a' := ?_) #[true, true, true, false, false, false, true, true, true, true, true, true, true, false, false, true, true, true, true, false, true, false, false, false, false, false] rfl rfl (any_of HT_.out (by kernel_rfl)) (fun _ _ _ h => h) (Or.inl ⟨by rfl, ?_⟩) ?_ ?_
                       rotate_left
                       ·intro w'
                        go_simp
                        with_reducible rfl
                       rotate_left
                       ·simp only [Act.put, List.setIfInBounds_toArray, List.set_cons_zero, List.set_cons_succ, i64_w, i32_w]
                        rfl
                       refine take_ (i := 19) (N := some 62) (v := ?_) (a' := ?_) #[true, true, true, false, false, false, true, true, true, true, true, true, true, false, false, true, true, true, true, true, true, false, false, false, false, false] rfl rfl (take_ofW HT_.out HW_.out (by kernel_rfl)) (fun _ _ _ h => h) (Or.inl ⟨by rfl, ?_⟩) hHeld ?_ ?_
                       rotate_left
                       ·rintro w' ⟨s0, s1, s2, s3, s4, s5⟩
                        go_simp
                        with_reducible rfl
                       rotate_left
                       ·simp only [Act.put, List.setIfInBounds_toArray, List.set_cons_zero, List.set_cons_succ, i64_w, i32_w]
                        rfl
                       refine pure_ (i := 21) (N := some 64) (v := ?_) (a' := ?_) #[true, true, true, false, false, false, true, true, true, true, true, true, true, false, false, true, true, true, true, true, true, true, false, false, false, false] rfl rfl (any_of HT_.out (by kernel_rfl)) (fun _ _ _ h => h) (Or.inl ⟨by rfl, ?_⟩) ?_ ?_
                       rotate_left
                       ·intro w'
                        go_simp
                        with_reducible rfl
                       rotate_left
                       ·simp only [Act.put, List.setIfInBounds_toArray, List.set_cons_zero, List.set_cons_succ, i64_w, i32_w]
                        rfl
                       refine take_ (i := 22) (N := some 65) (v := ?_) (a' := ?_) #[true, true, true, false, false, false, true, true, true, true, true, true, true, false, false, true, true, true, true, true, true, true, true, false, false, false] rfl rfl (take_ofW HT_.out HW_.out (by kernel_rfl)) (fun _ _ _ h => h) (Or.inl ⟨by rfl, ?_⟩) hHeld ?_ ?_
                       rotate_left
                       ·rintro w' ⟨s0, s1, s2, s3, s4, s5⟩
                        go_simp
                        with_reducible rfl
                       rotate_left
                       ·simp only [Act.put, List.setIfInBounds_toArray, List.set_cons_zero, List.set_cons_succ, i64_w, i32_w]
                        rfl
                       refine one_ (i := 3) (N := some 46) #[true, true, true, true, false, false, true, true, true, true, true, true, true, false, false, true, true, true, true, true, true, true, true, false, false, false] rfl rfl (one_of HT_.out (by kernel_rfl)) (by decide) (fun K hK => ?_)
                       refine goes_ Tryd.func28 (by kernel_rfl) rfl #[.int .i64 x8_1] (by rfl) rfl rfl (by (try simp only [List.map_toArray, List.map_cons, List.map_nil]); first | done | rfl | (simp only [List.length_drop, List.length_take]; rfl)) ?_
                       with_reducible refine (witheref6_Digits.calls kj8 x8_1 t258 _ A17.out).mono ?_
                       rintro e w31 ⟨rfl, hb⟩
                       refine ⟨_, rfl, ?_⟩
                       have n0_ := Aside0.mk (blk_below (g := gb255) (o := .cells #[.slice (some ad261) l2_0.length c2_0, .slice A2_1 l2_1.length c2_1] 30 (0, 0)) (by (with_reducible repeat (first | refine blk_drewN ?_ _ | refine blk_drew ?_ | refine blk_alloc ?_ _)); exact BK255.out) hb)
                       have n1_ := Aside0.mk (below_step (by repeat (first | (with_reducible first | exact HB.out | apply below_alloc | apply pw_below_drewN | apply below_drew1 | refine below_set ?_ GE255.out) | exact HB.out)) hb)
                       clear BK255
                       clear HB
                       have BK255 := n0_
                       have HB := n1_
                       clear n0_ n1_
                       (try clear hb)
                       (try clear hb2)
                       (try clear hk)
                       (try clear hi)
                       refine hK.out _ _ ⟨(blk_cell BK255.out 0).trans rfl, (blk_cell BK255.out 1).trans rfl, ((HB.out.cell (World.block_lt_of_cell? w _ hw259_0)).trans hw259_0), ((HB.out.cell (World.block_lt_of_cell? w _ hw260_0)).trans hw260_0), ((HB.out.cell (World.block_lt_of_cell? w _ hw261_0)).trans hw261_0), ((HB.out.cell (World.block_lt_of_cell? w _ hw262_0)).trans hw262_0)⟩ (fun hHeld => ?_)
                       clear hK K
                       refine norm_ (a' := ?_) ?_ ?_
                       rotate_left
                       ·show Act.put _ (some 46) _ = _
                        simp only [Act.put, List.setIfInBounds_toArray, List.set_cons_zero, List.set_cons_succ, i64_w, i32_w]
                        rfl
                       refine pure_ (i := 4) (N := some 47) (v := ?_) (a' := ?_) #[true, true, true, true, true, false, true, true, true, true, true, true, true, false, false, true, true, true, true, true, true, true, true, false, false, false] rfl rfl (any_of HT_.out (by kernel_rfl)) (fun _ _ _ h => h) (Or.inl ⟨by rfl, ?_⟩) ?_ ?_
                       rotate_left
                       ·intro w'
                        go_simp
                        with_reducible rfl
                       rotate_left
                       ·simp only [Act.put, List.setIfInBounds_toArray, List.set_cons_zero, List.set_cons_succ, i64_w, i32_w]
                        rfl
                       refine pure_ (i := 5) (N := some 48) (v := ?_) (a' := ?_) #[true, true, true, true, true, true, true, true, true, true, true, true, true, false, false, true, true, true, true, true, true, true, true, false, false, false] rfl rfl (any_of HT_.out (by kernel_rfl)) (fun _ _ _ h => h) (Or.inl ⟨by rfl, ?_⟩) ?_ ?_
                       rotate_left
                       ·intro w'
                        go_simp
                        with_reducible rfl
                       rotate_left
                       ·simp only [Act.put, List.setIfInBounds_toArray, List.set_cons_zero, List.set_cons_succ, i64_w, i32_w]
                        rfl
                       refine pure_ (i := 13) (N := some 56) (v := ?_) (a' := ?_) #[true, true, true, true, true, true, true, true, true, true, true, true, true, true, false, true, true, true, true, true, true, true, true, false, false, false] rfl rfl (any_of HT_.out (by kernel_rfl)) (fun _ _ _ h => h) (Or.inl ⟨by rfl, ?_⟩) ?_ ?_
                       rotate_left
                       ·intro w'
                        go_simp
                        with_reducible rfl
                       rotate_left
                       ·simp only [Act.put, List.setIfInBounds_toArray, List.set_cons_zero, List.set_cons_succ, i64_w, i32_w]
                        rfl
                       refine pure_ (i := 14) (N := some 57) (v := ?_) (a' := ?_) #[true, true, true, true, true, true, true, true, true, true, true, true, true, true, true, true, true, true, true, true, true, true, true, false, false, false] rfl rfl (any_of HT_.out (by kernel_rfl)) (fun _ _ _ h => h) (Or.inl ⟨by rfl, ?_⟩) ?_ ?_
                       rotate_left
                       ·intro w'
                        go_simp
                        with_reducible rfl
                       rotate_left
                       ·simp only [Act.put, List.setIfInBounds_toArray, List.set_cons_zero, List.set_cons_succ, i64_w, i32_w]
                        rfl
                       refine one_ (i := 23) (N := some 66) #[true, true, true, true, true, true, true, true, true, true, true, true, true, true, true, true, true, true, true, true, true, true, true, true, false, false] rfl rfl (one_of HT_.out (by kernel_rfl)) (by decide) (fun K hK => ?_)
                       refine goes_ Tryd.func28 (by kernel_rfl) rfl #[.int .i64 (rd (rd_L3 l2_0 x8_1) x9_3)] (by rfl) rfl rfl (by (try simp only [List.map_toArray, List.map_cons, List.map_nil]); first | done | rfl | (simp only [List.length_drop, List.length_take]; rfl)) ?_
                       with_reducible refine (witheref6_Digits.calls kj8 (rd (rd_L3 l2_0 x8_1) x9_3) t263 _ A28.out).mono ?_
                       rintro e w32 ⟨rfl, hb⟩
                       refine ⟨_, rfl, ?_⟩
                       have n0_ := Aside0.mk (blk_below (g := gb255) (o := .cells #[.slice (some ad261) l2_0.length c2_0, .slice A2_1 l2_1.length c2_1] 30 (0, 0)) (by (with_reducible repeat (first | refine blk_drewN ?_ _ | refine blk_drew ?_ | refine blk_alloc ?_ _)); exact BK255.out) hb)
                       have n1_ := Aside0.mk (below_step (by repeat (first | (with_reducible first | exact HB.out | apply below_alloc | apply pw_below_drewN | apply below_drew1 | refine below_set ?_ GE255.out) | exact HB.out)) hb)
                       clear BK255
                       clear HB
                       have BK255 := n0_
                       have HB := n1_
                       clear n0_ n1_
                       (try clear hb)
                       (try clear hb2)
                       (try clear hk)
                       (try clear hi)
                       refine hK.out _ _ ⟨(blk_cell BK255.out 0).trans rfl, (blk_cell BK255.out 1).trans rfl, ((HB.out.cell (World.block_lt_of_cell? w _ hw259_0)).trans hw259_0), ((HB.out.cell (World.block_lt_of_cell? w _ hw260_0)).trans hw260_0), ((HB.out.cell (World.block_lt_of_cell? w _ hw261_0)).trans hw261_0), ((HB.out.cell (World.block_lt_of_cell? w _ hw262_0)).trans hw262_0)⟩ (fun hHeld => ?_)
                       clear hK K
                       refine norm_ (a' := ?_) ?_ ?_
                       rotate_left
                       ·show Act.put _ (some 66) _ = _
                        simp only [Act.put, List.setIfInBounds_toArray, List.set_cons_zero, List.set_cons_succ, i64_w, i32_w]
                        rfl
                       refine pure_ (i := 24) (N := some 67) (v := ?_) (a' := ?_) #[true, true, true, true, true, true, true, true, true, true, true, true, true, true, true, true, true, true, true, true, true, true, true, true, true, false] rfl rfl (any_of HT_.out (by kernel_rfl)) (fun _ _ _ h => h) (Or.inl ⟨by rfl, ?_⟩) ?_ ?_
                       rotate_left
                       ·intro w'
                        go_simp
                        with_reducible rfl
                       rotate_left
                       ·simp only [Act.put, List.setIfInBounds_toArray, List.set_cons_zero, List.set_cons_succ, i64_w, i32_w]
                        rfl
                       refine pure_ (i := 25) (N := some 7) (v := ?_) (a' := ?_) #[true, true, true, true, true, true, true, true, true, true, true, true, true, true, true, true, true, true, true, true, true, true, true, true, true, true] rfl rfl (any_of HT_.out (by kernel_rfl)) (fun _ _ _ h => h) (Or.inl ⟨by rfl, ?_⟩) ?_ ?_
                       rotate_left
                       ·intro w'
                        go_simp
                        with_reducible rfl
                       rotate_left
                       ·simp only [Act.put, List.setIfInBounds_toArray, List.set_cons_zero, List.set_cons_succ, i64_w, i32_w]
                        rfl
                       refine done_ (done_of HT_.out (by kernel_rfl)) ?_
                       try go_wp2
                       go_roundg kj8
                       case measure => have := HK1.out; have := HJ4.out; have := HK3.out; have := HJ8.out; omega
                       case rel => exact ⟨((((((x7_3 ++ (⟨#[32]⟩ : ByteArray)) ++ t258) ++ (⟨#[58]⟩ : ByteArray)) ++ (rdOf ByteArray.empty (rd_L2 l1 x8_1) x9_3)) ++ (⟨#[61]⟩ : ByteArray)) ++ t263), (wrap64 (x9_3 + 1)), (by first | rfl | (simp; done) | (simp [*]; done)), (by first | rfl | (simp; done) | (simp [*]; done)), H', ⟨by have := HK1.out; have := HJ4.out; have := HK3.out; have := HJ8.out; omega⟩, ⟨by (with_reducible repeat (first | refine blk_drewN ?_ _ | refine blk_drew ?_ | refine blk_alloc ?_ _)); exact BK255.out⟩, ⟨by repeat (first | (with_reducible first | exact HB.out | apply below_alloc | apply pw_below_drewN | apply below_drew1 | refine below_set ?_ GE255.out) | exact HB.out)⟩⟩
                      ·rw [if_neg c29] at H
                       exact absurd H (by simp)
                     ·rw [if_neg c27] at H
                      exact absurd H (by simp)
                    ·rw [if_neg c26] at H
                     exact absurd H (by simp)
                   ·rw [if_neg c25] at H
                    exact absurd H (by simp)
                  ·rw [if_neg c24] at H
                   exact absurd H (by simp)
                 ·rw [if_neg c23] at H
                  exact absurd H (by simp)
                ·rw [if_neg c22] at H
                 exact absurd H (by simp)
               ·rw [if_neg c21] at H
                exact absurd H (by simp)
              ·rw [if_neg c20] at H
               exact absurd H (by simp)
             ·rw [if_neg c19] at H
              exact absurd H (by simp)
            ·rw [if_neg c18] at H
             exact absurd H (by simp)
           ·rw [if_neg c16] at H
            exact absurd H (by simp)
          ·replace c15 := Bool.eq_false_iff.mpr c15
           subst c15
           have H1 : (witheref9_Line.l0 kj8 l0 l1 x7_3 (wrap64 (x8_1 + 1)) l2_0 l2_1) = some r := by rw [if_neg (show ¬ (false = true) by decide)] at H; exact H
           clear H
           have H := H1
           clear H1
           have H' := Aside0.mk H
           clear H
           go_wp2
           go_roundg kj8
           case measure => have := HK1.out; have := HJ4.out; have := HK3.out; have := HJ8.out; omega
           case rel => exact ⟨(x7_3), (wrap64 (x8_1 + 1)), (by first | rfl | (simp; done) | (simp [*]; done)), (by first | rfl | (simp; done) | (simp [*]; done)), H', ⟨by have := HK1.out; have := HJ4.out; have := HK3.out; have := HJ8.out; omega⟩, ⟨by (with_reducible repeat (first | refine blk_drewN ?_ _ | refine blk_drew ?_ | refine blk_alloc ?_ _)); exact BK255.out⟩, ⟨by repeat (first | (with_reducible first | exact HB.out | apply below_alloc | apply pw_below_drewN | apply below_drew1 | refine below_set ?_ GE255.out) | exact HB.out)⟩⟩
     ·replace c8 := Bool.eq_false_iff.mpr c8
      subst c8
      have H1 : (witheref9_Line.l2 kj4 l0 x7_1 0 l2_0 l2_1) = some r := by rw [if_neg (show ¬ (false = true) by decide)] at H; exact H
      clear H
      have H := H1
      clear H1
      have H' := Aside0.mk H
      clear H
      go_wp2
      try go_simp
      go_loopg [7, 10] kj4 (fun kq v7 v10 w' => ∃ (x7_3 : ByteArray) (x10_3 : Int), v7 = .string x7_3 ∧ v10 = .int .i64 x10_3 ∧ Aside0 (witheref9_Line.l2 kq l0 x7_3 x10_3 l2_0 l2_1 = some r) ∧ Aside0 (kq ≤ kj4) ∧ Aside0 (w'.heap[gb255]? = some (.cells #[(.slice A2_0 l2_0.length c2_0), (.slice A2_1 l2_1.length c2_1)] 30 (0, 0))) ∧ Aside0 (Below w.heap.size w w'))
      case atStart => exact ⟨(x7_1), (0), (by first | rfl | (simp; done) | (simp [*]; done)), (by first | rfl | (simp; done) | (simp [*]; done)), H', ⟨Nat.le_refl _⟩, ⟨by (with_reducible repeat (first | refine blk_drewN ?_ _ | refine blk_drew ?_ | refine blk_alloc ?_ _)); exact BK255.out⟩, ⟨by repeat (first | (with_reducible first | exact HB.out | apply below_alloc | apply pw_below_drewN | apply below_drew1 | refine below_set ?_ GE255.out) | exact HB.out)⟩⟩
      case round =>
       clear H'
       try clear c1
       try clear c2
       try clear p2
       try clear q2
       try clear hx2
       try clear c6
       try clear c6b0
       try clear p6
       try clear c8
       try clear c10
       try clear c10b0
       try clear c11
       try clear c11b0
       try clear c12
       try clear c12b0
       try clear c13
       try clear c13b0
       try clear c15
       try clear c16
       try clear c16b0
       try clear c16b1
       try clear c16b2
       try clear c18
       try clear c18b0
       try clear c18b1
       try clear c18b2
       try clear c19
       try clear c19b0
       try clear c19b1
       try clear c19b2
       try clear c20
       try clear c20b0
       try clear c21
       try clear c21b0
       try clear c22
       try clear c22b0
       try clear c23
       try clear c23b0
       try clear c24
       try clear c24b0
       try clear c24b1
       try clear c24b2
       try clear c25
       try clear c25b0
       try clear c25b1
       try clear c25b2
       try clear p25
       try clear q25
       try clear hx25
       try clear c26
       try clear c26b0
       try clear p26
       try clear q26
       try clear hx26
       try clear c27
       try clear c27b0
       try clear c28
       try clear c29
       try clear c29b0
       try clear c29b1
       try clear c29b2
       try clear hcz14_0
       try clear hcz14_1
       try clear hcz7_0
       try clear hcz7_1
       try clear hfz14_0
       try clear hfz14_1
       try clear hfz7_0
       try clear hfz7_1
       try clear hx256_0
       try clear hx257_0
       try clear hx259_0
       try clear hx260_0
       try clear hx261_0
       try clear hx262_0
       try clear p2
       try clear p256
       try clear p257
       try clear p259
       try clear p260
       try clear p261
       try clear p262
       try clear q2
       try clear q256
       try clear q257
       try clear q259
       try clear q260
       try clear q261
       try clear q262
       obtain ⟨x7_3, x10_3, rfl, rfl, HA, HK3, BK255, HB⟩ := hrel
       cases gk with
       | zero => exact absurd HA.out (by simp [witheref9_Line.l2])
       | succ k3 =>
        have H := HA.out
        clear HA
        simp only [witheref9_Line.l2] at H
        by_cases c33 : x10_3 < (l0.length : Int)
        ·rw [if_pos c33] at H
         have c33b0 : decide (x10_3 < (l0.length : Int)) = true := decide_eq_true c33
         clear c33
         by_cases c34 : x10_3 < (l2_1.length : Int)
         ·rw [if_pos c34] at H
          have c34b0 : decide (x10_3 < (l2_1.length : Int)) = true := decide_eq_true c34
          clear c34
          by_cases c35 : x7_3.size + 1 ≤ 9223372036854775807
          ·rw [if_pos c35] at H
           have c35b0 := eq_true c35
           have c35b1 : decide (x7_3.size + 1 ≤ 9223372036854775807) = true := decide_eq_true c35
           try have c35b2 : (9223372036854775807 < x7_3.size + 1) = False := eq_false (Nat.not_lt.2 c35)
           by_cases c36 : 0 ≤ x10_3
           ·rw [if_pos c36] at H
            have c36b0 : decide (0 ≤ x10_3) = true := decide_eq_true c36
            clear c36
            by_cases c37 : (x7_3 ++ (⟨#[32]⟩ : ByteArray)).size + (rdOf ByteArray.empty l0 x10_3).size ≤ 9223372036854775807
            ·rw [if_pos c37] at H
             have c37b0 := eq_true c37
             have c37b1 : decide ((x7_3 ++ (⟨#[32]⟩ : ByteArray)).size + (rdOf ByteArray.empty l0 x10_3).size ≤ 9223372036854775807) = true := decide_eq_true c37
             try (have c37b1s := c37b1; simp only [ByteArray.size_append, show (⟨#[32]⟩ : ByteArray).size = 1 from rfl] at c37b1s)
             try have c37b2 : (9223372036854775807 < (x7_3 ++ (⟨#[32]⟩ : ByteArray)).size + (rdOf ByteArray.empty l0 x10_3).size) = False := eq_false (Nat.not_lt.2 c37)
             try (have c37b2s := c37b2; simp only [ByteArray.size_append, show (⟨#[32]⟩ : ByteArray).size = 1 from rfl] at c37b2s)
             by_cases c38 : ((x7_3 ++ (⟨#[32]⟩ : ByteArray)) ++ (rdOf ByteArray.empty l0 x10_3)).size + 1 ≤ 9223372036854775807
             ·rw [if_pos c38] at H
              have c38b0 := eq_true c38
              have c38b1 : decide (((x7_3 ++ (⟨#[32]⟩ : ByteArray)) ++ (rdOf ByteArray.empty l0 x10_3)).size + 1 ≤ 9223372036854775807) = true := decide_eq_true c38
              try (have c38b1s := c38b1; simp only [ByteArray.size_append, show (⟨#[32]⟩ : ByteArray).size = 1 from rfl] at c38b1s)
              try have c38b2 : (9223372036854775807 < ((x7_3 ++ (⟨#[32]⟩ : ByteArray)) ++ (rdOf ByteArray.empty l0 x10_3)).size + 1) = False := eq_false (Nat.not_lt.2 c38)
              try (have c38b2s := c38b2; simp only [ByteArray.size_append, show (⟨#[32]⟩ : ByteArray).size = 1 from rfl] at c38b2s)
              replace H := Option.bind_eq_some_iff.mp H
              obtain ⟨t266, A390, H⟩ := H
              replace H : (if (((x7_3 ++ (⟨#[32]⟩ : ByteArray)) ++ (rdOf ByteArray.empty l0 x10_3)) ++ (⟨#[61]⟩ : ByteArray)).size + t266.size ≤ 9223372036854775807 then (witheref9_Line.l2 k3 l0 ((((x7_3 ++ (⟨#[32]⟩ : ByteArray)) ++ (rdOf ByteArray.empty l0 x10_3)) ++ (⟨#[61]⟩ : ByteArray)) ++ t266) (wrap64 (x10_3 + 1)) l2_0 l2_1) else (none)) = some r := H
              have A39 := Aside0.mk A390
              clear A390
              by_cases c40 : (((x7_3 ++ (⟨#[32]⟩ : ByteArray)) ++ (rdOf ByteArray.empty l0 x10_3)) ++ (⟨#[61]⟩ : ByteArray)).size + t266.size ≤ 9223372036854775807
              ·rw [if_pos c40] at H
               have c40b0 := eq_true c40
               have c40b1 : decide ((((x7_3 ++ (⟨#[32]⟩ : ByteArray)) ++ (rdOf ByteArray.empty l0 x10_3)) ++ (⟨#[61]⟩ : ByteArray)).size + t266.size ≤ 9223372036854775807) = true := decide_eq_true c40
               try (have c40b1s := c40b1; simp only [ByteArray.size_append, show (⟨#[32]⟩ : ByteArray).size = 1 from rfl, show (⟨#[61]⟩ : ByteArray).size = 1 from rfl] at c40b1s)
               try have c40b2 : (9223372036854775807 < (((x7_3 ++ (⟨#[32]⟩ : ByteArray)) ++ (rdOf ByteArray.empty l0 x10_3)) ++ (⟨#[61]⟩ : ByteArray)).size + t266.size) = False := eq_false (Nat.not_lt.2 c40)
               try (have c40b2s := c40b2; simp only [ByteArray.size_append, show (⟨#[32]⟩ : ByteArray).size = 1 from rfl, show (⟨#[61]⟩ : ByteArray).size = 1 from rfl] at c40b2s)
               have H' := Aside0.mk H
               clear H
               have hcz41_0 : wr.cell? ⟨gb255, 0, none⟩ = some (.slice A2_0 l2_0.length c2_0) := (blk_cell BK255.out 0).trans rfl
               have hcz41_1 : wr.cell? ⟨gb255, 1, none⟩ = some (.slice A2_1 l2_1.length c2_1) := (blk_cell BK255.out 1).trans rfl
               have hfz41_0 := blk_frozen BK255.out 0
               have hfz41_1 := blk_frozen BK255.out 1
               try go_wp2
               have n0_ := Aside0.mk (blk_drew BK255.out)
               have n1_ := Aside0.mk (below_drew1 HB.out)
               clear BK255
               clear HB
               have BK255 := n0_
               have HB := n1_
               clear n0_ n1_
               have p264 : 0 ≤ (x10_3 : Int) := of_decide_eq_true (by first | (with_reducible assumption) | assumption)
               have q264 : x10_3 < (l0.length : Int) := of_decide_eq_true (by first | (with_reducible assumption) | assumption)
               obtain ⟨ad264, e264, hx264_0⟩ := Kd.at_string HR0.out x10_3 p264 q264
               have hw264_0 := hx264_0
               cases e264
               replace hx264_0 := (HB.out.cell (World.block_lt_of_cell? w _ hx264_0)).trans hx264_0
               replace p264 := eq_true p264
               replace q264 := eq_true q264
               have p265 : 0 ≤ (x10_3 : Int) := of_decide_eq_true (by first | (with_reducible assumption) | assumption)
               have q265 : x10_3 < (l2_1.length : Int) := of_decide_eq_true (by first | (with_reducible assumption) | assumption)
               obtain ⟨ad265, e265, hx265_0⟩ := Kd.at_int HR2_1.out x10_3 p265 q265
               have hw265_0 := hx265_0
               cases e265
               replace hx265_0 := (HB.out.cell (World.block_lt_of_cell? w _ hx265_0)).trans hx265_0
               replace p265 := eq_true p265
               replace q265 := eq_true q265
               refine start_ (n := 16) (S := fun w' => w'.cell? ⟨gb255, 0, none⟩ = some (.slice A2_0 l2_0.length c2_0) ∧ w'.cell? ⟨gb255, 1, none⟩ = some (.slice (some ad265) l2_1.length c2_1) ∧ w'.cell? (ad264.add (x10_3).toNat) = some (.string (rdOf ByteArray.empty l0 x10_3)) ∧ w'.cell? (ad265.add (x10_3).toNat) = some (.int .i64 (rd l2_1 x10_3))) (ds := []) #[false, false, false, false, false, false, false, false, false, false, false, false, false, false, false, false] (by kernel_rfl) rfl rfl ⟨(blk_cell BK255.out 0).trans rfl, (blk_cell BK255.out 1).trans rfl, ((HB.out.cell (World.block_lt_of_cell? w _ hw264_0)).trans hw264_0), ((HB.out.cell (World.block_lt_of_cell? w _ hw265_0)).trans hw265_0)⟩ (fun hHeld => ?_); refine with_tabW witheref9_Line.tab12 witheref9_Line.bits12 (fun HT_ HW_ => ?_)
               generalize wr.drew = w42 at BK255 HB hx264_0 hx265_0 hHeld ⊢
               refine pure_ (i := 0) (N := some 81) (v := ?_) (a' := ?_) #[true, false, false, false, false, false, false, false, false, false, false, false, false, false, false, false] rfl rfl (any_of HT_.out (by kernel_rfl)) (fun _ _ _ h => h) (Or.inl ⟨by rfl, ?_⟩) ?_ ?_
               rotate_left
               ·intro w'
                go_simp
                with_reducible rfl
               rotate_left
               ·simp only [Act.put, List.setIfInBounds_toArray, List.set_cons_zero, List.set_cons_succ, i64_w, i32_w]
                rfl
               refine pure_ (i := 1) (N := some 82) (v := ?_) (a' := ?_) #[true, true, false, false, false, false, false, false, false, false, false, false, false, false, false, false] rfl rfl (any_of HT_.out (by kernel_rfl)) (fun _ _ _ h => h) (Or.inl ⟨by rfl, ?_⟩) ?_ ?_
               rotate_left
               ·intro w'
                go_simp
                with_reducible rfl
               rotate_left
               ·simp only [Act.put, List.setIfInBounds_toArray, List.set_cons_zero, List.set_cons_succ, i64_w, i32_w]
                rfl
               refine pure_ (i := 2) (N := some 83) (v := ?_) (a' := ?_) #[true, true, true, false, false, false, false, false, false, false, false, false, false, false, false, false] rfl rfl (any_of HT_.out (by kernel_rfl)) (fun _ _ _ h => h) (Or.inl ⟨by rfl, ?_⟩) ?_ ?_
               rotate_left
               ·intro w'
                go_simp
                with_reducible rfl
               rotate_left
               ·simp only [Act.put, List.setIfInBounds_toArray, List.set_cons_zero, List.set_cons_succ, i64_w, i32_w]
                rfl
               refine pure_ (i := 3) (N := some 84) (v := ?_) (a' := ?_) #[true, true, true, true, false, false, false, false, false, false, false, false, false, false, false, false] rfl rfl (any_of HT_.out (by kernel_rfl)) (fun _ _ _ h => h) (Or.inl ⟨by rfl, ?_⟩) ?_ ?_
               rotate_left
               ·intro w'
                go_simp
                with_reducible rfl
               rotate_left
               ·simp only [Act.put, List.setIfInBounds_toArray, List.set_cons_zero, List.set_cons_succ, i64_w, i32_w]
                rfl
               refine pure_ (i := 4) (N := some 85) (v := ?_) (a' := ?_) #[true, true, true, true, true, false, false, false, false, false, false, false, false, false, false, false] rfl rfl (any_of HT_.out (by kernel_rfl)) (fun _ _ _ h => h) (Or.inl ⟨by rfl, ?_⟩) ?_ ?_
               rotate_left
               ·intro w'
                go_simp
                with_reducible rfl
               rotate_left
               ·simp only [Act.put, List.setIfInBounds_toArray, List.set_cons_zero, List.set_cons_succ, i64_w, i32_w]
                rfl
               refine pure_ (i := 8) (N := some 89) (v := ?_) (a' := ?_) #[true, true, true, true, true, false, false, false, true, false, false, false, false, false, false, false] rfl rfl (any_of HT_.out (by kernel_rfl)) (fun _ _ _ h => h) (Or.inl ⟨by rfl, ?_⟩) ?_ ?_
               rotate_left
               ·intro w'
                go_simp
                with_reducible rfl
               rotate_left
               ·simp only [Act.put, List.setIfInBounds_toArray, List.set_cons_zero, List.set_cons_succ, i64_w, i32_w]
                rfl
               refine pure_ (i := 10) (N := some 91) (v := ?_) (a' := ?_) #[true, true, true, true, true, false, false, false, true, false, true, false, false, false, false, false] rfl rfl (any_of HT_.out (by kernel_rfl)) (fun _ _ _ h => h) (Or.inl ⟨by rfl, ?_⟩) ?_ ?_
               rotate_left
               ·intro w'
                go_simp
                with_reducible rfl
               rotate_left
               ·simp only [Act.put, List.setIfInBounds_toArray, List.set_cons_zero, List.set_cons_succ, i64_w, i32_w]
                rfl
               refine take_ (i := 5) (N := some 86) (v := ?_) (a' := ?_) #[true, true, true, true, true, true, false, false, true, false, true, false, false, false, false, false] rfl rfl (take_ofW HT_.out HW_.out (by kernel_rfl)) (fun _ _ _ h => h) (Or.inl ⟨by rfl, ?_⟩) hHeld ?_ ?_
               rotate_left
               ·rintro w' ⟨s0, s1, s2, s3⟩
                go_simp
                with_reducible rfl
               rotate_left
               ·simp only [Act.put, List.setIfInBounds_toArray, List.set_cons_zero, List.set_cons_succ, i64_w, i32_w]
                rfl
               refine pure_ (i := 6) (N := some 87) (v := ?_) (a' := ?_) #[true, true, true, true, true, true, true, false, true, false, true, false, false, false, false, false] rfl rfl (any_of HT_.out (by kernel_rfl)) (fun _ _ _ h => h) (Or.inl ⟨by rfl, ?_⟩) ?_ ?_
               rotate_left
               ·intro w'
                go_simp
                with_reducible rfl
               rotate_left
               ·simp only [Act.put, List.setIfInBounds_toArray, List.set_cons_zero, List.set_cons_succ, i64_w, i32_w]
                rfl
               refine pure_ (i := 7) (N := some 88) (v := ?_) (a' := ?_) #[true, true, true, true, true, true, true, true, true, false, true, false, false, false, false, false] rfl rfl (any_of HT_.out (by kernel_rfl)) (fun _ _ _ h => h) (Or.inl ⟨by rfl, ?_⟩) ?_ ?_
               rotate_left
               ·intro w'
                go_simp
                with_reducible rfl
               rotate_left
               ·simp only [Act.put, List.setIfInBounds_toArray, List.set_cons_zero, List.set_cons_succ, i64_w, i32_w]
                rfl
               refine take_ (i := 9) (N := some 90) (v := ?_) (a' := ?_) #[true, true, true, true, true, true, true, true, true, true, true, false, false, false, false, false] rfl rfl (take_ofW HT_.out HW_.out (by kernel_rfl)) (fun _ _ _ h => h) (Or.inl ⟨by rfl, ?_⟩) hHeld ?_ ?_
               rotate_left
               ·rintro w' ⟨s0, s1, s2, s3⟩
                go_simp
                with_reducible rfl
               rotate_left
               ·simp only [Act.put, List.setIfInBounds_toArray, List.set_cons_zero, List.set_cons_succ, i64_w, i32_w]
                rfl
               refine pure_ (i := 11) (N := some 92) (v := ?_) (a' := ?_) #[true, true, true, true, true, true, true, true, true, true, true, true, false, false, false, false] rfl rfl (any_of HT_.out (by kernel_rfl)) (fun _ _ _ h => h) (Or.inl ⟨by rfl, ?_⟩) ?_ ?_
               rotate_left
               ·intro w'
                go_simp
                with_reducible rfl
               rotate_left
               ·simp only [Act.put, List.setIfInBounds_toArray, List.set_cons_zero, List.set_cons_succ, i64_w, i32_w]
                rfl
               refine take_ (i := 12) (N := some 93) (v := ?_) (a' := ?_) #[true, true, true, true, true, true, true, true, true, true, true, true, true, false, false, false] rfl rfl (take_ofW HT_.out HW_.out (by kernel_rfl)) (fun _ _ _ h => h) (Or.inl ⟨by rfl, ?_⟩) hHeld ?_ ?_
               rotate_left
               ·rintro w' ⟨s0, s1, s2, s3⟩
                go_simp
                with_reducible rfl
               rotate_left
               ·simp only [Act.put, List.setIfInBounds_toArray, List.set_cons_zero, List.set_cons_succ, i64_w, i32_w]
                rfl
               refine one_ (i := 13) (N := some 94) #[true, true, true, true, true, true, true, true, true, true, true, true, true, true, false, false] rfl rfl (one_of HT_.out (by kernel_rfl)) (by decide) (fun K hK => ?_)
               refine goes_ Tryd.func28 (by kernel_rfl) rfl #[.int .i64 (rd l2_1 x10_3)] (by rfl) rfl rfl (by (try simp only [List.map_toArray, List.map_cons, List.map_nil]); first | done | rfl | (simp only [List.length_drop, List.length_take]; rfl)) ?_
               with_reducible refine (witheref6_Digits.calls k3 (rd l2_1 x10_3) t266 _ A39.out).mono ?_
               rintro e w43 ⟨rfl, hb⟩
               refine ⟨_, rfl, ?_⟩
               have n0_ := Aside0.mk (blk_below (g := gb255) (o := .cells #[.slice A2_0 l2_0.length c2_0, .slice (some ad265) l2_1.length c2_1] 30 (0, 0)) (by (with_reducible repeat (first | refine blk_drewN ?_ _ | refine blk_drew ?_ | refine blk_alloc ?_ _)); exact BK255.out) hb)
               have n1_ := Aside0.mk (below_step (by repeat (first | (with_reducible first | exact HB.out | apply below_alloc | apply pw_below_drewN | apply below_drew1 | refine below_set ?_ GE255.out) | exact HB.out)) hb)
               clear BK255
               clear HB
               have BK255 := n0_
               have HB := n1_
               clear n0_ n1_
               (try clear hb)
               (try clear hb2)
               (try clear hk)
               (try clear hi)
               refine hK.out _ _ ⟨(blk_cell BK255.out 0).trans rfl, (blk_cell BK255.out 1).trans rfl, ((HB.out.cell (World.block_lt_of_cell? w _ hw264_0)).trans hw264_0), ((HB.out.cell (World.block_lt_of_cell? w _ hw265_0)).trans hw265_0)⟩ (fun hHeld => ?_)
               clear hK K
               refine norm_ (a' := ?_) ?_ ?_
               rotate_left
               ·show Act.put _ (some 94) _ = _
                simp only [Act.put, List.setIfInBounds_toArray, List.set_cons_zero, List.set_cons_succ, i64_w, i32_w]
                rfl
               refine pure_ (i := 14) (N := some 95) (v := ?_) (a' := ?_) #[true, true, true, true, true, true, true, true, true, true, true, true, true, true, true, false] rfl rfl (any_of HT_.out (by kernel_rfl)) (fun _ _ _ h => h) (Or.inl ⟨by rfl, ?_⟩) ?_ ?_
               rotate_left
               ·intro w'
                go_simp
                with_reducible rfl
               rotate_left
               ·simp only [Act.put, List.setIfInBounds_toArray, List.set_cons_zero, List.set_cons_succ, i64_w, i32_w]
                rfl
               refine pure_ (i := 15) (N := some 7) (v := ?_) (a' := ?_) #[true, true, true, true, true, true, true, true, true, true, true, true, true, true, true, true] rfl rfl (any_of HT_.out (by kernel_rfl)) (fun _ _ _ h => h) (Or.inl ⟨by rfl, ?_⟩) ?_ ?_
               rotate_left
               ·intro w'
                go_simp
                with_reducible rfl
               rotate_left
               ·simp only [Act.put, List.setIfInBounds_toArray, List.set_cons_zero, List.set_cons_succ, i64_w, i32_w]
                rfl
               refine done_ (done_of HT_.out (by kernel_rfl)) ?_
               try go_wp2
               go_roundg k3
               case measure => have := HK1.out; have := HJ4.out; have := HK3.out; omega
               case rel => exact ⟨((((x7_3 ++ (⟨#[32]⟩ : ByteArray)) ++ (rdOf ByteArray.empty l0 x10_3)) ++ (⟨#[61]⟩ : ByteArray)) ++ t266), (wrap64 (x10_3 + 1)), (by first | rfl | (simp; done) | (simp [*]; done)), (by first | rfl | (simp; done) | (simp [*]; done)), H', ⟨by have := HK1.out; have := HJ4.out; have := HK3.out; omega⟩, ⟨by (with_reducible repeat (first | refine blk_drewN ?_ _ | refine blk_drew ?_ | refine blk_alloc ?_ _)); exact BK255.out⟩, ⟨by repeat (first | (with_reducible first | exact HB.out | apply below_alloc | apply pw_below_drewN | apply below_drew1 | refine below_set ?_ GE255.out) | exact HB.out)⟩⟩
              ·rw [if_neg c40] at H
               exact absurd H (by simp)
             ·rw [if_neg c38] at H
              exact absurd H (by simp)
            ·rw [if_neg c37] at H
             exact absurd H (by simp)
           ·rw [if_neg c36] at H
            exact absurd H (by simp)
          ·rw [if_neg c35] at H
           exact absurd H (by simp)
         ·rw [if_neg c34] at H
          have c34b0 : decide (x10_3 < (l2_1.length : Int)) = false := decide_eq_false c34
          clear c34
          by_cases c44 : x7_3.toList = ([] : List UInt8)
          ·rw [if_pos c44] at H
           have c44b0 : (x7_3.toList == ([] : List UInt8)) = true := beq_iff_eq.mpr c44
           have c44b1 : (x7_3.toList != ([] : List UInt8)) = false := bne_eq_false_iff_eq.mpr c44
           clear c44
           obtain rfl := Option.some.inj H
           have hcz45_0 : wr.cell? ⟨gb255, 0, none⟩ = some (.slice A2_0 l2_0.length c2_0) := (blk_cell BK255.out 0).trans rfl
           have hcz45_1 : wr.cell? ⟨gb255, 1, none⟩ = some (.slice A2_1 l2_1.length c2_1) := (blk_cell BK255.out 1).trans rfl
           have hfz45_0 := blk_frozen BK255.out 0
           have hfz45_1 := blk_frozen BK255.out 1
           go_wp2
           go_ret
           exact ⟨by first | rfl | (simp [errW_none, errW_some] <;> rfl) | (simp [*, errW_none, errW_some] <;> rfl), by repeat (first | (with_reducible first | exact HB.out | apply below_alloc | apply pw_below_drewN | apply below_drew1 | refine below_set ?_ GE255.out) | exact HB.out)⟩
          ·rw [if_neg c44] at H
           have c44b0 : (x7_3.toList == ([] : List UInt8)) = false := beq_eq_false_iff_ne.mpr c44
           have c44b1 : (x7_3.toList != ([] : List UInt8)) = true := bne_iff_ne.mpr c44
           by_cases c46 : 1 ≤ (x7_3.size : Int)
           ·rw [if_pos c46] at H
            have c46b0 := eq_true c46
            have c46b1 : decide (1 ≤ (x7_3.size : Int)) = true := decide_eq_true c46
            clear c46
            obtain rfl := Option.some.inj H
            have hcz47_0 : wr.cell? ⟨gb255, 0, none⟩ = some (.slice A2_0 l2_0.length c2_0) := (blk_cell BK255.out 0).trans rfl
            have hcz47_1 : wr.cell? ⟨gb255, 1, none⟩ = some (.slice A2_1 l2_1.length c2_1) := (blk_cell BK255.out 1).trans rfl
            have hfz47_0 := blk_frozen BK255.out 0
            have hfz47_1 := blk_frozen BK255.out 1
            go_wp2
            go_ret
            exact ⟨by first | rfl | (simp [errW_none, errW_some] <;> rfl) | (simp [*, errW_none, errW_some] <;> rfl), by repeat (first | (with_reducible first | exact HB.out | apply below_alloc | apply pw_below_drewN | apply below_drew1 | refine below_set ?_ GE255.out) | exact HB.out)⟩
           ·rw [if_neg c46] at H
            exact absurd H (by simp)
        ·rw [if_neg c33] at H
         have c33b0 : decide (x10_3 < (l0.length : Int)) = false := decide_eq_false c33
         clear c33
         by_cases c48 : x7_3.toList = ([] : List UInt8)
         ·rw [if_pos c48] at H
          have c48b0 : (x7_3.toList == ([] : List UInt8)) = true := beq_iff_eq.mpr c48
          have c48b1 : (x7_3.toList != ([] : List UInt8)) = false := bne_eq_false_iff_eq.mpr c48
          clear c48
          obtain rfl := Option.some.inj H
          go_wp2
          go_ret
          exact ⟨by first | rfl | (simp [errW_none, errW_some] <;> rfl) | (simp [*, errW_none, errW_some] <;> rfl), by repeat (first | (with_reducible first | exact HB.out | apply below_alloc | apply pw_below_drewN | apply below_drew1 | refine below_set ?_ GE255.out) | exact HB.out)⟩
         ·rw [if_neg c48] at H
          have c48b0 : (x7_3.toList == ([] : List UInt8)) = false := beq_eq_false_iff_ne.mpr c48
          have c48b1 : (x7_3.toList != ([] : List UInt8)) = true := bne_iff_ne.mpr c48
          by_cases c49 : 1 ≤ (x7_3.size : Int)
          ·rw [if_pos c49] at H
           have c49b0 := eq_true c49
           have c49b1 : decide (1 ≤ (x7_3.size : Int)) = true := decide_eq_true c49
           clear c49
           obtain rfl := Option.some.inj H
           go_wp2
           go_ret
           exact ⟨by first | rfl | (simp [errW_none, errW_some] <;> rfl) | (simp [*, errW_none, errW_some] <;> rfl), by repeat (first | (with_reducible first | exact HB.out | apply below_alloc | apply pw_below_drewN | apply below_drew1 | refine below_set ?_ GE255.out) | exact HB.out)⟩
          ·rw [if_neg c49] at H
           exact absurd H (by simp)

end Go.Proofs.YtbgcmbnnkigjjaaDoor.PP
