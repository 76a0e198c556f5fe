-- made by fvprint.py over the kit's print
import Derived.Test.YtbgcmbnnkigjjaaDoorPRx0
import Derived.Test.YtbgcmbnnkigjjaaDoorPRx1
import Derived.Test.YtbgcmbnnkigjjaaDoorPRx4
import Derived.Test.YtbgcmbnnkigjjaaDoorPRx10
import Derived.Test.YtbgcmbnnkigjjaaDoorPRx11
namespace Go.Proofs.YtbgcmbnnkigjjaaDoor.PR
open Go.RowKit Go.Proofs.YtbgcmbnnkigjjaaDoorW.PrintWords Go.Proofs.YtbgcmbnnkigjjaaDoorW.PrintLast Go.Proofs.YtbgcmbnnkigjjaaDoorW.PrintMore
attribute [local go_sem] max2_int min2_int max_two min_two max_three min_three max_four min_four   -- for this text's walks alone
set_option linter.unusedVariables false
set_option linter.unusedSimpArgs false

attribute [local go_sem] cell_set_some
/-! ### withelaw11_PostRules: function 4 -/
mutual
def withelaw11_PostRules.j0 : Nat → List Int → List Int → Bool → Int → Int → Int → Int → Int → Int → Option (Bool)
 | 0, _, _, _, _, _, _, _, _, _ => none
 | k + 1, x0, x1, x36, x274000, x274001, x274002, x274003, x274004, x274005 => if x36 = true then (some true) else ((withelaw11_names.f).bind fun bt275 => ((withelaw11_made.f x274000 x274001 x274002 x274003 x274004 x274005).bind fun bt281 => ((withelaw11_cond.f k x0 3).bind fun bt288 => ((withelaw11_cond.f k x1 3).bind fun bt297 => ((post_Holds.f k bt288.1 bt288.2.1 bt288.2.2.1 bt288.2.2.2.1 bt288.2.2.2.2.1 bt275.1 bt275.2 bt281.1 bt281.2).bind fun bt306 => ((post_Holds.f k bt297.1 bt297.2.1 bt297.2.2.1 bt297.2.2.2.1 bt297.2.2.2.2.1 bt275.1 bt275.2 bt281.1 bt281.2).bind fun bt308 => (if bt306.2 = true then (withelaw11_PostRules.j1 k bt275.1 bt275.2 bt306.1 bt308.1 (!bt308.2) bt281.1 bt281.2 bt288.1 bt288.2.1 bt288.2.2.1 bt288.2.2.2.1 bt288.2.2.2.2.1 bt297.1 bt297.2.1 bt297.2.2.1 bt297.2.2.2.1 bt297.2.2.2.2.1) else (withelaw11_PostRules.j1 k bt275.1 bt275.2 bt306.1 bt308.1 true bt281.1 bt281.2 bt288.1 bt288.2.1 bt288.2.2.1 bt288.2.2.2.1 bt288.2.2.2.2.1 bt297.1 bt297.2.1 bt297.2.2.1 bt297.2.2.2.1 bt297.2.2.2.2.1))))))))
def withelaw11_PostRules.j1 : Nat → List ByteArray → List (List ByteArray) → Bool → Bool → Bool → List (List Int) → List Int → Int → Int → ByteArray → Int → List (S24) → Int → Int → ByteArray → Int → List (S24) → Option (Bool)
 | 0, _, _, _, _, _, _, _, _, _, _, _, _, _, _, _, _, _ => none
 | k + 1, x7, x8, x14, x16, x74, x288000, x288001, x297000, x297001, x297002, x297003, x297004, x306000, x306001, x306002, x306003, x306004 => if x74 = true then (none) else ((some (([(⟨x297000, x297001, x297002, x297003, x297004⟩ : S24), (⟨x306000, x306001, x306002, x306003, x306004⟩ : S24)] : List (S24)) : List (S24))).bind fun y310 => ((post_Holds.f k 4 0 (⟨#[]⟩ : ByteArray) 0 y310 x7 x8 x288000 x288001).bind fun bt313 => ((post_Holds.f k 5 0 (⟨#[]⟩ : ByteArray) 0 y310 x7 x8 x288000 x288001).bind fun bt315 => (if 1 ≤ (y310.length : Int) then ((post_Holds.f k 3 0 (⟨#[]⟩ : ByteArray) 0 (y310.take 1) x7 x8 x288000 x288001).bind fun bt322 => ((post_Holds.f k 3 0 (⟨#[]⟩ : ByteArray) 0 (([(⟨3, 0, (⟨#[]⟩ : ByteArray), 0, (y310.take 1)⟩ : S24)] : List (S24))) x7 x8 x288000 x288001).bind fun bt332 => (if x14 = true then (if (bt313.1 == x16) = true then (if (bt315.1 == true) = true then (if (bt322.1 == (!x14)) = true then (some (bt332.1 == x14)) else (none)) else (none)) else (none)) else (if (bt313.1 == false) = true then (if (bt315.1 == x16) = true then (if (bt322.1 == (!x14)) = true then (some (bt332.1 == x14)) else (none)) else (none)) else (none))))) else (none)))))
end
def withelaw11_PostRules.f (k : Nat) (l0 : List Int) (l1 : List Int) (a2_0 : Int) (a2_1 : Int) (a2_2 : Int) (a2_3 : Int) (a2_4 : Int) (a2_5 : Int) : Option (Bool) := (withelaw11_begun.f k).bind fun t274 => (if t274 = true then (if (l0.length : Int) > 20 then (withelaw11_PostRules.j0 k l0 l1 true a2_0 a2_1 a2_2 a2_3 a2_4 a2_5) else (withelaw11_PostRules.j0 k l0 l1 (decide ((l1.length : Int) > 20)) a2_0 a2_1 a2_2 a2_3 a2_4 a2_5)) else (none))
theorem withelaw11_PostRules.mono_l : ∀ k, (∀ y0 y1 y2 y3 y4 y5 y6 y7 y8, LeO (withelaw11_PostRules.j0 k y0 y1 y2 y3 y4 y5 y6 y7 y8) (withelaw11_PostRules.j0 (k + 1) y0 y1 y2 y3 y4 y5 y6 y7 y8)) ∧ (∀ y0 y1 y2 y3 y4 y5 y6 y7 y8 y9 y10 y11 y12 y13 y14 y15 y16, LeO (withelaw11_PostRules.j1 k y0 y1 y2 y3 y4 y5 y6 y7 y8 y9 y10 y11 y12 y13 y14 y15 y16) (withelaw11_PostRules.j1 (k + 1) y0 y1 y2 y3 y4 y5 y6 y7 y8 y9 y10 y11 y12 y13 y14 y15 y16))
 | 0 => ⟨fun _ _ _ _ _ _ _ _ _ r h => by simp [withelaw11_PostRules.j0] at h, fun _ _ _ _ _ _ _ _ _ _ _ _ _ _ _ _ _ r h => by simp [withelaw11_PostRules.j1] at h⟩
 | k + 1 => by
  obtain ⟨ih0, ih1⟩ := withelaw11_PostRules.mono_l k
  refine ⟨?_, ?_⟩
  ·intro y0 y1 y2 y3 y4 y5 y6 y7 y8
   unfold withelaw11_PostRules.j0
   repeat' first
   | (with_reducible exact ih0 _ _ _ _ _ _ _ _ _)
   | (with_reducible exact ih1 _ _ _ _ _ _ _ _ _ _ _ _ _ _ _ _ _)
   | (with_reducible exact post_Holds.mono _ _ _ _ _ _ _ _ _ _)
   | (with_reducible exact withelaw11_begun.mono _)
   | (with_reducible exact withelaw11_cond.mono _ _ _)
   | (with_reducible exact LeO.refl _)
   | (with_reducible exact LeO.none _)
   | (with_reducible refine LeO.ite ?_ ?_)
   | (with_reducible refine LeO.bind ?_ (fun _ => ?_))
   | exact ih0 _ _ _ _ _ _ _ _ _
   | exact ih1 _ _ _ _ _ _ _ _ _ _ _ _ _ _ _ _ _
   | exact post_Holds.mono _ _ _ _ _ _ _ _ _ _
   | exact withelaw11_begun.mono _
   | exact withelaw11_cond.mono _ _ _
   | exact LeO.none _
   | refine LeO.ite ?_ ?_
   | refine LeO.bind ?_ (fun _ => ?_)
  ·intro y0 y1 y2 y3 y4 y5 y6 y7 y8 y9 y10 y11 y12 y13 y14 y15 y16
   unfold withelaw11_PostRules.j1
   repeat' first
   | (with_reducible exact ih0 _ _ _ _ _ _ _ _ _)
   | (with_reducible exact ih1 _ _ _ _ _ _ _ _ _ _ _ _ _ _ _ _ _)
   | (with_reducible exact post_Holds.mono _ _ _ _ _ _ _ _ _ _)
   | (with_reducible exact withelaw11_begun.mono _)
   | (with_reducible exact withelaw11_cond.mono _ _ _)
   | (with_reducible exact LeO.refl _)
   | (with_reducible exact LeO.none _)
   | (with_reducible refine LeO.ite ?_ ?_)
   | (with_reducible refine LeO.bind ?_ (fun _ => ?_))
   | exact ih0 _ _ _ _ _ _ _ _ _
   | exact ih1 _ _ _ _ _ _ _ _ _ _ _ _ _ _ _ _ _
   | exact post_Holds.mono _ _ _ _ _ _ _ _ _ _
   | exact withelaw11_begun.mono _
   | exact withelaw11_cond.mono _ _ _
   | exact LeO.none _
   | refine LeO.ite ?_ ?_
   | refine LeO.bind ?_ (fun _ => ?_)
theorem withelaw11_PostRules.mono : ∀ a0 a1 a2 a3 a4 a5 a6 a7 k, LeO (withelaw11_PostRules.f k a0 a1 a2 a3 a4 a5 a6 a7) (withelaw11_PostRules.f (k + 1) a0 a1 a2 a3 a4 a5 a6 a7) := by
 intro a0 a1 a2 a3 a4 a5 a6 a7 k
 obtain ⟨ih0, ih1⟩ := withelaw11_PostRules.mono_l k
 unfold withelaw11_PostRules.f
 repeat' first
  | (with_reducible exact ih0 _ _ _ _ _ _ _ _ _)
  | (with_reducible exact ih1 _ _ _ _ _ _ _ _ _ _ _ _ _ _ _ _ _)
  | (with_reducible exact post_Holds.mono _ _ _ _ _ _ _ _ _ _)
  | (with_reducible exact withelaw11_begun.mono _)
  | (with_reducible exact withelaw11_cond.mono _ _ _)
  | (with_reducible exact LeO.refl _)
  | (with_reducible exact LeO.none _)
  | (with_reducible refine LeO.ite ?_ ?_)
  | (with_reducible refine LeO.bind ?_ (fun _ => ?_))
  | exact ih0 _ _ _ _ _ _ _ _ _
  | exact ih1 _ _ _ _ _ _ _ _ _ _ _ _ _ _ _ _ _
  | exact post_Holds.mono _ _ _ _ _ _ _ _ _ _
  | exact withelaw11_begun.mono _
  | exact withelaw11_cond.mono _ _ _
  | exact LeO.none _
  | refine LeO.ite ?_ ?_
  | refine LeO.bind ?_ (fun _ => ?_)
def withelaw11_PostRules.T16 : Bool × List (List Nat × List Nat) := (true, [([], []), ([0], [0]), ([1], [1]), ([], []), ([], []), ([], []), ([2, 3, 4, 5], [2, 3, 4, 5]), ([6], [6]), ([7], [7]), ([7], [7]), ([8, 6, 0, 1, 2, 3, 4, 5, 6, 7, 8], [8]), ([9, 10, 0, 1, 2, 3, 4, 5, 6, 7, 8, 9, 10], [9])])
def withelaw11_PostRules.B16 : List Nat := [0, 1, 3, 0, 0, 0, 63, 127, 255, 255, 511, 2047]
theorem withelaw11_PostRules.tab16 : rtab .any (opsOf Tryd.f4 16) = withelaw11_PostRules.T16 := by kernel_rfl
theorem withelaw11_PostRules.bits16 : waitsOk withelaw11_PostRules.T16.2 withelaw11_PostRules.B16 = true := by kernel_rfl
def withelaw11_PostRules.T17 : Bool × List (List Nat × List Nat) := (true, [([], []), ([0], [0]), ([1], [1]), ([2], [2]), ([3], [3]), ([], []), ([], []), ([], []), ([4, 5, 6, 7], [4, 5, 6, 7]), ([8], [8]), ([9], [9]), ([9], [9]), ([10, 8, 0, 1, 2, 3, 4, 5, 6, 7, 8, 9, 10], [10]), ([11, 12, 0, 1, 2, 3, 4, 5, 6, 7, 8, 9, 10, 11, 12], [11])])
def withelaw11_PostRules.B17 : List Nat := [0, 1, 3, 7, 15, 0, 0, 0, 255, 511, 1023, 1023, 2047, 8191]
theorem withelaw11_PostRules.tab17 : rtab .any (opsOf Tryd.f4 17) = withelaw11_PostRules.T17 := by kernel_rfl
theorem withelaw11_PostRules.bits17 : waitsOk withelaw11_PostRules.T17.2 withelaw11_PostRules.B17 = true := by kernel_rfl
set_option maxHeartbeats 8000000 in
set_option maxRecDepth 100000 in
theorem withelaw11_PostRules.calls (k : Nat) (A0 : Option Addr) (c0 : Nat) (l0 : List Int) (A1 : Option Addr) (c1 : Nat) (l1 : List Int) (a2_0 : Int) (a2_1 : Int) (a2_2 : Int) (a2_3 : Int) (a2_4 : Int) (a2_5 : Int) (r : Bool) (w : World) (hr0 : Kd.C (Kd.int .u8) w A0 l0.length l0) (hc0 : l0.length ≤ c0) (hr1 : Kd.C (Kd.int .u8) w A1 l1.length l1) (hc1 : l1.length ≤ c1) (h : withelaw11_PostRules.f k l0 l1 a2_0 a2_1 a2_2 a2_3 a2_4 a2_5 = some r) (hG : GOk w := by first | exact Aside0.out (by assumption) | exact GOk.le (Aside0.out (by assumption)) (by repeat (first | exact Aside0.out (by assumption) | exact Below.refl _ _ | apply below_alloc | apply pw_below_drewN | apply below_drew1 | refine below_set ?_ (Aside0.out (by assumption))))) :
 Calls Tryd.prog 4 #[.slice A0 l0.length c0, .slice A1 l1.length c1, .agg #[.int .u8 a2_0, .int .u8 a2_1, .int .u8 a2_2, .int .u8 a2_3, .int .u8 a2_4, .int .u8 a2_5]] w fun e w' => e = .returned (.bool r) ∧ Below w.heap.size w w' := by
 have hu41 := Tryd.underlying41
 have hu30 := Tryd.underlying30
 have hu24 := Tryd.underlying24
 have HR0 := Aside0.mk hr0
 have HC0 := Aside0.mk hc0
 clear hr0 hc0
 have HR1 := Aside0.mk hr1
 have HC1 := Aside0.mk hc1
 clear hr1 hc1
 have HB := Aside0.mk (Below.refl w.heap.size w)
 have H : ((withelaw11_begun.f k).bind fun t274 => (if t274 = true then (if (l0.length : Int) > 20 then (withelaw11_PostRules.j0 k l0 l1 true a2_0 a2_1 a2_2 a2_3 a2_4 a2_5) else (withelaw11_PostRules.j0 k l0 l1 (decide ((l1.length : Int) > 20)) a2_0 a2_1 a2_2 a2_3 a2_4 a2_5)) else (none))) = some r := h
 clear h
 have HG := Aside0.mk hG
 clear hG
 replace H := Option.bind_eq_some_iff.mp H
 obtain ⟨t274, A40, H⟩ := H
 replace H : (if t274 = true then (if (l0.length : Int) > 20 then (withelaw11_PostRules.j0 k l0 l1 true a2_0 a2_1 a2_2 a2_3 a2_4 a2_5) else (withelaw11_PostRules.j0 k l0 l1 (decide ((l1.length : Int) > 20)) a2_0 a2_1 a2_2 a2_3 a2_4 a2_5)) else (none)) = some r := H
 have A4 := Aside0.mk A40
 clear A40
 by_cases c5 : t274 = true
 ·subst c5
  have H1 : (if (l0.length : Int) > 20 then (withelaw11_PostRules.j0 k l0 l1 true a2_0 a2_1 a2_2 a2_3 a2_4 a2_5) else (withelaw11_PostRules.j0 k l0 l1 (decide ((l1.length : Int) > 20)) a2_0 a2_1 a2_2 a2_3 a2_4 a2_5)) = some r := by rw [if_pos rfl] at H; exact H
  clear H
  have H := H1
  clear H1
  have HC6 := Aside0.mk H
  clear H
  go_enter Tryd.func4, Tryd.ntmps4
  go_upto_region 3 with (first | ((with_reducible refine gate_dst (N := 5) rfl ?_); (try (refine gate_guard (by rfl) ?_; dsimp only)); refine box_event ?hg (N := 5) ?hd (cs := #[.int .u8 a2_0, .int .u8 a2_1, .int .u8 a2_2, .int .u8 a2_3, .int .u8 a2_4, .int .u8 a2_5]) (t := 41) ?hr ?_; (case hd => rfl); (case hg => rfl); (case hr => first | (go_simp; done) | (go_simp; rfl)); intro gb273 hg w7 hbox hb; have n0_ := Aside0.mk (below_step (by repeat (first | (with_reducible first | exact HB.out | apply below_alloc | apply pw_below_drewN | apply below_drew1) | exact HB.out)) hb); have n1_ := Aside0.mk (hbox); have n2_ := Aside0.mk ((by rw [hg]; exact (below_size (by repeat (first | (with_reducible first | exact HB.out | apply below_alloc | apply pw_below_drewN | apply below_drew1) | exact HB.out))) : w.heap.size ≤ gb273)); have n3_ := Aside0.mk ((by rw [hg]; exact (below_size (by repeat (first | (with_reducible first | exact HB.out | apply below_alloc | apply pw_below_drewN | apply below_drew1) | exact HB.out))) : w.heap.size ≤ gb273)); clear HB; have HB := n0_; have BK273 := n1_; have GW273 := n2_; have GE273 := n3_; clear n0_ n1_ n2_ n3_; clear hb hbox hg) | ((with_reducible refine gate_callee (f := 7) rfl ?_); refine goesL_ (some 27) rfl rfl Tryd.func7 (by kernel_rfl) rfl #[] rfl (by (try simp only [List.map_toArray, List.map_cons, List.map_nil]); first | done | rfl | (simp only [List.length_drop, List.length_take]; rfl)) ?_; (with_reducible refine (withelaw11_begun.calls k  true _ A4.out).mono ?_); rintro e w8 ⟨rfl, hb⟩; refine ⟨_, rfl, ?_⟩; have n0_ := Aside0.mk (blk_below (g := gb273) (o := .cells #[.int .u8 a2_0, .int .u8 a2_1, .int .u8 a2_2, .int .u8 a2_3, .int .u8 a2_4, .int .u8 a2_5] 41 (0, 0)) (by (with_reducible repeat (first | refine blk_drewN ?_ _ | refine blk_drew ?_ | refine blk_alloc ?_ _)); exact BK273.out) hb); have n1_ := Aside0.mk (below_step (by repeat (first | (with_reducible first | exact HB.out | apply below_alloc | apply pw_below_drewN | apply below_drew1 | refine below_set ?_ GE273.out) | exact HB.out)) hb); clear BK273; clear HB; have BK273 := n0_; have HB := n1_; clear n0_ n1_; (try clear hb); (try clear hb2); (try clear hk); (try clear hi)))
  (try simp only [Act.put, List.setIfInBounds_toArray, List.set_cons_zero, List.set_cons_succ])
  go_cut [36] (fun v36 wc => ∃ (kq : Nat) (x36_5 : Bool), v36 = .bool x36_5 ∧ Aside0 (withelaw11_PostRules.j0 kq l0 l1 x36_5 a2_0 a2_1 a2_2 a2_3 a2_4 a2_5 = some r) ∧ Aside0 (kq ≤ k) ∧ Aside0 (wc.heap[gb273]? = some (.cells #[.int .u8 a2_0, .int .u8 a2_1, .int .u8 a2_2, .int .u8 a2_3, .int .u8 a2_4, .int .u8 a2_5] 41 (0, 0))) ∧ Aside0 (Below w.heap.size w wc))
  case first =>
   have H := HC6.out
   clear HC6
   by_cases c9 : (l0.length : Int) > 20
   ·rw [if_pos c9] at H
    have c9b0 : decide (20 < (l0.length : Int)) = true := decide_eq_true c9
    have c9b1 : decide (20 < l0.length) = true := decide_eq_true (by omega)
    clear c9
    (first | rw [c9b0] | (simp only [i64_w, i32_w]; rw [c9b0]) | skip)
    have H' := Aside0.mk H
    clear H
    go_wp2
    go_meet
    case rel => exact ⟨_, (true), (by first | rfl | (simp; done) | (simp [*]; done)), H', ⟨by first | omega | exact Nat.le_refl _⟩, ⟨by (with_reducible repeat (first | refine blk_drewN ?_ _ | refine blk_drew ?_ | refine blk_alloc ?_ _)); exact BK273.out⟩, ⟨by repeat (first | (with_reducible first | exact HB.out | apply below_alloc | apply pw_below_drewN | apply below_drew1 | refine below_set ?_ GE273.out) | exact HB.out)⟩⟩
   ·rw [if_neg c9] at H
    have c9b0 : decide (20 < (l0.length : Int)) = false := decide_eq_false c9
    have c9b1 : decide (20 < l0.length) = false := decide_eq_false (by omega)
    clear c9
    (first | rw [c9b0] | (simp only [i64_w, i32_w]; rw [c9b0]) | skip)
    have H' := Aside0.mk H
    clear H
    go_wp2
    go_meet
    case rel => exact ⟨_, (decide ((l1.length : Int) > 20)), (by first | rfl | (simp; done) | (simp [*]; done)), H', ⟨by first | omega | exact Nat.le_refl _⟩, ⟨by (with_reducible repeat (first | refine blk_drewN ?_ _ | refine blk_drew ?_ | refine blk_alloc ?_ _)); exact BK273.out⟩, ⟨by repeat (first | (with_reducible first | exact HB.out | apply below_alloc | apply pw_below_drewN | apply below_drew1 | refine below_set ?_ GE273.out) | exact HB.out)⟩⟩
  case rest =>
   clear HC6
   try clear c1
   try clear p2
   try clear c4
   try clear c5
   try clear c7
   try clear c9
   try clear c9b0
   try clear c9b1
   obtain ⟨kq, x36_5, rfl, HA, HJ5, BK273, HB⟩ := hcut
   cases kq with
   | zero => exact absurd HA.out (by simp [withelaw11_PostRules.j0])
   | succ kj5 =>
    have H := HA.out
    clear HA
    simp only [withelaw11_PostRules.j0] at H
    by_cases c10 : x36_5 = true
    ·subst c10
     have H1 : (some true) = some r := by rw [if_pos rfl] at H; exact H
     clear H
     have H := H1
     clear H1
     obtain rfl := Option.some.inj H
     go_wp2
     go_ret
     exact ⟨by first | rfl | (simp [errW_none, errW_some] <;> rfl) | (simp [*, errW_none, errW_some] <;> rfl), by repeat (first | (with_reducible first | exact HB.out | apply below_alloc | apply pw_below_drewN | apply below_drew1 | refine below_set ?_ GE273.out) | exact HB.out)⟩
    ·replace c10 := Bool.eq_false_iff.mpr c10
     subst c10
     have H1 : ((withelaw11_names.f).bind fun bt275 => ((withelaw11_made.f a2_0 a2_1 a2_2 a2_3 a2_4 a2_5).bind fun bt281 => ((withelaw11_cond.f kj5 l0 3).bind fun bt288 => ((withelaw11_cond.f kj5 l1 3).bind fun bt297 => ((post_Holds.f kj5 bt288.1 bt288.2.1 bt288.2.2.1 bt288.2.2.2.1 bt288.2.2.2.2.1 bt275.1 bt275.2 bt281.1 bt281.2).bind fun bt306 => ((post_Holds.f kj5 bt297.1 bt297.2.1 bt297.2.2.1 bt297.2.2.2.1 bt297.2.2.2.2.1 bt275.1 bt275.2 bt281.1 bt281.2).bind fun bt308 => (if bt306.2 = true then (withelaw11_PostRules.j1 kj5 bt275.1 bt275.2 bt306.1 bt308.1 (!bt308.2) bt281.1 bt281.2 bt288.1 bt288.2.1 bt288.2.2.1 bt288.2.2.2.1 bt288.2.2.2.2.1 bt297.1 bt297.2.1 bt297.2.2.1 bt297.2.2.2.1 bt297.2.2.2.2.1) else (withelaw11_PostRules.j1 kj5 bt275.1 bt275.2 bt306.1 bt308.1 true bt281.1 bt281.2 bt288.1 bt288.2.1 bt288.2.2.1 bt288.2.2.2.1 bt288.2.2.2.2.1 bt297.1 bt297.2.1 bt297.2.2.1 bt297.2.2.2.1 bt297.2.2.2.2.1)))))))) = some r := by rw [if_neg (show ¬ (false = true) by decide)] at H; exact H
     clear H
     have H := H1
     clear H1
     replace H := Option.bind_eq_some_iff.mp H
     obtain ⟨⟨t275, t278⟩, A110, H⟩ := H
     replace H : ((withelaw11_made.f a2_0 a2_1 a2_2 a2_3 a2_4 a2_5).bind fun bt281 => ((withelaw11_cond.f kj5 l0 3).bind fun bt288 => ((withelaw11_cond.f kj5 l1 3).bind fun bt297 => ((post_Holds.f kj5 bt288.1 bt288.2.1 bt288.2.2.1 bt288.2.2.2.1 bt288.2.2.2.2.1 t275 t278 bt281.1 bt281.2).bind fun bt306 => ((post_Holds.f kj5 bt297.1 bt297.2.1 bt297.2.2.1 bt297.2.2.2.1 bt297.2.2.2.2.1 t275 t278 bt281.1 bt281.2).bind fun bt308 => (if bt306.2 = true then (withelaw11_PostRules.j1 kj5 t275 t278 bt306.1 bt308.1 (!bt308.2) bt281.1 bt281.2 bt288.1 bt288.2.1 bt288.2.2.1 bt288.2.2.2.1 bt288.2.2.2.2.1 bt297.1 bt297.2.1 bt297.2.2.1 bt297.2.2.2.1 bt297.2.2.2.2.1) else (withelaw11_PostRules.j1 kj5 t275 t278 bt306.1 bt308.1 true bt281.1 bt281.2 bt288.1 bt288.2.1 bt288.2.2.1 bt288.2.2.2.1 bt288.2.2.2.2.1 bt297.1 bt297.2.1 bt297.2.2.1 bt297.2.2.2.1 bt297.2.2.2.2.1))))))) = some r := H
     have A11 := Aside0.mk A110
     clear A110
     replace H := Option.bind_eq_some_iff.mp H
     obtain ⟨⟨t281, t284⟩, A120, H⟩ := H
     replace H : ((withelaw11_cond.f kj5 l0 3).bind fun bt288 => ((withelaw11_cond.f kj5 l1 3).bind fun bt297 => ((post_Holds.f kj5 bt288.1 bt288.2.1 bt288.2.2.1 bt288.2.2.2.1 bt288.2.2.2.2.1 t275 t278 t281 t284).bind fun bt306 => ((post_Holds.f kj5 bt297.1 bt297.2.1 bt297.2.2.1 bt297.2.2.2.1 bt297.2.2.2.2.1 t275 t278 t281 t284).bind fun bt308 => (if bt306.2 = true then (withelaw11_PostRules.j1 kj5 t275 t278 bt306.1 bt308.1 (!bt308.2) t281 t284 bt288.1 bt288.2.1 bt288.2.2.1 bt288.2.2.2.1 bt288.2.2.2.2.1 bt297.1 bt297.2.1 bt297.2.2.1 bt297.2.2.2.1 bt297.2.2.2.2.1) else (withelaw11_PostRules.j1 kj5 t275 t278 bt306.1 bt308.1 true t281 t284 bt288.1 bt288.2.1 bt288.2.2.1 bt288.2.2.2.1 bt288.2.2.2.2.1 bt297.1 bt297.2.1 bt297.2.2.1 bt297.2.2.2.1 bt297.2.2.2.2.1)))))) = some r := H
     have A12 := Aside0.mk A120
     clear A120
     replace H := Option.bind_eq_some_iff.mp H
     obtain ⟨⟨t288, t289, t290, t291, t292, t295⟩, A130, H⟩ := H
     replace H : ((withelaw11_cond.f kj5 l1 3).bind fun bt297 => ((post_Holds.f kj5 t288 t289 t290 t291 t292 t275 t278 t281 t284).bind fun bt306 => ((post_Holds.f kj5 bt297.1 bt297.2.1 bt297.2.2.1 bt297.2.2.2.1 bt297.2.2.2.2.1 t275 t278 t281 t284).bind fun bt308 => (if bt306.2 = true then (withelaw11_PostRules.j1 kj5 t275 t278 bt306.1 bt308.1 (!bt308.2) t281 t284 t288 t289 t290 t291 t292 bt297.1 bt297.2.1 bt297.2.2.1 bt297.2.2.2.1 bt297.2.2.2.2.1) else (withelaw11_PostRules.j1 kj5 t275 t278 bt306.1 bt308.1 true t281 t284 t288 t289 t290 t291 t292 bt297.1 bt297.2.1 bt297.2.2.1 bt297.2.2.2.1 bt297.2.2.2.2.1))))) = some r := H
     have A13 := Aside0.mk A130
     clear A130
     replace H := Option.bind_eq_some_iff.mp H
     obtain ⟨⟨t297, t298, t299, t300, t301, t304⟩, A140, H⟩ := H
     replace H : ((post_Holds.f kj5 t288 t289 t290 t291 t292 t275 t278 t281 t284).bind fun bt306 => ((post_Holds.f kj5 t297 t298 t299 t300 t301 t275 t278 t281 t284).bind fun bt308 => (if bt306.2 = true then (withelaw11_PostRules.j1 kj5 t275 t278 bt306.1 bt308.1 (!bt308.2) t281 t284 t288 t289 t290 t291 t292 t297 t298 t299 t300 t301) else (withelaw11_PostRules.j1 kj5 t275 t278 bt306.1 bt308.1 true t281 t284 t288 t289 t290 t291 t292 t297 t298 t299 t300 t301)))) = some r := H
     have A14 := Aside0.mk A140
     clear A140
     replace H := Option.bind_eq_some_iff.mp H
     obtain ⟨⟨t306, t307⟩, A150, H⟩ := H
     replace H : ((post_Holds.f kj5 t297 t298 t299 t300 t301 t275 t278 t281 t284).bind fun bt308 => (if t307 = true then (withelaw11_PostRules.j1 kj5 t275 t278 t306 bt308.1 (!bt308.2) t281 t284 t288 t289 t290 t291 t292 t297 t298 t299 t300 t301) else (withelaw11_PostRules.j1 kj5 t275 t278 t306 bt308.1 true t281 t284 t288 t289 t290 t291 t292 t297 t298 t299 t300 t301))) = some r := H
     have A15 := Aside0.mk A150
     clear A150
     replace H := Option.bind_eq_some_iff.mp H
     obtain ⟨⟨t308, t309⟩, A160, H⟩ := H
     replace H : (if t307 = true then (withelaw11_PostRules.j1 kj5 t275 t278 t306 t308 (!t309) t281 t284 t288 t289 t290 t291 t292 t297 t298 t299 t300 t301) else (withelaw11_PostRules.j1 kj5 t275 t278 t306 t308 true t281 t284 t288 t289 t290 t291 t292 t297 t298 t299 t300 t301)) = some r := H
     have A16 := Aside0.mk A160
     clear A160
     have HC17 := Aside0.mk H
     clear H
     go_upto_region 11 with (first | ((with_reducible refine gate_callee (f := 17) rfl ?_); refine goesL_ (some 38) rfl rfl Tryd.func17 (by kernel_rfl) rfl #[] rfl (by (try simp only [List.map_toArray, List.map_cons, List.map_nil]); first | done | rfl | (simp only [List.length_drop, List.length_take]; rfl)) ?_; (with_reducible refine (withelaw11_names.calls  t275 t278 _ A11.out).mono ?_); rintro e w18 ⟨v276, v279, rfl, ho0, ho1, hb⟩; refine ⟨_, rfl, ?_⟩; have n0_ := Aside0.mk (Kd.R_lower (Kd.R_mono (ok' := fun k_ => True) ho0 (fun _ hk_ => trivial)) (below_size (by repeat (first | (with_reducible first | exact HB.out | apply below_alloc | apply pw_below_drewN | apply below_drew1 | refine below_set ?_ GE273.out) | exact HB.out)))); have n1_ := Aside0.mk (Kd.N_lower (Kd.N_mono (ok' := fun k_ => some k_ ≠ (v276 : Value).ownBlock ∧ k_ ≠ gb273) ho1 (fun k_ hk_ => ⟨hk_.2, (Kd.freshB (g := gb273) (o := .cells #[.int .u8 a2_0, .int .u8 a2_1, .int .u8 a2_2, .int .u8 a2_3, .int .u8 a2_4, .int .u8 a2_5] 41 (0, 0)) (by (with_reducible repeat (first | refine blk_drewN ?_ _ | refine blk_drew ?_ | refine blk_alloc ?_ _)); exact BK273.out) k_ hk_.1)⟩)) (below_size (by repeat (first | (with_reducible first | exact HB.out | apply below_alloc | apply pw_below_drewN | apply below_drew1 | refine below_set ?_ GE273.out) | exact HB.out)))); have n2_ := Aside0.mk (blk_below (g := gb273) (o := .cells #[.int .u8 a2_0, .int .u8 a2_1, .int .u8 a2_2, .int .u8 a2_3, .int .u8 a2_4, .int .u8 a2_5] 41 (0, 0)) (by (with_reducible repeat (first | refine blk_drewN ?_ _ | refine blk_drew ?_ | refine blk_alloc ?_ _)); exact BK273.out) hb); have n3_ := Aside0.mk (below_step (by repeat (first | (with_reducible first | exact HB.out | apply below_alloc | apply pw_below_drewN | apply below_drew1 | refine below_set ?_ GE273.out) | exact HB.out)) hb); clear BK273; clear HB; have HO277 := n0_; have HO280 := n1_; have BK273 := n2_; have HB := n3_; clear n0_ n1_ n2_ n3_; (try clear hb); (try clear hb2); (try clear hk); (try clear hi); (try clear ho0); (try clear ho1); have hcz19_0 : w18.cell? ⟨gb273, 0, none⟩ = some (.int .u8 a2_0) := (blk_cell BK273.out 0).trans rfl; have hcz19_1 : w18.cell? ⟨gb273, 1, none⟩ = some (.int .u8 a2_1) := (blk_cell BK273.out 1).trans rfl; have hcz19_2 : w18.cell? ⟨gb273, 2, none⟩ = some (.int .u8 a2_2) := (blk_cell BK273.out 2).trans rfl; have hcz19_3 : w18.cell? ⟨gb273, 3, none⟩ = some (.int .u8 a2_3) := (blk_cell BK273.out 3).trans rfl; have hcz19_4 : w18.cell? ⟨gb273, 4, none⟩ = some (.int .u8 a2_4) := (blk_cell BK273.out 4).trans rfl; have hcz19_5 : w18.cell? ⟨gb273, 5, none⟩ = some (.int .u8 a2_5) := (blk_cell BK273.out 5).trans rfl; have hfz19_0 := blk_frozen BK273.out 0; have hfz19_1 := blk_frozen BK273.out 1; have hfz19_2 := blk_frozen BK273.out 2; have hfz19_3 := blk_frozen BK273.out 3; have hfz19_4 := blk_frozen BK273.out 4; have hfz19_5 := blk_frozen BK273.out 5) | ((with_reducible refine gate_callee (f := 18) rfl ?_); refine goesL_ (some 42) rfl rfl Tryd.func18 (by kernel_rfl) rfl #[.agg #[.int .u8 a2_0, .int .u8 a2_1, .int .u8 a2_2, .int .u8 a2_3, .int .u8 a2_4, .int .u8 a2_5]] rfl (by (try simp only [List.map_toArray, List.map_cons, List.map_nil]); first | done | rfl | (simp only [List.length_drop, List.length_take]; rfl)) ?_; (with_reducible refine (withelaw11_made.calls a2_0 a2_1 a2_2 a2_3 a2_4 a2_5 t281 t284 _ A12.out).mono ?_); rintro e w20 ⟨v282, v285, rfl, ho0, ho1, hb⟩; refine ⟨_, rfl, ?_⟩; have n0_ := Aside0.mk (Kd.R_below (by (with_reducible repeat (first | apply Kd.R_alloc | apply Kd.R_drewN | apply Kd.R_drew)); exact HO277.out) hb); have n1_ := Aside0.mk (Kd.N_mono (Kd.N_told (Kd.N_told (Kd.N_old (by (with_reducible repeat (first | apply Kd.N_alloc | apply Kd.N_drewN | apply Kd.N_drew)); exact HO280.out) hb) (Kd.N_base ho0)) (Kd.R_base ho1)) (fun _ h_ => h_.1)); have n2_ := Aside0.mk (Kd.N_lower (Kd.N_mono (ok' := fun k_ => some k_ ≠ (v285 : Value).ownBlock ∧ some k_ ≠ (v276 : Value).ownBlock ∧ some k_ ≠ (v279 : Value).ownBlock ∧ k_ ≠ gb273) ho0 (fun k_ hk_ => ⟨hk_.2, (Kd.fresh' (Kd.R_lt (by (with_reducible repeat (first | apply Kd.R_alloc | apply Kd.R_drewN | apply Kd.R_drew)); exact HO277.out)) k_ hk_.1), (Kd.fresh' (Kd.N_lt (by (with_reducible repeat (first | apply Kd.N_alloc | apply Kd.N_drewN | apply Kd.N_drew)); exact HO280.out)) k_ hk_.1), (Kd.freshB (g := gb273) (o := .cells #[.int .u8 a2_0, .int .u8 a2_1, .int .u8 a2_2, .int .u8 a2_3, .int .u8 a2_4, .int .u8 a2_5] 41 (0, 0)) (by (with_reducible repeat (first | refine blk_drewN ?_ _ | refine blk_drew ?_ | refine blk_alloc ?_ _)); exact BK273.out) k_ hk_.1)⟩)) (below_size (by repeat (first | (with_reducible first | exact HB.out | apply below_alloc | apply pw_below_drewN | apply below_drew1 | refine below_set ?_ GE273.out) | exact HB.out)))); have n3_ := Aside0.mk (Kd.R_lower (Kd.R_mono (ok' := fun k_ => True) ho1 (fun _ hk_ => trivial)) (below_size (by repeat (first | (with_reducible first | exact HB.out | apply below_alloc | apply pw_below_drewN | apply below_drew1 | refine below_set ?_ GE273.out) | exact HB.out)))); have n4_ := Aside0.mk (blk_below (g := gb273) (o := .cells #[.int .u8 a2_0, .int .u8 a2_1, .int .u8 a2_2, .int .u8 a2_3, .int .u8 a2_4, .int .u8 a2_5] 41 (0, 0)) (by (with_reducible repeat (first | refine blk_drewN ?_ _ | refine blk_drew ?_ | refine blk_alloc ?_ _)); exact BK273.out) hb); have n5_ := Aside0.mk (below_step (by repeat (first | (with_reducible first | exact HB.out | apply below_alloc | apply pw_below_drewN | apply below_drew1 | refine below_set ?_ GE273.out) | exact HB.out)) hb); clear HO277; clear HO280; clear BK273; clear HB; have HO277 := n0_; have HO280 := n1_; have HO283 := n2_; have HO286 := n3_; have BK273 := n4_; have HB := n5_; clear n0_ n1_ n2_ n3_ n4_ n5_; (try clear hb); (try clear hb2); (try clear hk); (try clear hi); (try clear ho0); (try clear ho1)) | ((with_reducible refine gate_dst (N := 9) rfl ?_); (try (refine gate_guard (by rfl) ?_; dsimp only)); refine box_event ?hg (N := 9) ?hd (cs := #[.slice none 0 0, .slice none 0 0]) (t := 30) ?hr ?_; (case hd => rfl); (case hg => rfl); (case hr => first | (go_simp; done) | (go_simp; rfl)); intro gb287 hg w21 hbox hb; have n0_ := Aside0.mk (Kd.R_below (by (with_reducible repeat (first | apply Kd.R_alloc | apply Kd.R_drewN | apply Kd.R_drew)); exact HO277.out) hb); have n1_ := Aside0.mk (Kd.N_below (Kd.N_elderB (by (with_reducible repeat (first | apply Kd.N_alloc | apply Kd.N_drewN | apply Kd.N_drew)); exact HO280.out) gb287 (Nat.le_of_eq hg.symm)) hb); have n2_ := Aside0.mk (Kd.N_below (Kd.N_elderB (by (with_reducible repeat (first | apply Kd.N_alloc | apply Kd.N_drewN | apply Kd.N_drew)); exact HO283.out) gb287 (Nat.le_of_eq hg.symm)) hb); have n3_ := Aside0.mk (Kd.R_below (by (with_reducible repeat (first | apply Kd.R_alloc | apply Kd.R_drewN | apply Kd.R_drew)); exact HO286.out) hb); have n4_ := Aside0.mk (blk_below (g := gb273) (o := .cells #[.int .u8 a2_0, .int .u8 a2_1, .int .u8 a2_2, .int .u8 a2_3, .int .u8 a2_4, .int .u8 a2_5] 41 (0, 0)) (by (with_reducible repeat (first | refine blk_drewN ?_ _ | refine blk_drew ?_ | refine blk_alloc ?_ _)); exact BK273.out) hb); have n5_ := Aside0.mk (below_step (by repeat (first | (with_reducible first | exact HB.out | apply below_alloc | apply pw_below_drewN | apply below_drew1 | refine below_set ?_ GE273.out) | exact HB.out)) hb); have n6_ := Aside0.mk (hbox); have n7_ := Aside0.mk ((by rw [hg]; exact (below_size (by repeat (first | (with_reducible first | exact HB.out | apply below_alloc | apply pw_below_drewN | apply below_drew1 | refine below_set ?_ GE273.out) | exact HB.out))) : w.heap.size ≤ gb287)); have n8_ := Aside0.mk ((by rw [hg]; exact (below_size (by repeat (first | (with_reducible first | exact HB.out | apply below_alloc | apply pw_below_drewN | apply below_drew1 | refine below_set ?_ GE273.out) | exact HB.out))) : w.heap.size ≤ gb287)); have n9_ := Aside0.mk ((by rw [hg]; exact Nat.ne_of_lt (blk_lt (g := gb273) (o := .cells #[.int .u8 a2_0, .int .u8 a2_1, .int .u8 a2_2, .int .u8 a2_3, .int .u8 a2_4, .int .u8 a2_5] 41 (0, 0)) (by (with_reducible repeat (first | refine blk_drewN ?_ _ | refine blk_drew ?_ | refine blk_alloc ?_ _)); exact BK273.out)) : gb273 ≠ gb287)); have n10_ := Aside0.mk ((by rw [hg]; exact Nat.ne_of_gt (blk_lt (g := gb273) (o := .cells #[.int .u8 a2_0, .int .u8 a2_1, .int .u8 a2_2, .int .u8 a2_3, .int .u8 a2_4, .int .u8 a2_5] 41 (0, 0)) (by (with_reducible repeat (first | refine blk_drewN ?_ _ | refine blk_drew ?_ | refine blk_alloc ?_ _)); exact BK273.out)) : gb287 ≠ gb273)); clear HO277; clear HO280; clear HO283; clear HO286; clear BK273; clear HB; have HO277 := n0_; have HO280 := n1_; have HO283 := n2_; have HO286 := n3_; have BK273 := n4_; have HB := n5_; have BK287 := n6_; have GW287 := n7_; have GE287 := n8_; have NB273_287 := n9_; have NB287_273 := n10_; clear n0_ n1_ n2_ n3_ n4_ n5_ n6_ n7_ n8_ n9_ n10_; clear hb hbox hg; obtain ⟨Ao22, co22, eo22⟩ := Kd.N_slice HO283.out; subst eo22; have hnb23 := NB287_273.out; have hnc23 := NB273_287.out; have hcz24_0 : w21.cell? ⟨gb287, 0, none⟩ = some (.slice none 0 0) := (blk_cell BK287.out 0).trans rfl; have hcz24_1 : w21.cell? ⟨gb287, 1, none⟩ = some (.slice none 0 0) := (blk_cell BK287.out 1).trans rfl; have hfz24_0 := blk_frozen BK287.out 0; have hfz24_1 := blk_frozen BK287.out 1; obtain ⟨Ao25, co25, eo25⟩ := Kd.R_slice HO286.out; subst eo25) | ((with_reducible refine gate_callee (f := 19) rfl ?_); refine goesL_ (some 45) rfl rfl Tryd.func19 (by kernel_rfl) rfl #[.slice A0 l0.length c0, .int .i64 3] rfl (by (try simp only [List.map_toArray, List.map_cons, List.map_nil]); first | done | rfl | (simp only [List.length_drop, List.length_take]; rfl)) ?_; (with_reducible refine (withelaw11_cond.calls kj5 _ _ l0 3 t288 t289 t290 t291 t292 t295 _ ?side1 ?side2 A13.out).mono ?_); (case side1 => exact Kd.C_below HR0.out (by repeat (first | (with_reducible first | exact HB.out | apply below_alloc | apply pw_below_drewN | apply below_drew1 | refine below_set ?_ GE273.out | refine below_set ?_ GE287.out) | exact HB.out))); (case side2 => exact HC0.out); rintro e w26 ⟨v293, A_t295, c_t295, rfl, ho0, hq_t295, hb⟩; refine ⟨_, rfl, ?_⟩; have n0_ := Aside0.mk (Kd.R_below (by (with_reducible repeat (first | apply Kd.R_alloc | apply Kd.R_drewN | apply Kd.R_drew)); exact (Kd.R_mono (Kd.R_far (p := ⟨gb287, 1, none⟩) (Kd.R_far (p := ⟨gb287, 0, none⟩) (Kd.R_types HO277.out BK287.out (by decide)) (fun _ hk => hk.2) (.slice Ao22 t281.length co22)) (fun _ hk => hk.2) (.slice Ao25 t284.length co25)) (fun _ h_ => h_.1))) hb); have n1_ := Aside0.mk (Kd.N_elder' (by (with_reducible repeat (first | apply Kd.N_alloc | apply Kd.N_drewN | apply Kd.N_drew)); exact (Kd.N_mono (Kd.N_far (p := ⟨gb287, 1, none⟩) (Kd.N_far (p := ⟨gb287, 0, none⟩) (Kd.N_mono HO280.out (fun k_ hk => (⟨hk, hk.2⟩ : _ ∧ k_ ≠ gb287))) (fun _ hk => hk.2) (.slice Ao22 t281.length co22)) (fun _ hk => hk.2) (.slice Ao25 t284.length co25)) (fun _ h_ => h_.1))) (Kd.N_base ho0) hb); have n2_ := Aside0.mk (Kd.N_elder' (by (with_reducible repeat (first | apply Kd.N_alloc | apply Kd.N_drewN | apply Kd.N_drew)); exact (Kd.N_mono (Kd.N_far (p := ⟨gb287, 1, none⟩) (Kd.N_far (p := ⟨gb287, 0, none⟩) (Kd.N_mono HO283.out (fun k_ hk => (⟨hk, hk.2⟩ : _ ∧ k_ ≠ gb287))) (fun _ hk => hk.2) (.slice Ao22 t281.length co22)) (fun _ hk => hk.2) (.slice Ao25 t284.length co25)) (fun _ h_ => h_.1))) (Kd.N_base ho0) hb); have n3_ := Aside0.mk (Kd.R_below (by (with_reducible repeat (first | apply Kd.R_alloc | apply Kd.R_drewN | apply Kd.R_drew)); exact (Kd.R_mono (Kd.R_far (p := ⟨gb287, 1, none⟩) (Kd.R_far (p := ⟨gb287, 0, none⟩) (Kd.R_types HO286.out BK287.out (by decide)) (fun _ hk => hk.2) (.slice Ao22 t281.length co22)) (fun _ hk => hk.2) (.slice Ao25 t284.length co25)) (fun _ h_ => h_.1))) hb); have n4_ := Aside0.mk (Kd.N_lower (Kd.N_mono (ok' := fun k_ => some k_ ≠ (v276 : Value).ownBlock ∧ some k_ ≠ (v279 : Value).ownBlock ∧ some k_ ≠ (.slice Ao22 t281.length co22 : Value).ownBlock ∧ some k_ ≠ (.slice Ao25 t284.length co25 : Value).ownBlock ∧ k_ ≠ gb273 ∧ k_ ≠ gb287) ho0 (fun k_ hk_ => ⟨(Kd.fresh' (Kd.R_lt (by (with_reducible repeat (first | apply Kd.R_alloc | apply Kd.R_drewN | apply Kd.R_drew)); exact (Kd.R_mono (Kd.R_far (p := ⟨gb287, 1, none⟩) (Kd.R_far (p := ⟨gb287, 0, none⟩) (Kd.R_types HO277.out BK287.out (by decide)) (fun _ hk => hk.2) (.slice Ao22 t281.length co22)) (fun _ hk => hk.2) (.slice Ao25 t284.length co25)) (fun _ h_ => h_.1)))) k_ hk_), (Kd.fresh' (Kd.N_lt (by (with_reducible repeat (first | apply Kd.N_alloc | apply Kd.N_drewN | apply Kd.N_drew)); exact (Kd.N_mono (Kd.N_far (p := ⟨gb287, 1, none⟩) (Kd.N_far (p := ⟨gb287, 0, none⟩) (Kd.N_mono HO280.out (fun k_ hk => (⟨hk, hk.2⟩ : _ ∧ k_ ≠ gb287))) (fun _ hk => hk.2) (.slice Ao22 t281.length co22)) (fun _ hk => hk.2) (.slice Ao25 t284.length co25)) (fun _ h_ => h_.1)))) k_ hk_), (Kd.fresh' (Kd.N_lt (by (with_reducible repeat (first | apply Kd.N_alloc | apply Kd.N_drewN | apply Kd.N_drew)); exact (Kd.N_mono (Kd.N_far (p := ⟨gb287, 1, none⟩) (Kd.N_far (p := ⟨gb287, 0, none⟩) (Kd.N_mono HO283.out (fun k_ hk => (⟨hk, hk.2⟩ : _ ∧ k_ ≠ gb287))) (fun _ hk => hk.2) (.slice Ao22 t281.length co22)) (fun _ hk => hk.2) (.slice Ao25 t284.length co25)) (fun _ h_ => h_.1)))) k_ hk_), (Kd.fresh' (Kd.R_lt (by (with_reducible repeat (first | apply Kd.R_alloc | apply Kd.R_drewN | apply Kd.R_drew)); exact (Kd.R_mono (Kd.R_far (p := ⟨gb287, 1, none⟩) (Kd.R_far (p := ⟨gb287, 0, none⟩) (Kd.R_types HO286.out BK287.out (by decide)) (fun _ hk => hk.2) (.slice Ao22 t281.length co22)) (fun _ hk => hk.2) (.slice Ao25 t284.length co25)) (fun _ h_ => h_.1)))) k_ hk_), (Kd.freshB (g := gb273) (o := .cells #[.int .u8 a2_0, .int .u8 a2_1, .int .u8 a2_2, .int .u8 a2_3, .int .u8 a2_4, .int .u8 a2_5] 41 (0, 0)) (by (with_reducible repeat (first | refine blk_drewN ?_ _ | refine blk_drew ?_ | refine blk_alloc ?_ _)); refine blk_far ?_ NB273_287.out _; (with_reducible repeat (first | refine blk_drewN ?_ _ | refine blk_drew ?_ | refine blk_alloc ?_ _)); refine blk_far ?_ NB273_287.out _; (with_reducible repeat (first | refine blk_drewN ?_ _ | refine blk_drew ?_ | refine blk_alloc ?_ _)); exact BK273.out) k_ hk_), (Kd.freshB (g := gb287) (o := .cells #[.slice Ao22 t281.length co22, .slice Ao25 t284.length co25] 30 (0, 0)) (by (with_reducible repeat (first | refine blk_drewN ?_ _ | refine blk_drew ?_ | refine blk_alloc ?_ _)); refine blk_put (cs := #[.slice Ao22 t281.length co22, .slice none 0 0]) ?_ 1 _ rfl; (with_reducible repeat (first | refine blk_drewN ?_ _ | refine blk_drew ?_ | refine blk_alloc ?_ _)); refine blk_put (cs := #[.slice none 0 0, .slice none 0 0]) ?_ 0 _ rfl; (with_reducible repeat (first | refine blk_drewN ?_ _ | refine blk_drew ?_ | refine blk_alloc ?_ _)); exact BK287.out) k_ hk_)⟩)) (below_size (by repeat (first | (with_reducible first | exact HB.out | apply below_alloc | apply pw_below_drewN | apply below_drew1 | refine below_set ?_ GE273.out | refine below_set ?_ GE287.out) | exact HB.out)))); have n5_ := Aside0.mk (blk_below (g := gb273) (o := .cells #[.int .u8 a2_0, .int .u8 a2_1, .int .u8 a2_2, .int .u8 a2_3, .int .u8 a2_4, .int .u8 a2_5] 41 (0, 0)) (by (with_reducible repeat (first | refine blk_drewN ?_ _ | refine blk_drew ?_ | refine blk_alloc ?_ _)); refine blk_far ?_ NB273_287.out _; (with_reducible repeat (first | refine blk_drewN ?_ _ | refine blk_drew ?_ | refine blk_alloc ?_ _)); refine blk_far ?_ NB273_287.out _; (with_reducible repeat (first | refine blk_drewN ?_ _ | refine blk_drew ?_ | refine blk_alloc ?_ _)); exact BK273.out) hb); have n6_ := Aside0.mk (blk_below (g := gb287) (o := .cells #[.slice Ao22 t281.length co22, .slice Ao25 t284.length co25] 30 (0, 0)) (by (with_reducible repeat (first | refine blk_drewN ?_ _ | refine blk_drew ?_ | refine blk_alloc ?_ _)); refine blk_put (cs := #[.slice Ao22 t281.length co22, .slice none 0 0]) ?_ 1 _ rfl; (with_reducible repeat (first | refine blk_drewN ?_ _ | refine blk_drew ?_ | refine blk_alloc ?_ _)); refine blk_put (cs := #[.slice none 0 0, .slice none 0 0]) ?_ 0 _ rfl; (with_reducible repeat (first | refine blk_drewN ?_ _ | refine blk_drew ?_ | refine blk_alloc ?_ _)); exact BK287.out) hb); have n7_ := Aside0.mk (below_step (by repeat (first | (with_reducible first | exact HB.out | apply below_alloc | apply pw_below_drewN | apply below_drew1 | refine below_set ?_ GE273.out | refine below_set ?_ GE287.out) | exact HB.out)) hb); clear HO277; clear HO280; clear HO283; clear HO286; clear BK273; clear BK287; clear HB; have HO277 := n0_; have HO280 := n1_; have HO283 := n2_; have HO286 := n3_; have HO294 := n4_; have BK273 := n5_; have BK287 := n6_; have HB := n7_; clear n0_ n1_ n2_ n3_ n4_ n5_ n6_ n7_; (try clear hb); (try clear hb2); (try clear hk); (try clear hi); (try clear ho0)) | ((with_reducible refine gate_dst (N := 10) rfl ?_); (try (refine gate_guard (by rfl) ?_; dsimp only)); refine box_event ?hg (N := 10) ?hd (cs := #[.int .i64 0, .int .i64 0, .string (⟨#[]⟩ : ByteArray), .int .i64 0, .slice none 0 0]) (t := 24) ?hr ?_; (case hd => rfl); (case hg => rfl); (case hr => first | (go_simp; done) | (go_simp; rfl)); intro gb296 hg w27 hbox hb; have n0_ := Aside0.mk (Kd.R_below (by (with_reducible repeat (first | apply Kd.R_alloc | apply Kd.R_drewN | apply Kd.R_drew)); exact HO277.out) hb); have n1_ := Aside0.mk (Kd.N_below (Kd.N_elderB (by (with_reducible repeat (first | apply Kd.N_alloc | apply Kd.N_drewN | apply Kd.N_drew)); exact HO280.out) gb296 (Nat.le_of_eq hg.symm)) hb); have n2_ := Aside0.mk (Kd.N_below (Kd.N_elderB (by (with_reducible repeat (first | apply Kd.N_alloc | apply Kd.N_drewN | apply Kd.N_drew)); exact HO283.out) gb296 (Nat.le_of_eq hg.symm)) hb); have n3_ := Aside0.mk (Kd.R_below (by (with_reducible repeat (first | apply Kd.R_alloc | apply Kd.R_drewN | apply Kd.R_drew)); exact HO286.out) hb); have n4_ := Aside0.mk (Kd.N_below (Kd.N_elderB (by (with_reducible repeat (first | apply Kd.N_alloc | apply Kd.N_drewN | apply Kd.N_drew)); exact HO294.out) gb296 (Nat.le_of_eq hg.symm)) hb); have n5_ := Aside0.mk (blk_below (g := gb273) (o := .cells #[.int .u8 a2_0, .int .u8 a2_1, .int .u8 a2_2, .int .u8 a2_3, .int .u8 a2_4, .int .u8 a2_5] 41 (0, 0)) (by (with_reducible repeat (first | refine blk_drewN ?_ _ | refine blk_drew ?_ | refine blk_alloc ?_ _)); exact BK273.out) hb); have n6_ := Aside0.mk (blk_below (g := gb287) (o := .cells #[.slice Ao22 t281.length co22, .slice Ao25 t284.length co25] 30 (0, 0)) (by (with_reducible repeat (first | refine blk_drewN ?_ _ | refine blk_drew ?_ | refine blk_alloc ?_ _)); exact BK287.out) hb); have n7_ := Aside0.mk (below_step (by repeat (first | (with_reducible first | exact HB.out | apply below_alloc | apply pw_below_drewN | apply below_drew1 | refine below_set ?_ GE273.out | refine below_set ?_ GE287.out) | exact HB.out)) hb); have n8_ := Aside0.mk (hbox); have n9_ := Aside0.mk ((by rw [hg]; exact (below_size (by repeat (first | (with_reducible first | exact HB.out | apply below_alloc | apply pw_below_drewN | apply below_drew1 | refine below_set ?_ GE273.out | refine below_set ?_ GE287.out) | exact HB.out))) : w.heap.size ≤ gb296)); have n10_ := Aside0.mk ((by rw [hg]; exact (below_size (by repeat (first | (with_reducible first | exact HB.out | apply below_alloc | apply pw_below_drewN | apply below_drew1 | refine below_set ?_ GE273.out | refine below_set ?_ GE287.out) | exact HB.out))) : w.heap.size ≤ gb296)); have n11_ := Aside0.mk ((by rw [hg]; exact Nat.ne_of_lt (blk_lt (g := gb273) (o := .cells #[.int .u8 a2_0, .int .u8 a2_1, .int .u8 a2_2, .int .u8 a2_3, .int .u8 a2_4, .int .u8 a2_5] 41 (0, 0)) (by (with_reducible repeat (first | refine blk_drewN ?_ _ | refine blk_drew ?_ | refine blk_alloc ?_ _)); exact BK273.out)) : gb273 ≠ gb296)); have n12_ := Aside0.mk ((by rw [hg]; exact Nat.ne_of_gt (blk_lt (g := gb273) (o := .cells #[.int .u8 a2_0, .int .u8 a2_1, .int .u8 a2_2, .int .u8 a2_3, .int .u8 a2_4, .int .u8 a2_5] 41 (0, 0)) (by (with_reducible repeat (first | refine blk_drewN ?_ _ | refine blk_drew ?_ | refine blk_alloc ?_ _)); exact BK273.out)) : gb296 ≠ gb273)); have n13_ := Aside0.mk ((by rw [hg]; exact Nat.ne_of_lt (blk_lt (g := gb287) (o := .cells #[.slice Ao22 t281.length co22, .slice Ao25 t284.length co25] 30 (0, 0)) (by (with_reducible repeat (first | refine blk_drewN ?_ _ | refine blk_drew ?_ | refine blk_alloc ?_ _)); exact BK287.out)) : gb287 ≠ gb296)); have n14_ := Aside0.mk ((by rw [hg]; exact Nat.ne_of_gt (blk_lt (g := gb287) (o := .cells #[.slice Ao22 t281.length co22, .slice Ao25 t284.length co25] 30 (0, 0)) (by (with_reducible repeat (first | refine blk_drewN ?_ _ | refine blk_drew ?_ | refine blk_alloc ?_ _)); exact BK287.out)) : gb296 ≠ gb287)); clear HO277; clear HO280; clear HO283; clear HO286; clear HO294; clear BK273; clear BK287; clear HB; have HO277 := n0_; have HO280 := n1_; have HO283 := n2_; have HO286 := n3_; have HO294 := n4_; have BK273 := n5_; have BK287 := n6_; have HB := n7_; have BK296 := n8_; have GW296 := n9_; have GE296 := n10_; have NB273_296 := n11_; have NB296_273 := n12_; have NB287_296 := n13_; have NB296_287 := n14_; clear n0_ n1_ n2_ n3_ n4_ n5_ n6_ n7_ n8_ n9_ n10_ n11_ n12_ n13_ n14_; clear hb hbox hg; have hnb28 := NB296_273.out; have hnc28 := NB273_296.out; have hnb29 := NB296_287.out; have hnc29 := NB287_296.out; have hcz30_0 : w27.cell? ⟨gb296, 0, none⟩ = some (.int .i64 0) := (blk_cell BK296.out 0).trans rfl; have hcz30_1 : w27.cell? ⟨gb296, 1, none⟩ = some (.int .i64 0) := (blk_cell BK296.out 1).trans rfl; have hcz30_2 : w27.cell? ⟨gb296, 2, none⟩ = some (.string (⟨#[]⟩ : ByteArray)) := (blk_cell BK296.out 2).trans rfl; have hcz30_3 : w27.cell? ⟨gb296, 3, none⟩ = some (.int .i64 0) := (blk_cell BK296.out 3).trans rfl; have hcz30_4 : w27.cell? ⟨gb296, 4, none⟩ = some (.slice none 0 0) := (blk_cell BK296.out 4).trans rfl; have hfz30_0 := blk_frozen BK296.out 0; have hfz30_1 := blk_frozen BK296.out 1; have hfz30_2 := blk_frozen BK296.out 2; have hfz30_3 := blk_frozen BK296.out 3; have hfz30_4 := blk_frozen BK296.out 4; obtain ⟨Ao31, co31, eo31⟩ := Kd.N_slice HO294.out; subst eo31) | ((with_reducible refine gate_callee (f := 19) rfl ?_); refine goesL_ (some 50) rfl rfl Tryd.func19 (by kernel_rfl) rfl #[.slice A1 l1.length c1, .int .i64 3] rfl (by (try simp only [List.map_toArray, List.map_cons, List.map_nil]); first | done | rfl | (simp only [List.length_drop, List.length_take]; rfl)) ?_; (with_reducible refine (withelaw11_cond.calls kj5 _ _ l1 3 t297 t298 t299 t300 t301 t304 _ ?side1 ?side2 A14.out).mono ?_); (case side1 => exact Kd.C_below HR1.out (by repeat (first | (with_reducible first | exact HB.out | apply below_alloc | apply pw_below_drewN | apply below_drew1 | refine below_set ?_ GE273.out | refine below_set ?_ GE287.out | refine below_set ?_ GE296.out) | exact HB.out))); (case side2 => exact HC1.out); rintro e w32 ⟨v302, A_t304, c_t304, rfl, ho0, hq_t304, hb⟩; refine ⟨_, rfl, ?_⟩; have n0_ := Aside0.mk (Kd.R_below (by (with_reducible repeat (first | apply Kd.R_alloc | apply Kd.R_drewN | apply Kd.R_drew)); exact (Kd.R_mono (Kd.R_far (p := ⟨gb296, 4, none⟩) (Kd.R_far (p := ⟨gb296, 3, none⟩) (Kd.R_far (p := ⟨gb296, 2, none⟩) (Kd.R_far (p := ⟨gb296, 1, none⟩) (Kd.R_far (p := ⟨gb296, 0, none⟩) (Kd.R_types HO277.out BK296.out (by decide)) (fun _ hk => hk.2) (.int .i64 t288)) (fun _ hk => hk.2) (.int .i64 t289)) (fun _ hk => hk.2) (.string t290)) (fun _ hk => hk.2) (.int .i64 t291)) (fun _ hk => hk.2) (.slice Ao31 t292.length co31)) (fun _ h_ => h_.1))) hb); have n1_ := Aside0.mk (Kd.N_elder' (by (with_reducible repeat (first | apply Kd.N_alloc | apply Kd.N_drewN | apply Kd.N_drew)); exact (Kd.N_mono (Kd.N_far (p := ⟨gb296, 4, none⟩) (Kd.N_far (p := ⟨gb296, 3, none⟩) (Kd.N_far (p := ⟨gb296, 2, none⟩) (Kd.N_far (p := ⟨gb296, 1, none⟩) (Kd.N_far (p := ⟨gb296, 0, none⟩) (Kd.N_mono HO280.out (fun k_ hk => (⟨hk, hk.2⟩ : _ ∧ k_ ≠ gb296))) (fun _ hk => hk.2) (.int .i64 t288)) (fun _ hk => hk.2) (.int .i64 t289)) (fun _ hk => hk.2) (.string t290)) (fun _ hk => hk.2) (.int .i64 t291)) (fun _ hk => hk.2) (.slice Ao31 t292.length co31)) (fun _ h_ => h_.1))) (Kd.N_base ho0) hb); have n2_ := Aside0.mk (Kd.N_elder' (by (with_reducible repeat (first | apply Kd.N_alloc | apply Kd.N_drewN | apply Kd.N_drew)); exact (Kd.N_mono (Kd.N_far (p := ⟨gb296, 4, none⟩) (Kd.N_far (p := ⟨gb296, 3, none⟩) (Kd.N_far (p := ⟨gb296, 2, none⟩) (Kd.N_far (p := ⟨gb296, 1, none⟩) (Kd.N_far (p := ⟨gb296, 0, none⟩) (Kd.N_mono HO283.out (fun k_ hk => (⟨hk, hk.2⟩ : _ ∧ k_ ≠ gb296))) (fun _ hk => hk.2) (.int .i64 t288)) (fun _ hk => hk.2) (.int .i64 t289)) (fun _ hk => hk.2) (.string t290)) (fun _ hk => hk.2) (.int .i64 t291)) (fun _ hk => hk.2) (.slice Ao31 t292.length co31)) (fun _ h_ => h_.1))) (Kd.N_base ho0) hb); have n3_ := Aside0.mk (Kd.R_below (by (with_reducible repeat (first | apply Kd.R_alloc | apply Kd.R_drewN | apply Kd.R_drew)); exact (Kd.R_mono (Kd.R_far (p := ⟨gb296, 4, none⟩) (Kd.R_far (p := ⟨gb296, 3, none⟩) (Kd.R_far (p := ⟨gb296, 2, none⟩) (Kd.R_far (p := ⟨gb296, 1, none⟩) (Kd.R_far (p := ⟨gb296, 0, none⟩) (Kd.R_types HO286.out BK296.out (by decide)) (fun _ hk => hk.2) (.int .i64 t288)) (fun _ hk => hk.2) (.int .i64 t289)) (fun _ hk => hk.2) (.string t290)) (fun _ hk => hk.2) (.int .i64 t291)) (fun _ hk => hk.2) (.slice Ao31 t292.length co31)) (fun _ h_ => h_.1))) hb); have n4_ := Aside0.mk (Kd.N_elder' (by (with_reducible repeat (first | apply Kd.N_alloc | apply Kd.N_drewN | apply Kd.N_drew)); exact (Kd.N_mono (Kd.N_far (p := ⟨gb296, 4, none⟩) (Kd.N_far (p := ⟨gb296, 3, none⟩) (Kd.N_far (p := ⟨gb296, 2, none⟩) (Kd.N_far (p := ⟨gb296, 1, none⟩) (Kd.N_far (p := ⟨gb296, 0, none⟩) (Kd.N_mono HO294.out (fun k_ hk => (⟨hk, hk.2⟩ : _ ∧ k_ ≠ gb296))) (fun _ hk => hk.2) (.int .i64 t288)) (fun _ hk => hk.2) (.int .i64 t289)) (fun _ hk => hk.2) (.string t290)) (fun _ hk => hk.2) (.int .i64 t291)) (fun _ hk => hk.2) (.slice Ao31 t292.length co31)) (fun _ h_ => h_.1))) (Kd.N_base ho0) hb); have n5_ := Aside0.mk (Kd.N_lower (Kd.N_mono (ok' := fun k_ => some k_ ≠ (v276 : Value).ownBlock ∧ some k_ ≠ (v279 : Value).ownBlock ∧ some k_ ≠ (.slice Ao22 t281.length co22 : Value).ownBlock ∧ some k_ ≠ (.slice Ao25 t284.length co25 : Value).ownBlock ∧ some k_ ≠ (.slice Ao31 t292.length co31 : Value).ownBlock ∧ k_ ≠ gb273 ∧ k_ ≠ gb287 ∧ k_ ≠ gb296) ho0 (fun k_ hk_ => ⟨(Kd.fresh' (Kd.R_lt (by (with_reducible repeat (first | apply Kd.R_alloc | apply Kd.R_drewN | apply Kd.R_drew)); exact (Kd.R_mono (Kd.R_far (p := ⟨gb296, 4, none⟩) (Kd.R_far (p := ⟨gb296, 3, none⟩) (Kd.R_far (p := ⟨gb296, 2, none⟩) (Kd.R_far (p := ⟨gb296, 1, none⟩) (Kd.R_far (p := ⟨gb296, 0, none⟩) (Kd.R_types HO277.out BK296.out (by decide)) (fun _ hk => hk.2) (.int .i64 t288)) (fun _ hk => hk.2) (.int .i64 t289)) (fun _ hk => hk.2) (.string t290)) (fun _ hk => hk.2) (.int .i64 t291)) (fun _ hk => hk.2) (.slice Ao31 t292.length co31)) (fun _ h_ => h_.1)))) k_ hk_), (Kd.fresh' (Kd.N_lt (by (with_reducible repeat (first | apply Kd.N_alloc | apply Kd.N_drewN | apply Kd.N_drew)); exact (Kd.N_mono (Kd.N_far (p := ⟨gb296, 4, none⟩) (Kd.N_far (p := ⟨gb296, 3, none⟩) (Kd.N_far (p := ⟨gb296, 2, none⟩) (Kd.N_far (p := ⟨gb296, 1, none⟩) (Kd.N_far (p := ⟨gb296, 0, none⟩) (Kd.N_mono HO280.out (fun k_ hk => (⟨hk, hk.2⟩ : _ ∧ k_ ≠ gb296))) (fun _ hk => hk.2) (.int .i64 t288)) (fun _ hk => hk.2) (.int .i64 t289)) (fun _ hk => hk.2) (.string t290)) (fun _ hk => hk.2) (.int .i64 t291)) (fun _ hk => hk.2) (.slice Ao31 t292.length co31)) (fun _ h_ => h_.1)))) k_ hk_), (Kd.fresh' (Kd.N_lt (by (with_reducible repeat (first | apply Kd.N_alloc | apply Kd.N_drewN | apply Kd.N_drew)); exact (Kd.N_mono (Kd.N_far (p := ⟨gb296, 4, none⟩) (Kd.N_far (p := ⟨gb296, 3, none⟩) (Kd.N_far (p := ⟨gb296, 2, none⟩) (Kd.N_far (p := ⟨gb296, 1, none⟩) (Kd.N_far (p := ⟨gb296, 0, none⟩) (Kd.N_mono HO283.out (fun k_ hk => (⟨hk, hk.2⟩ : _ ∧ k_ ≠ gb296))) (fun _ hk => hk.2) (.int .i64 t288)) (fun _ hk => hk.2) (.int .i64 t289)) (fun _ hk => hk.2) (.string t290)) (fun _ hk => hk.2) (.int .i64 t291)) (fun _ hk => hk.2) (.slice Ao31 t292.length co31)) (fun _ h_ => h_.1)))) k_ hk_), (Kd.fresh' (Kd.R_lt (by (with_reducible repeat (first | apply Kd.R_alloc | apply Kd.R_drewN | apply Kd.R_drew)); exact (Kd.R_mono (Kd.R_far (p := ⟨gb296, 4, none⟩) (Kd.R_far (p := ⟨gb296, 3, none⟩) (Kd.R_far (p := ⟨gb296, 2, none⟩) (Kd.R_far (p := ⟨gb296, 1, none⟩) (Kd.R_far (p := ⟨gb296, 0, none⟩) (Kd.R_types HO286.out BK296.out (by decide)) (fun _ hk => hk.2) (.int .i64 t288)) (fun _ hk => hk.2) (.int .i64 t289)) (fun _ hk => hk.2) (.string t290)) (fun _ hk => hk.2) (.int .i64 t291)) (fun _ hk => hk.2) (.slice Ao31 t292.length co31)) (fun _ h_ => h_.1)))) k_ hk_), (Kd.fresh' (Kd.N_lt (by (with_reducible repeat (first | apply Kd.N_alloc | apply Kd.N_drewN | apply Kd.N_drew)); exact (Kd.N_mono (Kd.N_far (p := ⟨gb296, 4, none⟩) (Kd.N_far (p := ⟨gb296, 3, none⟩) (Kd.N_far (p := ⟨gb296, 2, none⟩) (Kd.N_far (p := ⟨gb296, 1, none⟩) (Kd.N_far (p := ⟨gb296, 0, none⟩) (Kd.N_mono HO294.out (fun k_ hk => (⟨hk, hk.2⟩ : _ ∧ k_ ≠ gb296))) (fun _ hk => hk.2) (.int .i64 t288)) (fun _ hk => hk.2) (.int .i64 t289)) (fun _ hk => hk.2) (.string t290)) (fun _ hk => hk.2) (.int .i64 t291)) (fun _ hk => hk.2) (.slice Ao31 t292.length co31)) (fun _ h_ => h_.1)))) k_ hk_), (Kd.freshB (g := gb273) (o := .cells #[.int .u8 a2_0, .int .u8 a2_1, .int .u8 a2_2, .int .u8 a2_3, .int .u8 a2_4, .int .u8 a2_5] 41 (0, 0)) (by (with_reducible repeat (first | refine blk_drewN ?_ _ | refine blk_drew ?_ | refine blk_alloc ?_ _)); refine blk_far ?_ NB273_296.out _; (with_reducible repeat (first | refine blk_drewN ?_ _ | refine blk_drew ?_ | refine blk_alloc ?_ _)); refine blk_far ?_ NB273_296.out _; (with_reducible repeat (first | refine blk_drewN ?_ _ | refine blk_drew ?_ | refine blk_alloc ?_ _)); refine blk_far ?_ NB273_296.out _; (with_reducible repeat (first | refine blk_drewN ?_ _ | refine blk_drew ?_ | refine blk_alloc ?_ _)); refine blk_far ?_ NB273_296.out _; (with_reducible repeat (first | refine blk_drewN ?_ _ | refine blk_drew ?_ | refine blk_alloc ?_ _)); refine blk_far ?_ NB273_296.out _; (with_reducible repeat (first | refine blk_drewN ?_ _ | refine blk_drew ?_ | refine blk_alloc ?_ _)); exact BK273.out) k_ hk_), (Kd.freshB (g := gb287) (o := .cells #[.slice Ao22 t281.length co22, .slice Ao25 t284.length co25] 30 (0, 0)) (by (with_reducible repeat (first | refine blk_drewN ?_ _ | refine blk_drew ?_ | refine blk_alloc ?_ _)); refine blk_far ?_ NB287_296.out _; (with_reducible repeat (first | refine blk_drewN ?_ _ | refine blk_drew ?_ | refine blk_alloc ?_ _)); refine blk_far ?_ NB287_296.out _; (with_reducible repeat (first | refine blk_drewN ?_ _ | refine blk_drew ?_ | refine blk_alloc ?_ _)); refine blk_far ?_ NB287_296.out _; (with_reducible repeat (first | refine blk_drewN ?_ _ | refine blk_drew ?_ | refine blk_alloc ?_ _)); refine blk_far ?_ NB287_296.out _; (with_reducible repeat (first | refine blk_drewN ?_ _ | refine blk_drew ?_ | refine blk_alloc ?_ _)); refine blk_far ?_ NB287_296.out _; (with_reducible repeat (first | refine blk_drewN ?_ _ | refine blk_drew ?_ | refine blk_alloc ?_ _)); exact BK287.out) k_ hk_), (Kd.freshB (g := gb296) (o := .cells #[.int .i64 t288, .int .i64 t289, .string t290, .int .i64 t291, .slice Ao31 t292.length co31] 24 (0, 0)) (by (with_reducible repeat (first | refine blk_drewN ?_ _ | refine blk_drew ?_ | refine blk_alloc ?_ _)); refine blk_put (cs := #[.int .i64 t288, .int .i64 t289, .string t290, .int .i64 t291, .slice none 0 0]) ?_ 4 _ rfl; (with_reducible repeat (first | refine blk_drewN ?_ _ | refine blk_drew ?_ | refine blk_alloc ?_ _)); refine blk_put (cs := #[.int .i64 t288, .int .i64 t289, .string t290, .int .i64 0, .slice none 0 0]) ?_ 3 _ rfl; (with_reducible repeat (first | refine blk_drewN ?_ _ | refine blk_drew ?_ | refine blk_alloc ?_ _)); refine blk_put (cs := #[.int .i64 t288, .int .i64 t289, .string (⟨#[]⟩ : ByteArray), .int .i64 0, .slice none 0 0]) ?_ 2 _ rfl; (with_reducible repeat (first | refine blk_drewN ?_ _ | refine blk_drew ?_ | refine blk_alloc ?_ _)); refine blk_put (cs := #[.int .i64 t288, .int .i64 0, .string (⟨#[]⟩ : ByteArray), .int .i64 0, .slice none 0 0]) ?_ 1 _ rfl; (with_reducible repeat (first | refine blk_drewN ?_ _ | refine blk_drew ?_ | refine blk_alloc ?_ _)); refine blk_put (cs := #[.int .i64 0, .int .i64 0, .string (⟨#[]⟩ : ByteArray), .int .i64 0, .slice none 0 0]) ?_ 0 _ rfl; (with_reducible repeat (first | refine blk_drewN ?_ _ | refine blk_drew ?_ | refine blk_alloc ?_ _)); exact BK296.out) k_ hk_)⟩)) (below_size (by repeat (first | (with_reducible first | exact HB.out | apply below_alloc | apply pw_below_drewN | apply below_drew1 | refine below_set ?_ GE273.out | refine below_set ?_ GE287.out | refine below_set ?_ GE296.out) | exact HB.out)))); have n6_ := Aside0.mk (blk_below (g := gb273) (o := .cells #[.int .u8 a2_0, .int .u8 a2_1, .int .u8 a2_2, .int .u8 a2_3, .int .u8 a2_4, .int .u8 a2_5] 41 (0, 0)) (by (with_reducible repeat (first | refine blk_drewN ?_ _ | refine blk_drew ?_ | refine blk_alloc ?_ _)); refine blk_far ?_ NB273_296.out _; (with_reducible repeat (first | refine blk_drewN ?_ _ | refine blk_drew ?_ | refine blk_alloc ?_ _)); refine blk_far ?_ NB273_296.out _; (with_reducible repeat (first | refine blk_drewN ?_ _ | refine blk_drew ?_ | refine blk_alloc ?_ _)); refine blk_far ?_ NB273_296.out _; (with_reducible repeat (first | refine blk_drewN ?_ _ | refine blk_drew ?_ | refine blk_alloc ?_ _)); refine blk_far ?_ NB273_296.out _; (with_reducible repeat (first | refine blk_drewN ?_ _ | refine blk_drew ?_ | refine blk_alloc ?_ _)); refine blk_far ?_ NB273_296.out _; (with_reducible repeat (first | refine blk_drewN ?_ _ | refine blk_drew ?_ | refine blk_alloc ?_ _)); exact BK273.out) hb); have n7_ := Aside0.mk (blk_below (g := gb287) (o := .cells #[.slice Ao22 t281.length co22, .slice Ao25 t284.length co25] 30 (0, 0)) (by (with_reducible repeat (first | refine blk_drewN ?_ _ | refine blk_drew ?_ | refine blk_alloc ?_ _)); refine blk_far ?_ NB287_296.out _; (with_reducible repeat (first | refine blk_drewN ?_ _ | refine blk_drew ?_ | refine blk_alloc ?_ _)); refine blk_far ?_ NB287_296.out _; (with_reducible repeat (first | refine blk_drewN ?_ _ | refine blk_drew ?_ | refine blk_alloc ?_ _)); refine blk_far ?_ NB287_296.out _; (with_reducible repeat (first | refine blk_drewN ?_ _ | refine blk_drew ?_ | refine blk_alloc ?_ _)); refine blk_far ?_ NB287_296.out _; (with_reducible repeat (first | refine blk_drewN ?_ _ | refine blk_drew ?_ | refine blk_alloc ?_ _)); refine blk_far ?_ NB287_296.out _; (with_reducible repeat (first | refine blk_drewN ?_ _ | refine blk_drew ?_ | refine blk_alloc ?_ _)); exact BK287.out) hb); have n8_ := Aside0.mk (blk_below (g := gb296) (o := .cells #[.int .i64 t288, .int .i64 t289, .string t290, .int .i64 t291, .slice Ao31 t292.length co31] 24 (0, 0)) (by (with_reducible repeat (first | refine blk_drewN ?_ _ | refine blk_drew ?_ | refine blk_alloc ?_ _)); refine blk_put (cs := #[.int .i64 t288, .int .i64 t289, .string t290, .int .i64 t291, .slice none 0 0]) ?_ 4 _ rfl; (with_reducible repeat (first | refine blk_drewN ?_ _ | refine blk_drew ?_ | refine blk_alloc ?_ _)); refine blk_put (cs := #[.int .i64 t288, .int .i64 t289, .string t290, .int .i64 0, .slice none 0 0]) ?_ 3 _ rfl; (with_reducible repeat (first | refine blk_drewN ?_ _ | refine blk_drew ?_ | refine blk_alloc ?_ _)); refine blk_put (cs := #[.int .i64 t288, .int .i64 t289, .string (⟨#[]⟩ : ByteArray), .int .i64 0, .slice none 0 0]) ?_ 2 _ rfl; (with_reducible repeat (first | refine blk_drewN ?_ _ | refine blk_drew ?_ | refine blk_alloc ?_ _)); refine blk_put (cs := #[.int .i64 t288, .int .i64 0, .string (⟨#[]⟩ : ByteArray), .int .i64 0, .slice none 0 0]) ?_ 1 _ rfl; (with_reducible repeat (first | refine blk_drewN ?_ _ | refine blk_drew ?_ | refine blk_alloc ?_ _)); refine blk_put (cs := #[.int .i64 0, .int .i64 0, .string (⟨#[]⟩ : ByteArray), .int .i64 0, .slice none 0 0]) ?_ 0 _ rfl; (with_reducible repeat (first | refine blk_drewN ?_ _ | refine blk_drew ?_ | refine blk_alloc ?_ _)); exact BK296.out) hb); have n9_ := Aside0.mk (below_step (by repeat (first | (with_reducible first | exact HB.out | apply below_alloc | apply pw_below_drewN | apply below_drew1 | refine below_set ?_ GE273.out | refine below_set ?_ GE287.out | refine below_set ?_ GE296.out) | exact HB.out)) hb); clear HO277; clear HO280; clear HO283; clear HO286; clear HO294; clear BK273; clear BK287; clear BK296; clear HB; have HO277 := n0_; have HO280 := n1_; have HO283 := n2_; have HO286 := n3_; have HO294 := n4_; have HO303 := n5_; have BK273 := n6_; have BK287 := n7_; have BK296 := n8_; have HB := n9_; clear n0_ n1_ n2_ n3_ n4_ n5_ n6_ n7_ n8_ n9_; (try clear hb); (try clear hb2); (try clear hk); (try clear hi); (try clear ho0)) | ((with_reducible refine gate_dst (N := 12) rfl ?_); (try (refine gate_guard (by rfl) ?_; dsimp only)); refine box_event ?hg (N := 12) ?hd (cs := #[.int .i64 0, .int .i64 0, .string (⟨#[]⟩ : ByteArray), .int .i64 0, .slice none 0 0]) (t := 24) ?hr ?_; (case hd => rfl); (case hg => rfl); (case hr => first | (go_simp; done) | (go_simp; rfl)); intro gb305 hg w33 hbox hb; have n0_ := Aside0.mk (Kd.R_below (by (with_reducible repeat (first | apply Kd.R_alloc | apply Kd.R_drewN | apply Kd.R_drew)); exact HO277.out) hb); have n1_ := Aside0.mk (Kd.N_below (Kd.N_elderB (by (with_reducible repeat (first | apply Kd.N_alloc | apply Kd.N_drewN | apply Kd.N_drew)); exact HO280.out) gb305 (Nat.le_of_eq hg.symm)) hb); have n2_ := Aside0.mk (Kd.N_below (Kd.N_elderB (by (with_reducible repeat (first | apply Kd.N_alloc | apply Kd.N_drewN | apply Kd.N_drew)); exact HO283.out) gb305 (Nat.le_of_eq hg.symm)) hb); have n3_ := Aside0.mk (Kd.R_below (by (with_reducible repeat (first | apply Kd.R_alloc | apply Kd.R_drewN | apply Kd.R_drew)); exact HO286.out) hb); have n4_ := Aside0.mk (Kd.N_below (Kd.N_elderB (by (with_reducible repeat (first | apply Kd.N_alloc | apply Kd.N_drewN | apply Kd.N_drew)); exact HO294.out) gb305 (Nat.le_of_eq hg.symm)) hb); have n5_ := Aside0.mk (Kd.N_below (Kd.N_elderB (by (with_reducible repeat (first | apply Kd.N_alloc | apply Kd.N_drewN | apply Kd.N_drew)); exact HO303.out) gb305 (Nat.le_of_eq hg.symm)) hb); have n6_ := Aside0.mk (blk_below (g := gb273) (o := .cells #[.int .u8 a2_0, .int .u8 a2_1, .int .u8 a2_2, .int .u8 a2_3, .int .u8 a2_4, .int .u8 a2_5] 41 (0, 0)) (by (with_reducible repeat (first | refine blk_drewN ?_ _ | refine blk_drew ?_ | refine blk_alloc ?_ _)); exact BK273.out) hb); have n7_ := Aside0.mk (blk_below (g := gb287) (o := .cells #[.slice Ao22 t281.length co22, .slice Ao25 t284.length co25] 30 (0, 0)) (by (with_reducible repeat (first | refine blk_drewN ?_ _ | refine blk_drew ?_ | refine blk_alloc ?_ _)); exact BK287.out) hb); have n8_ := Aside0.mk (blk_below (g := gb296) (o := .cells #[.int .i64 t288, .int .i64 t289, .string t290, .int .i64 t291, .slice Ao31 t292.length co31] 24 (0, 0)) (by (with_reducible repeat (first | refine blk_drewN ?_ _ | refine blk_drew ?_ | refine blk_alloc ?_ _)); exact BK296.out) hb); have n9_ := Aside0.mk (below_step (by repeat (first | (with_reducible first | exact HB.out | apply below_alloc | apply pw_below_drewN | apply below_drew1 | refine below_set ?_ GE273.out | refine below_set ?_ GE287.out | refine below_set ?_ GE296.out) | exact HB.out)) hb); have n10_ := Aside0.mk (hbox); have n11_ := Aside0.mk ((by rw [hg]; exact (below_size (by repeat (first | (with_reducible first | exact HB.out | apply below_alloc | apply pw_below_drewN | apply below_drew1 | refine below_set ?_ GE273.out | refine below_set ?_ GE287.out | refine below_set ?_ GE296.out) | exact HB.out))) : w.heap.size ≤ gb305)); have n12_ := Aside0.mk ((by rw [hg]; exact (below_size (by repeat (first | (with_reducible first | exact HB.out | apply below_alloc | apply pw_below_drewN | apply below_drew1 | refine below_set ?_ GE273.out | refine below_set ?_ GE287.out | refine below_set ?_ GE296.out) | exact HB.out))) : w.heap.size ≤ gb305)); have n13_ := Aside0.mk ((by rw [hg]; exact Nat.ne_of_lt (blk_lt (g := gb273) (o := .cells #[.int .u8 a2_0, .int .u8 a2_1, .int .u8 a2_2, .int .u8 a2_3, .int .u8 a2_4, .int .u8 a2_5] 41 (0, 0)) (by (with_reducible repeat (first | refine blk_drewN ?_ _ | refine blk_drew ?_ | refine blk_alloc ?_ _)); exact BK273.out)) : gb273 ≠ gb305)); have n14_ := Aside0.mk ((by rw [hg]; exact Nat.ne_of_gt (blk_lt (g := gb273) (o := .cells #[.int .u8 a2_0, .int .u8 a2_1, .int .u8 a2_2, .int .u8 a2_3, .int .u8 a2_4, .int .u8 a2_5] 41 (0, 0)) (by (with_reducible repeat (first | refine blk_drewN ?_ _ | refine blk_drew ?_ | refine blk_alloc ?_ _)); exact BK273.out)) : gb305 ≠ gb273)); have n15_ := Aside0.mk ((by rw [hg]; exact Nat.ne_of_lt (blk_lt (g := gb287) (o := .cells #[.slice Ao22 t281.length co22, .slice Ao25 t284.length co25] 30 (0, 0)) (by (with_reducible repeat (first | refine blk_drewN ?_ _ | refine blk_drew ?_ | refine blk_alloc ?_ _)); exact BK287.out)) : gb287 ≠ gb305)); have n16_ := Aside0.mk ((by rw [hg]; exact Nat.ne_of_gt (blk_lt (g := gb287) (o := .cells #[.slice Ao22 t281.length co22, .slice Ao25 t284.length co25] 30 (0, 0)) (by (with_reducible repeat (first | refine blk_drewN ?_ _ | refine blk_drew ?_ | refine blk_alloc ?_ _)); exact BK287.out)) : gb305 ≠ gb287)); have n17_ := Aside0.mk ((by rw [hg]; exact Nat.ne_of_lt (blk_lt (g := gb296) (o := .cells #[.int .i64 t288, .int .i64 t289, .string t290, .int .i64 t291, .slice Ao31 t292.length co31] 24 (0, 0)) (by (with_reducible repeat (first | refine blk_drewN ?_ _ | refine blk_drew ?_ | refine blk_alloc ?_ _)); exact BK296.out)) : gb296 ≠ gb305)); have n18_ := Aside0.mk ((by rw [hg]; exact Nat.ne_of_gt (blk_lt (g := gb296) (o := .cells #[.int .i64 t288, .int .i64 t289, .string t290, .int .i64 t291, .slice Ao31 t292.length co31] 24 (0, 0)) (by (with_reducible repeat (first | refine blk_drewN ?_ _ | refine blk_drew ?_ | refine blk_alloc ?_ _)); exact BK296.out)) : gb305 ≠ gb296)); clear HO277; clear HO280; clear HO283; clear HO286; clear HO294; clear HO303; clear BK273; clear BK287; clear BK296; clear HB; have HO277 := n0_; have HO280 := n1_; have HO283 := n2_; have HO286 := n3_; have HO294 := n4_; have HO303 := n5_; have BK273 := n6_; have BK287 := n7_; have BK296 := n8_; have HB := n9_; have BK305 := n10_; have GW305 := n11_; have GE305 := n12_; have NB273_305 := n13_; have NB305_273 := n14_; have NB287_305 := n15_; have NB305_287 := n16_; have NB296_305 := n17_; have NB305_296 := n18_; clear n0_ n1_ n2_ n3_ n4_ n5_ n6_ n7_ n8_ n9_ n10_ n11_ n12_ n13_ n14_ n15_ n16_ n17_ n18_; clear hb hbox hg; have hnb34 := NB305_273.out; have hnc34 := NB273_305.out; have hnb35 := NB305_287.out; have hnc35 := NB287_305.out; have hnb36 := NB305_296.out; have hnc36 := NB296_305.out; have hcz37_0 : w33.cell? ⟨gb305, 0, none⟩ = some (.int .i64 0) := (blk_cell BK305.out 0).trans rfl; have hcz37_1 : w33.cell? ⟨gb305, 1, none⟩ = some (.int .i64 0) := (blk_cell BK305.out 1).trans rfl; have hcz37_2 : w33.cell? ⟨gb305, 2, none⟩ = some (.string (⟨#[]⟩ : ByteArray)) := (blk_cell BK305.out 2).trans rfl; have hcz37_3 : w33.cell? ⟨gb305, 3, none⟩ = some (.int .i64 0) := (blk_cell BK305.out 3).trans rfl; have hcz37_4 : w33.cell? ⟨gb305, 4, none⟩ = some (.slice none 0 0) := (blk_cell BK305.out 4).trans rfl; have hfz37_0 := blk_frozen BK305.out 0; have hfz37_1 := blk_frozen BK305.out 1; have hfz37_2 := blk_frozen BK305.out 2; have hfz37_3 := blk_frozen BK305.out 3; have hfz37_4 := blk_frozen BK305.out 4; obtain ⟨Ao38, co38, eo38⟩ := Kd.N_slice HO303.out; subst eo38; have hcz39_0 : w33.cell? ⟨gb296, 0, none⟩ = some (.int .i64 t288) := (blk_cell BK296.out 0).trans rfl; have hcz39_1 : w33.cell? ⟨gb296, 1, none⟩ = some (.int .i64 t289) := (blk_cell BK296.out 1).trans rfl; have hcz39_2 : w33.cell? ⟨gb296, 2, none⟩ = some (.string t290) := (blk_cell BK296.out 2).trans rfl; have hcz39_3 : w33.cell? ⟨gb296, 3, none⟩ = some (.int .i64 t291) := (blk_cell BK296.out 3).trans rfl; have hcz39_4 : w33.cell? ⟨gb296, 4, none⟩ = some (.slice Ao31 t292.length co31) := (blk_cell BK296.out 4).trans rfl; have hfz39_0 := blk_frozen BK296.out 0; have hfz39_1 := blk_frozen BK296.out 1; have hfz39_2 := blk_frozen BK296.out 2; have hfz39_3 := blk_frozen BK296.out 3; have hfz39_4 := blk_frozen BK296.out 4; have hcz40_0 : w33.cell? ⟨gb287, 0, none⟩ = some (.slice Ao22 t281.length co22) := (blk_cell BK287.out 0).trans rfl; have hcz40_1 : w33.cell? ⟨gb287, 1, none⟩ = some (.slice Ao25 t284.length co25) := (blk_cell BK287.out 1).trans rfl; have hfz40_0 := blk_frozen BK287.out 0; have hfz40_1 := blk_frozen BK287.out 1; obtain ⟨Ao41, co41, eo41⟩ := Kd.R_slice HO277.out; subst eo41; obtain ⟨Ao42, co42, eo42⟩ := Kd.N_slice HO280.out; subst eo42) | ((with_reducible refine gate_callee (f := 10) rfl ?_); refine goesL_ (some 58) rfl rfl Tryd.func10 (by kernel_rfl) rfl #[.agg #[.int .i64 t288, .int .i64 t289, .string t290, .int .i64 t291, .slice Ao31 t292.length co31], .slice Ao41 t275.length co41, .slice Ao42 t278.length co42, .agg #[.slice Ao22 t281.length co22, .slice Ao25 t284.length co25]] rfl (by (try simp only [List.map_toArray, List.map_cons, List.map_nil]); first | done | rfl | (simp only [List.length_drop, List.length_take]; rfl)) ?_; (with_reducible refine (post_Holds.calls kj5 t288 t289 t290 t291 _ _ t292 _ _ t275 _ _ t278 _ _ t281 _ _ t284 t306 t307 _ ?side1 ?side2 ?side3 ?side4 ?side5 ?side6 ?side7 ?side8 ?side9 ?side10 A15.out).mono ?_); (case side1 => refine (Kd.N_reads' (e := 24) (base := w.heap.size) (ok := fun k_ => ((((some k_ ≠ (.slice Ao41 t275.length co41 : Value).ownBlock ∧ (some k_ ≠ (.slice Ao42 t278.length co42 : Value).ownBlock ∧ (some k_ ≠ (.slice Ao22 t281.length co22 : Value).ownBlock ∧ (some k_ ≠ (.slice Ao25 t284.length co25 : Value).ownBlock ∧ (k_ ≠ gb273 ∧ k_ ≠ gb287))))) ∧ k_ ≠ gb296) ∧ some k_ ≠ (.slice Ao38 t301.length co38 : Value).ownBlock) ∧ k_ ≠ gb305)) (n := t292.length) (c := co31) ?_).2.2; exact (by (with_reducible repeat (first | apply Kd.N_alloc | apply Kd.N_drewN | apply Kd.N_drew)); exact (Kd.N_mono (Kd.N_far (p := ⟨gb305, 4, none⟩) (Kd.N_far (p := ⟨gb305, 3, none⟩) (Kd.N_far (p := ⟨gb305, 2, none⟩) (Kd.N_far (p := ⟨gb305, 1, none⟩) (Kd.N_far (p := ⟨gb305, 0, none⟩) (Kd.N_mono HO294.out (fun k_ hk => (⟨hk, hk.2⟩ : _ ∧ k_ ≠ gb305))) (fun _ hk => hk.2) (.int .i64 t297)) (fun _ hk => hk.2) (.int .i64 t298)) (fun _ hk => hk.2) (.string t299)) (fun _ hk => hk.2) (.int .i64 t300)) (fun _ hk => hk.2) (.slice Ao38 t301.length co38)) (fun _ h_ => h_.1)))); (case side2 => exact (Kd.N_reads' HO294.out).2.1); (case side3 => refine (Kd.R_reads' (e := 9) (base := w.heap.size) (ok := fun k_ => True) (n := t275.length) (c := co41) ?_).2.2; exact (by (with_reducible repeat (first | apply Kd.R_alloc | apply Kd.R_drewN | apply Kd.R_drew)); exact (Kd.R_mono (Kd.R_far (p := ⟨gb305, 4, none⟩) (Kd.R_far (p := ⟨gb305, 3, none⟩) (Kd.R_far (p := ⟨gb305, 2, none⟩) (Kd.R_far (p := ⟨gb305, 1, none⟩) (Kd.R_far (p := ⟨gb305, 0, none⟩) (Kd.R_types HO277.out BK305.out (by decide)) (fun _ hk => hk.2) (.int .i64 t297)) (fun _ hk => hk.2) (.int .i64 t298)) (fun _ hk => hk.2) (.string t299)) (fun _ hk => hk.2) (.int .i64 t300)) (fun _ hk => hk.2) (.slice Ao38 t301.length co38)) (fun _ h_ => h_.1)))); (case side4 => exact (Kd.R_reads' HO277.out).2.1); (case side5 => refine (Kd.N_reads' (e := 25) (base := w.heap.size) (ok := fun k_ => ((((((((some k_ ≠ (.slice Ao41 t275.length co41 : Value).ownBlock ∧ k_ ≠ gb273) ∧ some k_ ≠ (.slice Ao22 t281.length co22 : Value).ownBlock) ∧ some k_ ≠ (.slice Ao25 t284.length co25 : Value).ownBlock) ∧ k_ ≠ gb287) ∧ some k_ ≠ (.slice Ao31 t292.length co31 : Value).ownBlock) ∧ k_ ≠ gb296) ∧ some k_ ≠ (.slice Ao38 t301.length co38 : Value).ownBlock) ∧ k_ ≠ gb305)) (n := t278.length) (c := co42) ?_).2.2; exact (by (with_reducible repeat (first | apply Kd.N_alloc | apply Kd.N_drewN | apply Kd.N_drew)); exact (Kd.N_mono (Kd.N_far (p := ⟨gb305, 4, none⟩) (Kd.N_far (p := ⟨gb305, 3, none⟩) (Kd.N_far (p := ⟨gb305, 2, none⟩) (Kd.N_far (p := ⟨gb305, 1, none⟩) (Kd.N_far (p := ⟨gb305, 0, none⟩) (Kd.N_mono HO280.out (fun k_ hk => (⟨hk, hk.2⟩ : _ ∧ k_ ≠ gb305))) (fun _ hk => hk.2) (.int .i64 t297)) (fun _ hk => hk.2) (.int .i64 t298)) (fun _ hk => hk.2) (.string t299)) (fun _ hk => hk.2) (.int .i64 t300)) (fun _ hk => hk.2) (.slice Ao38 t301.length co38)) (fun _ h_ => h_.1)))); (case side6 => exact (Kd.N_reads' HO280.out).2.1); (case side7 => refine (Kd.N_reads' (e := 28) (base := w.heap.size) (ok := fun k_ => ((((((some k_ ≠ (.slice Ao25 t284.length co25 : Value).ownBlock ∧ (some k_ ≠ (.slice Ao41 t275.length co41 : Value).ownBlock ∧ (some k_ ≠ (.slice Ao42 t278.length co42 : Value).ownBlock ∧ k_ ≠ gb273))) ∧ k_ ≠ gb287) ∧ some k_ ≠ (.slice Ao31 t292.length co31 : Value).ownBlock) ∧ k_ ≠ gb296) ∧ some k_ ≠ (.slice Ao38 t301.length co38 : Value).ownBlock) ∧ k_ ≠ gb305)) (n := t281.length) (c := co22) ?_).2.2; exact (by (with_reducible repeat (first | apply Kd.N_alloc | apply Kd.N_drewN | apply Kd.N_drew)); exact (Kd.N_mono (Kd.N_far (p := ⟨gb305, 4, none⟩) (Kd.N_far (p := ⟨gb305, 3, none⟩) (Kd.N_far (p := ⟨gb305, 2, none⟩) (Kd.N_far (p := ⟨gb305, 1, none⟩) (Kd.N_far (p := ⟨gb305, 0, none⟩) (Kd.N_mono HO283.out (fun k_ hk => (⟨hk, hk.2⟩ : _ ∧ k_ ≠ gb305))) (fun _ hk => hk.2) (.int .i64 t297)) (fun _ hk => hk.2) (.int .i64 t298)) (fun _ hk => hk.2) (.string t299)) (fun _ hk => hk.2) (.int .i64 t300)) (fun _ hk => hk.2) (.slice Ao38 t301.length co38)) (fun _ h_ => h_.1)))); (case side8 => exact (Kd.N_reads' HO283.out).2.1); (case side9 => refine (Kd.R_reads' (e := 3) (base := w.heap.size) (ok := fun k_ => True) (n := t284.length) (c := co25) ?_).2.2; exact (by (with_reducible repeat (first | apply Kd.R_alloc | apply Kd.R_drewN | apply Kd.R_drew)); exact (Kd.R_mono (Kd.R_far (p := ⟨gb305, 4, none⟩) (Kd.R_far (p := ⟨gb305, 3, none⟩) (Kd.R_far (p := ⟨gb305, 2, none⟩) (Kd.R_far (p := ⟨gb305, 1, none⟩) (Kd.R_far (p := ⟨gb305, 0, none⟩) (Kd.R_types HO286.out BK305.out (by decide)) (fun _ hk => hk.2) (.int .i64 t297)) (fun _ hk => hk.2) (.int .i64 t298)) (fun _ hk => hk.2) (.string t299)) (fun _ hk => hk.2) (.int .i64 t300)) (fun _ hk => hk.2) (.slice Ao38 t301.length co38)) (fun _ h_ => h_.1)))); (case side10 => exact (Kd.R_reads' HO286.out).2.1); rintro e w43 ⟨rfl, hb⟩; refine ⟨_, rfl, ?_⟩; have n0_ := Aside0.mk (Kd.R_below (by (with_reducible repeat (first | apply Kd.R_alloc | apply Kd.R_drewN | apply Kd.R_drew)); exact (Kd.R_mono (Kd.R_far (p := ⟨gb305, 4, none⟩) (Kd.R_far (p := ⟨gb305, 3, none⟩) (Kd.R_far (p := ⟨gb305, 2, none⟩) (Kd.R_far (p := ⟨gb305, 1, none⟩) (Kd.R_far (p := ⟨gb305, 0, none⟩) (Kd.R_types HO277.out BK305.out (by decide)) (fun _ hk => hk.2) (.int .i64 t297)) (fun _ hk => hk.2) (.int .i64 t298)) (fun _ hk => hk.2) (.string t299)) (fun _ hk => hk.2) (.int .i64 t300)) (fun _ hk => hk.2) (.slice Ao38 t301.length co38)) (fun _ h_ => h_.1))) hb); have n1_ := Aside0.mk (Kd.N_below (by (with_reducible repeat (first | apply Kd.N_alloc | apply Kd.N_drewN | apply Kd.N_drew)); exact (Kd.N_mono (Kd.N_far (p := ⟨gb305, 4, none⟩) (Kd.N_far (p := ⟨gb305, 3, none⟩) (Kd.N_far (p := ⟨gb305, 2, none⟩) (Kd.N_far (p := ⟨gb305, 1, none⟩) (Kd.N_far (p := ⟨gb305, 0, none⟩) (Kd.N_mono HO280.out (fun k_ hk => (⟨hk, hk.2⟩ : _ ∧ k_ ≠ gb305))) (fun _ hk => hk.2) (.int .i64 t297)) (fun _ hk => hk.2) (.int .i64 t298)) (fun _ hk => hk.2) (.string t299)) (fun _ hk => hk.2) (.int .i64 t300)) (fun _ hk => hk.2) (.slice Ao38 t301.length co38)) (fun _ h_ => h_.1))) hb); have n2_ := Aside0.mk (Kd.N_below (by (with_reducible repeat (first | apply Kd.N_alloc | apply Kd.N_drewN | apply Kd.N_drew)); exact (Kd.N_mono (Kd.N_far (p := ⟨gb305, 4, none⟩) (Kd.N_far (p := ⟨gb305, 3, none⟩) (Kd.N_far (p := ⟨gb305, 2, none⟩) (Kd.N_far (p := ⟨gb305, 1, none⟩) (Kd.N_far (p := ⟨gb305, 0, none⟩) (Kd.N_mono HO283.out (fun k_ hk => (⟨hk, hk.2⟩ : _ ∧ k_ ≠ gb305))) (fun _ hk => hk.2) (.int .i64 t297)) (fun _ hk => hk.2) (.int .i64 t298)) (fun _ hk => hk.2) (.string t299)) (fun _ hk => hk.2) (.int .i64 t300)) (fun _ hk => hk.2) (.slice Ao38 t301.length co38)) (fun _ h_ => h_.1))) hb); have n3_ := Aside0.mk (Kd.R_below (by (with_reducible repeat (first | apply Kd.R_alloc | apply Kd.R_drewN | apply Kd.R_drew)); exact (Kd.R_mono (Kd.R_far (p := ⟨gb305, 4, none⟩) (Kd.R_far (p := ⟨gb305, 3, none⟩) (Kd.R_far (p := ⟨gb305, 2, none⟩) (Kd.R_far (p := ⟨gb305, 1, none⟩) (Kd.R_far (p := ⟨gb305, 0, none⟩) (Kd.R_types HO286.out BK305.out (by decide)) (fun _ hk => hk.2) (.int .i64 t297)) (fun _ hk => hk.2) (.int .i64 t298)) (fun _ hk => hk.2) (.string t299)) (fun _ hk => hk.2) (.int .i64 t300)) (fun _ hk => hk.2) (.slice Ao38 t301.length co38)) (fun _ h_ => h_.1))) hb); have n4_ := Aside0.mk (Kd.N_below (by (with_reducible repeat (first | apply Kd.N_alloc | apply Kd.N_drewN | apply Kd.N_drew)); exact (Kd.N_mono (Kd.N_far (p := ⟨gb305, 4, none⟩) (Kd.N_far (p := ⟨gb305, 3, none⟩) (Kd.N_far (p := ⟨gb305, 2, none⟩) (Kd.N_far (p := ⟨gb305, 1, none⟩) (Kd.N_far (p := ⟨gb305, 0, none⟩) (Kd.N_mono HO294.out (fun k_ hk => (⟨hk, hk.2⟩ : _ ∧ k_ ≠ gb305))) (fun _ hk => hk.2) (.int .i64 t297)) (fun _ hk => hk.2) (.int .i64 t298)) (fun _ hk => hk.2) (.string t299)) (fun _ hk => hk.2) (.int .i64 t300)) (fun _ hk => hk.2) (.slice Ao38 t301.length co38)) (fun _ h_ => h_.1))) hb); have n5_ := Aside0.mk (Kd.N_below (by (with_reducible repeat (first | apply Kd.N_alloc | apply Kd.N_drewN | apply Kd.N_drew)); exact (Kd.N_mono (Kd.N_far (p := ⟨gb305, 4, none⟩) (Kd.N_far (p := ⟨gb305, 3, none⟩) (Kd.N_far (p := ⟨gb305, 2, none⟩) (Kd.N_far (p := ⟨gb305, 1, none⟩) (Kd.N_far (p := ⟨gb305, 0, none⟩) (Kd.N_mono HO303.out (fun k_ hk => (⟨hk, hk.2⟩ : _ ∧ k_ ≠ gb305))) (fun _ hk => hk.2) (.int .i64 t297)) (fun _ hk => hk.2) (.int .i64 t298)) (fun _ hk => hk.2) (.string t299)) (fun _ hk => hk.2) (.int .i64 t300)) (fun _ hk => hk.2) (.slice Ao38 t301.length co38)) (fun _ h_ => h_.1))) hb); have n6_ := Aside0.mk (blk_below (g := gb273) (o := .cells #[.int .u8 a2_0, .int .u8 a2_1, .int .u8 a2_2, .int .u8 a2_3, .int .u8 a2_4, .int .u8 a2_5] 41 (0, 0)) (by (with_reducible repeat (first | refine blk_drewN ?_ _ | refine blk_drew ?_ | refine blk_alloc ?_ _)); refine blk_far ?_ NB273_305.out _; (with_reducible repeat (first | refine blk_drewN ?_ _ | refine blk_drew ?_ | refine blk_alloc ?_ _)); refine blk_far ?_ NB273_305.out _; (with_reducible repeat (first | refine blk_drewN ?_ _ | refine blk_drew ?_ | refine blk_alloc ?_ _)); refine blk_far ?_ NB273_305.out _; (with_reducible repeat (first | refine blk_drewN ?_ _ | refine blk_drew ?_ | refine blk_alloc ?_ _)); refine blk_far ?_ NB273_305.out _; (with_reducible repeat (first | refine blk_drewN ?_ _ | refine blk_drew ?_ | refine blk_alloc ?_ _)); refine blk_far ?_ NB273_305.out _; (with_reducible repeat (first | refine blk_drewN ?_ _ | refine blk_drew ?_ | refine blk_alloc ?_ _)); exact BK273.out) hb); have n7_ := Aside0.mk (blk_below (g := gb287) (o := .cells #[.slice Ao22 t281.length co22, .slice Ao25 t284.length co25] 30 (0, 0)) (by (with_reducible repeat (first | refine blk_drewN ?_ _ | refine blk_drew ?_ | refine blk_alloc ?_ _)); refine blk_far ?_ NB287_305.out _; (with_reducible repeat (first | refine blk_drewN ?_ _ | refine blk_drew ?_ | refine blk_alloc ?_ _)); refine blk_far ?_ NB287_305.out _; (with_reducible repeat (first | refine blk_drewN ?_ _ | refine blk_drew ?_ | refine blk_alloc ?_ _)); refine blk_far ?_ NB287_305.out _; (with_reducible repeat (first | refine blk_drewN ?_ _ | refine blk_drew ?_ | refine blk_alloc ?_ _)); refine blk_far ?_ NB287_305.out _; (with_reducible repeat (first | refine blk_drewN ?_ _ | refine blk_drew ?_ | refine blk_alloc ?_ _)); refine blk_far ?_ NB287_305.out _; (with_reducible repeat (first | refine blk_drewN ?_ _ | refine blk_drew ?_ | refine blk_alloc ?_ _)); exact BK287.out) hb); have n8_ := Aside0.mk (blk_below (g := gb296) (o := .cells #[.int .i64 t288, .int .i64 t289, .string t290, .int .i64 t291, .slice Ao31 t292.length co31] 24 (0, 0)) (by (with_reducible repeat (first | refine blk_drewN ?_ _ | refine blk_drew ?_ | refine blk_alloc ?_ _)); refine blk_far ?_ NB296_305.out _; (with_reducible repeat (first | refine blk_drewN ?_ _ | refine blk_drew ?_ | refine blk_alloc ?_ _)); refine blk_far ?_ NB296_305.out _; (with_reducible repeat (first | refine blk_drewN ?_ _ | refine blk_drew ?_ | refine blk_alloc ?_ _)); refine blk_far ?_ NB296_305.out _; (with_reducible repeat (first | refine blk_drewN ?_ _ | refine blk_drew ?_ | refine blk_alloc ?_ _)); refine blk_far ?_ NB296_305.out _; (with_reducible repeat (first | refine blk_drewN ?_ _ | refine blk_drew ?_ | refine blk_alloc ?_ _)); refine blk_far ?_ NB296_305.out _; (with_reducible repeat (first | refine blk_drewN ?_ _ | refine blk_drew ?_ | refine blk_alloc ?_ _)); exact BK296.out) hb); have n9_ := Aside0.mk (blk_below (g := gb305) (o := .cells #[.int .i64 t297, .int .i64 t298, .string t299, .int .i64 t300, .slice Ao38 t301.length co38] 24 (0, 0)) (by (with_reducible repeat (first | refine blk_drewN ?_ _ | refine blk_drew ?_ | refine blk_alloc ?_ _)); refine blk_put (cs := #[.int .i64 t297, .int .i64 t298, .string t299, .int .i64 t300, .slice none 0 0]) ?_ 4 _ rfl; (with_reducible repeat (first | refine blk_drewN ?_ _ | refine blk_drew ?_ | refine blk_alloc ?_ _)); refine blk_put (cs := #[.int .i64 t297, .int .i64 t298, .string t299, .int .i64 0, .slice none 0 0]) ?_ 3 _ rfl; (with_reducible repeat (first | refine blk_drewN ?_ _ | refine blk_drew ?_ | refine blk_alloc ?_ _)); refine blk_put (cs := #[.int .i64 t297, .int .i64 t298, .string (⟨#[]⟩ : ByteArray), .int .i64 0, .slice none 0 0]) ?_ 2 _ rfl; (with_reducible repeat (first | refine blk_drewN ?_ _ | refine blk_drew ?_ | refine blk_alloc ?_ _)); refine blk_put (cs := #[.int .i64 t297, .int .i64 0, .string (⟨#[]⟩ : ByteArray), .int .i64 0, .slice none 0 0]) ?_ 1 _ rfl; (with_reducible repeat (first | refine blk_drewN ?_ _ | refine blk_drew ?_ | refine blk_alloc ?_ _)); refine blk_put (cs := #[.int .i64 0, .int .i64 0, .string (⟨#[]⟩ : ByteArray), .int .i64 0, .slice none 0 0]) ?_ 0 _ rfl; (with_reducible repeat (first | refine blk_drewN ?_ _ | refine blk_drew ?_ | refine blk_alloc ?_ _)); exact BK305.out) hb); have n10_ := Aside0.mk (below_step (by repeat (first | (with_reducible first | exact HB.out | apply below_alloc | apply pw_below_drewN | apply below_drew1 | refine below_set ?_ GE273.out | refine below_set ?_ GE287.out | refine below_set ?_ GE296.out | refine below_set ?_ GE305.out) | exact HB.out)) hb); clear HO277; clear HO280; clear HO283; clear HO286; clear HO294; clear HO303; clear BK273; clear BK287; clear BK296; clear BK305; clear HB; have HO277 := n0_; have HO280 := n1_; have HO283 := n2_; have HO286 := n3_; have HO294 := n4_; have HO303 := n5_; have BK273 := n6_; have BK287 := n7_; have BK296 := n8_; have BK305 := n9_; have HB := n10_; clear n0_ n1_ n2_ n3_ n4_ n5_ n6_ n7_ n8_ n9_ n10_; (try clear hb); (try clear hb2); (try clear hk); (try clear hi); have hcz44_0 : w43.cell? ⟨gb305, 0, none⟩ = some (.int .i64 t297) := (blk_cell BK305.out 0).trans rfl; have hcz44_1 : w43.cell? ⟨gb305, 1, none⟩ = some (.int .i64 t298) := (blk_cell BK305.out 1).trans rfl; have hcz44_2 : w43.cell? ⟨gb305, 2, none⟩ = some (.string t299) := (blk_cell BK305.out 2).trans rfl; have hcz44_3 : w43.cell? ⟨gb305, 3, none⟩ = some (.int .i64 t300) := (blk_cell BK305.out 3).trans rfl; have hcz44_4 : w43.cell? ⟨gb305, 4, none⟩ = some (.slice Ao38 t301.length co38) := (blk_cell BK305.out 4).trans rfl; have hfz44_0 := blk_frozen BK305.out 0; have hfz44_1 := blk_frozen BK305.out 1; have hfz44_2 := blk_frozen BK305.out 2; have hfz44_3 := blk_frozen BK305.out 3; have hfz44_4 := blk_frozen BK305.out 4; have hcz45_0 : w43.cell? ⟨gb287, 0, none⟩ = some (.slice Ao22 t281.length co22) := (blk_cell BK287.out 0).trans rfl; have hcz45_1 : w43.cell? ⟨gb287, 1, none⟩ = some (.slice Ao25 t284.length co25) := (blk_cell BK287.out 1).trans rfl; have hfz45_0 := blk_frozen BK287.out 0; have hfz45_1 := blk_frozen BK287.out 1) | ((with_reducible refine gate_callee (f := 10) rfl ?_); refine goesL_ (some 66) rfl rfl Tryd.func10 (by kernel_rfl) rfl #[.agg #[.int .i64 t297, .int .i64 t298, .string t299, .int .i64 t300, .slice Ao38 t301.length co38], .slice Ao41 t275.length co41, .slice Ao42 t278.length co42, .agg #[.slice Ao22 t281.length co22, .slice Ao25 t284.length co25]] rfl (by (try simp only [List.map_toArray, List.map_cons, List.map_nil]); first | done | rfl | (simp only [List.length_drop, List.length_take]; rfl)) ?_; (with_reducible refine (post_Holds.calls kj5 t297 t298 t299 t300 _ _ t301 _ _ t275 _ _ t278 _ _ t281 _ _ t284 t308 t309 _ ?side1 ?side2 ?side3 ?side4 ?side5 ?side6 ?side7 ?side8 ?side9 ?side10 A16.out).mono ?_); (case side1 => repeat (first | exact (Kd.N_reads' HO303.out).2.2 | (with_reducible refine Kd.C_alloc ?_ _) | (with_reducible refine Kd.C_drewN ?_ _) | (with_reducible refine Kd.C_drew ?_))); (case side2 => exact (Kd.N_reads' HO303.out).2.1); (case side3 => repeat (first | exact (Kd.R_reads' HO277.out).2.2 | (with_reducible refine Kd.C_alloc ?_ _) | (with_reducible refine Kd.C_drewN ?_ _) | (with_reducible refine Kd.C_drew ?_))); (case side4 => exact (Kd.R_reads' HO277.out).2.1); (case side5 => repeat (first | exact (Kd.N_reads' HO280.out).2.2 | (with_reducible refine Kd.C_alloc ?_ _) | (with_reducible refine Kd.C_drewN ?_ _) | (with_reducible refine Kd.C_drew ?_))); (case side6 => exact (Kd.N_reads' HO280.out).2.1); (case side7 => repeat (first | exact (Kd.N_reads' HO283.out).2.2 | (with_reducible refine Kd.C_alloc ?_ _) | (with_reducible refine Kd.C_drewN ?_ _) | (with_reducible refine Kd.C_drew ?_))); (case side8 => exact (Kd.N_reads' HO283.out).2.1); (case side9 => repeat (first | exact (Kd.R_reads' HO286.out).2.2 | (with_reducible refine Kd.C_alloc ?_ _) | (with_reducible refine Kd.C_drewN ?_ _) | (with_reducible refine Kd.C_drew ?_))); (case side10 => exact (Kd.R_reads' HO286.out).2.1); rintro e w46 ⟨rfl, hb⟩; refine ⟨_, rfl, ?_⟩; have n0_ := Aside0.mk (Kd.R_below (by (with_reducible repeat (first | apply Kd.R_alloc | apply Kd.R_drewN | apply Kd.R_drew)); exact HO277.out) hb); have n1_ := Aside0.mk (Kd.N_below (by (with_reducible repeat (first | apply Kd.N_alloc | apply Kd.N_drewN | apply Kd.N_drew)); exact HO280.out) hb); have n2_ := Aside0.mk (Kd.N_below (by (with_reducible repeat (first | apply Kd.N_alloc | apply Kd.N_drewN | apply Kd.N_drew)); exact HO283.out) hb); have n3_ := Aside0.mk (Kd.R_below (by (with_reducible repeat (first | apply Kd.R_alloc | apply Kd.R_drewN | apply Kd.R_drew)); exact HO286.out) hb); have n4_ := Aside0.mk (Kd.N_below (by (with_reducible repeat (first | apply Kd.N_alloc | apply Kd.N_drewN | apply Kd.N_drew)); exact HO294.out) hb); have n5_ := Aside0.mk (Kd.N_below (by (with_reducible repeat (first | apply Kd.N_alloc | apply Kd.N_drewN | apply Kd.N_drew)); exact HO303.out) hb); have n6_ := Aside0.mk (blk_below (g := gb273) (o := .cells #[.int .u8 a2_0, .int .u8 a2_1, .int .u8 a2_2, .int .u8 a2_3, .int .u8 a2_4, .int .u8 a2_5] 41 (0, 0)) (by (with_reducible repeat (first | refine blk_drewN ?_ _ | refine blk_drew ?_ | refine blk_alloc ?_ _)); exact BK273.out) hb); have n7_ := Aside0.mk (blk_below (g := gb287) (o := .cells #[.slice Ao22 t281.length co22, .slice Ao25 t284.length co25] 30 (0, 0)) (by (with_reducible repeat (first | refine blk_drewN ?_ _ | refine blk_drew ?_ | refine blk_alloc ?_ _)); exact BK287.out) hb); have n8_ := Aside0.mk (blk_below (g := gb296) (o := .cells #[.int .i64 t288, .int .i64 t289, .string t290, .int .i64 t291, .slice Ao31 t292.length co31] 24 (0, 0)) (by (with_reducible repeat (first | refine blk_drewN ?_ _ | refine blk_drew ?_ | refine blk_alloc ?_ _)); exact BK296.out) hb); have n9_ := Aside0.mk (blk_below (g := gb305) (o := .cells #[.int .i64 t297, .int .i64 t298, .string t299, .int .i64 t300, .slice Ao38 t301.length co38] 24 (0, 0)) (by (with_reducible repeat (first | refine blk_drewN ?_ _ | refine blk_drew ?_ | refine blk_alloc ?_ _)); exact BK305.out) hb); have n10_ := Aside0.mk (below_step (by repeat (first | (with_reducible first | exact HB.out | apply below_alloc | apply pw_below_drewN | apply below_drew1 | refine below_set ?_ GE273.out | refine below_set ?_ GE287.out | refine below_set ?_ GE296.out | refine below_set ?_ GE305.out) | exact HB.out)) hb); clear HO277; clear HO280; clear HO283; clear HO286; clear HO294; clear HO303; clear BK273; clear BK287; clear BK296; clear BK305; clear HB; have HO277 := n0_; have HO280 := n1_; have HO283 := n2_; have HO286 := n3_; have HO294 := n4_; have HO303 := n5_; have BK273 := n6_; have BK287 := n7_; have BK296 := n8_; have BK305 := n9_; have HB := n10_; clear n0_ n1_ n2_ n3_ n4_ n5_ n6_ n7_ n8_ n9_ n10_; (try clear hb); (try clear hb2); (try clear hk); (try clear hi)))
     (try simp only [Act.put, List.setIfInBounds_toArray, List.set_cons_zero, List.set_cons_succ])
     go_cut [74] (fun v74 wc => ∃ (kq : Nat) (x74_16 : Bool), v74 = .bool x74_16 ∧ Aside0 (withelaw11_PostRules.j1 kq t275 t278 t306 t308 x74_16 t281 t284 t288 t289 t290 t291 t292 t297 t298 t299 t300 t301 = some r) ∧ Aside0 (kq ≤ kj5) ∧ Aside0 (Kd.R Kd.string 9 wc w.heap.size (fun _ => True) (.slice Ao41 t275.length co41) t275) ∧ Aside0 (Kd.N (Kd.slice 9 Kd.string) 25 wc w.heap.size (fun k_ => some k_ ≠ ((.slice Ao41 t275.length co41) : Value).ownBlock ∧ some k_ ≠ ((.slice Ao22 t281.length co22) : Value).ownBlock ∧ some k_ ≠ ((.slice Ao25 t284.length co25) : Value).ownBlock ∧ some k_ ≠ ((.slice Ao31 t292.length co31) : Value).ownBlock ∧ some k_ ≠ ((.slice Ao38 t301.length co38) : Value).ownBlock ∧ k_ ≠ gb273 ∧ k_ ≠ gb287 ∧ k_ ≠ gb296 ∧ k_ ≠ gb305) (.slice Ao42 t278.length co42) t278) ∧ Aside0 (Kd.N (Kd.slice 3 (Kd.int .i64)) 28 wc w.heap.size (fun k_ => some k_ ≠ ((.slice Ao41 t275.length co41) : Value).ownBlock ∧ some k_ ≠ ((.slice Ao42 t278.length co42) : Value).ownBlock ∧ some k_ ≠ ((.slice Ao25 t284.length co25) : Value).ownBlock ∧ some k_ ≠ ((.slice Ao31 t292.length co31) : Value).ownBlock ∧ some k_ ≠ ((.slice Ao38 t301.length co38) : Value).ownBlock ∧ k_ ≠ gb273 ∧ k_ ≠ gb287 ∧ k_ ≠ gb296 ∧ k_ ≠ gb305) (.slice Ao22 t281.length co22) t281) ∧ Aside0 (Kd.R (Kd.int .i64) 3 wc w.heap.size (fun _ => True) (.slice Ao25 t284.length co25) t284) ∧ Aside0 (Kd.N k24 24 wc w.heap.size (fun k_ => some k_ ≠ ((.slice Ao41 t275.length co41) : Value).ownBlock ∧ some k_ ≠ ((.slice Ao42 t278.length co42) : Value).ownBlock ∧ some k_ ≠ ((.slice Ao22 t281.length co22) : Value).ownBlock ∧ some k_ ≠ ((.slice Ao25 t284.length co25) : Value).ownBlock ∧ some k_ ≠ ((.slice Ao38 t301.length co38) : Value).ownBlock ∧ k_ ≠ gb273 ∧ k_ ≠ gb287 ∧ k_ ≠ gb296 ∧ k_ ≠ gb305) (.slice Ao31 t292.length co31) t292) ∧ Aside0 (Kd.N k24 24 wc w.heap.size (fun k_ => some k_ ≠ ((.slice Ao41 t275.length co41) : Value).ownBlock ∧ some k_ ≠ ((.slice Ao42 t278.length co42) : Value).ownBlock ∧ some k_ ≠ ((.slice Ao22 t281.length co22) : Value).ownBlock ∧ some k_ ≠ ((.slice Ao25 t284.length co25) : Value).ownBlock ∧ some k_ ≠ ((.slice Ao31 t292.length co31) : Value).ownBlock ∧ k_ ≠ gb273 ∧ k_ ≠ gb287 ∧ k_ ≠ gb296 ∧ k_ ≠ gb305) (.slice Ao38 t301.length co38) t301) ∧ Aside0 (wc.heap[gb273]? = some (.cells #[.int .u8 a2_0, .int .u8 a2_1, .int .u8 a2_2, .int .u8 a2_3, .int .u8 a2_4, .int .u8 a2_5] 41 (0, 0))) ∧ Aside0 (wc.heap[gb287]? = some (.cells #[(.slice Ao22 t281.length co22), (.slice Ao25 t284.length co25)] 30 (0, 0))) ∧ Aside0 (wc.heap[gb296]? = some (.cells #[.int .i64 t288, .int .i64 t289, .string t290, .int .i64 t291, (.slice Ao31 t292.length co31)] 24 (0, 0))) ∧ Aside0 (wc.heap[gb305]? = some (.cells #[.int .i64 t297, .int .i64 t298, .string t299, .int .i64 t300, (.slice Ao38 t301.length co38)] 24 (0, 0))) ∧ Aside0 (Below w.heap.size w wc))
     case first =>
      have H := HC17.out
      clear HC17
      by_cases c47 : t307 = true
      ·subst c47
       have H1 : (withelaw11_PostRules.j1 kj5 t275 t278 t306 t308 (!t309) t281 t284 t288 t289 t290 t291 t292 t297 t298 t299 t300 t301) = some r := by rw [if_pos rfl] at H; exact H
       clear H
       have H := H1
       clear H1
       have H' := Aside0.mk H
       clear H
       go_wp2
       go_meet
       case rel => exact ⟨_, (!t309), (by first | rfl | (simp; done) | (simp [*]; done)), H', ⟨by have := HJ5.out; first | omega | exact Nat.le_refl _⟩, ⟨by (with_reducible repeat (first | apply Kd.R_alloc | apply Kd.R_drewN | apply Kd.R_drew)); exact HO277.out⟩, ⟨by (with_reducible repeat (first | apply Kd.N_alloc | apply Kd.N_drewN | apply Kd.N_drew)); exact Kd.N_mono HO280.out (fun _ hk => ⟨hk.1.1.1.1.1.1.1.1, ⟨hk.1.1.1.1.1.1.2, ⟨hk.1.1.1.1.1.2, ⟨hk.1.1.1.2, ⟨hk.1.2, ⟨hk.1.1.1.1.1.1.1.2, ⟨hk.1.1.1.1.2, ⟨hk.1.1.2, hk.2⟩⟩⟩⟩⟩⟩⟩⟩)⟩, ⟨by (with_reducible repeat (first | apply Kd.N_alloc | apply Kd.N_drewN | apply Kd.N_drew)); exact Kd.N_mono HO283.out (fun _ hk => ⟨hk.1.1.1.1.1.2.1, ⟨hk.1.1.1.1.1.2.2.1, ⟨hk.1.1.1.1.1.1, ⟨hk.1.1.1.2, ⟨hk.1.2, ⟨hk.1.1.1.1.1.2.2.2, ⟨hk.1.1.1.1.2, ⟨hk.1.1.2, hk.2⟩⟩⟩⟩⟩⟩⟩⟩)⟩, ⟨by (with_reducible repeat (first | apply Kd.R_alloc | apply Kd.R_drewN | apply Kd.R_drew)); exact HO286.out⟩, ⟨by (with_reducible repeat (first | apply Kd.N_alloc | apply Kd.N_drewN | apply Kd.N_drew)); exact Kd.N_mono HO294.out (fun _ hk => ⟨hk.1.1.1.1, ⟨hk.1.1.1.2.1, ⟨hk.1.1.1.2.2.1, ⟨hk.1.1.1.2.2.2.1, ⟨hk.1.2, ⟨hk.1.1.1.2.2.2.2.1, ⟨hk.1.1.1.2.2.2.2.2, ⟨hk.1.1.2, hk.2⟩⟩⟩⟩⟩⟩⟩⟩)⟩, ⟨by (with_reducible repeat (first | apply Kd.N_alloc | apply Kd.N_drewN | apply Kd.N_drew)); exact Kd.N_mono HO303.out (fun _ hk => ⟨hk.1.1, ⟨hk.1.2.1, ⟨hk.1.2.2.1, ⟨hk.1.2.2.2.1, ⟨hk.1.2.2.2.2.1, ⟨hk.1.2.2.2.2.2.1, ⟨hk.1.2.2.2.2.2.2.1, ⟨hk.1.2.2.2.2.2.2.2, hk.2⟩⟩⟩⟩⟩⟩⟩⟩)⟩, ⟨by (with_reducible repeat (first | refine blk_drewN ?_ _ | refine blk_drew ?_ | refine blk_alloc ?_ _)); exact BK273.out⟩, ⟨by (with_reducible repeat (first | refine blk_drewN ?_ _ | refine blk_drew ?_ | refine blk_alloc ?_ _)); exact BK287.out⟩, ⟨by (with_reducible repeat (first | refine blk_drewN ?_ _ | refine blk_drew ?_ | refine blk_alloc ?_ _)); exact BK296.out⟩, ⟨by (with_reducible repeat (first | refine blk_drewN ?_ _ | refine blk_drew ?_ | refine blk_alloc ?_ _)); exact BK305.out⟩, ⟨by repeat (first | (with_reducible first | exact HB.out | apply below_alloc | apply pw_below_drewN | apply below_drew1 | refine below_set ?_ GE273.out | refine below_set ?_ GE287.out | refine below_set ?_ GE296.out | refine below_set ?_ GE305.out) | exact HB.out)⟩⟩
      ·replace c47 := Bool.eq_false_iff.mpr c47
       subst c47
       have H1 : (withelaw11_PostRules.j1 kj5 t275 t278 t306 t308 true t281 t284 t288 t289 t290 t291 t292 t297 t298 t299 t300 t301) = some r := by rw [if_neg (show ¬ (false = true) by decide)] at H; exact H
       clear H
       have H := H1
       clear H1
       have H' := Aside0.mk H
       clear H
       go_wp2
       go_meet
       case rel => exact ⟨_, (true), (by first | rfl | (simp; done) | (simp [*]; done)), H', ⟨by have := HJ5.out; first | omega | exact Nat.le_refl _⟩, ⟨by (with_reducible repeat (first | apply Kd.R_alloc | apply Kd.R_drewN | apply Kd.R_drew)); exact HO277.out⟩, ⟨by (with_reducible repeat (first | apply Kd.N_alloc | apply Kd.N_drewN | apply Kd.N_drew)); exact Kd.N_mono HO280.out (fun _ hk => ⟨hk.1.1.1.1.1.1.1.1, ⟨hk.1.1.1.1.1.1.2, ⟨hk.1.1.1.1.1.2, ⟨hk.1.1.1.2, ⟨hk.1.2, ⟨hk.1.1.1.1.1.1.1.2, ⟨hk.1.1.1.1.2, ⟨hk.1.1.2, hk.2⟩⟩⟩⟩⟩⟩⟩⟩)⟩, ⟨by (with_reducible repeat (first | apply Kd.N_alloc | apply Kd.N_drewN | apply Kd.N_drew)); exact Kd.N_mono HO283.out (fun _ hk => ⟨hk.1.1.1.1.1.2.1, ⟨hk.1.1.1.1.1.2.2.1, ⟨hk.1.1.1.1.1.1, ⟨hk.1.1.1.2, ⟨hk.1.2, ⟨hk.1.1.1.1.1.2.2.2, ⟨hk.1.1.1.1.2, ⟨hk.1.1.2, hk.2⟩⟩⟩⟩⟩⟩⟩⟩)⟩, ⟨by (with_reducible repeat (first | apply Kd.R_alloc | apply Kd.R_drewN | apply Kd.R_drew)); exact HO286.out⟩, ⟨by (with_reducible repeat (first | apply Kd.N_alloc | apply Kd.N_drewN | apply Kd.N_drew)); exact Kd.N_mono HO294.out (fun _ hk => ⟨hk.1.1.1.1, ⟨hk.1.1.1.2.1, ⟨hk.1.1.1.2.2.1, ⟨hk.1.1.1.2.2.2.1, ⟨hk.1.2, ⟨hk.1.1.1.2.2.2.2.1, ⟨hk.1.1.1.2.2.2.2.2, ⟨hk.1.1.2, hk.2⟩⟩⟩⟩⟩⟩⟩⟩)⟩, ⟨by (with_reducible repeat (first | apply Kd.N_alloc | apply Kd.N_drewN | apply Kd.N_drew)); exact Kd.N_mono HO303.out (fun _ hk => ⟨hk.1.1, ⟨hk.1.2.1, ⟨hk.1.2.2.1, ⟨hk.1.2.2.2.1, ⟨hk.1.2.2.2.2.1, ⟨hk.1.2.2.2.2.2.1, ⟨hk.1.2.2.2.2.2.2.1, ⟨hk.1.2.2.2.2.2.2.2, hk.2⟩⟩⟩⟩⟩⟩⟩⟩)⟩, ⟨by (with_reducible repeat (first | refine blk_drewN ?_ _ | refine blk_drew ?_ | refine blk_alloc ?_ _)); exact BK273.out⟩, ⟨by (with_reducible repeat (first | refine blk_drewN ?_ _ | refine blk_drew ?_ | refine blk_alloc ?_ _)); exact BK287.out⟩, ⟨by (with_reducible repeat (first | refine blk_drewN ?_ _ | refine blk_drew ?_ | refine blk_alloc ?_ _)); exact BK296.out⟩, ⟨by (with_reducible repeat (first | refine blk_drewN ?_ _ | refine blk_drew ?_ | refine blk_alloc ?_ _)); exact BK305.out⟩, ⟨by repeat (first | (with_reducible first | exact HB.out | apply below_alloc | apply pw_below_drewN | apply below_drew1 | refine below_set ?_ GE273.out | refine below_set ?_ GE287.out | refine below_set ?_ GE296.out | refine below_set ?_ GE305.out) | exact HB.out)⟩⟩
     case rest =>
      clear HC17
      try clear c1
      try clear c2
      try clear p2
      try clear c3
      try clear c4
      try clear c5
      try clear c7
      try clear c9
      try clear c9b0
      try clear c9b1
      try clear c10
      try clear c17
      try clear c18
      try clear c19
      try clear c23
      try clear c28
      try clear c29
      try clear c34
      try clear c35
      try clear c36
      try clear c47
      try clear hcz19_0
      try clear hcz19_1
      try clear hcz19_2
      try clear hcz19_3
      try clear hcz19_4
      try clear hcz19_5
      try clear hcz24_0
      try clear hcz24_1
      try clear hcz30_0
      try clear hcz30_1
      try clear hcz30_2
      try clear hcz30_3
      try clear hcz30_4
      try clear hcz37_0
      try clear hcz37_1
      try clear hcz37_2
      try clear hcz37_3
      try clear hcz37_4
      try clear hcz39_0
      try clear hcz39_1
      try clear hcz39_2
      try clear hcz39_3
      try clear hcz39_4
      try clear hcz40_0
      try clear hcz40_1
      try clear hcz44_0
      try clear hcz44_1
      try clear hcz44_2
      try clear hcz44_3
      try clear hcz44_4
      try clear hcz45_0
      try clear hcz45_1
      try clear hfz19_0
      try clear hfz19_1
      try clear hfz19_2
      try clear hfz19_3
      try clear hfz19_4
      try clear hfz19_5
      try clear hfz24_0
      try clear hfz24_1
      try clear hfz30_0
      try clear hfz30_1
      try clear hfz30_2
      try clear hfz30_3
      try clear hfz30_4
      try clear hfz37_0
      try clear hfz37_1
      try clear hfz37_2
      try clear hfz37_3
      try clear hfz37_4
      try clear hfz39_0
      try clear hfz39_1
      try clear hfz39_2
      try clear hfz39_3
      try clear hfz39_4
      try clear hfz40_0
      try clear hfz40_1
      try clear hfz44_0
      try clear hfz44_1
      try clear hfz44_2
      try clear hfz44_3
      try clear hfz44_4
      try clear hfz45_0
      try clear hfz45_1
      try clear p2
      obtain ⟨kq, x74_16, rfl, HA, HJ16, HO_7, HO_8, HO_288000, HO_288001, HO_297004, HO_306004, BK273, BK287, BK296, BK305, HB⟩ := hcut
      cases kq with
      | zero => exact absurd HA.out (by simp [withelaw11_PostRules.j1])
      | succ kj16 =>
       have H := HA.out
       clear HA
       simp only [withelaw11_PostRules.j1] at H
       by_cases c48 : x74_16 = true
       ·subst c48
        have H1 : (none) = some r := by rw [if_pos rfl] at H; exact H
        clear H
        have H := H1
        clear H1
        exact absurd H (by simp)
       ·replace c48 := Bool.eq_false_iff.mpr c48
        subst c48
        have H1 : ((some (([(⟨t288, t289, t290, t291, t292⟩ : S24), (⟨t297, t298, t299, t300, t301⟩ : S24)] : List (S24)) : List (S24))).bind fun y310 => ((post_Holds.f kj16 4 0 (⟨#[]⟩ : ByteArray) 0 y310 t275 t278 t281 t284).bind fun bt313 => ((post_Holds.f kj16 5 0 (⟨#[]⟩ : ByteArray) 0 y310 t275 t278 t281 t284).bind fun bt315 => (if 1 ≤ (y310.length : Int) then ((post_Holds.f kj16 3 0 (⟨#[]⟩ : ByteArray) 0 (y310.take 1) t275 t278 t281 t284).bind fun bt322 => ((post_Holds.f kj16 3 0 (⟨#[]⟩ : ByteArray) 0 (([(⟨3, 0, (⟨#[]⟩ : ByteArray), 0, (y310.take 1)⟩ : S24)] : List (S24))) t275 t278 t281 t284).bind fun bt332 => (if t306 = true then (if (bt313.1 == t308) = true then (if (bt315.1 == true) = true then (if (bt322.1 == (!t306)) = true then (some (bt332.1 == t306)) else (none)) else (none)) else (none)) else (if (bt313.1 == false) = true then (if (bt315.1 == t308) = true then (if (bt322.1 == (!t306)) = true then (some (bt332.1 == t306)) else (none)) else (none)) else (none))))) else (none))))) = some r := by rw [if_neg (show ¬ (false = true) by decide)] at H; exact H
        clear H
        have H := H1
        clear H1
        obtain ⟨y310, hy310⟩ : ∃ y_ : List (S24), y_ = (([(⟨t288, t289, t290, t291, t292⟩ : S24), (⟨t297, t298, t299, t300, t301⟩ : S24)] : List (S24))) := ⟨_, rfl⟩
        replace H : ((post_Holds.f kj16 4 0 (⟨#[]⟩ : ByteArray) 0 y310 t275 t278 t281 t284).bind fun bt313 => ((post_Holds.f kj16 5 0 (⟨#[]⟩ : ByteArray) 0 y310 t275 t278 t281 t284).bind fun bt315 => (if 1 ≤ (y310.length : Int) then ((post_Holds.f kj16 3 0 (⟨#[]⟩ : ByteArray) 0 (y310.take 1) t275 t278 t281 t284).bind fun bt322 => ((post_Holds.f kj16 3 0 (⟨#[]⟩ : ByteArray) 0 (([(⟨3, 0, (⟨#[]⟩ : ByteArray), 0, (y310.take 1)⟩ : S24)] : List (S24))) t275 t278 t281 t284).bind fun bt332 => (if t306 = true then (if (bt313.1 == t308) = true then (if (bt315.1 == true) = true then (if (bt322.1 == (!t306)) = true then (some (bt332.1 == t306)) else (none)) else (none)) else (none)) else (if (bt313.1 == false) = true then (if (bt315.1 == t308) = true then (if (bt322.1 == (!t306)) = true then (some (bt332.1 == t306)) else (none)) else (none)) else (none))))) else (none)))) = some r := by first | (rw [hy310]; with_reducible exact H) | (have H2_ := (Option.bind_some _ _).symm.trans H; rw [hy310]; with_reducible exact H2_) | (have H2_ := (Option.bind_some _ _).symm.trans H; with_reducible exact H2_) | with_reducible exact H | (rw [hy310]; exact H) | exact H
        have Ny310 := Aside0.mk hy310
        clear hy310
        replace H := Option.bind_eq_some_iff.mp H
        obtain ⟨⟨t313, t314⟩, A490, H⟩ := H
        replace H : ((post_Holds.f kj16 5 0 (⟨#[]⟩ : ByteArray) 0 y310 t275 t278 t281 t284).bind fun bt315 => (if 1 ≤ (y310.length : Int) then ((post_Holds.f kj16 3 0 (⟨#[]⟩ : ByteArray) 0 (y310.take 1) t275 t278 t281 t284).bind fun bt322 => ((post_Holds.f kj16 3 0 (⟨#[]⟩ : ByteArray) 0 (([(⟨3, 0, (⟨#[]⟩ : ByteArray), 0, (y310.take 1)⟩ : S24)] : List (S24))) t275 t278 t281 t284).bind fun bt332 => (if t306 = true then (if (t313 == t308) = true then (if (bt315.1 == true) = true then (if (bt322.1 == (!t306)) = true then (some (bt332.1 == t306)) else (none)) else (none)) else (none)) else (if (t313 == false) = true then (if (bt315.1 == t308) = true then (if (bt322.1 == (!t306)) = true then (some (bt332.1 == t306)) else (none)) else (none)) else (none))))) else (none))) = some r := H
        have A49 := Aside0.mk A490
        clear A490
        replace H := Option.bind_eq_some_iff.mp H
        obtain ⟨⟨t315, t316⟩, A500, H⟩ := H
        replace H : (if 1 ≤ (y310.length : Int) then ((post_Holds.f kj16 3 0 (⟨#[]⟩ : ByteArray) 0 (y310.take 1) t275 t278 t281 t284).bind fun bt322 => ((post_Holds.f kj16 3 0 (⟨#[]⟩ : ByteArray) 0 (([(⟨3, 0, (⟨#[]⟩ : ByteArray), 0, (y310.take 1)⟩ : S24)] : List (S24))) t275 t278 t281 t284).bind fun bt332 => (if t306 = true then (if (t313 == t308) = true then (if (t315 == true) = true then (if (bt322.1 == (!t306)) = true then (some (bt332.1 == t306)) else (none)) else (none)) else (none)) else (if (t313 == false) = true then (if (t315 == t308) = true then (if (bt322.1 == (!t306)) = true then (some (bt332.1 == t306)) else (none)) else (none)) else (none))))) else (none)) = some r := H
        have A50 := Aside0.mk A500
        clear A500
        by_cases c51 : 1 ≤ (y310.length : Int)
        ·rw [if_pos c51] at H
         have c51b0 := eq_true c51
         have c51b1 : decide (1 ≤ (y310.length : Int)) = true := decide_eq_true c51
         clear c51
         obtain ⟨y317, hy317⟩ : ∃ y_ : List (S24), y_ = (y310.take 1) := ⟨_, rfl⟩
         replace H : ((post_Holds.f kj16 3 0 (⟨#[]⟩ : ByteArray) 0 y317 t275 t278 t281 t284).bind fun bt322 => ((post_Holds.f kj16 3 0 (⟨#[]⟩ : ByteArray) 0 (([(⟨3, 0, (⟨#[]⟩ : ByteArray), 0, (y310.take 1)⟩ : S24)] : List (S24))) t275 t278 t281 t284).bind fun bt332 => (if t306 = true then (if (t313 == t308) = true then (if (t315 == true) = true then (if (bt322.1 == (!t306)) = true then (some (bt332.1 == t306)) else (none)) else (none)) else (none)) else (if (t313 == false) = true then (if (t315 == t308) = true then (if (bt322.1 == (!t306)) = true then (some (bt332.1 == t306)) else (none)) else (none)) else (none))))) = some r := by first | (rw [hy317]; with_reducible exact H) | (have H2_ := (Option.bind_some _ _).symm.trans H; rw [hy317]; with_reducible exact H2_) | (have H2_ := (Option.bind_some _ _).symm.trans H; with_reducible exact H2_) | with_reducible exact H | (rw [hy317]; exact H) | exact H
         have Ny317 := Aside0.mk hy317
         clear hy317
         replace H := Option.bind_eq_some_iff.mp H
         obtain ⟨⟨t322, t323⟩, A520, H⟩ := H
         replace H : ((post_Holds.f kj16 3 0 (⟨#[]⟩ : ByteArray) 0 (([(⟨3, 0, (⟨#[]⟩ : ByteArray), 0, (y310.take 1)⟩ : S24)] : List (S24))) t275 t278 t281 t284).bind fun bt332 => (if t306 = true then (if (t313 == t308) = true then (if (t315 == true) = true then (if (t322 == (!t306)) = true then (some (bt332.1 == t306)) else (none)) else (none)) else (none)) else (if (t313 == false) = true then (if (t315 == t308) = true then (if (t322 == (!t306)) = true then (some (bt332.1 == t306)) else (none)) else (none)) else (none)))) = some r := H
         have A52 := Aside0.mk A520
         clear A520
         have c53b0 := eq_true (of_decide_eq_true (by first | (with_reducible assumption) | assumption) : 1 ≤ (y310.length : Int))
         replace H : ((post_Holds.f kj16 3 0 (⟨#[]⟩ : ByteArray) 0 (([(⟨3, 0, (⟨#[]⟩ : ByteArray), 0, y317⟩ : S24)] : List (S24))) t275 t278 t281 t284).bind fun bt332 => (if t306 = true then (if (t313 == t308) = true then (if (t315 == true) = true then (if (t322 == (!t306)) = true then (some (bt332.1 == t306)) else (none)) else (none)) else (none)) else (if (t313 == false) = true then (if (t315 == t308) = true then (if (t322 == (!t306)) = true then (some (bt332.1 == t306)) else (none)) else (none)) else (none)))) = some r := by first | (rw [Ny317.out]; with_reducible exact H) | (have H2_ := (Option.bind_some _ _).symm.trans H; rw [Ny317.out]; with_reducible exact H2_) | (have H2_ := (Option.bind_some _ _).symm.trans H; with_reducible exact H2_) | with_reducible exact H | (rw [Ny317.out]; exact H) | exact H
         obtain ⟨y329, hy329⟩ : ∃ y_ : List (S24), y_ = (([(⟨3, 0, (⟨#[]⟩ : ByteArray), 0, y317⟩ : S24)] : List (S24))) := ⟨_, rfl⟩
         replace H : ((post_Holds.f kj16 3 0 (⟨#[]⟩ : ByteArray) 0 y329 t275 t278 t281 t284).bind fun bt332 => (if t306 = true then (if (t313 == t308) = true then (if (t315 == true) = true then (if (t322 == (!t306)) = true then (some (bt332.1 == t306)) else (none)) else (none)) else (none)) else (if (t313 == false) = true then (if (t315 == t308) = true then (if (t322 == (!t306)) = true then (some (bt332.1 == t306)) else (none)) else (none)) else (none)))) = some r := by first | (rw [hy329]; with_reducible exact H) | (have H2_ := (Option.bind_some _ _).symm.trans H; rw [hy329]; with_reducible exact H2_) | (have H2_ := (Option.bind_some _ _).symm.trans H; with_reducible exact H2_) | with_reducible exact H | (rw [hy329]; exact H) | exact H
         have Ny329 := Aside0.mk hy329
         clear hy329
         replace H := Option.bind_eq_some_iff.mp H
         obtain ⟨⟨t332, t333⟩, A540, H⟩ := H
         replace H : (if t306 = true then (if (t313 == t308) = true then (if (t315 == true) = true then (if (t322 == (!t306)) = true then (some (t332 == t306)) else (none)) else (none)) else (none)) else (if (t313 == false) = true then (if (t315 == t308) = true then (if (t322 == (!t306)) = true then (some (t332 == t306)) else (none)) else (none)) else (none))) = some r := H
         have A54 := Aside0.mk A540
         clear A540
         by_cases c55 : t306 = true
         ·subst c55
          have H1 : (if (t313 == t308) = true then (if (t315 == true) = true then (if (t322 == (!true)) = true then (some (t332 == true)) else (none)) else (none)) else (none)) = some r := by rw [if_pos rfl] at H; exact H
          clear H
          have H := H1
          clear H1
          by_cases c56 : (t313 == t308) = true
          ·rw [if_pos c56] at H
           have c56b0 : (t313 == t308) = true := c56
           (try (have c56b1 : decide (t313 = t308) = true := by simpa using c56))
           (try (have c56b2 : (t313 == t308) = true := by simpa using c56))
           clear c56
           by_cases c57 : (t315 == true) = true
           ·rw [if_pos c57] at H
            have c57b0 : (t315 == true) = true := c57
            (try (have c57b1 : decide (t315 = true) = true := by simpa using c57))
            (try (have c57b2 : (t315 == true) = true := by simpa using c57))
            clear c57
            by_cases c58 : (t322 == (!true)) = true
            ·rw [if_pos c58] at H
             have c58b0 : (t322 == (!true)) = true := c58
             (try (have c58b1 : decide (t322 = (!true)) = true := by revert c58; cases t322 <;> cases true <;> decide)); (try (have c58b1n : t322 = (!true) := by revert c58; cases t322 <;> cases true <;> decide))
             (try (have c58b2 : (t322 == (!true)) = true := by revert c58; cases t322 <;> cases true <;> decide)); (try (have c58b2n : t322 = (!true) := by revert c58; cases t322 <;> cases true <;> decide))
             clear c58
             obtain rfl := Option.some.inj H
             have hnb59 := NB296_273.out
             have hnc59 := NB273_296.out
             have hnb60 := NB296_287.out
             have hnc60 := NB287_296.out
             have hnb61 := NB296_305.out
             have hnc61 := NB305_296.out
             have hcz62_0 : wc.cell? ⟨gb296, 0, none⟩ = some (.int .i64 t288) := (blk_cell BK296.out 0).trans rfl
             have hcz62_1 : wc.cell? ⟨gb296, 1, none⟩ = some (.int .i64 t289) := (blk_cell BK296.out 1).trans rfl
             have hcz62_2 : wc.cell? ⟨gb296, 2, none⟩ = some (.string t290) := (blk_cell BK296.out 2).trans rfl
             have hcz62_3 : wc.cell? ⟨gb296, 3, none⟩ = some (.int .i64 t291) := (blk_cell BK296.out 3).trans rfl
             have hcz62_4 : wc.cell? ⟨gb296, 4, none⟩ = some (.slice Ao31 t292.length co31) := (blk_cell BK296.out 4).trans rfl
             have hfz62_0 := blk_frozen BK296.out 0
             have hfz62_1 := blk_frozen BK296.out 1
             have hfz62_2 := blk_frozen BK296.out 2
             have hfz62_3 := blk_frozen BK296.out 3
             have hfz62_4 := blk_frozen BK296.out 4
             have hnb63 := NB305_273.out
             have hnc63 := NB273_305.out
             have hnb64 := NB305_287.out
             have hnc64 := NB287_305.out
             have hcz65_0 : wc.cell? ⟨gb305, 0, none⟩ = some (.int .i64 t297) := (blk_cell BK305.out 0).trans rfl
             have hcz65_1 : wc.cell? ⟨gb305, 1, none⟩ = some (.int .i64 t298) := (blk_cell BK305.out 1).trans rfl
             have hcz65_2 : wc.cell? ⟨gb305, 2, none⟩ = some (.string t299) := (blk_cell BK305.out 2).trans rfl
             have hcz65_3 : wc.cell? ⟨gb305, 3, none⟩ = some (.int .i64 t300) := (blk_cell BK305.out 3).trans rfl
             have hcz65_4 : wc.cell? ⟨gb305, 4, none⟩ = some (.slice Ao38 t301.length co38) := (blk_cell BK305.out 4).trans rfl
             have hfz65_0 := blk_frozen BK305.out 0
             have hfz65_1 := blk_frozen BK305.out 1
             have hfz65_2 := blk_frozen BK305.out 2
             have hfz65_3 := blk_frozen BK305.out 3
             have hfz65_4 := blk_frozen BK305.out 4
             try go_wp2_with (first | ((with_reducible refine gate_dst (N := 77) rfl ?_); (try (refine gate_guard (by rfl) ?_; dsimp only)); refine Kd.N_lit k24 _ 24 ?hg (N' := 77) ?hd (xs := ([(⟨t288, t289, t290, t291, t292⟩ : S24), (⟨t297, t298, t299, t300, t301⟩ : S24)] : List (S24))) (inner := [.int .i64 t288, .int .i64 t289, .string t290, .int .i64 t291, .slice Ao31 t292.length co31, .int .i64 t297, .int .i64 t298, .string t299, .int .i64 t300, .slice Ao38 t301.length co38]) (ok := (fun k_ => some k_ ≠ (.slice Ao41 t275.length co41 : Value).ownBlock ∧ some k_ ≠ (.slice Ao42 t278.length co42 : Value).ownBlock ∧ some k_ ≠ (.slice Ao22 t281.length co22 : Value).ownBlock ∧ some k_ ≠ (.slice Ao25 t284.length co25 : Value).ownBlock ∧ k_ ≠ gb273 ∧ k_ ≠ gb287 ∧ k_ ≠ gb296 ∧ k_ ≠ gb305)) (okp := (fun k_ => some k_ ≠ (.slice Ao41 t275.length co41 : Value).ownBlock ∧ some k_ ≠ (.slice Ao42 t278.length co42 : Value).ownBlock ∧ some k_ ≠ (.slice Ao22 t281.length co22 : Value).ownBlock ∧ some k_ ≠ (.slice Ao25 t284.length co25 : Value).ownBlock ∧ k_ ≠ gb273 ∧ k_ ≠ gb287 ∧ k_ ≠ gb296 ∧ k_ ≠ gb305)) ?hr ?hp (fun _ hk => hk) ((show ∀ k_, wc.heap.size ≤ k_ → (fun k_ => some k_ ≠ (.slice Ao41 t275.length co41 : Value).ownBlock ∧ some k_ ≠ (.slice Ao42 t278.length co42 : Value).ownBlock ∧ some k_ ≠ (.slice Ao22 t281.length co22 : Value).ownBlock ∧ some k_ ≠ (.slice Ao25 t284.length co25 : Value).ownBlock ∧ k_ ≠ gb273 ∧ k_ ≠ gb287 ∧ k_ ≠ gb296 ∧ k_ ≠ gb305) k_ from fun k_ hk => ⟨Kd.fresh' (Kd.R_lt (by (with_reducible repeat (first | apply Kd.R_alloc | apply Kd.R_drewN | apply Kd.R_drew)); exact HO_7.out)) k_ hk, Kd.fresh' (Kd.N_lt (by (with_reducible repeat (first | apply Kd.N_alloc | apply Kd.N_drewN | apply Kd.N_drew)); exact HO_8.out)) k_ hk, Kd.fresh' (Kd.N_lt (by (with_reducible repeat (first | apply Kd.N_alloc | apply Kd.N_drewN | apply Kd.N_drew)); exact HO_288000.out)) k_ hk, Kd.fresh' (Kd.R_lt (by (with_reducible repeat (first | apply Kd.R_alloc | apply Kd.R_drewN | apply Kd.R_drew)); exact HO_288001.out)) k_ hk, Kd.freshB (g := gb273) (o := .cells #[.int .u8 a2_0, .int .u8 a2_1, .int .u8 a2_2, .int .u8 a2_3, .int .u8 a2_4, .int .u8 a2_5] 41 (0, 0)) (by (with_reducible repeat (first | refine blk_drewN ?_ _ | refine blk_drew ?_ | refine blk_alloc ?_ _)); exact BK273.out) k_ hk, Kd.freshB (g := gb287) (o := .cells #[.slice Ao22 t281.length co22, .slice Ao25 t284.length co25] 30 (0, 0)) (by (with_reducible repeat (first | refine blk_drewN ?_ _ | refine blk_drew ?_ | refine blk_alloc ?_ _)); exact BK287.out) k_ hk, Kd.freshB (g := gb296) (o := .cells #[.int .i64 t288, .int .i64 t289, .string t290, .int .i64 t291, .slice Ao31 t292.length co31] 24 (0, 0)) (by (with_reducible repeat (first | refine blk_drewN ?_ _ | refine blk_drew ?_ | refine blk_alloc ?_ _)); exact BK296.out) k_ hk, Kd.freshB (g := gb305) (o := .cells #[.int .i64 t297, .int .i64 t298, .string t299, .int .i64 t300, .slice Ao38 t301.length co38] 24 (0, 0)) (by (with_reducible repeat (first | refine blk_drewN ?_ _ | refine blk_drew ?_ | refine blk_alloc ?_ _)); exact BK305.out) k_ hk⟩) _ (Nat.le_refl _)) (Below.refl _ _) (Nat.le_refl _) (by simp) ?_; (case hd => rfl); (case hg => rfl); (case hr => first | (go_simp; done) | (go_simp; rfl)); (case hp => exact (Reps.c5 (show Kd.FK k24 _ _ (⟨t288, t289, t290, t291, t292⟩ : S24) [.int .i64 t288, .int .i64 t289, .string t290, .int .i64 t291, .slice Ao31 t292.length co31] from (k24_mkF _ _ (⟨t288, t289, t290, t291, t292⟩ : S24) (Kd.N_reads' (Kd.N_mono (ok' := (fun k_ => some k_ ≠ (.slice Ao41 t275.length co41 : Value).ownBlock ∧ some k_ ≠ (.slice Ao42 t278.length co42 : Value).ownBlock ∧ some k_ ≠ (.slice Ao22 t281.length co22 : Value).ownBlock ∧ some k_ ≠ (.slice Ao25 t284.length co25 : Value).ownBlock ∧ k_ ≠ gb273 ∧ k_ ≠ gb287 ∧ k_ ≠ gb296 ∧ k_ ≠ gb305)) (HO_297004.out) (fun k_ hk => ⟨hk.1, ⟨hk.2.1, ⟨hk.2.2.1, ⟨hk.2.2.2.1, ⟨hk.2.2.2.2.2.1, ⟨hk.2.2.2.2.2.2.1, ⟨hk.2.2.2.2.2.2.2.1, hk.2.2.2.2.2.2.2.2⟩⟩⟩⟩⟩⟩⟩))).2.1 (Kd.N_F (Kd.N_mono (ok' := (fun k_ => some k_ ≠ (.slice Ao41 t275.length co41 : Value).ownBlock ∧ some k_ ≠ (.slice Ao42 t278.length co42 : Value).ownBlock ∧ some k_ ≠ (.slice Ao22 t281.length co22 : Value).ownBlock ∧ some k_ ≠ (.slice Ao25 t284.length co25 : Value).ownBlock ∧ k_ ≠ gb273 ∧ k_ ≠ gb287 ∧ k_ ≠ gb296 ∧ k_ ≠ gb305)) (HO_297004.out) (fun k_ hk => ⟨hk.1, ⟨hk.2.1, ⟨hk.2.2.1, ⟨hk.2.2.2.1, ⟨hk.2.2.2.2.2.1, ⟨hk.2.2.2.2.2.2.1, ⟨hk.2.2.2.2.2.2.2.1, hk.2.2.2.2.2.2.2.2⟩⟩⟩⟩⟩⟩⟩))))) (Reps.c5 (show Kd.FK k24 _ _ (⟨t297, t298, t299, t300, t301⟩ : S24) [.int .i64 t297, .int .i64 t298, .string t299, .int .i64 t300, .slice Ao38 t301.length co38] from (k24_mkF _ _ (⟨t297, t298, t299, t300, t301⟩ : S24) (Kd.N_reads' (Kd.N_mono (ok' := (fun k_ => some k_ ≠ (.slice Ao41 t275.length co41 : Value).ownBlock ∧ some k_ ≠ (.slice Ao42 t278.length co42 : Value).ownBlock ∧ some k_ ≠ (.slice Ao22 t281.length co22 : Value).ownBlock ∧ some k_ ≠ (.slice Ao25 t284.length co25 : Value).ownBlock ∧ k_ ≠ gb273 ∧ k_ ≠ gb287 ∧ k_ ≠ gb296 ∧ k_ ≠ gb305)) (HO_306004.out) (fun k_ hk => ⟨hk.1, ⟨hk.2.1, ⟨hk.2.2.1, ⟨hk.2.2.2.1, ⟨hk.2.2.2.2.2.1, ⟨hk.2.2.2.2.2.2.1, ⟨hk.2.2.2.2.2.2.2.1, hk.2.2.2.2.2.2.2.2⟩⟩⟩⟩⟩⟩⟩))).2.1 (Kd.N_F (Kd.N_mono (ok' := (fun k_ => some k_ ≠ (.slice Ao41 t275.length co41 : Value).ownBlock ∧ some k_ ≠ (.slice Ao42 t278.length co42 : Value).ownBlock ∧ some k_ ≠ (.slice Ao22 t281.length co22 : Value).ownBlock ∧ some k_ ≠ (.slice Ao25 t284.length co25 : Value).ownBlock ∧ k_ ≠ gb273 ∧ k_ ≠ gb287 ∧ k_ ≠ gb296 ∧ k_ ≠ gb305)) (HO_306004.out) (fun k_ hk => ⟨hk.1, ⟨hk.2.1, ⟨hk.2.2.1, ⟨hk.2.2.2.1, ⟨hk.2.2.2.2.2.1, ⟨hk.2.2.2.2.2.2.1, ⟨hk.2.2.2.2.2.2.2.1, hk.2.2.2.2.2.2.2.2⟩⟩⟩⟩⟩⟩⟩))))) (Reps.none _ _)))); intro v311 w66 ho67 hb hg_ hnew_; clear hg_ hnew_; (first | rw [← Ny310.out] at ho67 | (simp only [Int.reduceToNat] at ho67; rw [← Ny310.out] at ho67)); have n0_ := Aside0.mk (Kd.R_below (by (with_reducible repeat (first | apply Kd.R_alloc | apply Kd.R_drewN | apply Kd.R_drew)); exact HO_7.out) hb); have n1_ := Aside0.mk (Kd.N_elder' (by (with_reducible repeat (first | apply Kd.N_alloc | apply Kd.N_drewN | apply Kd.N_drew)); exact HO_8.out) (Kd.N_base ho67) hb); have n2_ := Aside0.mk (Kd.N_elder' (by (with_reducible repeat (first | apply Kd.N_alloc | apply Kd.N_drewN | apply Kd.N_drew)); exact HO_288000.out) (Kd.N_base ho67) hb); have n3_ := Aside0.mk (Kd.R_below (by (with_reducible repeat (first | apply Kd.R_alloc | apply Kd.R_drewN | apply Kd.R_drew)); exact HO_288001.out) hb); have n4_ := Aside0.mk (Kd.N_lower ho67 (below_size (by repeat (first | (with_reducible first | exact HB.out | apply below_alloc | apply pw_below_drewN | apply below_drew1 | refine below_set ?_ GE273.out | refine below_set ?_ GE287.out | refine below_set ?_ GE296.out | refine below_set ?_ GE305.out) | exact HB.out)))); have n5_ := Aside0.mk (blk_below (g := gb273) (o := .cells #[.int .u8 a2_0, .int .u8 a2_1, .int .u8 a2_2, .int .u8 a2_3, .int .u8 a2_4, .int .u8 a2_5] 41 (0, 0)) (by (with_reducible repeat (first | refine blk_drewN ?_ _ | refine blk_drew ?_ | refine blk_alloc ?_ _)); exact BK273.out) hb); have n6_ := Aside0.mk (blk_below (g := gb287) (o := .cells #[.slice Ao22 t281.length co22, .slice Ao25 t284.length co25] 30 (0, 0)) (by (with_reducible repeat (first | refine blk_drewN ?_ _ | refine blk_drew ?_ | refine blk_alloc ?_ _)); exact BK287.out) hb); have n7_ := Aside0.mk (blk_below (g := gb296) (o := .cells #[.int .i64 t288, .int .i64 t289, .string t290, .int .i64 t291, .slice Ao31 t292.length co31] 24 (0, 0)) (by (with_reducible repeat (first | refine blk_drewN ?_ _ | refine blk_drew ?_ | refine blk_alloc ?_ _)); exact BK296.out) hb); have n8_ := Aside0.mk (blk_below (g := gb305) (o := .cells #[.int .i64 t297, .int .i64 t298, .string t299, .int .i64 t300, .slice Ao38 t301.length co38] 24 (0, 0)) (by (with_reducible repeat (first | refine blk_drewN ?_ _ | refine blk_drew ?_ | refine blk_alloc ?_ _)); exact BK305.out) hb); have n9_ := Aside0.mk (below_step (by repeat (first | (with_reducible first | exact HB.out | apply below_alloc | apply pw_below_drewN | apply below_drew1 | refine below_set ?_ GE273.out | refine below_set ?_ GE287.out | refine below_set ?_ GE296.out | refine below_set ?_ GE305.out) | exact HB.out)) hb); clear HO_7; clear HO_8; clear HO_288000; clear HO_288001; clear BK273; clear BK287; clear BK296; clear BK305; clear HB; clear HO_297004; clear HO_306004; have HO_7 := n0_; have HO_8 := n1_; have HO_288000 := n2_; have HO_288001 := n3_; have HO312 := n4_; have BK273 := n5_; have BK287 := n6_; have BK296 := n7_; have BK305 := n8_; have HB := n9_; clear n0_ n1_ n2_ n3_ n4_ n5_ n6_ n7_ n8_ n9_; clear hb ho67; obtain ⟨Ao68, co68, eo68⟩ := Kd.N_slice HO312.out; subst eo68; have hnb69 := NB287_273.out; have hnc69 := NB273_287.out; have hcz70_0 : w66.cell? ⟨gb287, 0, none⟩ = some (.slice Ao22 t281.length co22) := (blk_cell BK287.out 0).trans rfl; have hcz70_1 : w66.cell? ⟨gb287, 1, none⟩ = some (.slice Ao25 t284.length co25) := (blk_cell BK287.out 1).trans rfl; have hfz70_0 := blk_frozen BK287.out 0; have hfz70_1 := blk_frozen BK287.out 1) | ((with_reducible refine gate_callee (f := 10) rfl ?_); refine goesL_ (some 84) rfl rfl Tryd.func10 (by kernel_rfl) rfl #[.agg #[.int .i64 4, .int .i64 0, .string (⟨#[]⟩ : ByteArray), .int .i64 0, .slice Ao68 y310.length co68], .slice Ao41 t275.length co41, .slice Ao42 t278.length co42, .agg #[.slice Ao22 t281.length co22, .slice Ao25 t284.length co25]] rfl (by (try simp only [List.map_toArray, List.map_cons, List.map_nil]); first | done | rfl | (simp only [List.length_drop, List.length_take]; rfl)) ?_; (with_reducible refine (post_Holds.calls kj16 4 0 (⟨#[]⟩ : ByteArray) 0 _ _ y310 _ _ t275 _ _ t278 _ _ t281 _ _ t284 t313 t314 _ ?side1 ?side2 ?side3 ?side4 ?side5 ?side6 ?side7 ?side8 ?side9 ?side10 A49.out).mono ?_); (case side1 => repeat (first | exact (Kd.N_reads' HO312.out).2.2 | (with_reducible refine Kd.C_alloc ?_ _) | (with_reducible refine Kd.C_drewN ?_ _) | (with_reducible refine Kd.C_drew ?_))); (case side2 => exact (Kd.N_reads' HO312.out).2.1); (case side3 => repeat (first | exact (Kd.R_reads' HO_7.out).2.2 | (with_reducible refine Kd.C_alloc ?_ _) | (with_reducible refine Kd.C_drewN ?_ _) | (with_reducible refine Kd.C_drew ?_))); (case side4 => exact (Kd.R_reads' HO_7.out).2.1); (case side5 => repeat (first | exact (Kd.N_reads' HO_8.out).2.2 | (with_reducible refine Kd.C_alloc ?_ _) | (with_reducible refine Kd.C_drewN ?_ _) | (with_reducible refine Kd.C_drew ?_))); (case side6 => exact (Kd.N_reads' HO_8.out).2.1); (case side7 => repeat (first | exact (Kd.N_reads' HO_288000.out).2.2 | (with_reducible refine Kd.C_alloc ?_ _) | (with_reducible refine Kd.C_drewN ?_ _) | (with_reducible refine Kd.C_drew ?_))); (case side8 => exact (Kd.N_reads' HO_288000.out).2.1); (case side9 => repeat (first | exact (Kd.R_reads' HO_288001.out).2.2 | (with_reducible refine Kd.C_alloc ?_ _) | (with_reducible refine Kd.C_drewN ?_ _) | (with_reducible refine Kd.C_drew ?_))); (case side10 => exact (Kd.R_reads' HO_288001.out).2.1); rintro e w71 ⟨rfl, hb⟩; refine ⟨_, rfl, ?_⟩; have n0_ := Aside0.mk (Kd.R_below (by (with_reducible repeat (first | apply Kd.R_alloc | apply Kd.R_drewN | apply Kd.R_drew)); exact HO_7.out) hb); have n1_ := Aside0.mk (Kd.N_below (by (with_reducible repeat (first | apply Kd.N_alloc | apply Kd.N_drewN | apply Kd.N_drew)); exact HO_8.out) hb); have n2_ := Aside0.mk (Kd.N_below (by (with_reducible repeat (first | apply Kd.N_alloc | apply Kd.N_drewN | apply Kd.N_drew)); exact HO_288000.out) hb); have n3_ := Aside0.mk (Kd.R_below (by (with_reducible repeat (first | apply Kd.R_alloc | apply Kd.R_drewN | apply Kd.R_drew)); exact HO_288001.out) hb); have n4_ := Aside0.mk (Kd.N_below (by (with_reducible repeat (first | apply Kd.N_alloc | apply Kd.N_drewN | apply Kd.N_drew)); exact HO312.out) hb); have n5_ := Aside0.mk (blk_below (g := gb273) (o := .cells #[.int .u8 a2_0, .int .u8 a2_1, .int .u8 a2_2, .int .u8 a2_3, .int .u8 a2_4, .int .u8 a2_5] 41 (0, 0)) (by (with_reducible repeat (first | refine blk_drewN ?_ _ | refine blk_drew ?_ | refine blk_alloc ?_ _)); exact BK273.out) hb); have n6_ := Aside0.mk (blk_below (g := gb287) (o := .cells #[.slice Ao22 t281.length co22, .slice Ao25 t284.length co25] 30 (0, 0)) (by (with_reducible repeat (first | refine blk_drewN ?_ _ | refine blk_drew ?_ | refine blk_alloc ?_ _)); exact BK287.out) hb); have n7_ := Aside0.mk (blk_below (g := gb296) (o := .cells #[.int .i64 t288, .int .i64 t289, .string t290, .int .i64 t291, .slice Ao31 t292.length co31] 24 (0, 0)) (by (with_reducible repeat (first | refine blk_drewN ?_ _ | refine blk_drew ?_ | refine blk_alloc ?_ _)); exact BK296.out) hb); have n8_ := Aside0.mk (blk_below (g := gb305) (o := .cells #[.int .i64 t297, .int .i64 t298, .string t299, .int .i64 t300, .slice Ao38 t301.length co38] 24 (0, 0)) (by (with_reducible repeat (first | refine blk_drewN ?_ _ | refine blk_drew ?_ | refine blk_alloc ?_ _)); exact BK305.out) hb); have n9_ := Aside0.mk (below_step (by repeat (first | (with_reducible first | exact HB.out | apply below_alloc | apply pw_below_drewN | apply below_drew1 | refine below_set ?_ GE273.out | refine below_set ?_ GE287.out | refine below_set ?_ GE296.out | refine below_set ?_ GE305.out) | exact HB.out)) hb); clear HO_7; clear HO_8; clear HO_288000; clear HO_288001; clear HO312; clear BK273; clear BK287; clear BK296; clear BK305; clear HB; have HO_7 := n0_; have HO_8 := n1_; have HO_288000 := n2_; have HO_288001 := n3_; have HO312 := n4_; have BK273 := n5_; have BK287 := n6_; have BK296 := n7_; have BK305 := n8_; have HB := n9_; clear n0_ n1_ n2_ n3_ n4_ n5_ n6_ n7_ n8_ n9_; (try clear hb); (try clear hb2); (try clear hk); (try clear hi); have hcz72_0 : w71.cell? ⟨gb287, 0, none⟩ = some (.slice Ao22 t281.length co22) := (blk_cell BK287.out 0).trans rfl; have hcz72_1 : w71.cell? ⟨gb287, 1, none⟩ = some (.slice Ao25 t284.length co25) := (blk_cell BK287.out 1).trans rfl; have hfz72_0 := blk_frozen BK287.out 0; have hfz72_1 := blk_frozen BK287.out 1) | ((with_reducible refine gate_callee (f := 10) rfl ?_); refine goesL_ (some 93) rfl rfl Tryd.func10 (by kernel_rfl) rfl #[.agg #[.int .i64 5, .int .i64 0, .string (⟨#[]⟩ : ByteArray), .int .i64 0, .slice Ao68 y310.length co68], .slice Ao41 t275.length co41, .slice Ao42 t278.length co42, .agg #[.slice Ao22 t281.length co22, .slice Ao25 t284.length co25]] rfl (by (try simp only [List.map_toArray, List.map_cons, List.map_nil]); first | done | rfl | (simp only [List.length_drop, List.length_take]; rfl)) ?_; (with_reducible refine (post_Holds.calls kj16 5 0 (⟨#[]⟩ : ByteArray) 0 _ _ y310 _ _ t275 _ _ t278 _ _ t281 _ _ t284 t315 t316 _ ?side1 ?side2 ?side3 ?side4 ?side5 ?side6 ?side7 ?side8 ?side9 ?side10 A50.out).mono ?_); (case side1 => repeat (first | exact (Kd.N_reads' HO312.out).2.2 | (with_reducible refine Kd.C_alloc ?_ _) | (with_reducible refine Kd.C_drewN ?_ _) | (with_reducible refine Kd.C_drew ?_))); (case side2 => exact (Kd.N_reads' HO312.out).2.1); (case side3 => repeat (first | exact (Kd.R_reads' HO_7.out).2.2 | (with_reducible refine Kd.C_alloc ?_ _) | (with_reducible refine Kd.C_drewN ?_ _) | (with_reducible refine Kd.C_drew ?_))); (case side4 => exact (Kd.R_reads' HO_7.out).2.1); (case side5 => repeat (first | exact (Kd.N_reads' HO_8.out).2.2 | (with_reducible refine Kd.C_alloc ?_ _) | (with_reducible refine Kd.C_drewN ?_ _) | (with_reducible refine Kd.C_drew ?_))); (case side6 => exact (Kd.N_reads' HO_8.out).2.1); (case side7 => repeat (first | exact (Kd.N_reads' HO_288000.out).2.2 | (with_reducible refine Kd.C_alloc ?_ _) | (with_reducible refine Kd.C_drewN ?_ _) | (with_reducible refine Kd.C_drew ?_))); (case side8 => exact (Kd.N_reads' HO_288000.out).2.1); (case side9 => repeat (first | exact (Kd.R_reads' HO_288001.out).2.2 | (with_reducible refine Kd.C_alloc ?_ _) | (with_reducible refine Kd.C_drewN ?_ _) | (with_reducible refine Kd.C_drew ?_))); (case side10 => exact (Kd.R_reads' HO_288001.out).2.1); rintro e w73 ⟨rfl, hb⟩; refine ⟨_, rfl, ?_⟩; have n0_ := Aside0.mk (Kd.R_below (by (with_reducible repeat (first | apply Kd.R_alloc | apply Kd.R_drewN | apply Kd.R_drew)); exact HO_7.out) hb); have n1_ := Aside0.mk (Kd.N_below (by (with_reducible repeat (first | apply Kd.N_alloc | apply Kd.N_drewN | apply Kd.N_drew)); exact HO_8.out) hb); have n2_ := Aside0.mk (Kd.N_below (by (with_reducible repeat (first | apply Kd.N_alloc | apply Kd.N_drewN | apply Kd.N_drew)); exact HO_288000.out) hb); have n3_ := Aside0.mk (Kd.R_below (by (with_reducible repeat (first | apply Kd.R_alloc | apply Kd.R_drewN | apply Kd.R_drew)); exact HO_288001.out) hb); have n4_ := Aside0.mk (Kd.N_below (by (with_reducible repeat (first | apply Kd.N_alloc | apply Kd.N_drewN | apply Kd.N_drew)); exact HO312.out) hb); have n5_ := Aside0.mk (blk_below (g := gb273) (o := .cells #[.int .u8 a2_0, .int .u8 a2_1, .int .u8 a2_2, .int .u8 a2_3, .int .u8 a2_4, .int .u8 a2_5] 41 (0, 0)) (by (with_reducible repeat (first | refine blk_drewN ?_ _ | refine blk_drew ?_ | refine blk_alloc ?_ _)); exact BK273.out) hb); have n6_ := Aside0.mk (blk_below (g := gb287) (o := .cells #[.slice Ao22 t281.length co22, .slice Ao25 t284.length co25] 30 (0, 0)) (by (with_reducible repeat (first | refine blk_drewN ?_ _ | refine blk_drew ?_ | refine blk_alloc ?_ _)); exact BK287.out) hb); have n7_ := Aside0.mk (blk_below (g := gb296) (o := .cells #[.int .i64 t288, .int .i64 t289, .string t290, .int .i64 t291, .slice Ao31 t292.length co31] 24 (0, 0)) (by (with_reducible repeat (first | refine blk_drewN ?_ _ | refine blk_drew ?_ | refine blk_alloc ?_ _)); exact BK296.out) hb); have n8_ := Aside0.mk (blk_below (g := gb305) (o := .cells #[.int .i64 t297, .int .i64 t298, .string t299, .int .i64 t300, .slice Ao38 t301.length co38] 24 (0, 0)) (by (with_reducible repeat (first | refine blk_drewN ?_ _ | refine blk_drew ?_ | refine blk_alloc ?_ _)); exact BK305.out) hb); have n9_ := Aside0.mk (below_step (by repeat (first | (with_reducible first | exact HB.out | apply below_alloc | apply pw_below_drewN | apply below_drew1 | refine below_set ?_ GE273.out | refine below_set ?_ GE287.out | refine below_set ?_ GE296.out | refine below_set ?_ GE305.out) | exact HB.out)) hb); clear HO_7; clear HO_8; clear HO_288000; clear HO_288001; clear HO312; clear BK273; clear BK287; clear BK296; clear BK305; clear HB; have HO_7 := n0_; have HO_8 := n1_; have HO_288000 := n2_; have HO_288001 := n3_; have HO312 := n4_; have BK273 := n5_; have BK287 := n6_; have BK296 := n7_; have BK305 := n8_; have HB := n9_; clear n0_ n1_ n2_ n3_ n4_ n5_ n6_ n7_ n8_ n9_; (try clear hb); (try clear hb2); (try clear hk); (try clear hi)))
             have n0_ := Aside0.mk (Kd.R_drew HO_7.out)
             have n1_ := Aside0.mk (Kd.N_drew HO_8.out)
             have n2_ := Aside0.mk (Kd.N_drew HO_288000.out)
             have n3_ := Aside0.mk (Kd.R_drew HO_288001.out)
             have n4_ := Aside0.mk (Kd.N_drew HO312.out)
             have n5_ := Aside0.mk (blk_drew BK273.out)
             have n6_ := Aside0.mk (blk_drew BK287.out)
             have n7_ := Aside0.mk (blk_drew BK296.out)
             have n8_ := Aside0.mk (blk_drew BK305.out)
             have n9_ := Aside0.mk (below_drew1 HB.out)
             clear HO_7
             clear HO_8
             clear HO_288000
             clear HO_288001
             clear HO312
             clear BK273
             clear BK287
             clear BK296
             clear BK305
             clear HB
             have HO_7 := n0_
             have HO_8 := n1_
             have HO_288000 := n2_
             have HO_288001 := n3_
             have HO312 := n4_
             have BK273 := n5_
             have BK287 := n6_
             have BK296 := n7_
             have BK305 := n8_
             have HB := n9_
             clear n0_ n1_ n2_ n3_ n4_ n5_ n6_ n7_ n8_ n9_
             have q75 : (1 : Int) ≤ ((y310.length : Int) : Int) := of_decide_eq_true (by first | (with_reducible assumption) | assumption)
             obtain ⟨i075, hi075, _, hsz75, _⟩ := info_parts info24
             have hroom75 : y310.length ≤ co68 := (Kd.N_reads' HO312.out).2.1
             have hC75 : Kd.F k24 _ _ Ao68 y310.length y310 := (Kd.V_at (base := w.heap.size) (Kd.N_V HO312.out)).2.2
             have hcut75 := cut_to (P := Tryd.prog) 22 24 .i64 Tryd.underlying22 hi075 Ao68 y310.length co68 1 (by omega) q75 hroom75
             have hr75 := Kd.F_take (m := 1) hC75 (by omega)
             have hy75 : y317.length = (1 : Int).toNat := (by rw [Ny317.out, List.length_take]; omega)
             rw [← Ny317.out] at hr75
             rw [← hy75] at hcut75
             have HO321 := Aside0.mk (show Kd.V k24 24 _ w.heap.size _ (.slice Ao68 y317.length co68) y317 from Kd.V_mk (by omega) hr75)
             have HC321 := Aside0.mk (show y317.length ≤ co68 from by omega)
             clear hr75 hC75 hroom75 hi075 hsz75
             have KY75 := Aside0.mk hy75
             clear hy75
             replace q75 := eq_true q75
             refine start_ (n := 12) (S := fun w' => w'.cell? ⟨gb287, 0, none⟩ = some (.slice Ao22 t281.length co22) ∧ w'.cell? ⟨gb287, 1, none⟩ = some (.slice Ao25 t284.length co25)) (ds := []) #[false, false, false, false, false, false, false, false, false, false, false, false] (by kernel_rfl) rfl rfl ⟨(blk_cell BK287.out 0).trans rfl, (blk_cell BK287.out 1).trans rfl⟩ (fun hHeld => ?_); refine with_tabW withelaw11_PostRules.tab16 withelaw11_PostRules.bits16 (fun HT_ HW_ => ?_)
             generalize w73.drew = w74 at HO_7 HO_8 HO_288000 HO_288001 HO312 BK273 BK287 BK296 BK305 HB HO321 hHeld ⊢
             refine pure_ (i := 0) (N := some 97) (v := ?_) (a' := ?_) #[true, false, false, false, false, false, false, false, false, false, false, false] rfl rfl (any_of HT_.out (by kernel_rfl)) (fun _ _ _ h => h) (Or.inl ⟨by rfl, ?_⟩) ?_ ?_
             rotate_left
             ·intro w'
              go_simp
              with_reducible rfl
             rotate_left
             ·simp only [Act.put, List.setIfInBounds_toArray, List.set_cons_zero, List.set_cons_succ, i64_w, i32_w]
              rfl
             refine pure_ (i := 1) (N := some 98) (v := ?_) (a' := ?_) #[true, true, false, false, false, false, false, false, false, false, false, false] rfl rfl (any_of HT_.out (by kernel_rfl)) (fun _ _ _ h => h) (Or.inl ⟨by rfl, ?_⟩) ?_ ?_
             rotate_left
             ·intro w'
              go_simp
              with_reducible rfl
             rotate_left
             ·simp only [Act.put, List.setIfInBounds_toArray, List.set_cons_zero, List.set_cons_succ, i64_w, i32_w]
              rfl
             refine pure_ (i := 2) (N := some 99) (v := ?_) (a' := ?_) #[true, true, true, false, false, false, false, false, false, false, false, false] rfl rfl (any_of HT_.out (by kernel_rfl)) (fun _ _ _ h => h) (Or.inl ⟨by rfl, ?_⟩) ?_ ?_
             rotate_left
             ·intro w'
              go_simp
              with_reducible rfl
             rotate_left
             ·simp only [Act.put, List.setIfInBounds_toArray, List.set_cons_zero, List.set_cons_succ, i64_w, i32_w]
              rfl
             refine pure_ (i := 3) (N := some 100) (v := ?_) (a' := ?_) #[true, true, true, true, false, false, false, false, false, false, false, false] rfl rfl (any_of HT_.out (by kernel_rfl)) (fun _ _ _ h => h) (Or.inl ⟨by rfl, ?_⟩) ?_ ?_
             rotate_left
             ·intro w'
              go_simp
              with_reducible rfl
             rotate_left
             ·simp only [Act.put, List.setIfInBounds_toArray, List.set_cons_zero, List.set_cons_succ, i64_w, i32_w]
              rfl
             refine pure_ (i := 4) (N := some 101) (v := ?_) (a' := ?_) #[true, true, true, true, true, false, false, false, false, false, false, false] rfl rfl (any_of HT_.out (by kernel_rfl)) (fun _ _ _ h => h) (Or.inl ⟨by rfl, ?_⟩) ?_ ?_
             rotate_left
             ·intro w'
              go_simp
              with_reducible rfl
             rotate_left
             ·simp only [Act.put, List.setIfInBounds_toArray, List.set_cons_zero, List.set_cons_succ, i64_w, i32_w]
              rfl
             refine take_ (i := 5) (N := some 102) (v := ?_) (a' := ?_) #[true, true, true, true, true, true, false, false, false, false, false, false] rfl rfl (take_ofW HT_.out HW_.out (by kernel_rfl)) (fun _ _ _ h => h) (Or.inl ⟨by rfl, ?_⟩) hHeld ?_ ?_
             rotate_left
             ·rintro w' ⟨s0, s1⟩
              go_simp
              with_reducible rfl
             rotate_left
             ·simp only [Act.put, List.setIfInBounds_toArray, List.set_cons_zero, List.set_cons_succ, i64_w, i32_w]
              rfl
             refine one_ (i := 6) (N := some 103) #[true, true, true, true, true, true, true, false, false, false, false, false] rfl rfl (one_of HT_.out (by kernel_rfl)) (by decide) (fun K hK => ?_)
             refine goes_ Tryd.func10 (by kernel_rfl) rfl #[.agg #[.int .i64 3, .int .i64 0, .string (⟨#[]⟩ : ByteArray), .int .i64 0, .slice Ao68 y317.length co68], .slice Ao41 t275.length co41, .slice Ao42 t278.length co42, .agg #[.slice Ao22 t281.length co22, .slice Ao25 t284.length co25]] (by rfl) rfl rfl (by (try simp only [List.map_toArray, List.map_cons, List.map_nil]); first | done | rfl | (simp only [List.length_drop, List.length_take]; rfl)) ?_
             with_reducible refine (post_Holds.calls kj16 3 0 (⟨#[]⟩ : ByteArray) 0 _ _ y317 _ _ t275 _ _ t278 _ _ t281 _ _ t284 t322 t323 _ ?side1 ?side2 ?side3 ?side4 ?side5 ?side6 ?side7 ?side8 ?side9 ?side10 A52.out).mono ?_
             (case side1 => repeat (first | exact (Kd.V_reads' HO321.out).2.2 | (with_reducible refine Kd.C_alloc ?_ _) | (with_reducible refine Kd.C_drewN ?_ _) | (with_reducible refine Kd.C_drew ?_)))
             (case side2 => exact (Kd.V_reads' HO321.out).2.1)
             (case side3 => repeat (first | exact (Kd.R_reads' HO_7.out).2.2 | (with_reducible refine Kd.C_alloc ?_ _) | (with_reducible refine Kd.C_drewN ?_ _) | (with_reducible refine Kd.C_drew ?_)))
             (case side4 => exact (Kd.R_reads' HO_7.out).2.1)
             (case side5 => repeat (first | exact (Kd.N_reads' HO_8.out).2.2 | (with_reducible refine Kd.C_alloc ?_ _) | (with_reducible refine Kd.C_drewN ?_ _) | (with_reducible refine Kd.C_drew ?_)))
             (case side6 => exact (Kd.N_reads' HO_8.out).2.1)
             (case side7 => repeat (first | exact (Kd.N_reads' HO_288000.out).2.2 | (with_reducible refine Kd.C_alloc ?_ _) | (with_reducible refine Kd.C_drewN ?_ _) | (with_reducible refine Kd.C_drew ?_)))
             (case side8 => exact (Kd.N_reads' HO_288000.out).2.1)
             (case side9 => repeat (first | exact (Kd.R_reads' HO_288001.out).2.2 | (with_reducible refine Kd.C_alloc ?_ _) | (with_reducible refine Kd.C_drewN ?_ _) | (with_reducible refine Kd.C_drew ?_)))
             (case side10 => exact (Kd.R_reads' HO_288001.out).2.1)
             rintro e w76 ⟨rfl, hb⟩
             refine ⟨_, rfl, ?_⟩
             have n0_ := Aside0.mk (Kd.R_below (by (with_reducible repeat (first | apply Kd.R_alloc | apply Kd.R_drewN | apply Kd.R_drew)); exact HO_7.out) hb)
             have n1_ := Aside0.mk (Kd.N_below (by (with_reducible repeat (first | apply Kd.N_alloc | apply Kd.N_drewN | apply Kd.N_drew)); exact HO_8.out) hb)
             have n2_ := Aside0.mk (Kd.N_below (by (with_reducible repeat (first | apply Kd.N_alloc | apply Kd.N_drewN | apply Kd.N_drew)); exact HO_288000.out) hb)
             have n3_ := Aside0.mk (Kd.R_below (by (with_reducible repeat (first | apply Kd.R_alloc | apply Kd.R_drewN | apply Kd.R_drew)); exact HO_288001.out) hb)
             have n4_ := Aside0.mk (Kd.N_below (by (with_reducible repeat (first | apply Kd.N_alloc | apply Kd.N_drewN | apply Kd.N_drew)); exact HO312.out) hb)
             have n5_ := Aside0.mk (Kd.V_below (by (with_reducible repeat (first | apply Kd.V_alloc | apply Kd.V_drewN | apply Kd.V_drew)); exact HO321.out) hb)
             have n6_ := Aside0.mk (blk_below (g := gb273) (o := .cells #[.int .u8 a2_0, .int .u8 a2_1, .int .u8 a2_2, .int .u8 a2_3, .int .u8 a2_4, .int .u8 a2_5] 41 (0, 0)) (by (with_reducible repeat (first | refine blk_drewN ?_ _ | refine blk_drew ?_ | refine blk_alloc ?_ _)); exact BK273.out) hb)
             have n7_ := Aside0.mk (blk_below (g := gb287) (o := .cells #[.slice Ao22 t281.length co22, .slice Ao25 t284.length co25] 30 (0, 0)) (by (with_reducible repeat (first | refine blk_drewN ?_ _ | refine blk_drew ?_ | refine blk_alloc ?_ _)); exact BK287.out) hb)
             have n8_ := Aside0.mk (blk_below (g := gb296) (o := .cells #[.int .i64 t288, .int .i64 t289, .string t290, .int .i64 t291, .slice Ao31 t292.length co31] 24 (0, 0)) (by (with_reducible repeat (first | refine blk_drewN ?_ _ | refine blk_drew ?_ | refine blk_alloc ?_ _)); exact BK296.out) hb)
             have n9_ := Aside0.mk (blk_below (g := gb305) (o := .cells #[.int .i64 t297, .int .i64 t298, .string t299, .int .i64 t300, .slice Ao38 t301.length co38] 24 (0, 0)) (by (with_reducible repeat (first | refine blk_drewN ?_ _ | refine blk_drew ?_ | refine blk_alloc ?_ _)); exact BK305.out) hb)
             have n10_ := Aside0.mk (below_step (by repeat (first | (with_reducible first | exact HB.out | apply below_alloc | apply pw_below_drewN | apply below_drew1 | refine below_set ?_ GE273.out | refine below_set ?_ GE287.out | refine below_set ?_ GE296.out | refine below_set ?_ GE305.out) | exact HB.out)) hb)
             clear HO_7
             clear HO_8
             clear HO_288000
             clear HO_288001
             clear HO312
             clear HO321
             clear BK273
             clear BK287
             clear BK296
             clear BK305
             clear HB
             have HO_7 := n0_
             have HO_8 := n1_
             have HO_288000 := n2_
             have HO_288001 := n3_
             have HO312 := n4_
             have HO321 := n5_
             have BK273 := n6_
             have BK287 := n7_
             have BK296 := n8_
             have BK305 := n9_
             have HB := n10_
             clear n0_ n1_ n2_ n3_ n4_ n5_ n6_ n7_ n8_ n9_ n10_
             (try clear hb)
             (try clear hb2)
             (try clear hk)
             (try clear hi)
             refine hK.out _ _ ⟨(blk_cell BK287.out 0).trans rfl, (blk_cell BK287.out 1).trans rfl⟩ (fun hHeld => ?_)
             clear hK K
             refine norm_ (a' := ?_) ?_ ?_
             rotate_left
             ·show Act.put _ (some 103) _ = _
              simp only [Act.put, List.setIfInBounds_toArray, List.set_cons_zero, List.set_cons_succ, i64_w, i32_w]
              rfl
             refine pure_ (i := 7) (N := some 96) (v := ?_) (a' := ?_) #[true, true, true, true, true, true, true, true, false, false, false, false] rfl rfl (any_of HT_.out (by kernel_rfl)) (fun _ _ _ h => h) (Or.inl ⟨by rfl, ?_⟩) ?_ ?_
             rotate_left
             ·intro w'
              go_simp
              with_reducible rfl
             rotate_left
             ·simp only [Act.put, List.setIfInBounds_toArray, List.set_cons_zero, List.set_cons_succ, i64_w, i32_w]
              rfl
             refine pure_ (i := 8) (N := some 104) (v := ?_) (a' := ?_) #[true, true, true, true, true, true, true, true, true, false, false, false] rfl rfl (any_of HT_.out (by kernel_rfl)) (fun _ _ _ h => h) (Or.inl ⟨by rfl, ?_⟩) ?_ ?_
             rotate_left
             ·intro w'
              go_simp
              with_reducible rfl
             rotate_left
             ·simp only [Act.put, List.setIfInBounds_toArray, List.set_cons_zero, List.set_cons_succ, i64_w, i32_w]
              rfl
             refine pure_ (i := 9) (N := some 105) (v := ?_) (a' := ?_) #[true, true, true, true, true, true, true, true, true, true, false, false] rfl rfl (any_of HT_.out (by kernel_rfl)) (fun _ _ _ h => h) (Or.inl ⟨by rfl, ?_⟩) ?_ ?_
             rotate_left
             ·intro w'
              go_simp
              with_reducible rfl
             rotate_left
             ·simp only [Act.put, List.setIfInBounds_toArray, List.set_cons_zero, List.set_cons_succ, i64_w, i32_w]
              rfl
             refine pure_ (i := 10) (N := some 23) (v := ?_) (a' := ?_) #[true, true, true, true, true, true, true, true, true, true, true, false] rfl rfl (any_of HT_.out (by kernel_rfl)) (fun _ _ _ h => h) (Or.inl ⟨by rfl, ?_⟩) ?_ ?_
             rotate_left
             ·intro w'
              go_simp
              with_reducible rfl
             rotate_left
             ·simp only [Act.put, List.setIfInBounds_toArray, List.set_cons_zero, List.set_cons_succ, i64_w, i32_w]
              rfl
             refine pure_ (i := 11) (N := some 24) (v := ?_) (a' := ?_) #[true, true, true, true, true, true, true, true, true, true, true, true] rfl rfl (any_of HT_.out (by kernel_rfl)) (fun _ _ _ h => h) (Or.inl ⟨by rfl, ?_⟩) ?_ ?_
             rotate_left
             ·intro w'
              go_simp
              with_reducible rfl
             rotate_left
             ·simp only [Act.put, List.setIfInBounds_toArray, List.set_cons_zero, List.set_cons_succ, i64_w, i32_w]
              rfl
             refine done_ (done_of HT_.out (by kernel_rfl)) ?_
             try go_wp2
             have n0_ := Aside0.mk (Kd.R_drew HO_7.out)
             have n1_ := Aside0.mk (Kd.N_drew HO_8.out)
             have n2_ := Aside0.mk (Kd.N_drew HO_288000.out)
             have n3_ := Aside0.mk (Kd.R_drew HO_288001.out)
             have n4_ := Aside0.mk (Kd.N_drew HO312.out)
             have n5_ := Aside0.mk (Kd.V_drew HO321.out)
             have n6_ := Aside0.mk (blk_drew BK273.out)
             have n7_ := Aside0.mk (blk_drew BK287.out)
             have n8_ := Aside0.mk (blk_drew BK296.out)
             have n9_ := Aside0.mk (blk_drew BK305.out)
             have n10_ := Aside0.mk (below_drew1 HB.out)
             clear HO_7
             clear HO_8
             clear HO_288000
             clear HO_288001
             clear HO312
             clear HO321
             clear BK273
             clear BK287
             clear BK296
             clear BK305
             clear HB
             have HO_7 := n0_
             have HO_8 := n1_
             have HO_288000 := n2_
             have HO_288001 := n3_
             have HO312 := n4_
             have HO321 := n5_
             have BK273 := n6_
             have BK287 := n7_
             have BK296 := n8_
             have BK305 := n9_
             have HB := n10_
             clear n0_ n1_ n2_ n3_ n4_ n5_ n6_ n7_ n8_ n9_ n10_
             have q78 : (1 : Int) ≤ ((y310.length : Int) : Int) := of_decide_eq_true (by first | (with_reducible assumption) | assumption)
             obtain ⟨i078, hi078, _, hsz78, _⟩ := info_parts info24
             have hroom78 : y310.length ≤ co68 := (Kd.N_reads' HO312.out).2.1
             have hC78 : Kd.F k24 _ _ Ao68 y310.length y310 := (Kd.V_at (base := w.heap.size) (Kd.N_V HO312.out)).2.2
             have hcut78 := cut_to (P := Tryd.prog) 22 24 .i64 Tryd.underlying22 hi078 Ao68 y310.length co68 1 (by omega) q78 hroom78
             have hr78 := Kd.F_take (m := 1) hC78 (by omega)
             have hy78 : y317.length = (1 : Int).toNat := (by rw [Ny317.out, List.length_take]; omega)
             rw [← Ny317.out] at hr78
             rw [← hy78] at hcut78
             have HO328 := Aside0.mk (show Kd.V k24 24 _ w.heap.size _ (.slice Ao68 y317.length co68) y317 from Kd.V_mk (by omega) hr78)
             have HC328 := Aside0.mk (show y317.length ≤ co68 from by omega)
             clear hr78 hC78 hroom78 hi078 hsz78
             have KY78 := Aside0.mk hy78
             clear hy78
             replace q78 := eq_true q78
             refine start_ (n := 14) (S := fun w' => w'.cell? ⟨gb287, 0, none⟩ = some (.slice Ao22 t281.length co22) ∧ w'.cell? ⟨gb287, 1, none⟩ = some (.slice Ao25 t284.length co25)) (ds := []) #[false, false, false, false, false, false, false, false, false, false, false, false, false, false] (by kernel_rfl) rfl rfl ⟨(blk_cell BK287.out 0).trans rfl, (blk_cell BK287.out 1).trans rfl⟩ (fun hHeld => ?_); refine with_tabW withelaw11_PostRules.tab17 withelaw11_PostRules.bits17 (fun HT_ HW_ => ?_)
             generalize w76.drew = w77 at HO_7 HO_8 HO_288000 HO_288001 HO312 HO321 BK273 BK287 BK296 BK305 HB HO328 hHeld ⊢
             refine pure_ (i := 0) (N := some 107) (v := ?_) (a' := ?_) #[true, false, false, false, false, false, false, false, false, false, false, false, false, false] rfl rfl (any_of HT_.out (by kernel_rfl)) (fun _ _ _ h => h) (Or.inl ⟨by rfl, ?_⟩) ?_ ?_
             rotate_left
             ·intro w'
              go_simp
              with_reducible rfl
             rotate_left
             ·simp only [Act.put, List.setIfInBounds_toArray, List.set_cons_zero, List.set_cons_succ, i64_w, i32_w]
              rfl
             refine pure_ (i := 1) (N := some 108) (v := ?_) (a' := ?_) #[true, true, false, false, false, false, false, false, false, false, false, false, false, false] rfl rfl (any_of HT_.out (by kernel_rfl)) (fun _ _ _ h => h) (Or.inl ⟨by rfl, ?_⟩) ?_ ?_
             rotate_left
             ·intro w'
              go_simp
              with_reducible rfl
             rotate_left
             ·simp only [Act.put, List.setIfInBounds_toArray, List.set_cons_zero, List.set_cons_succ, i64_w, i32_w]
              rfl
             refine pure_ (i := 2) (N := some 109) (v := ?_) (a' := ?_) #[true, true, true, false, false, false, false, false, false, false, false, false, false, false] rfl rfl (any_of HT_.out (by kernel_rfl)) (fun _ _ _ h => h) (Or.inl ⟨by rfl, ?_⟩) ?_ ?_
             rotate_left
             ·intro w'
              go_simp
              with_reducible rfl
             rotate_left
             ·simp only [Act.put, List.setIfInBounds_toArray, List.set_cons_zero, List.set_cons_succ, i64_w, i32_w]
              rfl
             refine pure_ (i := 5) (N := some 112) (v := ?_) (a' := ?_) #[true, true, true, false, false, true, false, false, false, false, false, false, false, false] rfl rfl (any_of HT_.out (by kernel_rfl)) (fun _ _ _ h => h) (Or.inl ⟨by rfl, ?_⟩) ?_ ?_
             rotate_left
             ·intro w'
              go_simp
              with_reducible rfl
             rotate_left
             ·simp only [Act.put, List.setIfInBounds_toArray, List.set_cons_zero, List.set_cons_succ, i64_w, i32_w]
              rfl
             refine pure_ (i := 6) (N := some 113) (v := ?_) (a' := ?_) #[true, true, true, false, false, true, true, false, false, false, false, false, false, false] rfl rfl (any_of HT_.out (by kernel_rfl)) (fun _ _ _ h => h) (Or.inl ⟨by rfl, ?_⟩) ?_ ?_
             rotate_left
             ·intro w'
              go_simp
              with_reducible rfl
             rotate_left
             ·simp only [Act.put, List.setIfInBounds_toArray, List.set_cons_zero, List.set_cons_succ, i64_w, i32_w]
              rfl
             refine take_ (i := 7) (N := some 114) (v := ?_) (a' := ?_) #[true, true, true, false, false, true, true, true, false, false, false, false, false, false] rfl rfl (take_ofW HT_.out HW_.out (by kernel_rfl)) (fun _ _ _ h => h) (Or.inl ⟨by rfl, ?_⟩) hHeld ?_ ?_
             rotate_left
             ·rintro w' ⟨s0, s1⟩
              go_simp
              with_reducible rfl
             rotate_left
             ·simp only [Act.put, List.setIfInBounds_toArray, List.set_cons_zero, List.set_cons_succ, i64_w, i32_w]
              rfl
             refine one_ (i := 3) (N := some 110) #[true, true, true, true, false, true, true, true, false, false, false, false, false, false] rfl rfl (one_of HT_.out (by kernel_rfl)) (by decide) (fun K hK => ?_)
             refine Kd.N_lit_step k24 _ 24 ?hg (N' := 110) ?hd (xs := ([(⟨3, 0, (⟨#[]⟩ : ByteArray), 0, y317⟩ : S24)] : List (S24))) (inner := [.int .i64 3, .int .i64 0, .string (⟨#[]⟩ : ByteArray), .int .i64 0, .slice Ao68 y317.length co68]) (ok := (fun k_ => some k_ ≠ (.slice Ao41 t275.length co41 : Value).ownBlock ∧ some k_ ≠ (.slice Ao42 t278.length co42 : Value).ownBlock ∧ some k_ ≠ (.slice Ao22 t281.length co22 : Value).ownBlock ∧ some k_ ≠ (.slice Ao25 t284.length co25 : Value).ownBlock ∧ k_ ≠ gb273 ∧ k_ ≠ gb287 ∧ k_ ≠ gb296 ∧ k_ ≠ gb305)) (okp := (fun k_ => some k_ ≠ (.slice Ao41 t275.length co41 : Value).ownBlock ∧ some k_ ≠ (.slice Ao42 t278.length co42 : Value).ownBlock ∧ some k_ ≠ (.slice Ao22 t281.length co22 : Value).ownBlock ∧ some k_ ≠ (.slice Ao25 t284.length co25 : Value).ownBlock ∧ k_ ≠ gb273 ∧ k_ ≠ gb287 ∧ k_ ≠ gb296 ∧ k_ ≠ gb305)) ?hr ?hp (fun _ hk => hk) ((show ∀ k_, w77.heap.size ≤ k_ → (fun k_ => some k_ ≠ (.slice Ao41 t275.length co41 : Value).ownBlock ∧ some k_ ≠ (.slice Ao42 t278.length co42 : Value).ownBlock ∧ some k_ ≠ (.slice Ao22 t281.length co22 : Value).ownBlock ∧ some k_ ≠ (.slice Ao25 t284.length co25 : Value).ownBlock ∧ k_ ≠ gb273 ∧ k_ ≠ gb287 ∧ k_ ≠ gb296 ∧ k_ ≠ gb305) k_ from fun k_ hk => ⟨Kd.fresh' (Kd.R_lt (by (with_reducible repeat (first | apply Kd.R_alloc | apply Kd.R_drewN | apply Kd.R_drew)); exact HO_7.out)) k_ hk, Kd.fresh' (Kd.N_lt (by (with_reducible repeat (first | apply Kd.N_alloc | apply Kd.N_drewN | apply Kd.N_drew)); exact HO_8.out)) k_ hk, Kd.fresh' (Kd.N_lt (by (with_reducible repeat (first | apply Kd.N_alloc | apply Kd.N_drewN | apply Kd.N_drew)); exact HO_288000.out)) k_ hk, Kd.fresh' (Kd.R_lt (by (with_reducible repeat (first | apply Kd.R_alloc | apply Kd.R_drewN | apply Kd.R_drew)); exact HO_288001.out)) k_ hk, Kd.freshB (g := gb273) (o := .cells #[.int .u8 a2_0, .int .u8 a2_1, .int .u8 a2_2, .int .u8 a2_3, .int .u8 a2_4, .int .u8 a2_5] 41 (0, 0)) (by (with_reducible repeat (first | refine blk_drewN ?_ _ | refine blk_drew ?_ | refine blk_alloc ?_ _)); exact BK273.out) k_ hk, Kd.freshB (g := gb287) (o := .cells #[.slice Ao22 t281.length co22, .slice Ao25 t284.length co25] 30 (0, 0)) (by (with_reducible repeat (first | refine blk_drewN ?_ _ | refine blk_drew ?_ | refine blk_alloc ?_ _)); exact BK287.out) k_ hk, Kd.freshB (g := gb296) (o := .cells #[.int .i64 t288, .int .i64 t289, .string t290, .int .i64 t291, .slice Ao31 t292.length co31] 24 (0, 0)) (by (with_reducible repeat (first | refine blk_drewN ?_ _ | refine blk_drew ?_ | refine blk_alloc ?_ _)); exact BK296.out) k_ hk, Kd.freshB (g := gb305) (o := .cells #[.int .i64 t297, .int .i64 t298, .string t299, .int .i64 t300, .slice Ao38 t301.length co38] 24 (0, 0)) (by (with_reducible repeat (first | refine blk_drewN ?_ _ | refine blk_drew ?_ | refine blk_alloc ?_ _)); exact BK305.out) k_ hk⟩) _ (Nat.le_refl _)) (Below.refl _ _) (Nat.le_refl _) (by simp) ?_; (case hd => rfl); (case hg => rfl); (case hr => first | (go_simp; done) | (go_simp; rfl)); (case hp => exact (Reps.c5 (show Kd.FK k24 _ _ (⟨3, 0, (⟨#[]⟩ : ByteArray), 0, y317⟩ : S24) [.int .i64 3, .int .i64 0, .string (⟨#[]⟩ : ByteArray), .int .i64 0, .slice Ao68 y317.length co68] from (k24_mkF _ _ (⟨3, 0, (⟨#[]⟩ : ByteArray), 0, y317⟩ : S24) (Kd.V_reads' (Kd.V_mono (ok' := (fun k_ => some k_ ≠ (.slice Ao41 t275.length co41 : Value).ownBlock ∧ some k_ ≠ (.slice Ao42 t278.length co42 : Value).ownBlock ∧ some k_ ≠ (.slice Ao22 t281.length co22 : Value).ownBlock ∧ some k_ ≠ (.slice Ao25 t284.length co25 : Value).ownBlock ∧ k_ ≠ gb273 ∧ k_ ≠ gb287 ∧ k_ ≠ gb296 ∧ k_ ≠ gb305)) (HO328.out) (fun k_ hk => ⟨hk.1, ⟨hk.2.1, ⟨hk.2.2.1, ⟨hk.2.2.2.1, ⟨hk.2.2.2.2.1, ⟨hk.2.2.2.2.2.1, ⟨hk.2.2.2.2.2.2.1, hk.2.2.2.2.2.2.2⟩⟩⟩⟩⟩⟩⟩))).2.1 (Kd.V_F (Kd.V_mono (ok' := (fun k_ => some k_ ≠ (.slice Ao41 t275.length co41 : Value).ownBlock ∧ some k_ ≠ (.slice Ao42 t278.length co42 : Value).ownBlock ∧ some k_ ≠ (.slice Ao22 t281.length co22 : Value).ownBlock ∧ some k_ ≠ (.slice Ao25 t284.length co25 : Value).ownBlock ∧ k_ ≠ gb273 ∧ k_ ≠ gb287 ∧ k_ ≠ gb296 ∧ k_ ≠ gb305)) (HO328.out) (fun k_ hk => ⟨hk.1, ⟨hk.2.1, ⟨hk.2.2.1, ⟨hk.2.2.2.1, ⟨hk.2.2.2.2.1, ⟨hk.2.2.2.2.2.1, ⟨hk.2.2.2.2.2.2.1, hk.2.2.2.2.2.2.2⟩⟩⟩⟩⟩⟩⟩))))) (Reps.none _ _)))
             intro v330 w79 ho80 hb hg_ hnew_
             clear hg_ hnew_
             (first | rw [← Ny329.out] at ho80 | (simp only [Int.reduceToNat] at ho80; rw [← Ny329.out] at ho80))
             have n0_ := Aside0.mk (Kd.R_below (by (with_reducible repeat (first | apply Kd.R_alloc | apply Kd.R_drewN | apply Kd.R_drew)); exact HO_7.out) hb)
             have n1_ := Aside0.mk (Kd.N_elder' (by (with_reducible repeat (first | apply Kd.N_alloc | apply Kd.N_drewN | apply Kd.N_drew)); exact HO_8.out) (Kd.N_base ho80) hb)
             have n2_ := Aside0.mk (Kd.N_elder' (by (with_reducible repeat (first | apply Kd.N_alloc | apply Kd.N_drewN | apply Kd.N_drew)); exact HO_288000.out) (Kd.N_base ho80) hb)
             have n3_ := Aside0.mk (Kd.R_below (by (with_reducible repeat (first | apply Kd.R_alloc | apply Kd.R_drewN | apply Kd.R_drew)); exact HO_288001.out) hb)
             have n4_ := Aside0.mk (Kd.N_elder' (by (with_reducible repeat (first | apply Kd.N_alloc | apply Kd.N_drewN | apply Kd.N_drew)); exact HO312.out) (Kd.N_base ho80) hb)
             have n5_ := Aside0.mk (Kd.V_elder' (by (with_reducible repeat (first | apply Kd.V_alloc | apply Kd.V_drewN | apply Kd.V_drew)); exact HO321.out) (Kd.N_base ho80) hb)
             have n6_ := Aside0.mk (Kd.V_elder' (by (with_reducible repeat (first | apply Kd.V_alloc | apply Kd.V_drewN | apply Kd.V_drew)); exact HO328.out) (Kd.N_base ho80) hb)
             have n7_ := Aside0.mk (Kd.N_lower ho80 (below_size (by repeat (first | (with_reducible first | exact HB.out | apply below_alloc | apply pw_below_drewN | apply below_drew1 | refine below_set ?_ GE273.out | refine below_set ?_ GE287.out | refine below_set ?_ GE296.out | refine below_set ?_ GE305.out) | exact HB.out))))
             have n8_ := Aside0.mk (blk_below (g := gb273) (o := .cells #[.int .u8 a2_0, .int .u8 a2_1, .int .u8 a2_2, .int .u8 a2_3, .int .u8 a2_4, .int .u8 a2_5] 41 (0, 0)) (by (with_reducible repeat (first | refine blk_drewN ?_ _ | refine blk_drew ?_ | refine blk_alloc ?_ _)); exact BK273.out) hb)
             have n9_ := Aside0.mk (blk_below (g := gb287) (o := .cells #[.slice Ao22 t281.length co22, .slice Ao25 t284.length co25] 30 (0, 0)) (by (with_reducible repeat (first | refine blk_drewN ?_ _ | refine blk_drew ?_ | refine blk_alloc ?_ _)); exact BK287.out) hb)
             have n10_ := Aside0.mk (blk_below (g := gb296) (o := .cells #[.int .i64 t288, .int .i64 t289, .string t290, .int .i64 t291, .slice Ao31 t292.length co31] 24 (0, 0)) (by (with_reducible repeat (first | refine blk_drewN ?_ _ | refine blk_drew ?_ | refine blk_alloc ?_ _)); exact BK296.out) hb)
             have n11_ := Aside0.mk (blk_below (g := gb305) (o := .cells #[.int .i64 t297, .int .i64 t298, .string t299, .int .i64 t300, .slice Ao38 t301.length co38] 24 (0, 0)) (by (with_reducible repeat (first | refine blk_drewN ?_ _ | refine blk_drew ?_ | refine blk_alloc ?_ _)); exact BK305.out) hb)
             have n12_ := Aside0.mk (below_step (by repeat (first | (with_reducible first | exact HB.out | apply below_alloc | apply pw_below_drewN | apply below_drew1 | refine below_set ?_ GE273.out | refine below_set ?_ GE287.out | refine below_set ?_ GE296.out | refine below_set ?_ GE305.out) | exact HB.out)) hb)
             clear HO_7
             clear HO_8
             clear HO_288000
             clear HO_288001
             clear HO312
             clear HO321
             clear HO328
             clear BK273
             clear BK287
             clear BK296
             clear BK305
             clear HB
             have HO_7 := n0_
             have HO_8 := n1_
             have HO_288000 := n2_
             have HO_288001 := n3_
             have HO312 := n4_
             have HO321 := n5_
             have HO328 := n6_
             have HO331 := n7_
             have BK273 := n8_
             have BK287 := n9_
             have BK296 := n10_
             have BK305 := n11_
             have HB := n12_
             clear n0_ n1_ n2_ n3_ n4_ n5_ n6_ n7_ n8_ n9_ n10_ n11_ n12_
             clear hb ho80
             obtain ⟨Ao81, co81, eo81⟩ := Kd.N_slice HO331.out
             (first | subst eo81 | (injection eo81 with f1_ f2_ f3_; have f4_ := f1_.symm; have f5_ := f3_.symm; clear f1_ f2_ f3_; subst f4_; subst f5_))
             refine hK.out _ _ ⟨(blk_cell BK287.out 0).trans rfl, (blk_cell BK287.out 1).trans rfl⟩ (fun hHeld => ?_)
             clear hK K
             refine norm_ (a' := ?_) ?_ ?_
             rotate_left
             ·show Act.put _ (some 110) _ = _
              simp only [Act.put, List.setIfInBounds_toArray, List.set_cons_zero, List.set_cons_succ, i64_w, i32_w]
              rfl
             refine pure_ (i := 4) (N := some 111) (v := ?_) (a' := ?_) #[true, true, true, true, true, true, true, true, false, false, false, false, false, false] rfl rfl (any_of HT_.out (by kernel_rfl)) (fun _ _ _ h => h) (Or.inl ⟨by rfl, ?_⟩) ?_ ?_
             rotate_left
             ·intro w'
              go_simp
              with_reducible rfl
             rotate_left
             ·simp only [Act.put, List.setIfInBounds_toArray, List.set_cons_zero, List.set_cons_succ, i64_w, i32_w]
              rfl
             refine one_ (i := 8) (N := some 115) #[true, true, true, true, true, true, true, true, true, false, false, false, false, false] rfl rfl (one_of HT_.out (by kernel_rfl)) (by decide) (fun K hK => ?_)
             refine goes_ Tryd.func10 (by kernel_rfl) rfl #[.agg #[.int .i64 3, .int .i64 0, .string (⟨#[]⟩ : ByteArray), .int .i64 0, .slice Ao81 y329.length co81], .slice Ao41 t275.length co41, .slice Ao42 t278.length co42, .agg #[.slice Ao22 t281.length co22, .slice Ao25 t284.length co25]] (by rfl) rfl rfl (by (try simp only [List.map_toArray, List.map_cons, List.map_nil]); first | done | rfl | (simp only [List.length_drop, List.length_take]; rfl)) ?_
             with_reducible refine (post_Holds.calls kj16 3 0 (⟨#[]⟩ : ByteArray) 0 _ _ y329 _ _ t275 _ _ t278 _ _ t281 _ _ t284 t332 t333 _ ?side1 ?side2 ?side3 ?side4 ?side5 ?side6 ?side7 ?side8 ?side9 ?side10 A54.out).mono ?_
             (case side1 => repeat (first | exact (Kd.N_reads' HO331.out).2.2 | (with_reducible refine Kd.C_alloc ?_ _) | (with_reducible refine Kd.C_drewN ?_ _) | (with_reducible refine Kd.C_drew ?_)))
             (case side2 => exact (Kd.N_reads' HO331.out).2.1)
             (case side3 => repeat (first | exact (Kd.R_reads' HO_7.out).2.2 | (with_reducible refine Kd.C_alloc ?_ _) | (with_reducible refine Kd.C_drewN ?_ _) | (with_reducible refine Kd.C_drew ?_)))
             (case side4 => exact (Kd.R_reads' HO_7.out).2.1)
             (case side5 => repeat (first | exact (Kd.N_reads' HO_8.out).2.2 | (with_reducible refine Kd.C_alloc ?_ _) | (with_reducible refine Kd.C_drewN ?_ _) | (with_reducible refine Kd.C_drew ?_)))
             (case side6 => exact (Kd.N_reads' HO_8.out).2.1)
             (case side7 => repeat (first | exact (Kd.N_reads' HO_288000.out).2.2 | (with_reducible refine Kd.C_alloc ?_ _) | (with_reducible refine Kd.C_drewN ?_ _) | (with_reducible refine Kd.C_drew ?_)))
             (case side8 => exact (Kd.N_reads' HO_288000.out).2.1)
             (case side9 => repeat (first | exact (Kd.R_reads' HO_288001.out).2.2 | (with_reducible refine Kd.C_alloc ?_ _) | (with_reducible refine Kd.C_drewN ?_ _) | (with_reducible refine Kd.C_drew ?_)))
             (case side10 => exact (Kd.R_reads' HO_288001.out).2.1)
             rintro e w82 ⟨rfl, hb⟩
             refine ⟨_, rfl, ?_⟩
             have n0_ := Aside0.mk (Kd.R_below (by (with_reducible repeat (first | apply Kd.R_alloc | apply Kd.R_drewN | apply Kd.R_drew)); exact HO_7.out) hb)
             have n1_ := Aside0.mk (Kd.N_below (by (with_reducible repeat (first | apply Kd.N_alloc | apply Kd.N_drewN | apply Kd.N_drew)); exact HO_8.out) hb)
             have n2_ := Aside0.mk (Kd.N_below (by (with_reducible repeat (first | apply Kd.N_alloc | apply Kd.N_drewN | apply Kd.N_drew)); exact HO_288000.out) hb)
             have n3_ := Aside0.mk (Kd.R_below (by (with_reducible repeat (first | apply Kd.R_alloc | apply Kd.R_drewN | apply Kd.R_drew)); exact HO_288001.out) hb)
             have n4_ := Aside0.mk (Kd.N_below (by (with_reducible repeat (first | apply Kd.N_alloc | apply Kd.N_drewN | apply Kd.N_drew)); exact HO312.out) hb)
             have n5_ := Aside0.mk (Kd.V_below (by (with_reducible repeat (first | apply Kd.V_alloc | apply Kd.V_drewN | apply Kd.V_drew)); exact HO321.out) hb)
             have n6_ := Aside0.mk (Kd.V_below (by (with_reducible repeat (first | apply Kd.V_alloc | apply Kd.V_drewN | apply Kd.V_drew)); exact HO328.out) hb)
             have n7_ := Aside0.mk (Kd.N_below (by (with_reducible repeat (first | apply Kd.N_alloc | apply Kd.N_drewN | apply Kd.N_drew)); exact HO331.out) hb)
             have n8_ := Aside0.mk (blk_below (g := gb273) (o := .cells #[.int .u8 a2_0, .int .u8 a2_1, .int .u8 a2_2, .int .u8 a2_3, .int .u8 a2_4, .int .u8 a2_5] 41 (0, 0)) (by (with_reducible repeat (first | refine blk_drewN ?_ _ | refine blk_drew ?_ | refine blk_alloc ?_ _)); exact BK273.out) hb)
             have n9_ := Aside0.mk (blk_below (g := gb287) (o := .cells #[.slice Ao22 t281.length co22, .slice Ao25 t284.length co25] 30 (0, 0)) (by (with_reducible repeat (first | refine blk_drewN ?_ _ | refine blk_drew ?_ | refine blk_alloc ?_ _)); exact BK287.out) hb)
             have n10_ := Aside0.mk (blk_below (g := gb296) (o := .cells #[.int .i64 t288, .int .i64 t289, .string t290, .int .i64 t291, .slice Ao31 t292.length co31] 24 (0, 0)) (by (with_reducible repeat (first | refine blk_drewN ?_ _ | refine blk_drew ?_ | refine blk_alloc ?_ _)); exact BK296.out) hb)
             have n11_ := Aside0.mk (blk_below (g := gb305) (o := .cells #[.int .i64 t297, .int .i64 t298, .string t299, .int .i64 t300, .slice Ao38 t301.length co38] 24 (0, 0)) (by (with_reducible repeat (first | refine blk_drewN ?_ _ | refine blk_drew ?_ | refine blk_alloc ?_ _)); exact BK305.out) hb)
             have n12_ := Aside0.mk (below_step (by repeat (first | (with_reducible first | exact HB.out | apply below_alloc | apply pw_below_drewN | apply below_drew1 | refine below_set ?_ GE273.out | refine below_set ?_ GE287.out | refine below_set ?_ GE296.out | refine below_set ?_ GE305.out) | exact HB.out)) hb)
             clear HO_7
             clear HO_8
             clear HO_288000
             clear HO_288001
             clear HO312
             clear HO321
             clear HO328
             clear HO331
             clear BK273
             clear BK287
             clear BK296
             clear BK305
             clear HB
             have HO_7 := n0_
             have HO_8 := n1_
             have HO_288000 := n2_
             have HO_288001 := n3_
             have HO312 := n4_
             have HO321 := n5_
             have HO328 := n6_
             have HO331 := n7_
             have BK273 := n8_
             have BK287 := n9_
             have BK296 := n10_
             have BK305 := n11_
             have HB := n12_
             clear n0_ n1_ n2_ n3_ n4_ n5_ n6_ n7_ n8_ n9_ n10_ n11_ n12_
             (try clear hb)
             (try clear hb2)
             (try clear hk)
             (try clear hi)
             refine hK.out _ _ ⟨(blk_cell BK287.out 0).trans rfl, (blk_cell BK287.out 1).trans rfl⟩ (fun hHeld => ?_)
             clear hK K
             refine norm_ (a' := ?_) ?_ ?_
             rotate_left
             ·show Act.put _ (some 115) _ = _
              simp only [Act.put, List.setIfInBounds_toArray, List.set_cons_zero, List.set_cons_succ, i64_w, i32_w]
              rfl
             refine pure_ (i := 9) (N := some 106) (v := ?_) (a' := ?_) #[true, true, true, true, true, true, true, true, true, true, false, false, false, false] rfl rfl (any_of HT_.out (by kernel_rfl)) (fun _ _ _ h => h) (Or.inl ⟨by rfl, ?_⟩) ?_ ?_
             rotate_left
             ·intro w'
              go_simp
              with_reducible rfl
             rotate_left
             ·simp only [Act.put, List.setIfInBounds_toArray, List.set_cons_zero, List.set_cons_succ, i64_w, i32_w]
              rfl
             refine pure_ (i := 10) (N := some 116) (v := ?_) (a' := ?_) #[true, true, true, true, true, true, true, true, true, true, true, false, false, false] rfl rfl (any_of HT_.out (by kernel_rfl)) (fun _ _ _ h => h) (Or.inl ⟨by rfl, ?_⟩) ?_ ?_
             rotate_left
             ·intro w'
              go_simp
              with_reducible rfl
             rotate_left
             ·simp only [Act.put, List.setIfInBounds_toArray, List.set_cons_zero, List.set_cons_succ, i64_w, i32_w]
              rfl
             refine pure_ (i := 11) (N := some 117) (v := ?_) (a' := ?_) #[true, true, true, true, true, true, true, true, true, true, true, true, false, false] rfl rfl (any_of HT_.out (by kernel_rfl)) (fun _ _ _ h => h) (Or.inl ⟨by rfl, ?_⟩) ?_ ?_
             rotate_left
             ·intro w'
              go_simp
              with_reducible rfl
             rotate_left
             ·simp only [Act.put, List.setIfInBounds_toArray, List.set_cons_zero, List.set_cons_succ, i64_w, i32_w]
              rfl
             refine pure_ (i := 12) (N := some 25) (v := ?_) (a' := ?_) #[true, true, true, true, true, true, true, true, true, true, true, true, true, false] rfl rfl (any_of HT_.out (by kernel_rfl)) (fun _ _ _ h => h) (Or.inl ⟨by rfl, ?_⟩) ?_ ?_
             rotate_left
             ·intro w'
              go_simp
              with_reducible rfl
             rotate_left
             ·simp only [Act.put, List.setIfInBounds_toArray, List.set_cons_zero, List.set_cons_succ, i64_w, i32_w]
              rfl
             refine pure_ (i := 13) (N := some 26) (v := ?_) (a' := ?_) #[true, true, true, true, true, true, true, true, true, true, true, true, true, true] rfl rfl (any_of HT_.out (by kernel_rfl)) (fun _ _ _ h => h) (Or.inl ⟨by rfl, ?_⟩) ?_ ?_
             rotate_left
             ·intro w'
              go_simp
              with_reducible rfl
             rotate_left
             ·simp only [Act.put, List.setIfInBounds_toArray, List.set_cons_zero, List.set_cons_succ, i64_w, i32_w]
              rfl
             refine done_ (done_of HT_.out (by kernel_rfl)) ?_
             try go_wp2
             ·rename_i hbad_
              have hbad2_ := c58b0
              rw [hbad_] at hbad2_
              exact absurd hbad2_ (by decide)
             go_ret
             exact ⟨by first | rfl | (simp [errW_none, errW_some] <;> rfl) | (simp [*, errW_none, errW_some] <;> rfl), by repeat (first | (with_reducible first | exact HB.out | apply below_alloc | apply pw_below_drewN | apply below_drew1 | refine below_set ?_ GE273.out | refine below_set ?_ GE287.out | refine below_set ?_ GE296.out | refine below_set ?_ GE305.out) | exact HB.out)⟩
            ·rw [if_neg c58] at H
             exact absurd H (by simp)
           ·rw [if_neg c57] at H
            exact absurd H (by simp)
          ·rw [if_neg c56] at H
           exact absurd H (by simp)
         ·replace c55 := Bool.eq_false_iff.mpr c55
          subst c55
          have H1 : (if (t313 == false) = true then (if (t315 == t308) = true then (if (t322 == (!false)) = true then (some (t332 == false)) else (none)) else (none)) else (none)) = some r := by rw [if_neg (show ¬ (false = true) by decide)] at H; exact H
          clear H
          have H := H1
          clear H1
          by_cases c83 : (t313 == false) = true
          ·rw [if_pos c83] at H
           have c83b0 : (t313 == false) = true := c83
           (try (have c83b1 : decide (t313 = false) = true := by simpa using c83))
           (try (have c83b2 : (t313 == false) = true := by simpa using c83))
           clear c83
           by_cases c84 : (t315 == t308) = true
           ·rw [if_pos c84] at H
            have c84b0 : (t315 == t308) = true := c84
            (try (have c84b1 : decide (t315 = t308) = true := by simpa using c84))
            (try (have c84b2 : (t315 == t308) = true := by simpa using c84))
            clear c84
            by_cases c85 : (t322 == (!false)) = true
            ·rw [if_pos c85] at H
             have c85b0 : (t322 == (!false)) = true := c85
             (try (have c85b1 : decide (t322 = (!false)) = true := by revert c85; cases t322 <;> cases false <;> decide)); (try (have c85b1n : t322 = (!false) := by revert c85; cases t322 <;> cases false <;> decide))
             (try (have c85b2 : (t322 == (!false)) = true := by revert c85; cases t322 <;> cases false <;> decide)); (try (have c85b2n : t322 = (!false) := by revert c85; cases t322 <;> cases false <;> decide))
             clear c85
             obtain rfl := Option.some.inj H
             have hnb86 := NB296_273.out
             have hnc86 := NB273_296.out
             have hnb87 := NB296_287.out
             have hnc87 := NB287_296.out
             have hnb88 := NB296_305.out
             have hnc88 := NB305_296.out
             have hcz89_0 : wc.cell? ⟨gb296, 0, none⟩ = some (.int .i64 t288) := (blk_cell BK296.out 0).trans rfl
             have hcz89_1 : wc.cell? ⟨gb296, 1, none⟩ = some (.int .i64 t289) := (blk_cell BK296.out 1).trans rfl
             have hcz89_2 : wc.cell? ⟨gb296, 2, none⟩ = some (.string t290) := (blk_cell BK296.out 2).trans rfl
             have hcz89_3 : wc.cell? ⟨gb296, 3, none⟩ = some (.int .i64 t291) := (blk_cell BK296.out 3).trans rfl
             have hcz89_4 : wc.cell? ⟨gb296, 4, none⟩ = some (.slice Ao31 t292.length co31) := (blk_cell BK296.out 4).trans rfl
             have hfz89_0 := blk_frozen BK296.out 0
             have hfz89_1 := blk_frozen BK296.out 1
             have hfz89_2 := blk_frozen BK296.out 2
             have hfz89_3 := blk_frozen BK296.out 3
             have hfz89_4 := blk_frozen BK296.out 4
             have hnb90 := NB305_273.out
             have hnc90 := NB273_305.out
             have hnb91 := NB305_287.out
             have hnc91 := NB287_305.out
             have hcz92_0 : wc.cell? ⟨gb305, 0, none⟩ = some (.int .i64 t297) := (blk_cell BK305.out 0).trans rfl
             have hcz92_1 : wc.cell? ⟨gb305, 1, none⟩ = some (.int .i64 t298) := (blk_cell BK305.out 1).trans rfl
             have hcz92_2 : wc.cell? ⟨gb305, 2, none⟩ = some (.string t299) := (blk_cell BK305.out 2).trans rfl
             have hcz92_3 : wc.cell? ⟨gb305, 3, none⟩ = some (.int .i64 t300) := (blk_cell BK305.out 3).trans rfl
             have hcz92_4 : wc.cell? ⟨gb305, 4, none⟩ = some (.slice Ao38 t301.length co38) := (blk_cell BK305.out 4).trans rfl
             have hfz92_0 := blk_frozen BK305.out 0
             have hfz92_1 := blk_frozen BK305.out 1
             have hfz92_2 := blk_frozen BK305.out 2
             have hfz92_3 := blk_frozen BK305.out 3
             have hfz92_4 := blk_frozen BK305.out 4
             try go_wp2_with (first | ((with_reducible refine gate_dst (N := 77) rfl ?_); (try (refine gate_guard (by rfl) ?_; dsimp only)); refine Kd.N_lit k24 _ 24 ?hg (N' := 77) ?hd (xs := ([(⟨t288, t289, t290, t291, t292⟩ : S24), (⟨t297, t298, t299, t300, t301⟩ : S24)] : List (S24))) (inner := [.int .i64 t288, .int .i64 t289, .string t290, .int .i64 t291, .slice Ao31 t292.length co31, .int .i64 t297, .int .i64 t298, .string t299, .int .i64 t300, .slice Ao38 t301.length co38]) (ok := (fun k_ => some k_ ≠ (.slice Ao41 t275.length co41 : Value).ownBlock ∧ some k_ ≠ (.slice Ao42 t278.length co42 : Value).ownBlock ∧ some k_ ≠ (.slice Ao22 t281.length co22 : Value).ownBlock ∧ some k_ ≠ (.slice Ao25 t284.length co25 : Value).ownBlock ∧ k_ ≠ gb273 ∧ k_ ≠ gb287 ∧ k_ ≠ gb296 ∧ k_ ≠ gb305)) (okp := (fun k_ => some k_ ≠ (.slice Ao41 t275.length co41 : Value).ownBlock ∧ some k_ ≠ (.slice Ao42 t278.length co42 : Value).ownBlock ∧ some k_ ≠ (.slice Ao22 t281.length co22 : Value).ownBlock ∧ some k_ ≠ (.slice Ao25 t284.length co25 : Value).ownBlock ∧ k_ ≠ gb273 ∧ k_ ≠ gb287 ∧ k_ ≠ gb296 ∧ k_ ≠ gb305)) ?hr ?hp (fun _ hk => hk) ((show ∀ k_, wc.heap.size ≤ k_ → (fun k_ => some k_ ≠ (.slice Ao41 t275.length co41 : Value).ownBlock ∧ some k_ ≠ (.slice Ao42 t278.length co42 : Value).ownBlock ∧ some k_ ≠ (.slice Ao22 t281.length co22 : Value).ownBlock ∧ some k_ ≠ (.slice Ao25 t284.length co25 : Value).ownBlock ∧ k_ ≠ gb273 ∧ k_ ≠ gb287 ∧ k_ ≠ gb296 ∧ k_ ≠ gb305) k_ from fun k_ hk => ⟨Kd.fresh' (Kd.R_lt (by (with_reducible repeat (first | apply Kd.R_alloc | apply Kd.R_drewN | apply Kd.R_drew)); exact HO_7.out)) k_ hk, Kd.fresh' (Kd.N_lt (by (with_reducible repeat (first | apply Kd.N_alloc | apply Kd.N_drewN | apply Kd.N_drew)); exact HO_8.out)) k_ hk, Kd.fresh' (Kd.N_lt (by (with_reducible repeat (first | apply Kd.N_alloc | apply Kd.N_drewN | apply Kd.N_drew)); exact HO_288000.out)) k_ hk, Kd.fresh' (Kd.R_lt (by (with_reducible repeat (first | apply Kd.R_alloc | apply Kd.R_drewN | apply Kd.R_drew)); exact HO_288001.out)) k_ hk, Kd.freshB (g := gb273) (o := .cells #[.int .u8 a2_0, .int .u8 a2_1, .int .u8 a2_2, .int .u8 a2_3, .int .u8 a2_4, .int .u8 a2_5] 41 (0, 0)) (by (with_reducible repeat (first | refine blk_drewN ?_ _ | refine blk_drew ?_ | refine blk_alloc ?_ _)); exact BK273.out) k_ hk, Kd.freshB (g := gb287) (o := .cells #[.slice Ao22 t281.length co22, .slice Ao25 t284.length co25] 30 (0, 0)) (by (with_reducible repeat (first | refine blk_drewN ?_ _ | refine blk_drew ?_ | refine blk_alloc ?_ _)); exact BK287.out) k_ hk, Kd.freshB (g := gb296) (o := .cells #[.int .i64 t288, .int .i64 t289, .string t290, .int .i64 t291, .slice Ao31 t292.length co31] 24 (0, 0)) (by (with_reducible repeat (first | refine blk_drewN ?_ _ | refine blk_drew ?_ | refine blk_alloc ?_ _)); exact BK296.out) k_ hk, Kd.freshB (g := gb305) (o := .cells #[.int .i64 t297, .int .i64 t298, .string t299, .int .i64 t300, .slice Ao38 t301.length co38] 24 (0, 0)) (by (with_reducible repeat (first | refine blk_drewN ?_ _ | refine blk_drew ?_ | refine blk_alloc ?_ _)); exact BK305.out) k_ hk⟩) _ (Nat.le_refl _)) (Below.refl _ _) (Nat.le_refl _) (by simp) ?_; (case hd => rfl); (case hg => rfl); (case hr => first | (go_simp; done) | (go_simp; rfl)); (case hp => exact (Reps.c5 (show Kd.FK k24 _ _ (⟨t288, t289, t290, t291, t292⟩ : S24) [.int .i64 t288, .int .i64 t289, .string t290, .int .i64 t291, .slice Ao31 t292.length co31] from (k24_mkF _ _ (⟨t288, t289, t290, t291, t292⟩ : S24) (Kd.N_reads' (Kd.N_mono (ok' := (fun k_ => some k_ ≠ (.slice Ao41 t275.length co41 : Value).ownBlock ∧ some k_ ≠ (.slice Ao42 t278.length co42 : Value).ownBlock ∧ some k_ ≠ (.slice Ao22 t281.length co22 : Value).ownBlock ∧ some k_ ≠ (.slice Ao25 t284.length co25 : Value).ownBlock ∧ k_ ≠ gb273 ∧ k_ ≠ gb287 ∧ k_ ≠ gb296 ∧ k_ ≠ gb305)) (HO_297004.out) (fun k_ hk => ⟨hk.1, ⟨hk.2.1, ⟨hk.2.2.1, ⟨hk.2.2.2.1, ⟨hk.2.2.2.2.2.1, ⟨hk.2.2.2.2.2.2.1, ⟨hk.2.2.2.2.2.2.2.1, hk.2.2.2.2.2.2.2.2⟩⟩⟩⟩⟩⟩⟩))).2.1 (Kd.N_F (Kd.N_mono (ok' := (fun k_ => some k_ ≠ (.slice Ao41 t275.length co41 : Value).ownBlock ∧ some k_ ≠ (.slice Ao42 t278.length co42 : Value).ownBlock ∧ some k_ ≠ (.slice Ao22 t281.length co22 : Value).ownBlock ∧ some k_ ≠ (.slice Ao25 t284.length co25 : Value).ownBlock ∧ k_ ≠ gb273 ∧ k_ ≠ gb287 ∧ k_ ≠ gb296 ∧ k_ ≠ gb305)) (HO_297004.out) (fun k_ hk => ⟨hk.1, ⟨hk.2.1, ⟨hk.2.2.1, ⟨hk.2.2.2.1, ⟨hk.2.2.2.2.2.1, ⟨hk.2.2.2.2.2.2.1, ⟨hk.2.2.2.2.2.2.2.1, hk.2.2.2.2.2.2.2.2⟩⟩⟩⟩⟩⟩⟩))))) (Reps.c5 (show Kd.FK k24 _ _ (⟨t297, t298, t299, t300, t301⟩ : S24) [.int .i64 t297, .int .i64 t298, .string t299, .int .i64 t300, .slice Ao38 t301.length co38] from (k24_mkF _ _ (⟨t297, t298, t299, t300, t301⟩ : S24) (Kd.N_reads' (Kd.N_mono (ok' := (fun k_ => some k_ ≠ (.slice Ao41 t275.length co41 : Value).ownBlock ∧ some k_ ≠ (.slice Ao42 t278.length co42 : Value).ownBlock ∧ some k_ ≠ (.slice Ao22 t281.length co22 : Value).ownBlock ∧ some k_ ≠ (.slice Ao25 t284.length co25 : Value).ownBlock ∧ k_ ≠ gb273 ∧ k_ ≠ gb287 ∧ k_ ≠ gb296 ∧ k_ ≠ gb305)) (HO_306004.out) (fun k_ hk => ⟨hk.1, ⟨hk.2.1, ⟨hk.2.2.1, ⟨hk.2.2.2.1, ⟨hk.2.2.2.2.2.1, ⟨hk.2.2.2.2.2.2.1, ⟨hk.2.2.2.2.2.2.2.1, hk.2.2.2.2.2.2.2.2⟩⟩⟩⟩⟩⟩⟩))).2.1 (Kd.N_F (Kd.N_mono (ok' := (fun k_ => some k_ ≠ (.slice Ao41 t275.length co41 : Value).ownBlock ∧ some k_ ≠ (.slice Ao42 t278.length co42 : Value).ownBlock ∧ some k_ ≠ (.slice Ao22 t281.length co22 : Value).ownBlock ∧ some k_ ≠ (.slice Ao25 t284.length co25 : Value).ownBlock ∧ k_ ≠ gb273 ∧ k_ ≠ gb287 ∧ k_ ≠ gb296 ∧ k_ ≠ gb305)) (HO_306004.out) (fun k_ hk => ⟨hk.1, ⟨hk.2.1, ⟨hk.2.2.1, ⟨hk.2.2.2.1, ⟨hk.2.2.2.2.2.1, ⟨hk.2.2.2.2.2.2.1, ⟨hk.2.2.2.2.2.2.2.1, hk.2.2.2.2.2.2.2.2⟩⟩⟩⟩⟩⟩⟩))))) (Reps.none _ _)))); intro v311 w93 ho94 hb hg_ hnew_; clear hg_ hnew_; (first | rw [← Ny310.out] at ho94 | (simp only [Int.reduceToNat] at ho94; rw [← Ny310.out] at ho94)); have n0_ := Aside0.mk (Kd.R_below (by (with_reducible repeat (first | apply Kd.R_alloc | apply Kd.R_drewN | apply Kd.R_drew)); exact HO_7.out) hb); have n1_ := Aside0.mk (Kd.N_elder' (by (with_reducible repeat (first | apply Kd.N_alloc | apply Kd.N_drewN | apply Kd.N_drew)); exact HO_8.out) (Kd.N_base ho94) hb); have n2_ := Aside0.mk (Kd.N_elder' (by (with_reducible repeat (first | apply Kd.N_alloc | apply Kd.N_drewN | apply Kd.N_drew)); exact HO_288000.out) (Kd.N_base ho94) hb); have n3_ := Aside0.mk (Kd.R_below (by (with_reducible repeat (first | apply Kd.R_alloc | apply Kd.R_drewN | apply Kd.R_drew)); exact HO_288001.out) hb); have n4_ := Aside0.mk (Kd.N_lower ho94 (below_size (by repeat (first | (with_reducible first | exact HB.out | apply below_alloc | apply pw_below_drewN | apply below_drew1 | refine below_set ?_ GE273.out | refine below_set ?_ GE287.out | refine below_set ?_ GE296.out | refine below_set ?_ GE305.out) | exact HB.out)))); have n5_ := Aside0.mk (blk_below (g := gb273) (o := .cells #[.int .u8 a2_0, .int .u8 a2_1, .int .u8 a2_2, .int .u8 a2_3, .int .u8 a2_4, .int .u8 a2_5] 41 (0, 0)) (by (with_reducible repeat (first | refine blk_drewN ?_ _ | refine blk_drew ?_ | refine blk_alloc ?_ _)); exact BK273.out) hb); have n6_ := Aside0.mk (blk_below (g := gb287) (o := .cells #[.slice Ao22 t281.length co22, .slice Ao25 t284.length co25] 30 (0, 0)) (by (with_reducible repeat (first | refine blk_drewN ?_ _ | refine blk_drew ?_ | refine blk_alloc ?_ _)); exact BK287.out) hb); have n7_ := Aside0.mk (blk_below (g := gb296) (o := .cells #[.int .i64 t288, .int .i64 t289, .string t290, .int .i64 t291, .slice Ao31 t292.length co31] 24 (0, 0)) (by (with_reducible repeat (first | refine blk_drewN ?_ _ | refine blk_drew ?_ | refine blk_alloc ?_ _)); exact BK296.out) hb); have n8_ := Aside0.mk (blk_below (g := gb305) (o := .cells #[.int .i64 t297, .int .i64 t298, .string t299, .int .i64 t300, .slice Ao38 t301.length co38] 24 (0, 0)) (by (with_reducible repeat (first | refine blk_drewN ?_ _ | refine blk_drew ?_ | refine blk_alloc ?_ _)); exact BK305.out) hb); have n9_ := Aside0.mk (below_step (by repeat (first | (with_reducible first | exact HB.out | apply below_alloc | apply pw_below_drewN | apply below_drew1 | refine below_set ?_ GE273.out | refine below_set ?_ GE287.out | refine below_set ?_ GE296.out | refine below_set ?_ GE305.out) | exact HB.out)) hb); clear HO_7; clear HO_8; clear HO_288000; clear HO_288001; clear BK273; clear BK287; clear BK296; clear BK305; clear HB; clear HO_297004; clear HO_306004; have HO_7 := n0_; have HO_8 := n1_; have HO_288000 := n2_; have HO_288001 := n3_; have HO312 := n4_; have BK273 := n5_; have BK287 := n6_; have BK296 := n7_; have BK305 := n8_; have HB := n9_; clear n0_ n1_ n2_ n3_ n4_ n5_ n6_ n7_ n8_ n9_; clear hb ho94; obtain ⟨Ao95, co95, eo95⟩ := Kd.N_slice HO312.out; subst eo95; have hnb96 := NB287_273.out; have hnc96 := NB273_287.out; have hcz97_0 : w93.cell? ⟨gb287, 0, none⟩ = some (.slice Ao22 t281.length co22) := (blk_cell BK287.out 0).trans rfl; have hcz97_1 : w93.cell? ⟨gb287, 1, none⟩ = some (.slice Ao25 t284.length co25) := (blk_cell BK287.out 1).trans rfl; have hfz97_0 := blk_frozen BK287.out 0; have hfz97_1 := blk_frozen BK287.out 1) | ((with_reducible refine gate_callee (f := 10) rfl ?_); refine goesL_ (some 84) rfl rfl Tryd.func10 (by kernel_rfl) rfl #[.agg #[.int .i64 4, .int .i64 0, .string (⟨#[]⟩ : ByteArray), .int .i64 0, .slice Ao95 y310.length co95], .slice Ao41 t275.length co41, .slice Ao42 t278.length co42, .agg #[.slice Ao22 t281.length co22, .slice Ao25 t284.length co25]] rfl (by (try simp only [List.map_toArray, List.map_cons, List.map_nil]); first | done | rfl | (simp only [List.length_drop, List.length_take]; rfl)) ?_; (with_reducible refine (post_Holds.calls kj16 4 0 (⟨#[]⟩ : ByteArray) 0 _ _ y310 _ _ t275 _ _ t278 _ _ t281 _ _ t284 t313 t314 _ ?side1 ?side2 ?side3 ?side4 ?side5 ?side6 ?side7 ?side8 ?side9 ?side10 A49.out).mono ?_); (case side1 => repeat (first | exact (Kd.N_reads' HO312.out).2.2 | (with_reducible refine Kd.C_alloc ?_ _) | (with_reducible refine Kd.C_drewN ?_ _) | (with_reducible refine Kd.C_drew ?_))); (case side2 => exact (Kd.N_reads' HO312.out).2.1); (case side3 => repeat (first | exact (Kd.R_reads' HO_7.out).2.2 | (with_reducible refine Kd.C_alloc ?_ _) | (with_reducible refine Kd.C_drewN ?_ _) | (with_reducible refine Kd.C_drew ?_))); (case side4 => exact (Kd.R_reads' HO_7.out).2.1); (case side5 => repeat (first | exact (Kd.N_reads' HO_8.out).2.2 | (with_reducible refine Kd.C_alloc ?_ _) | (with_reducible refine Kd.C_drewN ?_ _) | (with_reducible refine Kd.C_drew ?_))); (case side6 => exact (Kd.N_reads' HO_8.out).2.1); (case side7 => repeat (first | exact (Kd.N_reads' HO_288000.out).2.2 | (with_reducible refine Kd.C_alloc ?_ _) | (with_reducible refine Kd.C_drewN ?_ _) | (with_reducible refine Kd.C_drew ?_))); (case side8 => exact (Kd.N_reads' HO_288000.out).2.1); (case side9 => repeat (first | exact (Kd.R_reads' HO_288001.out).2.2 | (with_reducible refine Kd.C_alloc ?_ _) | (with_reducible refine Kd.C_drewN ?_ _) | (with_reducible refine Kd.C_drew ?_))); (case side10 => exact (Kd.R_reads' HO_288001.out).2.1); rintro e w98 ⟨rfl, hb⟩; refine ⟨_, rfl, ?_⟩; have n0_ := Aside0.mk (Kd.R_below (by (with_reducible repeat (first | apply Kd.R_alloc | apply Kd.R_drewN | apply Kd.R_drew)); exact HO_7.out) hb); have n1_ := Aside0.mk (Kd.N_below (by (with_reducible repeat (first | apply Kd.N_alloc | apply Kd.N_drewN | apply Kd.N_drew)); exact HO_8.out) hb); have n2_ := Aside0.mk (Kd.N_below (by (with_reducible repeat (first | apply Kd.N_alloc | apply Kd.N_drewN | apply Kd.N_drew)); exact HO_288000.out) hb); have n3_ := Aside0.mk (Kd.R_below (by (with_reducible repeat (first | apply Kd.R_alloc | apply Kd.R_drewN | apply Kd.R_drew)); exact HO_288001.out) hb); have n4_ := Aside0.mk (Kd.N_below (by (with_reducible repeat (first | apply Kd.N_alloc | apply Kd.N_drewN | apply Kd.N_drew)); exact HO312.out) hb); have n5_ := Aside0.mk (blk_below (g := gb273) (o := .cells #[.int .u8 a2_0, .int .u8 a2_1, .int .u8 a2_2, .int .u8 a2_3, .int .u8 a2_4, .int .u8 a2_5] 41 (0, 0)) (by (with_reducible repeat (first | refine blk_drewN ?_ _ | refine blk_drew ?_ | refine blk_alloc ?_ _)); exact BK273.out) hb); have n6_ := Aside0.mk (blk_below (g := gb287) (o := .cells #[.slice Ao22 t281.length co22, .slice Ao25 t284.length co25] 30 (0, 0)) (by (with_reducible repeat (first | refine blk_drewN ?_ _ | refine blk_drew ?_ | refine blk_alloc ?_ _)); exact BK287.out) hb); have n7_ := Aside0.mk (blk_below (g := gb296) (o := .cells #[.int .i64 t288, .int .i64 t289, .string t290, .int .i64 t291, .slice Ao31 t292.length co31] 24 (0, 0)) (by (with_reducible repeat (first | refine blk_drewN ?_ _ | refine blk_drew ?_ | refine blk_alloc ?_ _)); exact BK296.out) hb); have n8_ := Aside0.mk (blk_below (g := gb305) (o := .cells #[.int .i64 t297, .int .i64 t298, .string t299, .int .i64 t300, .slice Ao38 t301.length co38] 24 (0, 0)) (by (with_reducible repeat (first | refine blk_drewN ?_ _ | refine blk_drew ?_ | refine blk_alloc ?_ _)); exact BK305.out) hb); have n9_ := Aside0.mk (below_step (by repeat (first | (with_reducible first | exact HB.out | apply below_alloc | apply pw_below_drewN | apply below_drew1 | refine below_set ?_ GE273.out | refine below_set ?_ GE287.out | refine below_set ?_ GE296.out | refine below_set ?_ GE305.out) | exact HB.out)) hb); clear HO_7; clear HO_8; clear HO_288000; clear HO_288001; clear HO312; clear BK273; clear BK287; clear BK296; clear BK305; clear HB; have HO_7 := n0_; have HO_8 := n1_; have HO_288000 := n2_; have HO_288001 := n3_; have HO312 := n4_; have BK273 := n5_; have BK287 := n6_; have BK296 := n7_; have BK305 := n8_; have HB := n9_; clear n0_ n1_ n2_ n3_ n4_ n5_ n6_ n7_ n8_ n9_; (try clear hb); (try clear hb2); (try clear hk); (try clear hi); have hcz99_0 : w98.cell? ⟨gb287, 0, none⟩ = some (.slice Ao22 t281.length co22) := (blk_cell BK287.out 0).trans rfl; have hcz99_1 : w98.cell? ⟨gb287, 1, none⟩ = some (.slice Ao25 t284.length co25) := (blk_cell BK287.out 1).trans rfl; have hfz99_0 := blk_frozen BK287.out 0; have hfz99_1 := blk_frozen BK287.out 1) | ((with_reducible refine gate_callee (f := 10) rfl ?_); refine goesL_ (some 93) rfl rfl Tryd.func10 (by kernel_rfl) rfl #[.agg #[.int .i64 5, .int .i64 0, .string (⟨#[]⟩ : ByteArray), .int .i64 0, .slice Ao95 y310.length co95], .slice Ao41 t275.length co41, .slice Ao42 t278.length co42, .agg #[.slice Ao22 t281.length co22, .slice Ao25 t284.length co25]] rfl (by (try simp only [List.map_toArray, List.map_cons, List.map_nil]); first | done | rfl | (simp only [List.length_drop, List.length_take]; rfl)) ?_; (with_reducible refine (post_Holds.calls kj16 5 0 (⟨#[]⟩ : ByteArray) 0 _ _ y310 _ _ t275 _ _ t278 _ _ t281 _ _ t284 t315 t316 _ ?side1 ?side2 ?side3 ?side4 ?side5 ?side6 ?side7 ?side8 ?side9 ?side10 A50.out).mono ?_); (case side1 => repeat (first | exact (Kd.N_reads' HO312.out).2.2 | (with_reducible refine Kd.C_alloc ?_ _) | (with_reducible refine Kd.C_drewN ?_ _) | (with_reducible refine Kd.C_drew ?_))); (case side2 => exact (Kd.N_reads' HO312.out).2.1); (case side3 => repeat (first | exact (Kd.R_reads' HO_7.out).2.2 | (with_reducible refine Kd.C_alloc ?_ _) | (with_reducible refine Kd.C_drewN ?_ _) | (with_reducible refine Kd.C_drew ?_))); (case side4 => exact (Kd.R_reads' HO_7.out).2.1); (case side5 => repeat (first | exact (Kd.N_reads' HO_8.out).2.2 | (with_reducible refine Kd.C_alloc ?_ _) | (with_reducible refine Kd.C_drewN ?_ _) | (with_reducible refine Kd.C_drew ?_))); (case side6 => exact (Kd.N_reads' HO_8.out).2.1); (case side7 => repeat (first | exact (Kd.N_reads' HO_288000.out).2.2 | (with_reducible refine Kd.C_alloc ?_ _) | (with_reducible refine Kd.C_drewN ?_ _) | (with_reducible refine Kd.C_drew ?_))); (case side8 => exact (Kd.N_reads' HO_288000.out).2.1); (case side9 => repeat (first | exact (Kd.R_reads' HO_288001.out).2.2 | (with_reducible refine Kd.C_alloc ?_ _) | (with_reducible refine Kd.C_drewN ?_ _) | (with_reducible refine Kd.C_drew ?_))); (case side10 => exact (Kd.R_reads' HO_288001.out).2.1); rintro e w100 ⟨rfl, hb⟩; refine ⟨_, rfl, ?_⟩; have n0_ := Aside0.mk (Kd.R_below (by (with_reducible repeat (first | apply Kd.R_alloc | apply Kd.R_drewN | apply Kd.R_drew)); exact HO_7.out) hb); have n1_ := Aside0.mk (Kd.N_below (by (with_reducible repeat (first | apply Kd.N_alloc | apply Kd.N_drewN | apply Kd.N_drew)); exact HO_8.out) hb); have n2_ := Aside0.mk (Kd.N_below (by (with_reducible repeat (first | apply Kd.N_alloc | apply Kd.N_drewN | apply Kd.N_drew)); exact HO_288000.out) hb); have n3_ := Aside0.mk (Kd.R_below (by (with_reducible repeat (first | apply Kd.R_alloc | apply Kd.R_drewN | apply Kd.R_drew)); exact HO_288001.out) hb); have n4_ := Aside0.mk (Kd.N_below (by (with_reducible repeat (first | apply Kd.N_alloc | apply Kd.N_drewN | apply Kd.N_drew)); exact HO312.out) hb); have n5_ := Aside0.mk (blk_below (g := gb273) (o := .cells #[.int .u8 a2_0, .int .u8 a2_1, .int .u8 a2_2, .int .u8 a2_3, .int .u8 a2_4, .int .u8 a2_5] 41 (0, 0)) (by (with_reducible repeat (first | refine blk_drewN ?_ _ | refine blk_drew ?_ | refine blk_alloc ?_ _)); exact BK273.out) hb); have n6_ := Aside0.mk (blk_below (g := gb287) (o := .cells #[.slice Ao22 t281.length co22, .slice Ao25 t284.length co25] 30 (0, 0)) (by (with_reducible repeat (first | refine blk_drewN ?_ _ | refine blk_drew ?_ | refine blk_alloc ?_ _)); exact BK287.out) hb); have n7_ := Aside0.mk (blk_below (g := gb296) (o := .cells #[.int .i64 t288, .int .i64 t289, .string t290, .int .i64 t291, .slice Ao31 t292.length co31] 24 (0, 0)) (by (with_reducible repeat (first | refine blk_drewN ?_ _ | refine blk_drew ?_ | refine blk_alloc ?_ _)); exact BK296.out) hb); have n8_ := Aside0.mk (blk_below (g := gb305) (o := .cells #[.int .i64 t297, .int .i64 t298, .string t299, .int .i64 t300, .slice Ao38 t301.length co38] 24 (0, 0)) (by (with_reducible repeat (first | refine blk_drewN ?_ _ | refine blk_drew ?_ | refine blk_alloc ?_ _)); exact BK305.out) hb); have n9_ := Aside0.mk (below_step (by repeat (first | (with_reducible first | exact HB.out | apply below_alloc | apply pw_below_drewN | apply below_drew1 | refine below_set ?_ GE273.out | refine below_set ?_ GE287.out | refine below_set ?_ GE296.out | refine below_set ?_ GE305.out) | exact HB.out)) hb); clear HO_7; clear HO_8; clear HO_288000; clear HO_288001; clear HO312; clear BK273; clear BK287; clear BK296; clear BK305; clear HB; have HO_7 := n0_; have HO_8 := n1_; have HO_288000 := n2_; have HO_288001 := n3_; have HO312 := n4_; have BK273 := n5_; have BK287 := n6_; have BK296 := n7_; have BK305 := n8_; have HB := n9_; clear n0_ n1_ n2_ n3_ n4_ n5_ n6_ n7_ n8_ n9_; (try clear hb); (try clear hb2); (try clear hk); (try clear hi)))
             have n0_ := Aside0.mk (Kd.R_drew HO_7.out)
             have n1_ := Aside0.mk (Kd.N_drew HO_8.out)
             have n2_ := Aside0.mk (Kd.N_drew HO_288000.out)
             have n3_ := Aside0.mk (Kd.R_drew HO_288001.out)
             have n4_ := Aside0.mk (Kd.N_drew HO312.out)
             have n5_ := Aside0.mk (blk_drew BK273.out)
             have n6_ := Aside0.mk (blk_drew BK287.out)
             have n7_ := Aside0.mk (blk_drew BK296.out)
             have n8_ := Aside0.mk (blk_drew BK305.out)
             have n9_ := Aside0.mk (below_drew1 HB.out)
             clear HO_7
             clear HO_8
             clear HO_288000
             clear HO_288001
             clear HO312
             clear BK273
             clear BK287
             clear BK296
             clear BK305
             clear HB
             have HO_7 := n0_
             have HO_8 := n1_
             have HO_288000 := n2_
             have HO_288001 := n3_
             have HO312 := n4_
             have BK273 := n5_
             have BK287 := n6_
             have BK296 := n7_
             have BK305 := n8_
             have HB := n9_
             clear n0_ n1_ n2_ n3_ n4_ n5_ n6_ n7_ n8_ n9_
             have q102 : (1 : Int) ≤ ((y310.length : Int) : Int) := of_decide_eq_true (by first | (with_reducible assumption) | assumption)
             obtain ⟨i0102, hi0102, _, hsz102, _⟩ := info_parts info24
             have hroom102 : y310.length ≤ co95 := (Kd.N_reads' HO312.out).2.1
             have hC102 : Kd.F k24 _ _ Ao95 y310.length y310 := (Kd.V_at (base := w.heap.size) (Kd.N_V HO312.out)).2.2
             have hcut102 := cut_to (P := Tryd.prog) 22 24 .i64 Tryd.underlying22 hi0102 Ao95 y310.length co95 1 (by omega) q102 hroom102
             have hr102 := Kd.F_take (m := 1) hC102 (by omega)
             have hy102 : y317.length = (1 : Int).toNat := (by rw [Ny317.out, List.length_take]; omega)
             rw [← Ny317.out] at hr102
             rw [← hy102] at hcut102
             have HO321 := Aside0.mk (show Kd.V k24 24 _ w.heap.size _ (.slice Ao95 y317.length co95) y317 from Kd.V_mk (by omega) hr102)
             have HC321 := Aside0.mk (show y317.length ≤ co95 from by omega)
             clear hr102 hC102 hroom102 hi0102 hsz102
             have KY102 := Aside0.mk hy102
             clear hy102
             replace q102 := eq_true q102
             refine start_ (n := 12) (S := fun w' => w'.cell? ⟨gb287, 0, none⟩ = some (.slice Ao22 t281.length co22) ∧ w'.cell? ⟨gb287, 1, none⟩ = some (.slice Ao25 t284.length co25)) (ds := []) #[false, false, false, false, false, false, false, false, false, false, false, false] (by kernel_rfl) rfl rfl ⟨(blk_cell BK287.out 0).trans rfl, (blk_cell BK287.out 1).trans rfl⟩ (fun hHeld => ?_); refine with_tabW withelaw11_PostRules.tab16 withelaw11_PostRules.bits16 (fun HT_ HW_ => ?_)
             generalize w100.drew = w101 at HO_7 HO_8 HO_288000 HO_288001 HO312 BK273 BK287 BK296 BK305 HB HO321 hHeld ⊢
             refine pure_ (i := 0) (N := some 97) (v := ?_) (a' := ?_) #[true, false, false, false, false, false, false, false, false, false, false, false] rfl rfl (any_of HT_.out (by kernel_rfl)) (fun _ _ _ h => h) (Or.inl ⟨by rfl, ?_⟩) ?_ ?_
             rotate_left
             ·intro w'
              go_simp
              with_reducible rfl
             rotate_left
             ·simp only [Act.put, List.setIfInBounds_toArray, List.set_cons_zero, List.set_cons_succ, i64_w, i32_w]
              rfl
             refine pure_ (i := 1) (N := some 98) (v := ?_) (a' := ?_) #[true, true, false, false, false, false, false, false, false, false, false, false] rfl rfl (any_of HT_.out (by kernel_rfl)) (fun _ _ _ h => h) (Or.inl ⟨by rfl, ?_⟩) ?_ ?_
             rotate_left
             ·intro w'
              go_simp
              with_reducible rfl
             rotate_left
             ·simp only [Act.put, List.setIfInBounds_toArray, List.set_cons_zero, List.set_cons_succ, i64_w, i32_w]
              rfl
             refine pure_ (i := 2) (N := some 99) (v := ?_) (a' := ?_) #[true, true, true, false, false, false, false, false, false, false, false, false] rfl rfl (any_of HT_.out (by kernel_rfl)) (fun _ _ _ h => h) (Or.inl ⟨by rfl, ?_⟩) ?_ ?_
             rotate_left
             ·intro w'
              go_simp
              with_reducible rfl
             rotate_left
             ·simp only [Act.put, List.setIfInBounds_toArray, List.set_cons_zero, List.set_cons_succ, i64_w, i32_w]
              rfl
             refine pure_ (i := 3) (N := some 100) (v := ?_) (a' := ?_) #[true, true, true, true, false, false, false, false, false, false, false, false] rfl rfl (any_of HT_.out (by kernel_rfl)) (fun _ _ _ h => h) (Or.inl ⟨by rfl, ?_⟩) ?_ ?_
             rotate_left
             ·intro w'
              go_simp
              with_reducible rfl
             rotate_left
             ·simp only [Act.put, List.setIfInBounds_toArray, List.set_cons_zero, List.set_cons_succ, i64_w, i32_w]
              rfl
             refine pure_ (i := 4) (N := some 101) (v := ?_) (a' := ?_) #[true, true, true, true, true, false, false, false, false, false, false, false] rfl rfl (any_of HT_.out (by kernel_rfl)) (fun _ _ _ h => h) (Or.inl ⟨by rfl, ?_⟩) ?_ ?_
             rotate_left
             ·intro w'
              go_simp
              with_reducible rfl
             rotate_left
             ·simp only [Act.put, List.setIfInBounds_toArray, List.set_cons_zero, List.set_cons_succ, i64_w, i32_w]
              rfl
             refine take_ (i := 5) (N := some 102) (v := ?_) (a' := ?_) #[true, true, true, true, true, true, false, false, false, false, false, false] rfl rfl (take_ofW HT_.out HW_.out (by kernel_rfl)) (fun _ _ _ h => h) (Or.inl ⟨by rfl, ?_⟩) hHeld ?_ ?_
             rotate_left
             ·rintro w' ⟨s0, s1⟩
              go_simp
              with_reducible rfl
             rotate_left
             ·simp only [Act.put, List.setIfInBounds_toArray, List.set_cons_zero, List.set_cons_succ, i64_w, i32_w]
              rfl
             refine one_ (i := 6) (N := some 103) #[true, true, true, true, true, true, true, false, false, false, false, false] rfl rfl (one_of HT_.out (by kernel_rfl)) (by decide) (fun K hK => ?_)
             refine goes_ Tryd.func10 (by kernel_rfl) rfl #[.agg #[.int .i64 3, .int .i64 0, .string (⟨#[]⟩ : ByteArray), .int .i64 0, .slice Ao95 y317.length co95], .slice Ao41 t275.length co41, .slice Ao42 t278.length co42, .agg #[.slice Ao22 t281.length co22, .slice Ao25 t284.length co25]] (by rfl) rfl rfl (by (try simp only [List.map_toArray, List.map_cons, List.map_nil]); first | done | rfl | (simp only [List.length_drop, List.length_take]; rfl)) ?_
             with_reducible refine (post_Holds.calls kj16 3 0 (⟨#[]⟩ : ByteArray) 0 _ _ y317 _ _ t275 _ _ t278 _ _ t281 _ _ t284 t322 t323 _ ?side1 ?side2 ?side3 ?side4 ?side5 ?side6 ?side7 ?side8 ?side9 ?side10 A52.out).mono ?_
             (case side1 => repeat (first | exact (Kd.V_reads' HO321.out).2.2 | (with_reducible refine Kd.C_alloc ?_ _) | (with_reducible refine Kd.C_drewN ?_ _) | (with_reducible refine Kd.C_drew ?_)))
             (case side2 => exact (Kd.V_reads' HO321.out).2.1)
             (case side3 => repeat (first | exact (Kd.R_reads' HO_7.out).2.2 | (with_reducible refine Kd.C_alloc ?_ _) | (with_reducible refine Kd.C_drewN ?_ _) | (with_reducible refine Kd.C_drew ?_)))
             (case side4 => exact (Kd.R_reads' HO_7.out).2.1)
             (case side5 => repeat (first | exact (Kd.N_reads' HO_8.out).2.2 | (with_reducible refine Kd.C_alloc ?_ _) | (with_reducible refine Kd.C_drewN ?_ _) | (with_reducible refine Kd.C_drew ?_)))
             (case side6 => exact (Kd.N_reads' HO_8.out).2.1)
             (case side7 => repeat (first | exact (Kd.N_reads' HO_288000.out).2.2 | (with_reducible refine Kd.C_alloc ?_ _) | (with_reducible refine Kd.C_drewN ?_ _) | (with_reducible refine Kd.C_drew ?_)))
             (case side8 => exact (Kd.N_reads' HO_288000.out).2.1)
             (case side9 => repeat (first | exact (Kd.R_reads' HO_288001.out).2.2 | (with_reducible refine Kd.C_alloc ?_ _) | (with_reducible refine Kd.C_drewN ?_ _) | (with_reducible refine Kd.C_drew ?_)))
             (case side10 => exact (Kd.R_reads' HO_288001.out).2.1)
             rintro e w103 ⟨rfl, hb⟩
             refine ⟨_, rfl, ?_⟩
             have n0_ := Aside0.mk (Kd.R_below (by (with_reducible repeat (first | apply Kd.R_alloc | apply Kd.R_drewN | apply Kd.R_drew)); exact HO_7.out) hb)
             have n1_ := Aside0.mk (Kd.N_below (by (with_reducible repeat (first | apply Kd.N_alloc | apply Kd.N_drewN | apply Kd.N_drew)); exact HO_8.out) hb)
             have n2_ := Aside0.mk (Kd.N_below (by (with_reducible repeat (first | apply Kd.N_alloc | apply Kd.N_drewN | apply Kd.N_drew)); exact HO_288000.out) hb)
             have n3_ := Aside0.mk (Kd.R_below (by (with_reducible repeat (first | apply Kd.R_alloc | apply Kd.R_drewN | apply Kd.R_drew)); exact HO_288001.out) hb)
             have n4_ := Aside0.mk (Kd.N_below (by (with_reducible repeat (first | apply Kd.N_alloc | apply Kd.N_drewN | apply Kd.N_drew)); exact HO312.out) hb)
             have n5_ := Aside0.mk (Kd.V_below (by (with_reducible repeat (first | apply Kd.V_alloc | apply Kd.V_drewN | apply Kd.V_drew)); exact HO321.out) hb)
             have n6_ := Aside0.mk (blk_below (g := gb273) (o := .cells #[.int .u8 a2_0, .int .u8 a2_1, .int .u8 a2_2, .int .u8 a2_3, .int .u8 a2_4, .int .u8 a2_5] 41 (0, 0)) (by (with_reducible repeat (first | refine blk_drewN ?_ _ | refine blk_drew ?_ | refine blk_alloc ?_ _)); exact BK273.out) hb)
             have n7_ := Aside0.mk (blk_below (g := gb287) (o := .cells #[.slice Ao22 t281.length co22, .slice Ao25 t284.length co25] 30 (0, 0)) (by (with_reducible repeat (first | refine blk_drewN ?_ _ | refine blk_drew ?_ | refine blk_alloc ?_ _)); exact BK287.out) hb)
             have n8_ := Aside0.mk (blk_below (g := gb296) (o := .cells #[.int .i64 t288, .int .i64 t289, .string t290, .int .i64 t291, .slice Ao31 t292.length co31] 24 (0, 0)) (by (with_reducible repeat (first | refine blk_drewN ?_ _ | refine blk_drew ?_ | refine blk_alloc ?_ _)); exact BK296.out) hb)
             have n9_ := Aside0.mk (blk_below (g := gb305) (o := .cells #[.int .i64 t297, .int .i64 t298, .string t299, .int .i64 t300, .slice Ao38 t301.length co38] 24 (0, 0)) (by (with_reducible repeat (first | refine blk_drewN ?_ _ | refine blk_drew ?_ | refine blk_alloc ?_ _)); exact BK305.out) hb)
             have n10_ := Aside0.mk (below_step (by repeat (first | (with_reducible first | exact HB.out | apply below_alloc | apply pw_below_drewN | apply below_drew1 | refine below_set ?_ GE273.out | refine below_set ?_ GE287.out | refine below_set ?_ GE296.out | refine below_set ?_ GE305.out) | exact HB.out)) hb)
             clear HO_7
             clear HO_8
             clear HO_288000
             clear HO_288001
             clear HO312
             clear HO321
             clear BK273
             clear BK287
             clear BK296
             clear BK305
             clear HB
             have HO_7 := n0_
             have HO_8 := n1_
             have HO_288000 := n2_
             have HO_288001 := n3_
             have HO312 := n4_
             have HO321 := n5_
             have BK273 := n6_
             have BK287 := n7_
             have BK296 := n8_
             have BK305 := n9_
             have HB := n10_
             clear n0_ n1_ n2_ n3_ n4_ n5_ n6_ n7_ n8_ n9_ n10_
             (try clear hb)
             (try clear hb2)
             (try clear hk)
             (try clear hi)
             refine hK.out _ _ ⟨(blk_cell BK287.out 0).trans rfl, (blk_cell BK287.out 1).trans rfl⟩ (fun hHeld => ?_)
             clear hK K
             refine norm_ (a' := ?_) ?_ ?_
             rotate_left
             ·show Act.put _ (some 103) _ = _
              simp only [Act.put, List.setIfInBounds_toArray, List.set_cons_zero, List.set_cons_succ, i64_w, i32_w]
              rfl
             refine pure_ (i := 7) (N := some 96) (v := ?_) (a' := ?_) #[true, true, true, true, true, true, true, true, false, false, false, false] rfl rfl (any_of HT_.out (by kernel_rfl)) (fun _ _ _ h => h) (Or.inl ⟨by rfl, ?_⟩) ?_ ?_
             rotate_left
             ·intro w'
              go_simp
              with_reducible rfl
             rotate_left
             ·simp only [Act.put, List.setIfInBounds_toArray, List.set_cons_zero, List.set_cons_succ, i64_w, i32_w]
              rfl
             refine pure_ (i := 8) (N := some 104) (v := ?_) (a' := ?_) #[true, true, true, true, true, true, true, true, true, false, false, false] rfl rfl (any_of HT_.out (by kernel_rfl)) (fun _ _ _ h => h) (Or.inl ⟨by rfl, ?_⟩) ?_ ?_
             rotate_left
             ·intro w'
              go_simp
              with_reducible rfl
             rotate_left
             ·simp only [Act.put, List.setIfInBounds_toArray, List.set_cons_zero, List.set_cons_succ, i64_w, i32_w]
              rfl
             refine pure_ (i := 9) (N := some 105) (v := ?_) (a' := ?_) #[true, true, true, true, true, true, true, true, true, true, false, false] rfl rfl (any_of HT_.out (by kernel_rfl)) (fun _ _ _ h => h) (Or.inl ⟨by rfl, ?_⟩) ?_ ?_
             rotate_left
             ·intro w'
              go_simp
              with_reducible rfl
             rotate_left
             ·simp only [Act.put, List.setIfInBounds_toArray, List.set_cons_zero, List.set_cons_succ, i64_w, i32_w]
              rfl
             refine pure_ (i := 10) (N := some 23) (v := ?_) (a' := ?_) #[true, true, true, true, true, true, true, true, true, true, true, false] rfl rfl (any_of HT_.out (by kernel_rfl)) (fun _ _ _ h => h) (Or.inl ⟨by rfl, ?_⟩) ?_ ?_
             rotate_left
             ·intro w'
              go_simp
              with_reducible rfl
             rotate_left
             ·simp only [Act.put, List.setIfInBounds_toArray, List.set_cons_zero, List.set_cons_succ, i64_w, i32_w]
              rfl
             refine pure_ (i := 11) (N := some 24) (v := ?_) (a' := ?_) #[true, true, true, true, true, true, true, true, true, true, true, true] rfl rfl (any_of HT_.out (by kernel_rfl)) (fun _ _ _ h => h) (Or.inl ⟨by rfl, ?_⟩) ?_ ?_
             rotate_left
             ·intro w'
              go_simp
              with_reducible rfl
             rotate_left
             ·simp only [Act.put, List.setIfInBounds_toArray, List.set_cons_zero, List.set_cons_succ, i64_w, i32_w]
              rfl
             refine done_ (done_of HT_.out (by kernel_rfl)) ?_
             try go_wp2
             have n0_ := Aside0.mk (Kd.R_drew HO_7.out)
             have n1_ := Aside0.mk (Kd.N_drew HO_8.out)
             have n2_ := Aside0.mk (Kd.N_drew HO_288000.out)
             have n3_ := Aside0.mk (Kd.R_drew HO_288001.out)
             have n4_ := Aside0.mk (Kd.N_drew HO312.out)
             have n5_ := Aside0.mk (Kd.V_drew HO321.out)
             have n6_ := Aside0.mk (blk_drew BK273.out)
             have n7_ := Aside0.mk (blk_drew BK287.out)
             have n8_ := Aside0.mk (blk_drew BK296.out)
             have n9_ := Aside0.mk (blk_drew BK305.out)
             have n10_ := Aside0.mk (below_drew1 HB.out)
             clear HO_7
             clear HO_8
             clear HO_288000
             clear HO_288001
             clear HO312
             clear HO321
             clear BK273
             clear BK287
             clear BK296
             clear BK305
             clear HB
             have HO_7 := n0_
             have HO_8 := n1_
             have HO_288000 := n2_
             have HO_288001 := n3_
             have HO312 := n4_
             have HO321 := n5_
             have BK273 := n6_
             have BK287 := n7_
             have BK296 := n8_
             have BK305 := n9_
             have HB := n10_
             clear n0_ n1_ n2_ n3_ n4_ n5_ n6_ n7_ n8_ n9_ n10_
             have q105 : (1 : Int) ≤ ((y310.length : Int) : Int) := of_decide_eq_true (by first | (with_reducible assumption) | assumption)
             obtain ⟨i0105, hi0105, _, hsz105, _⟩ := info_parts info24
             have hroom105 : y310.length ≤ co95 := (Kd.N_reads' HO312.out).2.1
             have hC105 : Kd.F k24 _ _ Ao95 y310.length y310 := (Kd.V_at (base := w.heap.size) (Kd.N_V HO312.out)).2.2
             have hcut105 := cut_to (P := Tryd.prog) 22 24 .i64 Tryd.underlying22 hi0105 Ao95 y310.length co95 1 (by omega) q105 hroom105
             have hr105 := Kd.F_take (m := 1) hC105 (by omega)
             have hy105 : y317.length = (1 : Int).toNat := (by rw [Ny317.out, List.length_take]; omega)
             rw [← Ny317.out] at hr105
             rw [← hy105] at hcut105
             have HO328 := Aside0.mk (show Kd.V k24 24 _ w.heap.size _ (.slice Ao95 y317.length co95) y317 from Kd.V_mk (by omega) hr105)
             have HC328 := Aside0.mk (show y317.length ≤ co95 from by omega)
             clear hr105 hC105 hroom105 hi0105 hsz105
             have KY105 := Aside0.mk hy105
             clear hy105
             replace q105 := eq_true q105
             refine start_ (n := 14) (S := fun w' => w'.cell? ⟨gb287, 0, none⟩ = some (.slice Ao22 t281.length co22) ∧ w'.cell? ⟨gb287, 1, none⟩ = some (.slice Ao25 t284.length co25)) (ds := []) #[false, false, false, false, false, false, false, false, false, false, false, false, false, false] (by kernel_rfl) rfl rfl ⟨(blk_cell BK287.out 0).trans rfl, (blk_cell BK287.out 1).trans rfl⟩ (fun hHeld => ?_); refine with_tabW withelaw11_PostRules.tab17 withelaw11_PostRules.bits17 (fun HT_ HW_ => ?_)
             generalize w103.drew = w104 at HO_7 HO_8 HO_288000 HO_288001 HO312 HO321 BK273 BK287 BK296 BK305 HB HO328 hHeld ⊢
             refine pure_ (i := 0) (N := some 107) (v := ?_) (a' := ?_) #[true, false, false, false, false, false, false, false, false, false, false, false, false, false] rfl rfl (any_of HT_.out (by kernel_rfl)) (fun _ _ _ h => h) (Or.inl ⟨by rfl, ?_⟩) ?_ ?_
             rotate_left
             ·intro w'
              go_simp
              with_reducible rfl
             rotate_left
             ·simp only [Act.put, List.setIfInBounds_toArray, List.set_cons_zero, List.set_cons_succ, i64_w, i32_w]
              rfl
             refine pure_ (i := 1) (N := some 108) (v := ?_) (a' := ?_) #[true, true, false, false, false, false, false, false, false, false, false, false, false, false] rfl rfl (any_of HT_.out (by kernel_rfl)) (fun _ _ _ h => h) (Or.inl ⟨by rfl, ?_⟩) ?_ ?_
             rotate_left
             ·intro w'
              go_simp
              with_reducible rfl
             rotate_left
             ·simp only [Act.put, List.setIfInBounds_toArray, List.set_cons_zero, List.set_cons_succ, i64_w, i32_w]
              rfl
             refine pure_ (i := 2) (N := some 109) (v := ?_) (a' := ?_) #[true, true, true, false, false, false, false, false, false, false, false, false, false, false] rfl rfl (any_of HT_.out (by kernel_rfl)) (fun _ _ _ h => h) (Or.inl ⟨by rfl, ?_⟩) ?_ ?_
             rotate_left
             ·intro w'
              go_simp
              with_reducible rfl
             rotate_left
             ·simp only [Act.put, List.setIfInBounds_toArray, List.set_cons_zero, List.set_cons_succ, i64_w, i32_w]
              rfl
             refine pure_ (i := 5) (N := some 112) (v := ?_) (a' := ?_) #[true, true, true, false, false, true, false, false, false, false, false, false, false, false] rfl rfl (any_of HT_.out (by kernel_rfl)) (fun _ _ _ h => h) (Or.inl ⟨by rfl, ?_⟩) ?_ ?_
             rotate_left
             ·intro w'
              go_simp
              with_reducible rfl
             rotate_left
             ·simp only [Act.put, List.setIfInBounds_toArray, List.set_cons_zero, List.set_cons_succ, i64_w, i32_w]
              rfl
             refine pure_ (i := 6) (N := some 113) (v := ?_) (a' := ?_) #[true, true, true, false, false, true, true, false, false, false, false, false, false, false] rfl rfl (any_of HT_.out (by kernel_rfl)) (fun _ _ _ h => h) (Or.inl ⟨by rfl, ?_⟩) ?_ ?_
             rotate_left
             ·intro w'
              go_simp
              with_reducible rfl
             rotate_left
             ·simp only [Act.put, List.setIfInBounds_toArray, List.set_cons_zero, List.set_cons_succ, i64_w, i32_w]
              rfl
             refine take_ (i := 7) (N := some 114) (v := ?_) (a' := ?_) #[true, true, true, false, false, true, true, true, false, false, false, false, false, false] rfl rfl (take_ofW HT_.out HW_.out (by kernel_rfl)) (fun _ _ _ h => h) (Or.inl ⟨by rfl, ?_⟩) hHeld ?_ ?_
             rotate_left
             ·rintro w' ⟨s0, s1⟩
              go_simp
              with_reducible rfl
             rotate_left
             ·simp only [Act.put, List.setIfInBounds_toArray, List.set_cons_zero, List.set_cons_succ, i64_w, i32_w]
              rfl
             refine one_ (i := 3) (N := some 110) #[true, true, true, true, false, true, true, true, false, false, false, false, false, false] rfl rfl (one_of HT_.out (by kernel_rfl)) (by decide) (fun K hK => ?_)
             refine Kd.N_lit_step k24 _ 24 ?hg (N' := 110) ?hd (xs := ([(⟨3, 0, (⟨#[]⟩ : ByteArray), 0, y317⟩ : S24)] : List (S24))) (inner := [.int .i64 3, .int .i64 0, .string (⟨#[]⟩ : ByteArray), .int .i64 0, .slice Ao95 y317.length co95]) (ok := (fun k_ => some k_ ≠ (.slice Ao41 t275.length co41 : Value).ownBlock ∧ some k_ ≠ (.slice Ao42 t278.length co42 : Value).ownBlock ∧ some k_ ≠ (.slice Ao22 t281.length co22 : Value).ownBlock ∧ some k_ ≠ (.slice Ao25 t284.length co25 : Value).ownBlock ∧ k_ ≠ gb273 ∧ k_ ≠ gb287 ∧ k_ ≠ gb296 ∧ k_ ≠ gb305)) (okp := (fun k_ => some k_ ≠ (.slice Ao41 t275.length co41 : Value).ownBlock ∧ some k_ ≠ (.slice Ao42 t278.length co42 : Value).ownBlock ∧ some k_ ≠ (.slice Ao22 t281.length co22 : Value).ownBlock ∧ some k_ ≠ (.slice Ao25 t284.length co25 : Value).ownBlock ∧ k_ ≠ gb273 ∧ k_ ≠ gb287 ∧ k_ ≠ gb296 ∧ k_ ≠ gb305)) ?hr ?hp (fun _ hk => hk) ((show ∀ k_, w104.heap.size ≤ k_ → (fun k_ => some k_ ≠ (.slice Ao41 t275.length co41 : Value).ownBlock ∧ some k_ ≠ (.slice Ao42 t278.length co42 : Value).ownBlock ∧ some k_ ≠ (.slice Ao22 t281.length co22 : Value).ownBlock ∧ some k_ ≠ (.slice Ao25 t284.length co25 : Value).ownBlock ∧ k_ ≠ gb273 ∧ k_ ≠ gb287 ∧ k_ ≠ gb296 ∧ k_ ≠ gb305) k_ from fun k_ hk => ⟨Kd.fresh' (Kd.R_lt (by (with_reducible repeat (first | apply Kd.R_alloc | apply Kd.R_drewN | apply Kd.R_drew)); exact HO_7.out)) k_ hk, Kd.fresh' (Kd.N_lt (by (with_reducible repeat (first | apply Kd.N_alloc | apply Kd.N_drewN | apply Kd.N_drew)); exact HO_8.out)) k_ hk, Kd.fresh' (Kd.N_lt (by (with_reducible repeat (first | apply Kd.N_alloc | apply Kd.N_drewN | apply Kd.N_drew)); exact HO_288000.out)) k_ hk, Kd.fresh' (Kd.R_lt (by (with_reducible repeat (first | apply Kd.R_alloc | apply Kd.R_drewN | apply Kd.R_drew)); exact HO_288001.out)) k_ hk, Kd.freshB (g := gb273) (o := .cells #[.int .u8 a2_0, .int .u8 a2_1, .int .u8 a2_2, .int .u8 a2_3, .int .u8 a2_4, .int .u8 a2_5] 41 (0, 0)) (by (with_reducible repeat (first | refine blk_drewN ?_ _ | refine blk_drew ?_ | refine blk_alloc ?_ _)); exact BK273.out) k_ hk, Kd.freshB (g := gb287) (o := .cells #[.slice Ao22 t281.length co22, .slice Ao25 t284.length co25] 30 (0, 0)) (by (with_reducible repeat (first | refine blk_drewN ?_ _ | refine blk_drew ?_ | refine blk_alloc ?_ _)); exact BK287.out) k_ hk, Kd.freshB (g := gb296) (o := .cells #[.int .i64 t288, .int .i64 t289, .string t290, .int .i64 t291, .slice Ao31 t292.length co31] 24 (0, 0)) (by (with_reducible repeat (first | refine blk_drewN ?_ _ | refine blk_drew ?_ | refine blk_alloc ?_ _)); exact BK296.out) k_ hk, Kd.freshB (g := gb305) (o := .cells #[.int .i64 t297, .int .i64 t298, .string t299, .int .i64 t300, .slice Ao38 t301.length co38] 24 (0, 0)) (by (with_reducible repeat (first | refine blk_drewN ?_ _ | refine blk_drew ?_ | refine blk_alloc ?_ _)); exact BK305.out) k_ hk⟩) _ (Nat.le_refl _)) (Below.refl _ _) (Nat.le_refl _) (by simp) ?_; (case hd => rfl); (case hg => rfl); (case hr => first | (go_simp; done) | (go_simp; rfl)); (case hp => exact (Reps.c5 (show Kd.FK k24 _ _ (⟨3, 0, (⟨#[]⟩ : ByteArray), 0, y317⟩ : S24) [.int .i64 3, .int .i64 0, .string (⟨#[]⟩ : ByteArray), .int .i64 0, .slice Ao95 y317.length co95] from (k24_mkF _ _ (⟨3, 0, (⟨#[]⟩ : ByteArray), 0, y317⟩ : S24) (Kd.V_reads' (Kd.V_mono (ok' := (fun k_ => some k_ ≠ (.slice Ao41 t275.length co41 : Value).ownBlock ∧ some k_ ≠ (.slice Ao42 t278.length co42 : Value).ownBlock ∧ some k_ ≠ (.slice Ao22 t281.length co22 : Value).ownBlock ∧ some k_ ≠ (.slice Ao25 t284.length co25 : Value).ownBlock ∧ k_ ≠ gb273 ∧ k_ ≠ gb287 ∧ k_ ≠ gb296 ∧ k_ ≠ gb305)) (HO328.out) (fun k_ hk => ⟨hk.1, ⟨hk.2.1, ⟨hk.2.2.1, ⟨hk.2.2.2.1, ⟨hk.2.2.2.2.1, ⟨hk.2.2.2.2.2.1, ⟨hk.2.2.2.2.2.2.1, hk.2.2.2.2.2.2.2⟩⟩⟩⟩⟩⟩⟩))).2.1 (Kd.V_F (Kd.V_mono (ok' := (fun k_ => some k_ ≠ (.slice Ao41 t275.length co41 : Value).ownBlock ∧ some k_ ≠ (.slice Ao42 t278.length co42 : Value).ownBlock ∧ some k_ ≠ (.slice Ao22 t281.length co22 : Value).ownBlock ∧ some k_ ≠ (.slice Ao25 t284.length co25 : Value).ownBlock ∧ k_ ≠ gb273 ∧ k_ ≠ gb287 ∧ k_ ≠ gb296 ∧ k_ ≠ gb305)) (HO328.out) (fun k_ hk => ⟨hk.1, ⟨hk.2.1, ⟨hk.2.2.1, ⟨hk.2.2.2.1, ⟨hk.2.2.2.2.1, ⟨hk.2.2.2.2.2.1, ⟨hk.2.2.2.2.2.2.1, hk.2.2.2.2.2.2.2⟩⟩⟩⟩⟩⟩⟩))))) (Reps.none _ _)))
             intro v330 w106 ho107 hb hg_ hnew_
             clear hg_ hnew_
             (first | rw [← Ny329.out] at ho107 | (simp only [Int.reduceToNat] at ho107; rw [← Ny329.out] at ho107))
             have n0_ := Aside0.mk (Kd.R_below (by (with_reducible repeat (first | apply Kd.R_alloc | apply Kd.R_drewN | apply Kd.R_drew)); exact HO_7.out) hb)
             have n1_ := Aside0.mk (Kd.N_elder' (by (with_reducible repeat (first | apply Kd.N_alloc | apply Kd.N_drewN | apply Kd.N_drew)); exact HO_8.out) (Kd.N_base ho107) hb)
             have n2_ := Aside0.mk (Kd.N_elder' (by (with_reducible repeat (first | apply Kd.N_alloc | apply Kd.N_drewN | apply Kd.N_drew)); exact HO_288000.out) (Kd.N_base ho107) hb)
             have n3_ := Aside0.mk (Kd.R_below (by (with_reducible repeat (first | apply Kd.R_alloc | apply Kd.R_drewN | apply Kd.R_drew)); exact HO_288001.out) hb)
             have n4_ := Aside0.mk (Kd.N_elder' (by (with_reducible repeat (first | apply Kd.N_alloc | apply Kd.N_drewN | apply Kd.N_drew)); exact HO312.out) (Kd.N_base ho107) hb)
             have n5_ := Aside0.mk (Kd.V_elder' (by (with_reducible repeat (first | apply Kd.V_alloc | apply Kd.V_drewN | apply Kd.V_drew)); exact HO321.out) (Kd.N_base ho107) hb)
             have n6_ := Aside0.mk (Kd.V_elder' (by (with_reducible repeat (first | apply Kd.V_alloc | apply Kd.V_drewN | apply Kd.V_drew)); exact HO328.out) (Kd.N_base ho107) hb)
             have n7_ := Aside0.mk (Kd.N_lower ho107 (below_size (by repeat (first | (with_reducible first | exact HB.out | apply below_alloc | apply pw_below_drewN | apply below_drew1 | refine below_set ?_ GE273.out | refine below_set ?_ GE287.out | refine below_set ?_ GE296.out | refine below_set ?_ GE305.out) | exact HB.out))))
             have n8_ := Aside0.mk (blk_below (g := gb273) (o := .cells #[.int .u8 a2_0, .int .u8 a2_1, .int .u8 a2_2, .int .u8 a2_3, .int .u8 a2_4, .int .u8 a2_5] 41 (0, 0)) (by (with_reducible repeat (first | refine blk_drewN ?_ _ | refine blk_drew ?_ | refine blk_alloc ?_ _)); exact BK273.out) hb)
             have n9_ := Aside0.mk (blk_below (g := gb287) (o := .cells #[.slice Ao22 t281.length co22, .slice Ao25 t284.length co25] 30 (0, 0)) (by (with_reducible repeat (first | refine blk_drewN ?_ _ | refine blk_drew ?_ | refine blk_alloc ?_ _)); exact BK287.out) hb)
             have n10_ := Aside0.mk (blk_below (g := gb296) (o := .cells #[.int .i64 t288, .int .i64 t289, .string t290, .int .i64 t291, .slice Ao31 t292.length co31] 24 (0, 0)) (by (with_reducible repeat (first | refine blk_drewN ?_ _ | refine blk_drew ?_ | refine blk_alloc ?_ _)); exact BK296.out) hb)
             have n11_ := Aside0.mk (blk_below (g := gb305) (o := .cells #[.int .i64 t297, .int .i64 t298, .string t299, .int .i64 t300, .slice Ao38 t301.length co38] 24 (0, 0)) (by (with_reducible repeat (first | refine blk_drewN ?_ _ | refine blk_drew ?_ | refine blk_alloc ?_ _)); exact BK305.out) hb)
             have n12_ := Aside0.mk (below_step (by repeat (first | (with_reducible first | exact HB.out | apply below_alloc | apply pw_below_drewN | apply below_drew1 | refine below_set ?_ GE273.out | refine below_set ?_ GE287.out | refine below_set ?_ GE296.out | refine below_set ?_ GE305.out) | exact HB.out)) hb)
             clear HO_7
             clear HO_8
             clear HO_288000
             clear HO_288001
             clear HO312
             clear HO321
             clear HO328
             clear BK273
             clear BK287
             clear BK296
             clear BK305
             clear HB
             have HO_7 := n0_
             have HO_8 := n1_
             have HO_288000 := n2_
             have HO_288001 := n3_
             have HO312 := n4_
             have HO321 := n5_
             have HO328 := n6_
             have HO331 := n7_
             have BK273 := n8_
             have BK287 := n9_
             have BK296 := n10_
             have BK305 := n11_
             have HB := n12_
             clear n0_ n1_ n2_ n3_ n4_ n5_ n6_ n7_ n8_ n9_ n10_ n11_ n12_
             clear hb ho107
             obtain ⟨Ao108, co108, eo108⟩ := Kd.N_slice HO331.out
             (first | subst eo108 | (injection eo108 with f1_ f2_ f3_; have f4_ := f1_.symm; have f5_ := f3_.symm; clear f1_ f2_ f3_; subst f4_; subst f5_))
             refine hK.out _ _ ⟨(blk_cell BK287.out 0).trans rfl, (blk_cell BK287.out 1).trans rfl⟩ (fun hHeld => ?_)
             clear hK K
             refine norm_ (a' := ?_) ?_ ?_
             rotate_left
             ·show Act.put _ (some 110) _ = _
              simp only [Act.put, List.setIfInBounds_toArray, List.set_cons_zero, List.set_cons_succ, i64_w, i32_w]
              rfl
             refine pure_ (i := 4) (N := some 111) (v := ?_) (a' := ?_) #[true, true, true, true, true, true, true, true, false, false, false, false, false, false] rfl rfl (any_of HT_.out (by kernel_rfl)) (fun _ _ _ h => h) (Or.inl ⟨by rfl, ?_⟩) ?_ ?_
             rotate_left
             ·intro w'
              go_simp
              with_reducible rfl
             rotate_left
             ·simp only [Act.put, List.setIfInBounds_toArray, List.set_cons_zero, List.set_cons_succ, i64_w, i32_w]
              rfl
             refine one_ (i := 8) (N := some 115) #[true, true, true, true, true, true, true, true, true, false, false, false, false, false] rfl rfl (one_of HT_.out (by kernel_rfl)) (by decide) (fun K hK => ?_)
             refine goes_ Tryd.func10 (by kernel_rfl) rfl #[.agg #[.int .i64 3, .int .i64 0, .string (⟨#[]⟩ : ByteArray), .int .i64 0, .slice Ao108 y329.length co108], .slice Ao41 t275.length co41, .slice Ao42 t278.length co42, .agg #[.slice Ao22 t281.length co22, .slice Ao25 t284.length co25]] (by rfl) rfl rfl (by (try simp only [List.map_toArray, List.map_cons, List.map_nil]); first | done | rfl | (simp only [List.length_drop, List.length_take]; rfl)) ?_
             with_reducible refine (post_Holds.calls kj16 3 0 (⟨#[]⟩ : ByteArray) 0 _ _ y329 _ _ t275 _ _ t278 _ _ t281 _ _ t284 t332 t333 _ ?side1 ?side2 ?side3 ?side4 ?side5 ?side6 ?side7 ?side8 ?side9 ?side10 A54.out).mono ?_
             (case side1 => repeat (first | exact (Kd.N_reads' HO331.out).2.2 | (with_reducible refine Kd.C_alloc ?_ _) | (with_reducible refine Kd.C_drewN ?_ _) | (with_reducible refine Kd.C_drew ?_)))
             (case side2 => exact (Kd.N_reads' HO331.out).2.1)
             (case side3 => repeat (first | exact (Kd.R_reads' HO_7.out).2.2 | (with_reducible refine Kd.C_alloc ?_ _) | (with_reducible refine Kd.C_drewN ?_ _) | (with_reducible refine Kd.C_drew ?_)))
             (case side4 => exact (Kd.R_reads' HO_7.out).2.1)
             (case side5 => repeat (first | exact (Kd.N_reads' HO_8.out).2.2 | (with_reducible refine Kd.C_alloc ?_ _) | (with_reducible refine Kd.C_drewN ?_ _) | (with_reducible refine Kd.C_drew ?_)))
             (case side6 => exact (Kd.N_reads' HO_8.out).2.1)
             (case side7 => repeat (first | exact (Kd.N_reads' HO_288000.out).2.2 | (with_reducible refine Kd.C_alloc ?_ _) | (with_reducible refine Kd.C_drewN ?_ _) | (with_reducible refine Kd.C_drew ?_)))
             (case side8 => exact (Kd.N_reads' HO_288000.out).2.1)
             (case side9 => repeat (first | exact (Kd.R_reads' HO_288001.out).2.2 | (with_reducible refine Kd.C_alloc ?_ _) | (with_reducible refine Kd.C_drewN ?_ _) | (with_reducible refine Kd.C_drew ?_)))
             (case side10 => exact (Kd.R_reads' HO_288001.out).2.1)
             rintro e w109 ⟨rfl, hb⟩
             refine ⟨_, rfl, ?_⟩
             have n0_ := Aside0.mk (Kd.R_below (by (with_reducible repeat (first | apply Kd.R_alloc | apply Kd.R_drewN | apply Kd.R_drew)); exact HO_7.out) hb)
             have n1_ := Aside0.mk (Kd.N_below (by (with_reducible repeat (first | apply Kd.N_alloc | apply Kd.N_drewN | apply Kd.N_drew)); exact HO_8.out) hb)
             have n2_ := Aside0.mk (Kd.N_below (by (with_reducible repeat (first | apply Kd.N_alloc | apply Kd.N_drewN | apply Kd.N_drew)); exact HO_288000.out) hb)
             have n3_ := Aside0.mk (Kd.R_below (by (with_reducible repeat (first | apply Kd.R_alloc | apply Kd.R_drewN | apply Kd.R_drew)); exact HO_288001.out) hb)
             have n4_ := Aside0.mk (Kd.N_below (by (with_reducible repeat (first | apply Kd.N_alloc | apply Kd.N_drewN | apply Kd.N_drew)); exact HO312.out) hb)
             have n5_ := Aside0.mk (Kd.V_below (by (with_reducible repeat (first | apply Kd.V_alloc | apply Kd.V_drewN | apply Kd.V_drew)); exact HO321.out) hb)
             have n6_ := Aside0.mk (Kd.V_below (by (with_reducible repeat (first | apply Kd.V_alloc | apply Kd.V_drewN | apply Kd.V_drew)); exact HO328.out) hb)
             have n7_ := Aside0.mk (Kd.N_below (by (with_reducible repeat (first | apply Kd.N_alloc | apply Kd.N_drewN | apply Kd.N_drew)); exact HO331.out) hb)
             have n8_ := Aside0.mk (blk_below (g := gb273) (o := .cells #[.int .u8 a2_0, .int .u8 a2_1, .int .u8 a2_2, .int .u8 a2_3, .int .u8 a2_4, .int .u8 a2_5] 41 (0, 0)) (by (with_reducible repeat (first | refine blk_drewN ?_ _ | refine blk_drew ?_ | refine blk_alloc ?_ _)); exact BK273.out) hb)
             have n9_ := Aside0.mk (blk_below (g := gb287) (o := .cells #[.slice Ao22 t281.length co22, .slice Ao25 t284.length co25] 30 (0, 0)) (by (with_reducible repeat (first | refine blk_drewN ?_ _ | refine blk_drew ?_ | refine blk_alloc ?_ _)); exact BK287.out) hb)
             have n10_ := Aside0.mk (blk_below (g := gb296) (o := .cells #[.int .i64 t288, .int .i64 t289, .string t290, .int .i64 t291, .slice Ao31 t292.length co31] 24 (0, 0)) (by (with_reducible repeat (first | refine blk_drewN ?_ _ | refine blk_drew ?_ | refine blk_alloc ?_ _)); exact BK296.out) hb)
             have n11_ := Aside0.mk (blk_below (g := gb305) (o := .cells #[.int .i64 t297, .int .i64 t298, .string t299, .int .i64 t300, .slice Ao38 t301.length co38] 24 (0, 0)) (by (with_reducible repeat (first | refine blk_drewN ?_ _ | refine blk_drew ?_ | refine blk_alloc ?_ _)); exact BK305.out) hb)
             have n12_ := Aside0.mk (below_step (by repeat (first | (with_reducible first | exact HB.out | apply below_alloc | apply pw_below_drewN | apply below_drew1 | refine below_set ?_ GE273.out | refine below_set ?_ GE287.out | refine below_set ?_ GE296.out | refine below_set ?_ GE305.out) | exact HB.out)) hb)
             clear HO_7
             clear HO_8
             clear HO_288000
             clear HO_288001
             clear HO312
             clear HO321
             clear HO328
             clear HO331
             clear BK273
             clear BK287
             clear BK296
             clear BK305
             clear HB
             have HO_7 := n0_
             have HO_8 := n1_
             have HO_288000 := n2_
             have HO_288001 := n3_
             have HO312 := n4_
             have HO321 := n5_
             have HO328 := n6_
             have HO331 := n7_
             have BK273 := n8_
             have BK287 := n9_
             have BK296 := n10_
             have BK305 := n11_
             have HB := n12_
             clear n0_ n1_ n2_ n3_ n4_ n5_ n6_ n7_ n8_ n9_ n10_ n11_ n12_
             (try clear hb)
             (try clear hb2)
             (try clear hk)
             (try clear hi)
             refine hK.out _ _ ⟨(blk_cell BK287.out 0).trans rfl, (blk_cell BK287.out 1).trans rfl⟩ (fun hHeld => ?_)
             clear hK K
             refine norm_ (a' := ?_) ?_ ?_
             rotate_left
             ·show Act.put _ (some 115) _ = _
              simp only [Act.put, List.setIfInBounds_toArray, List.set_cons_zero, List.set_cons_succ, i64_w, i32_w]
              rfl
             refine pure_ (i := 9) (N := some 106) (v := ?_) (a' := ?_) #[true, true, true, true, true, true, true, true, true, true, false, false, false, false] rfl rfl (any_of HT_.out (by kernel_rfl)) (fun _ _ _ h => h) (Or.inl ⟨by rfl, ?_⟩) ?_ ?_
             rotate_left
             ·intro w'
              go_simp
              with_reducible rfl
             rotate_left
             ·simp only [Act.put, List.setIfInBounds_toArray, List.set_cons_zero, List.set_cons_succ, i64_w, i32_w]
              rfl
             refine pure_ (i := 10) (N := some 116) (v := ?_) (a' := ?_) #[true, true, true, true, true, true, true, true, true, true, true, false, false, false] rfl rfl (any_of HT_.out (by kernel_rfl)) (fun _ _ _ h => h) (Or.inl ⟨by rfl, ?_⟩) ?_ ?_
             rotate_left
             ·intro w'
              go_simp
              with_reducible rfl
             rotate_left
             ·simp only [Act.put, List.setIfInBounds_toArray, List.set_cons_zero, List.set_cons_succ, i64_w, i32_w]
              rfl
             refine pure_ (i := 11) (N := some 117) (v := ?_) (a' := ?_) #[true, true, true, true, true, true, true, true, true, true, true, true, false, false] rfl rfl (any_of HT_.out (by kernel_rfl)) (fun _ _ _ h => h) (Or.inl ⟨by rfl, ?_⟩) ?_ ?_
             rotate_left
             ·intro w'
              go_simp
              with_reducible rfl
             rotate_left
             ·simp only [Act.put, List.setIfInBounds_toArray, List.set_cons_zero, List.set_cons_succ, i64_w, i32_w]
              rfl
             refine pure_ (i := 12) (N := some 25) (v := ?_) (a' := ?_) #[true, true, true, true, true, true, true, true, true, true, true, true, true, false] rfl rfl (any_of HT_.out (by kernel_rfl)) (fun _ _ _ h => h) (Or.inl ⟨by rfl, ?_⟩) ?_ ?_
             rotate_left
             ·intro w'
              go_simp
              with_reducible rfl
             rotate_left
             ·simp only [Act.put, List.setIfInBounds_toArray, List.set_cons_zero, List.set_cons_succ, i64_w, i32_w]
              rfl
             refine pure_ (i := 13) (N := some 26) (v := ?_) (a' := ?_) #[true, true, true, true, true, true, true, true, true, true, true, true, true, true] rfl rfl (any_of HT_.out (by kernel_rfl)) (fun _ _ _ h => h) (Or.inl ⟨by rfl, ?_⟩) ?_ ?_
             rotate_left
             ·intro w'
              go_simp
              with_reducible rfl
             rotate_left
             ·simp only [Act.put, List.setIfInBounds_toArray, List.set_cons_zero, List.set_cons_succ, i64_w, i32_w]
              rfl
             refine done_ (done_of HT_.out (by kernel_rfl)) ?_
             try go_wp2
             go_ret
             exact ⟨by first | rfl | (simp [errW_none, errW_some] <;> rfl) | (simp [*, errW_none, errW_some] <;> rfl), by repeat (first | (with_reducible first | exact HB.out | apply below_alloc | apply pw_below_drewN | apply below_drew1 | refine below_set ?_ GE273.out | refine below_set ?_ GE287.out | refine below_set ?_ GE296.out | refine below_set ?_ GE305.out) | exact HB.out)⟩
            ·rw [if_neg c85] at H
             exact absurd H (by simp)
           ·rw [if_neg c84] at H
            exact absurd H (by simp)
          ·rw [if_neg c83] at H
           exact absurd H (by simp)
        ·rw [if_neg c51] at H
         exact absurd H (by simp)
 ·replace c5 := Bool.eq_false_iff.mpr c5
  subst c5
  have H1 : (none) = some r := by rw [if_neg (show ¬ (false = true) by decide)] at H; exact H
  clear H
  have H := H1
  clear H1
  exact absurd H (by simp)

end Go.Proofs.YtbgcmbnnkigjjaaDoor.PR
