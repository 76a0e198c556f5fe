-- made by fvprint.py over the kit's print
import Derived.Test.YtcehnbneiabaaaaDoorPRx0
import Derived.Test.YtcehnbneiabaaaaDoorPRx2
import Derived.Test.YtcehnbneiabaaaaDoorPRx3
import Derived.Test.YtcehnbneiabaaaaDoorPRx4
import Derived.Test.YtcehnbneiabaaaaDoorPRx6
import Derived.Test.YtcehnbneiabaaaaDoorPRx7
import Derived.Test.YtcehnbneiabaaaaDoorPRx8
import Derived.Test.YtcehnbneiabaaaaDoorPRx9
import Derived.Test.YtcehnbneiabaaaaDoorPRx12
import Derived.Test.YtcehnbneiabaaaaDoorPRx20
namespace Go.Proofs.YtcehnbneiabaaaaDoor.PR
open Go.RowKit Go.Proofs.YtcehnbneiabaaaaDoorW.PrintWords Go.Proofs.YtcehnbneiabaaaaDoorW.PrintLast Go.Proofs.YtcehnbneiabaaaaDoorW.PrintMore
attribute [local go_sem] max2_int min2_int max_two min_two max_three min_three max_four min_four   -- for this text's walks alone
set_option linter.unusedVariables false
set_option linter.unusedSimpArgs false

attribute [local go_sem] cell_set_some
/-! ### withelaw2_RelSets: function 7 -/
mutual
def withelaw2_RelSets.j0 : Nat → List Int → List Int → Int → Int → Bool → Option (Bool)
  | 0, _, _, _, _, _ => none
  | k + 1, x0, x1, x2, x3, x30 => if x30 = true then (some true) else ((withelaw2_some.f k x0 x2).bind fun t518 => ((withelaw2_some.f k x1 x2).bind fun t521 => ((rel_Or.f k t518 t521).bind fun t524 => ((rel_And.f k t518 t521).bind fun t527 => ((rel_Less.f k t518 t521).bind fun t530 => ((rel_Keep.f k t518 x3).bind fun t533 => ((rel_Back.f k t518).bind fun t536 => (withelaw2_RelSets.l0 k x3 t518 t521 t524 t527 t530 t533 t536 0))))))))
def withelaw2_RelSets.l0 : Nat → Int → List Int → List Int → List Int → List Int → List Int → List Int → List Int → Int → Option (Bool)
  | 0, _, _, _, _, _, _, _, _, _ => none
  | k + 1, x3, x9, x10, x11, x12, x13, x14, x15, x16 => if x16 < (x9.length : Int) then (withelaw2_RelSets.l1 k x3 x9 x10 x11 x12 x13 x14 x15 x16 0) else ((rel_Count.f k x11).bind fun t550 => ((rel_Count.f k x12).bind fun t551 => ((rel_Count.f k x9).bind fun t552 => ((rel_Count.f k x10).bind fun t553 => (if (wrap64 (t550 + t551)) = (wrap64 (t552 + t553)) then ((rel_Or.f k x13 x12).bind fun t554 => ((rel_Same.f k t554 x9).bind fun t557 => (if t557 = true then ((rel_May.f k x11).bind fun t558 => (some t558)) else (none)))) else (none))))))
def withelaw2_RelSets.l1 : Nat → Int → List Int → List Int → List Int → List Int → List Int → List Int → List Int → Int → Int → Option (Bool)
  | 0, _, _, _, _, _, _, _, _, _, _ => none
  | k + 1, x3, x9, x10, x11, x12, x13, x14, x15, x16, x17 => if x17 < (x9.length : Int) then ((rel_Has.f k x9 x16 x17).bind fun t539 => ((rel_Has.f k x10 x16 x17).bind fun t540 => (if 0 ≤ (IntKind.u64.wrap (x16)) then (if (Go.bits .and .u64 (shr .u64 x3 (IntKind.u64.wrap (x16))) 1) = 1 then (if 0 ≤ (IntKind.u64.wrap (x17)) then (withelaw2_RelSets.j3 k x3 x9 x10 x11 x12 x13 x14 x15 x16 x17 t539 t540 ((Go.bits .and .u64 (shr .u64 x3 (IntKind.u64.wrap (x17))) 1) == 1)) else (none)) else (withelaw2_RelSets.j3 k x3 x9 x10 x11 x12 x13 x14 x15 x16 x17 t539 t540 false)) else (none)))) else (withelaw2_RelSets.l0 k x3 x9 x10 x11 x12 x13 x14 x15 (wrap64 (x16 + 1)))
def withelaw2_RelSets.j3 : Nat → Int → List Int → List Int → List Int → List Int → List Int → List Int → List Int → Int → Int → Bool → Bool → Bool → Option (Bool)
  | 0, _, _, _, _, _, _, _, _, _, _, _, _, _ => none
  | k + 1, x3, x9, x10, x11, x12, x13, x14, x15, x16, x17, x18, x19, x20 => (rel_Has.f k x11 x16 x17).bind fun t541 => (if x18 = true then (if (t541 != true) = true then (none) else ((rel_Has.f k x12 x16 x17).bind fun t542 => (if (t542 != x19) = true then (none) else ((rel_Has.f k x13 x16 x17).bind fun t543 => (if (t543 != (!x19)) = true then (none) else ((rel_Has.f k x14 x16 x17).bind fun t544 => (if (t544 != x20) = true then (none) else ((rel_Has.f k x15 x17 x16).bind fun t545 => (if (t545 != x18) = true then (none) else (withelaw2_RelSets.l1 k x3 x9 x10 x11 x12 x13 x14 x15 x16 (wrap64 (x17 + 1)))))))))))) else (if (t541 != x19) = true then (none) else ((rel_Has.f k x12 x16 x17).bind fun t546 => (if (t546 != false) = true then (none) else ((rel_Has.f k x13 x16 x17).bind fun t547 => (if (t547 != false) = true then (none) else ((rel_Has.f k x14 x16 x17).bind fun t548 => (if (t548 != false) = true then (none) else ((rel_Has.f k x15 x17 x16).bind fun t549 => (if (t549 != x18) = true then (none) else (withelaw2_RelSets.l1 k x3 x9 x10 x11 x12 x13 x14 x15 x16 (wrap64 (x17 + 1)))))))))))))
end
def withelaw2_RelSets.f (k : Nat) (l0 : List Int) (l1 : List Int) (a2 : Int) (a3 : Int) : Option (Bool) := (withelaw2_begun.f k).bind fun t517 => (if t517 = true then (if (l0.length : Int) > 60 then (withelaw2_RelSets.j0 k l0 l1 a2 a3 true) else (withelaw2_RelSets.j0 k l0 l1 a2 a3 (decide ((l1.length : Int) > 60)))) else (none))
theorem withelaw2_RelSets.mono_l : ∀ k, (∀ y0 y1 y2 y3 y4, LeO (withelaw2_RelSets.j0 k y0 y1 y2 y3 y4) (withelaw2_RelSets.j0 (k + 1) y0 y1 y2 y3 y4)) ∧ (∀ y0 y1 y2 y3 y4 y5 y6 y7 y8, LeO (withelaw2_RelSets.l0 k y0 y1 y2 y3 y4 y5 y6 y7 y8) (withelaw2_RelSets.l0 (k + 1) y0 y1 y2 y3 y4 y5 y6 y7 y8)) ∧ (∀ y0 y1 y2 y3 y4 y5 y6 y7 y8 y9, LeO (withelaw2_RelSets.l1 k y0 y1 y2 y3 y4 y5 y6 y7 y8 y9) (withelaw2_RelSets.l1 (k + 1) y0 y1 y2 y3 y4 y5 y6 y7 y8 y9)) ∧ (∀ y0 y1 y2 y3 y4 y5 y6 y7 y8 y9 y10 y11 y12, LeO (withelaw2_RelSets.j3 k y0 y1 y2 y3 y4 y5 y6 y7 y8 y9 y10 y11 y12) (withelaw2_RelSets.j3 (k + 1) y0 y1 y2 y3 y4 y5 y6 y7 y8 y9 y10 y11 y12))
  | 0 => ⟨fun _ _ _ _ _ r h => by simp [withelaw2_RelSets.j0] at h, fun _ _ _ _ _ _ _ _ _ r h => by simp [withelaw2_RelSets.l0] at h, fun _ _ _ _ _ _ _ _ _ _ r h => by simp [withelaw2_RelSets.l1] at h, fun _ _ _ _ _ _ _ _ _ _ _ _ _ r h => by simp [withelaw2_RelSets.j3] at h⟩
  | k + 1 => by
    obtain ⟨ih0, ih1, ih2, ih3⟩ := withelaw2_RelSets.mono_l k
    refine ⟨?_, ?_, ?_, ?_⟩
    · intro y0 y1 y2 y3 y4
      unfold withelaw2_RelSets.j0
      repeat' first
      | (with_reducible exact ih0 _ _ _ _ _)
      | (with_reducible exact ih1 _ _ _ _ _ _ _ _ _)
      | (with_reducible exact ih2 _ _ _ _ _ _ _ _ _ _)
      | (with_reducible exact ih3 _ _ _ _ _ _ _ _ _ _ _ _ _)
      | (with_reducible exact rel_And.mono _ _ _)
      | (with_reducible exact rel_Back.mono _ _)
      | (with_reducible exact rel_Count.mono _ _)
      | (with_reducible exact rel_Has.mono _ _ _ _)
      | (with_reducible exact rel_Keep.mono _ _ _)
      | (with_reducible exact rel_Less.mono _ _ _)
      | (with_reducible exact rel_May.mono _ _)
      | (with_reducible exact rel_Or.mono _ _ _)
      | (with_reducible exact rel_Same.mono _ _ _)
      | (with_reducible exact withelaw2_begun.mono _)
      | (with_reducible exact withelaw2_some.mono _ _ _)
      | (with_reducible exact LeO.refl _)
      | (with_reducible exact LeO.none _)
      | (with_reducible refine LeO.ite ?_ ?_)
      | (with_reducible refine LeO.bind ?_ (fun _ => ?_))
      | exact ih0 _ _ _ _ _
      | exact ih1 _ _ _ _ _ _ _ _ _
      | exact ih2 _ _ _ _ _ _ _ _ _ _
      | exact ih3 _ _ _ _ _ _ _ _ _ _ _ _ _
      | exact rel_And.mono _ _ _
      | exact rel_Back.mono _ _
      | exact rel_Count.mono _ _
      | exact rel_Has.mono _ _ _ _
      | exact rel_Keep.mono _ _ _
      | exact rel_Less.mono _ _ _
      | exact rel_May.mono _ _
      | exact rel_Or.mono _ _ _
      | exact rel_Same.mono _ _ _
      | exact withelaw2_begun.mono _
      | exact withelaw2_some.mono _ _ _
      | exact LeO.none _
      | refine LeO.ite ?_ ?_
      | refine LeO.bind ?_ (fun _ => ?_)
    · intro y0 y1 y2 y3 y4 y5 y6 y7 y8
      unfold withelaw2_RelSets.l0
      repeat' first
      | (with_reducible exact ih0 _ _ _ _ _)
      | (with_reducible exact ih1 _ _ _ _ _ _ _ _ _)
      | (with_reducible exact ih2 _ _ _ _ _ _ _ _ _ _)
      | (with_reducible exact ih3 _ _ _ _ _ _ _ _ _ _ _ _ _)
      | (with_reducible exact rel_And.mono _ _ _)
      | (with_reducible exact rel_Back.mono _ _)
      | (with_reducible exact rel_Count.mono _ _)
      | (with_reducible exact rel_Has.mono _ _ _ _)
      | (with_reducible exact rel_Keep.mono _ _ _)
      | (with_reducible exact rel_Less.mono _ _ _)
      | (with_reducible exact rel_May.mono _ _)
      | (with_reducible exact rel_Or.mono _ _ _)
      | (with_reducible exact rel_Same.mono _ _ _)
      | (with_reducible exact withelaw2_begun.mono _)
      | (with_reducible exact withelaw2_some.mono _ _ _)
      | (with_reducible exact LeO.refl _)
      | (with_reducible exact LeO.none _)
      | (with_reducible refine LeO.ite ?_ ?_)
      | (with_reducible refine LeO.bind ?_ (fun _ => ?_))
      | exact ih0 _ _ _ _ _
      | exact ih1 _ _ _ _ _ _ _ _ _
      | exact ih2 _ _ _ _ _ _ _ _ _ _
      | exact ih3 _ _ _ _ _ _ _ _ _ _ _ _ _
      | exact rel_And.mono _ _ _
      | exact rel_Back.mono _ _
      | exact rel_Count.mono _ _
      | exact rel_Has.mono _ _ _ _
      | exact rel_Keep.mono _ _ _
      | exact rel_Less.mono _ _ _
      | exact rel_May.mono _ _
      | exact rel_Or.mono _ _ _
      | exact rel_Same.mono _ _ _
      | exact withelaw2_begun.mono _
      | exact withelaw2_some.mono _ _ _
      | exact LeO.none _
      | refine LeO.ite ?_ ?_
      | refine LeO.bind ?_ (fun _ => ?_)
    · intro y0 y1 y2 y3 y4 y5 y6 y7 y8 y9
      unfold withelaw2_RelSets.l1
      repeat' first
      | (with_reducible exact ih0 _ _ _ _ _)
      | (with_reducible exact ih1 _ _ _ _ _ _ _ _ _)
      | (with_reducible exact ih2 _ _ _ _ _ _ _ _ _ _)
      | (with_reducible exact ih3 _ _ _ _ _ _ _ _ _ _ _ _ _)
      | (with_reducible exact rel_And.mono _ _ _)
      | (with_reducible exact rel_Back.mono _ _)
      | (with_reducible exact rel_Count.mono _ _)
      | (with_reducible exact rel_Has.mono _ _ _ _)
      | (with_reducible exact rel_Keep.mono _ _ _)
      | (with_reducible exact rel_Less.mono _ _ _)
      | (with_reducible exact rel_May.mono _ _)
      | (with_reducible exact rel_Or.mono _ _ _)
      | (with_reducible exact rel_Same.mono _ _ _)
      | (with_reducible exact withelaw2_begun.mono _)
      | (with_reducible exact withelaw2_some.mono _ _ _)
      | (with_reducible exact LeO.refl _)
      | (with_reducible exact LeO.none _)
      | (with_reducible refine LeO.ite ?_ ?_)
      | (with_reducible refine LeO.bind ?_ (fun _ => ?_))
      | exact ih0 _ _ _ _ _
      | exact ih1 _ _ _ _ _ _ _ _ _
      | exact ih2 _ _ _ _ _ _ _ _ _ _
      | exact ih3 _ _ _ _ _ _ _ _ _ _ _ _ _
      | exact rel_And.mono _ _ _
      | exact rel_Back.mono _ _
      | exact rel_Count.mono _ _
      | exact rel_Has.mono _ _ _ _
      | exact rel_Keep.mono _ _ _
      | exact rel_Less.mono _ _ _
      | exact rel_May.mono _ _
      | exact rel_Or.mono _ _ _
      | exact rel_Same.mono _ _ _
      | exact withelaw2_begun.mono _
      | exact withelaw2_some.mono _ _ _
      | exact LeO.none _
      | refine LeO.ite ?_ ?_
      | refine LeO.bind ?_ (fun _ => ?_)
    · intro y0 y1 y2 y3 y4 y5 y6 y7 y8 y9 y10 y11 y12
      unfold withelaw2_RelSets.j3
      repeat' first
      | (with_reducible exact ih0 _ _ _ _ _)
      | (with_reducible exact ih1 _ _ _ _ _ _ _ _ _)
      | (with_reducible exact ih2 _ _ _ _ _ _ _ _ _ _)
      | (with_reducible exact ih3 _ _ _ _ _ _ _ _ _ _ _ _ _)
      | (with_reducible exact rel_And.mono _ _ _)
      | (with_reducible exact rel_Back.mono _ _)
      | (with_reducible exact rel_Count.mono _ _)
      | (with_reducible exact rel_Has.mono _ _ _ _)
      | (with_reducible exact rel_Keep.mono _ _ _)
      | (with_reducible exact rel_Less.mono _ _ _)
      | (with_reducible exact rel_May.mono _ _)
      | (with_reducible exact rel_Or.mono _ _ _)
      | (with_reducible exact rel_Same.mono _ _ _)
      | (with_reducible exact withelaw2_begun.mono _)
      | (with_reducible exact withelaw2_some.mono _ _ _)
      | (with_reducible exact LeO.refl _)
      | (with_reducible exact LeO.none _)
      | (with_reducible refine LeO.ite ?_ ?_)
      | (with_reducible refine LeO.bind ?_ (fun _ => ?_))
      | exact ih0 _ _ _ _ _
      | exact ih1 _ _ _ _ _ _ _ _ _
      | exact ih2 _ _ _ _ _ _ _ _ _ _
      | exact ih3 _ _ _ _ _ _ _ _ _ _ _ _ _
      | exact rel_And.mono _ _ _
      | exact rel_Back.mono _ _
      | exact rel_Count.mono _ _
      | exact rel_Has.mono _ _ _ _
      | exact rel_Keep.mono _ _ _
      | exact rel_Less.mono _ _ _
      | exact rel_May.mono _ _
      | exact rel_Or.mono _ _ _
      | exact rel_Same.mono _ _ _
      | exact withelaw2_begun.mono _
      | exact withelaw2_some.mono _ _ _
      | exact LeO.none _
      | refine LeO.ite ?_ ?_
      | refine LeO.bind ?_ (fun _ => ?_)
theorem withelaw2_RelSets.mono : ∀ a0 a1 a2 a3 k, LeO (withelaw2_RelSets.f k a0 a1 a2 a3) (withelaw2_RelSets.f (k + 1) a0 a1 a2 a3) := by
  intro a0 a1 a2 a3 k
  obtain ⟨ih0, ih1, ih2, ih3⟩ := withelaw2_RelSets.mono_l k
  unfold withelaw2_RelSets.f
  repeat' first
      | (with_reducible exact ih0 _ _ _ _ _)
      | (with_reducible exact ih1 _ _ _ _ _ _ _ _ _)
      | (with_reducible exact ih2 _ _ _ _ _ _ _ _ _ _)
      | (with_reducible exact ih3 _ _ _ _ _ _ _ _ _ _ _ _ _)
      | (with_reducible exact rel_And.mono _ _ _)
      | (with_reducible exact rel_Back.mono _ _)
      | (with_reducible exact rel_Count.mono _ _)
      | (with_reducible exact rel_Has.mono _ _ _ _)
      | (with_reducible exact rel_Keep.mono _ _ _)
      | (with_reducible exact rel_Less.mono _ _ _)
      | (with_reducible exact rel_May.mono _ _)
      | (with_reducible exact rel_Or.mono _ _ _)
      | (with_reducible exact rel_Same.mono _ _ _)
      | (with_reducible exact withelaw2_begun.mono _)
      | (with_reducible exact withelaw2_some.mono _ _ _)
      | (with_reducible exact LeO.refl _)
      | (with_reducible exact LeO.none _)
      | (with_reducible refine LeO.ite ?_ ?_)
      | (with_reducible refine LeO.bind ?_ (fun _ => ?_))
      | exact ih0 _ _ _ _ _
      | exact ih1 _ _ _ _ _ _ _ _ _
      | exact ih2 _ _ _ _ _ _ _ _ _ _
      | exact ih3 _ _ _ _ _ _ _ _ _ _ _ _ _
      | exact rel_And.mono _ _ _
      | exact rel_Back.mono _ _
      | exact rel_Count.mono _ _
      | exact rel_Has.mono _ _ _ _
      | exact rel_Keep.mono _ _ _
      | exact rel_Less.mono _ _ _
      | exact rel_May.mono _ _
      | exact rel_Or.mono _ _ _
      | exact rel_Same.mono _ _ _
      | exact withelaw2_begun.mono _
      | exact withelaw2_some.mono _ _ _
      | exact LeO.none _
      | refine LeO.ite ?_ ?_
      | refine LeO.bind ?_ (fun _ => ?_)
set_option maxHeartbeats 8000000 in
set_option maxRecDepth 100000 in
theorem withelaw2_RelSets.calls (k : Nat) (A0 : Option Addr) (c0 : Nat) (l0 : List Int) (A1 : Option Addr) (c1 : Nat) (l1 : List Int) (a2 : Int) (a3 : Int) (r : Bool) (w : World) (hr0 : Kd.C (Kd.int .u8) w A0 l0.length l0) (hc0 : l0.length ≤ c0) (hr1 : Kd.C (Kd.int .u8) w A1 l1.length l1) (hc1 : l1.length ≤ c1) (h : withelaw2_RelSets.f k l0 l1 a2 a3 = some r) (hG : GOk w := by first | exact Aside0.out (by assumption) | exact GOk.le (Aside0.out (by assumption)) (by repeat (first | exact Aside0.out (by assumption) | exact Below.refl _ _ | apply below_alloc | apply pw_below_drewN | apply below_drew1 | refine below_set ?_ (Aside0.out (by assumption))))) :
    Calls Tryd.prog 7 #[.slice A0 l0.length c0, .slice A1 l1.length c1, .int .u8 a2, .int .u64 a3] w fun e w' => e = .returned (.bool r) ∧ Below w.heap.size w w' := by
  have HR0 := Aside0.mk hr0
  have HC0 := Aside0.mk hc0
  clear hr0 hc0
  have HR1 := Aside0.mk hr1
  have HC1 := Aside0.mk hc1
  clear hr1 hc1
  have HB := Aside0.mk (Below.refl w.heap.size w)
  have H : ((withelaw2_begun.f k).bind fun t517 => (if t517 = true then (if (l0.length : Int) > 60 then (withelaw2_RelSets.j0 k l0 l1 a2 a3 true) else (withelaw2_RelSets.j0 k l0 l1 a2 a3 (decide ((l1.length : Int) > 60)))) else (none))) = some r := h
  clear h
  have HG := Aside0.mk hG
  clear hG
  replace H := Option.bind_eq_some_iff.mp H
  obtain ⟨t517, A50, H⟩ := H
  replace H : (if t517 = true then (if (l0.length : Int) > 60 then (withelaw2_RelSets.j0 k l0 l1 a2 a3 true) else (withelaw2_RelSets.j0 k l0 l1 a2 a3 (decide ((l1.length : Int) > 60)))) else (none)) = some r := H
  have A5 := Aside0.mk A50
  clear A50
  by_cases c6 : t517 = true
  · subst c6
    have H1 : (if (l0.length : Int) > 60 then (withelaw2_RelSets.j0 k l0 l1 a2 a3 true) else (withelaw2_RelSets.j0 k l0 l1 a2 a3 (decide ((l1.length : Int) > 60)))) = some r := by rw [if_pos rfl] at H; exact H
    clear H
    have H := H1
    clear H1
    have HC7 := Aside0.mk H
    clear H
    go_enter Tryd.func7, Tryd.ntmps7
    go_upto_region 3 with (first | ((with_reducible refine gate_callee (f := 8) rfl ?_); refine goesL_ (some 21) rfl rfl Tryd.func8 (by kernel_rfl) rfl #[] rfl (by (try simp only [List.map_toArray, List.map_cons, List.map_nil]); first | done | rfl | (simp only [List.length_drop, List.length_take]; rfl)) ?_; (with_reducible refine (withelaw2_begun.calls k  true _ A5.out).mono ?_); rintro e w8 ⟨rfl, hb⟩; refine ⟨_, rfl, ?_⟩; have n0_ := Aside0.mk (below_step (by repeat (first | (with_reducible first | exact HB.out | apply below_alloc | apply pw_below_drewN | apply below_drew1) | exact HB.out)) hb); clear HB; have HB := n0_; clear n0_; (try clear hb); (try clear hb2); (try clear hk); (try clear hi)))
    (try simp only [Act.put, List.setIfInBounds_toArray, List.set_cons_zero, List.set_cons_succ])
    go_cut [30] (fun v30 wc => ∃ (kq : Nat) (x30_6 : Bool), v30 = .bool x30_6 ∧ Aside0 (withelaw2_RelSets.j0 kq l0 l1 a2 a3 x30_6 = some r) ∧ Aside0 (kq ≤ k) ∧ Aside0 (Below w.heap.size w wc))
    case first =>
      have H := HC7.out
      clear HC7
      by_cases c9 : (l0.length : Int) > 60
      · rw [if_pos c9] at H
        have c9b0 : decide (60 < (l0.length : Int)) = true := decide_eq_true c9
        have c9b1 : decide (60 < l0.length) = true := decide_eq_true (by omega)
        clear c9
        (first | rw [c9b0] | (simp only [i64_w, i32_w]; rw [c9b0]) | skip)
        have H' := Aside0.mk H
        clear H
        go_wp2
        go_meet
        case rel => exact ⟨_, (true), (by first | rfl | (simp; done) | (simp [*]; done)), H', ⟨by first | omega | exact Nat.le_refl _⟩, ⟨by repeat (first | (with_reducible first | exact HB.out | apply below_alloc | apply pw_below_drewN | apply below_drew1) | exact HB.out)⟩⟩
      · rw [if_neg c9] at H
        have c9b0 : decide (60 < (l0.length : Int)) = false := decide_eq_false c9
        have c9b1 : decide (60 < l0.length) = false := decide_eq_false (by omega)
        clear c9
        (first | rw [c9b0] | (simp only [i64_w, i32_w]; rw [c9b0]) | skip)
        have H' := Aside0.mk H
        clear H
        go_wp2
        go_meet
        case rel => exact ⟨_, (decide ((l1.length : Int) > 60)), (by first | rfl | (simp; done) | (simp [*]; done)), H', ⟨by first | omega | exact Nat.le_refl _⟩, ⟨by repeat (first | (with_reducible first | exact HB.out | apply below_alloc | apply pw_below_drewN | apply below_drew1) | exact HB.out)⟩⟩
    case rest =>
      clear HC7
      try clear c1
      try clear p2
      try clear c6
      try clear c7
      try clear c8
      try clear c9
      try clear c9b0
      try clear c9b1
      obtain ⟨kq, x30_6, rfl, HA, HJ6, HB⟩ := hcut
      cases kq with
      | zero => exact absurd HA.out (by simp [withelaw2_RelSets.j0])
      | succ kj6 =>
        have H := HA.out
        clear HA
        simp only [withelaw2_RelSets.j0] at H
        by_cases c10 : x30_6 = true
        · subst c10
          have H1 : (some true) = some r := by rw [if_pos rfl] at H; exact H
          clear H
          have H := H1
          clear H1
          obtain rfl := Option.some.inj H
          go_wp2
          go_ret
          exact ⟨by first | rfl | (simp [errW_none, errW_some] <;> rfl) | (simp [*, errW_none, errW_some] <;> rfl), by repeat (first | (with_reducible first | exact HB.out | apply below_alloc | apply pw_below_drewN | apply below_drew1) | exact HB.out)⟩
        · replace c10 := Bool.eq_false_iff.mpr c10
          subst c10
          have H1 : ((withelaw2_some.f kj6 l0 a2).bind fun t518 => ((withelaw2_some.f kj6 l1 a2).bind fun t521 => ((rel_Or.f kj6 t518 t521).bind fun t524 => ((rel_And.f kj6 t518 t521).bind fun t527 => ((rel_Less.f kj6 t518 t521).bind fun t530 => ((rel_Keep.f kj6 t518 a3).bind fun t533 => ((rel_Back.f kj6 t518).bind fun t536 => (withelaw2_RelSets.l0 kj6 a3 t518 t521 t524 t527 t530 t533 t536 0)))))))) = some r := by rw [if_neg (show ¬ (false = true) by decide)] at H; exact H
          clear H
          have H := H1
          clear H1
          replace H := Option.bind_eq_some_iff.mp H
          obtain ⟨t518, A110, H⟩ := H
          replace H : ((withelaw2_some.f kj6 l1 a2).bind fun t521 => ((rel_Or.f kj6 t518 t521).bind fun t524 => ((rel_And.f kj6 t518 t521).bind fun t527 => ((rel_Less.f kj6 t518 t521).bind fun t530 => ((rel_Keep.f kj6 t518 a3).bind fun t533 => ((rel_Back.f kj6 t518).bind fun t536 => (withelaw2_RelSets.l0 kj6 a3 t518 t521 t524 t527 t530 t533 t536 0))))))) = some r := H
          have A11 := Aside0.mk A110
          clear A110
          replace H := Option.bind_eq_some_iff.mp H
          obtain ⟨t521, A120, H⟩ := H
          replace H : ((rel_Or.f kj6 t518 t521).bind fun t524 => ((rel_And.f kj6 t518 t521).bind fun t527 => ((rel_Less.f kj6 t518 t521).bind fun t530 => ((rel_Keep.f kj6 t518 a3).bind fun t533 => ((rel_Back.f kj6 t518).bind fun t536 => (withelaw2_RelSets.l0 kj6 a3 t518 t521 t524 t527 t530 t533 t536 0)))))) = some r := H
          have A12 := Aside0.mk A120
          clear A120
          replace H := Option.bind_eq_some_iff.mp H
          obtain ⟨t524, A130, H⟩ := H
          replace H : ((rel_And.f kj6 t518 t521).bind fun t527 => ((rel_Less.f kj6 t518 t521).bind fun t530 => ((rel_Keep.f kj6 t518 a3).bind fun t533 => ((rel_Back.f kj6 t518).bind fun t536 => (withelaw2_RelSets.l0 kj6 a3 t518 t521 t524 t527 t530 t533 t536 0))))) = some r := H
          have A13 := Aside0.mk A130
          clear A130
          replace H := Option.bind_eq_some_iff.mp H
          obtain ⟨t527, A140, H⟩ := H
          replace H : ((rel_Less.f kj6 t518 t521).bind fun t530 => ((rel_Keep.f kj6 t518 a3).bind fun t533 => ((rel_Back.f kj6 t518).bind fun t536 => (withelaw2_RelSets.l0 kj6 a3 t518 t521 t524 t527 t530 t533 t536 0)))) = some r := H
          have A14 := Aside0.mk A140
          clear A140
          replace H := Option.bind_eq_some_iff.mp H
          obtain ⟨t530, A150, H⟩ := H
          replace H : ((rel_Keep.f kj6 t518 a3).bind fun t533 => ((rel_Back.f kj6 t518).bind fun t536 => (withelaw2_RelSets.l0 kj6 a3 t518 t521 t524 t527 t530 t533 t536 0))) = some r := H
          have A15 := Aside0.mk A150
          clear A150
          replace H := Option.bind_eq_some_iff.mp H
          obtain ⟨t533, A160, H⟩ := H
          replace H : ((rel_Back.f kj6 t518).bind fun t536 => (withelaw2_RelSets.l0 kj6 a3 t518 t521 t524 t527 t530 t533 t536 0)) = some r := H
          have A16 := Aside0.mk A160
          clear A160
          replace H := Option.bind_eq_some_iff.mp H
          obtain ⟨t536, A170, H⟩ := H
          replace H : (withelaw2_RelSets.l0 kj6 a3 t518 t521 t524 t527 t530 t533 t536 0) = some r := H
          have A17 := Aside0.mk A170
          clear A170
          have H' := Aside0.mk H
          clear H
          go_wp2_with (first | ((with_reducible refine gate_callee (f := 31) rfl ?_); refine goesL_ (some 33) rfl rfl Tryd.func31 (by kernel_rfl) rfl #[.slice A0 l0.length c0, .int .u8 a2] rfl (by (try simp only [List.map_toArray, List.map_cons, List.map_nil]); first | done | rfl | (simp only [List.length_drop, List.length_take]; rfl)) ?_; (with_reducible refine (withelaw2_some.calls kj6 _ _ l0 a2 t518 _ ?side1 ?side2 A11.out).mono ?_); (case side1 => repeat (first | exact (Kd.C_below HR0.out HB.out) | (with_reducible refine Kd.C_alloc ?_ _) | (with_reducible refine Kd.C_drewN ?_ _) | (with_reducible refine Kd.C_drew ?_))); (case side2 => exact HC0.out); rintro e w18 ⟨v519, rfl, ho0, hb⟩; refine ⟨_, rfl, ?_⟩; have n0_ := Aside0.mk (Kd.R_lower ho0 (below_size (by repeat (first | (with_reducible first | exact HB.out | apply below_alloc | apply pw_below_drewN | apply below_drew1) | exact HB.out)))); have n1_ := Aside0.mk (below_step (by repeat (first | (with_reducible first | exact HB.out | apply below_alloc | apply pw_below_drewN | apply below_drew1) | exact HB.out)) hb); clear HB; have HO520 := n0_; have HB := n1_; clear n0_ n1_; (try clear hb); (try clear hb2); (try clear hk); (try clear hi); (try clear ho0)) | ((with_reducible refine gate_callee (f := 31) rfl ?_); refine goesL_ (some 36) rfl rfl Tryd.func31 (by kernel_rfl) rfl #[.slice A1 l1.length c1, .int .u8 a2] rfl (by (try simp only [List.map_toArray, List.map_cons, List.map_nil]); first | done | rfl | (simp only [List.length_drop, List.length_take]; rfl)) ?_; (with_reducible refine (withelaw2_some.calls kj6 _ _ l1 a2 t521 _ ?side1 ?side2 A12.out).mono ?_); (case side1 => repeat (first | exact (Kd.C_below HR1.out HB.out) | (with_reducible refine Kd.C_alloc ?_ _) | (with_reducible refine Kd.C_drewN ?_ _) | (with_reducible refine Kd.C_drew ?_))); (case side2 => exact HC1.out); rintro e w19 ⟨v522, rfl, ho0, hb⟩; refine ⟨_, rfl, ?_⟩; have n0_ := Aside0.mk (Kd.R_elder' (by (with_reducible repeat (first | apply Kd.R_alloc | apply Kd.R_drewN | apply Kd.R_drew)); exact HO520.out) (Kd.R_base ho0) hb); have n1_ := Aside0.mk (Kd.R_lower (Kd.R_new' ho0 (Kd.R_lt (by (with_reducible repeat (first | apply Kd.R_alloc | apply Kd.R_drewN | apply Kd.R_drew)); exact HO520.out))) (below_size (by repeat (first | (with_reducible first | exact HB.out | apply below_alloc | apply pw_below_drewN | apply below_drew1) | exact HB.out)))); have n2_ := Aside0.mk (below_step (by repeat (first | (with_reducible first | exact HB.out | apply below_alloc | apply pw_below_drewN | apply below_drew1) | exact HB.out)) hb); clear HO520; clear HB; have HO520 := n0_; have HO523 := n1_; have HB := n2_; clear n0_ n1_ n2_; (try clear hb); (try clear hb2); (try clear hk); (try clear hi); (try clear ho0); obtain ⟨Ao20, co20, eo20⟩ := Kd.R_slice HO520.out; subst eo20; obtain ⟨Ao21, co21, eo21⟩ := Kd.R_slice HO523.out; subst eo21) | ((with_reducible refine gate_callee (f := 23) rfl ?_); refine goesL_ (some 39) rfl rfl Tryd.func23 (by kernel_rfl) rfl #[.slice Ao20 t518.length co20, .slice Ao21 t521.length co21] rfl (by (try simp only [List.map_toArray, List.map_cons, List.map_nil]); first | done | rfl | (simp only [List.length_drop, List.length_take]; rfl)) ?_; (with_reducible refine (rel_Or.calls kj6 _ _ t518 _ _ t521 t524 _ ?side1 ?side2 ?side3 ?side4 A13.out).mono ?_); (case side1 => repeat (first | exact (Kd.R_reads' HO520.out).2.2 | (with_reducible refine Kd.C_alloc ?_ _) | (with_reducible refine Kd.C_drewN ?_ _) | (with_reducible refine Kd.C_drew ?_))); (case side2 => exact (Kd.R_reads' HO520.out).2.1); (case side3 => repeat (first | exact (Kd.R_reads' HO523.out).2.2 | (with_reducible refine Kd.C_alloc ?_ _) | (with_reducible refine Kd.C_drewN ?_ _) | (with_reducible refine Kd.C_drew ?_))); (case side4 => exact (Kd.R_reads' HO523.out).2.1); rintro e w22 ⟨v525, rfl, ho0, hb⟩; refine ⟨_, rfl, ?_⟩; have n0_ := Aside0.mk (Kd.R_elder' (by (with_reducible repeat (first | apply Kd.R_alloc | apply Kd.R_drewN | apply Kd.R_drew)); exact HO520.out) (Kd.R_base ho0) hb); have n1_ := Aside0.mk (Kd.R_elder' (by (with_reducible repeat (first | apply Kd.R_alloc | apply Kd.R_drewN | apply Kd.R_drew)); exact HO523.out) (Kd.R_base ho0) hb); have n2_ := Aside0.mk (Kd.R_lower (Kd.R_new' (Kd.R_new' ho0 (Kd.R_lt (by (with_reducible repeat (first | apply Kd.R_alloc | apply Kd.R_drewN | apply Kd.R_drew)); exact HO520.out))) (Kd.R_lt (by (with_reducible repeat (first | apply Kd.R_alloc | apply Kd.R_drewN | apply Kd.R_drew)); exact HO523.out))) (below_size (by repeat (first | (with_reducible first | exact HB.out | apply below_alloc | apply pw_below_drewN | apply below_drew1) | exact HB.out)))); have n3_ := Aside0.mk (below_step (by repeat (first | (with_reducible first | exact HB.out | apply below_alloc | apply pw_below_drewN | apply below_drew1) | exact HB.out)) hb); clear HO520; clear HO523; clear HB; have HO520 := n0_; have HO523 := n1_; have HO526 := n2_; have HB := n3_; clear n0_ n1_ n2_ n3_; (try clear hb); (try clear hb2); (try clear hk); (try clear hi); (try clear ho0)) | ((with_reducible refine gate_callee (f := 21) rfl ?_); refine goesL_ (some 42) rfl rfl Tryd.func21 (by kernel_rfl) rfl #[.slice Ao20 t518.length co20, .slice Ao21 t521.length co21] rfl (by (try simp only [List.map_toArray, List.map_cons, List.map_nil]); first | done | rfl | (simp only [List.length_drop, List.length_take]; rfl)) ?_; (with_reducible refine (rel_And.calls kj6 _ _ t518 _ _ t521 t527 _ ?side1 ?side2 ?side3 ?side4 A14.out).mono ?_); (case side1 => repeat (first | exact (Kd.R_reads' HO520.out).2.2 | (with_reducible refine Kd.C_alloc ?_ _) | (with_reducible refine Kd.C_drewN ?_ _) | (with_reducible refine Kd.C_drew ?_))); (case side2 => exact (Kd.R_reads' HO520.out).2.1); (case side3 => repeat (first | exact (Kd.R_reads' HO523.out).2.2 | (with_reducible refine Kd.C_alloc ?_ _) | (with_reducible refine Kd.C_drewN ?_ _) | (with_reducible refine Kd.C_drew ?_))); (case side4 => exact (Kd.R_reads' HO523.out).2.1); rintro e w23 ⟨v528, rfl, ho0, hb⟩; refine ⟨_, rfl, ?_⟩; have n0_ := Aside0.mk (Kd.R_elder' (by (with_reducible repeat (first | apply Kd.R_alloc | apply Kd.R_drewN | apply Kd.R_drew)); exact HO520.out) (Kd.R_base ho0) hb); have n1_ := Aside0.mk (Kd.R_elder' (by (with_reducible repeat (first | apply Kd.R_alloc | apply Kd.R_drewN | apply Kd.R_drew)); exact HO523.out) (Kd.R_base ho0) hb); have n2_ := Aside0.mk (Kd.R_elder' (by (with_reducible repeat (first | apply Kd.R_alloc | apply Kd.R_drewN | apply Kd.R_drew)); exact HO526.out) (Kd.R_base ho0) hb); have n3_ := Aside0.mk (Kd.R_lower (Kd.R_new' (Kd.R_new' (Kd.R_new' ho0 (Kd.R_lt (by (with_reducible repeat (first | apply Kd.R_alloc | apply Kd.R_drewN | apply Kd.R_drew)); exact HO520.out))) (Kd.R_lt (by (with_reducible repeat (first | apply Kd.R_alloc | apply Kd.R_drewN | apply Kd.R_drew)); exact HO523.out))) (Kd.R_lt (by (with_reducible repeat (first | apply Kd.R_alloc | apply Kd.R_drewN | apply Kd.R_drew)); exact HO526.out))) (below_size (by repeat (first | (with_reducible first | exact HB.out | apply below_alloc | apply pw_below_drewN | apply below_drew1) | exact HB.out)))); have n4_ := Aside0.mk (below_step (by repeat (first | (with_reducible first | exact HB.out | apply below_alloc | apply pw_below_drewN | apply below_drew1) | exact HB.out)) hb); clear HO520; clear HO523; clear HO526; clear HB; have HO520 := n0_; have HO523 := n1_; have HO526 := n2_; have HO529 := n3_; have HB := n4_; clear n0_ n1_ n2_ n3_ n4_; (try clear hb); (try clear hb2); (try clear hk); (try clear hi); (try clear ho0)) | ((with_reducible refine gate_callee (f := 24) rfl ?_); refine goesL_ (some 45) rfl rfl Tryd.func24 (by kernel_rfl) rfl #[.slice Ao20 t518.length co20, .slice Ao21 t521.length co21] rfl (by (try simp only [List.map_toArray, List.map_cons, List.map_nil]); first | done | rfl | (simp only [List.length_drop, List.length_take]; rfl)) ?_; (with_reducible refine (rel_Less.calls kj6 _ _ t518 _ _ t521 t530 _ ?side1 ?side2 ?side3 ?side4 A15.out).mono ?_); (case side1 => repeat (first | exact (Kd.R_reads' HO520.out).2.2 | (with_reducible refine Kd.C_alloc ?_ _) | (with_reducible refine Kd.C_drewN ?_ _) | (with_reducible refine Kd.C_drew ?_))); (case side2 => exact (Kd.R_reads' HO520.out).2.1); (case side3 => repeat (first | exact (Kd.R_reads' HO523.out).2.2 | (with_reducible refine Kd.C_alloc ?_ _) | (with_reducible refine Kd.C_drewN ?_ _) | (with_reducible refine Kd.C_drew ?_))); (case side4 => exact (Kd.R_reads' HO523.out).2.1); rintro e w24 ⟨v531, rfl, ho0, hb⟩; refine ⟨_, rfl, ?_⟩; have n0_ := Aside0.mk (Kd.R_elder' (by (with_reducible repeat (first | apply Kd.R_alloc | apply Kd.R_drewN | apply Kd.R_drew)); exact HO520.out) (Kd.R_base ho0) hb); have n1_ := Aside0.mk (Kd.R_elder' (by (with_reducible repeat (first | apply Kd.R_alloc | apply Kd.R_drewN | apply Kd.R_drew)); exact HO523.out) (Kd.R_base ho0) hb); have n2_ := Aside0.mk (Kd.R_elder' (by (with_reducible repeat (first | apply Kd.R_alloc | apply Kd.R_drewN | apply Kd.R_drew)); exact HO526.out) (Kd.R_base ho0) hb); have n3_ := Aside0.mk (Kd.R_elder' (by (with_reducible repeat (first | apply Kd.R_alloc | apply Kd.R_drewN | apply Kd.R_drew)); exact HO529.out) (Kd.R_base ho0) hb); have n4_ := Aside0.mk (Kd.R_lower (Kd.R_new' (Kd.R_new' (Kd.R_new' (Kd.R_new' ho0 (Kd.R_lt (by (with_reducible repeat (first | apply Kd.R_alloc | apply Kd.R_drewN | apply Kd.R_drew)); exact HO520.out))) (Kd.R_lt (by (with_reducible repeat (first | apply Kd.R_alloc | apply Kd.R_drewN | apply Kd.R_drew)); exact HO523.out))) (Kd.R_lt (by (with_reducible repeat (first | apply Kd.R_alloc | apply Kd.R_drewN | apply Kd.R_drew)); exact HO526.out))) (Kd.R_lt (by (with_reducible repeat (first | apply Kd.R_alloc | apply Kd.R_drewN | apply Kd.R_drew)); exact HO529.out))) (below_size (by repeat (first | (with_reducible first | exact HB.out | apply below_alloc | apply pw_below_drewN | apply below_drew1) | exact HB.out)))); have n5_ := Aside0.mk (below_step (by repeat (first | (with_reducible first | exact HB.out | apply below_alloc | apply pw_below_drewN | apply below_drew1) | exact HB.out)) hb); clear HO520; clear HO523; clear HO526; clear HO529; clear HB; have HO520 := n0_; have HO523 := n1_; have HO526 := n2_; have HO529 := n3_; have HO532 := n4_; have HB := n5_; clear n0_ n1_ n2_ n3_ n4_ n5_; (try clear hb); (try clear hb2); (try clear hk); (try clear hi); (try clear ho0)) | ((with_reducible refine gate_callee (f := 27) rfl ?_); refine goesL_ (some 48) rfl rfl Tryd.func27 (by kernel_rfl) rfl #[.slice Ao20 t518.length co20, .int .u64 a3] rfl (by (try simp only [List.map_toArray, List.map_cons, List.map_nil]); first | done | rfl | (simp only [List.length_drop, List.length_take]; rfl)) ?_; (with_reducible refine (rel_Keep.calls kj6 _ _ t518 a3 t533 _ ?side1 ?side2 A16.out).mono ?_); (case side1 => repeat (first | exact (Kd.R_reads' HO520.out).2.2 | (with_reducible refine Kd.C_alloc ?_ _) | (with_reducible refine Kd.C_drewN ?_ _) | (with_reducible refine Kd.C_drew ?_))); (case side2 => exact (Kd.R_reads' HO520.out).2.1); rintro e w25 ⟨v534, rfl, ho0, hb⟩; refine ⟨_, rfl, ?_⟩; have n0_ := Aside0.mk (Kd.R_elder' (by (with_reducible repeat (first | apply Kd.R_alloc | apply Kd.R_drewN | apply Kd.R_drew)); exact HO520.out) (Kd.R_base ho0) hb); have n1_ := Aside0.mk (Kd.R_elder' (by (with_reducible repeat (first | apply Kd.R_alloc | apply Kd.R_drewN | apply Kd.R_drew)); exact HO523.out) (Kd.R_base ho0) hb); have n2_ := Aside0.mk (Kd.R_elder' (by (with_reducible repeat (first | apply Kd.R_alloc | apply Kd.R_drewN | apply Kd.R_drew)); exact HO526.out) (Kd.R_base ho0) hb); have n3_ := Aside0.mk (Kd.R_elder' (by (with_reducible repeat (first | apply Kd.R_alloc | apply Kd.R_drewN | apply Kd.R_drew)); exact HO529.out) (Kd.R_base ho0) hb); have n4_ := Aside0.mk (Kd.R_elder' (by (with_reducible repeat (first | apply Kd.R_alloc | apply Kd.R_drewN | apply Kd.R_drew)); exact HO532.out) (Kd.R_base ho0) hb); have n5_ := Aside0.mk (Kd.R_lower (Kd.R_new' (Kd.R_new' (Kd.R_new' (Kd.R_new' (Kd.R_new' ho0 (Kd.R_lt (by (with_reducible repeat (first | apply Kd.R_alloc | apply Kd.R_drewN | apply Kd.R_drew)); exact HO520.out))) (Kd.R_lt (by (with_reducible repeat (first | apply Kd.R_alloc | apply Kd.R_drewN | apply Kd.R_drew)); exact HO523.out))) (Kd.R_lt (by (with_reducible repeat (first | apply Kd.R_alloc | apply Kd.R_drewN | apply Kd.R_drew)); exact HO526.out))) (Kd.R_lt (by (with_reducible repeat (first | apply Kd.R_alloc | apply Kd.R_drewN | apply Kd.R_drew)); exact HO529.out))) (Kd.R_lt (by (with_reducible repeat (first | apply Kd.R_alloc | apply Kd.R_drewN | apply Kd.R_drew)); exact HO532.out))) (below_size (by repeat (first | (with_reducible first | exact HB.out | apply below_alloc | apply pw_below_drewN | apply below_drew1) | exact HB.out)))); have n6_ := Aside0.mk (below_step (by repeat (first | (with_reducible first | exact HB.out | apply below_alloc | apply pw_below_drewN | apply below_drew1) | exact HB.out)) hb); clear HO520; clear HO523; clear HO526; clear HO529; clear HO532; clear HB; have HO520 := n0_; have HO523 := n1_; have HO526 := n2_; have HO529 := n3_; have HO532 := n4_; have HO535 := n5_; have HB := n6_; clear n0_ n1_ n2_ n3_ n4_ n5_ n6_; (try clear hb); (try clear hb2); (try clear hk); (try clear hi); (try clear ho0)) | ((with_reducible refine gate_callee (f := 25) rfl ?_); refine goesL_ (some 50) rfl rfl Tryd.func25 (by kernel_rfl) rfl #[.slice Ao20 t518.length co20] rfl (by (try simp only [List.map_toArray, List.map_cons, List.map_nil]); first | done | rfl | (simp only [List.length_drop, List.length_take]; rfl)) ?_; (with_reducible refine (rel_Back.calls kj6 _ _ t518 t536 _ ?side1 ?side2 A17.out).mono ?_); (case side1 => repeat (first | exact (Kd.R_reads' HO520.out).2.2 | (with_reducible refine Kd.C_alloc ?_ _) | (with_reducible refine Kd.C_drewN ?_ _) | (with_reducible refine Kd.C_drew ?_))); (case side2 => exact (Kd.R_reads' HO520.out).2.1); rintro e w26 ⟨v537, rfl, ho0, hb⟩; refine ⟨_, rfl, ?_⟩; have n0_ := Aside0.mk (Kd.R_elder' (by (with_reducible repeat (first | apply Kd.R_alloc | apply Kd.R_drewN | apply Kd.R_drew)); exact HO520.out) (Kd.R_base ho0) hb); have n1_ := Aside0.mk (Kd.R_elder' (by (with_reducible repeat (first | apply Kd.R_alloc | apply Kd.R_drewN | apply Kd.R_drew)); exact HO523.out) (Kd.R_base ho0) hb); have n2_ := Aside0.mk (Kd.R_elder' (by (with_reducible repeat (first | apply Kd.R_alloc | apply Kd.R_drewN | apply Kd.R_drew)); exact HO526.out) (Kd.R_base ho0) hb); have n3_ := Aside0.mk (Kd.R_elder' (by (with_reducible repeat (first | apply Kd.R_alloc | apply Kd.R_drewN | apply Kd.R_drew)); exact HO529.out) (Kd.R_base ho0) hb); have n4_ := Aside0.mk (Kd.R_elder' (by (with_reducible repeat (first | apply Kd.R_alloc | apply Kd.R_drewN | apply Kd.R_drew)); exact HO532.out) (Kd.R_base ho0) hb); have n5_ := Aside0.mk (Kd.R_elder' (by (with_reducible repeat (first | apply Kd.R_alloc | apply Kd.R_drewN | apply Kd.R_drew)); exact HO535.out) (Kd.R_base ho0) hb); have n6_ := Aside0.mk (Kd.R_lower (Kd.R_new' (Kd.R_new' (Kd.R_new' (Kd.R_new' (Kd.R_new' (Kd.R_new' ho0 (Kd.R_lt (by (with_reducible repeat (first | apply Kd.R_alloc | apply Kd.R_drewN | apply Kd.R_drew)); exact HO520.out))) (Kd.R_lt (by (with_reducible repeat (first | apply Kd.R_alloc | apply Kd.R_drewN | apply Kd.R_drew)); exact HO523.out))) (Kd.R_lt (by (with_reducible repeat (first | apply Kd.R_alloc | apply Kd.R_drewN | apply Kd.R_drew)); exact HO526.out))) (Kd.R_lt (by (with_reducible repeat (first | apply Kd.R_alloc | apply Kd.R_drewN | apply Kd.R_drew)); exact HO529.out))) (Kd.R_lt (by (with_reducible repeat (first | apply Kd.R_alloc | apply Kd.R_drewN | apply Kd.R_drew)); exact HO532.out))) (Kd.R_lt (by (with_reducible repeat (first | apply Kd.R_alloc | apply Kd.R_drewN | apply Kd.R_drew)); exact HO535.out))) (below_size (by repeat (first | (with_reducible first | exact HB.out | apply below_alloc | apply pw_below_drewN | apply below_drew1) | exact HB.out)))); have n7_ := Aside0.mk (below_step (by repeat (first | (with_reducible first | exact HB.out | apply below_alloc | apply pw_below_drewN | apply below_drew1) | exact HB.out)) hb); clear HO520; clear HO523; clear HO526; clear HO529; clear HO532; clear HO535; clear HB; have HO520 := n0_; have HO523 := n1_; have HO526 := n2_; have HO529 := n3_; have HO532 := n4_; have HO535 := n5_; have HO538 := n6_; have HB := n7_; clear n0_ n1_ n2_ n3_ n4_ n5_ n6_ n7_; (try clear hb); (try clear hb2); (try clear hk); (try clear hi); (try clear ho0)))
          try go_simp
          go_loopg [16] kj6 (fun kq v16 w' => ∃ (x16_2 : Int), v16 = .int .i64 x16_2 ∧ Aside0 (withelaw2_RelSets.l0 kq a3 t518 t521 t524 t527 t530 t533 t536 x16_2 = some r) ∧ Aside0 (kq ≤ kj6) ∧ Aside0 (Kd.R (Kd.int .u64) 23 w' w.heap.size (fun k_ => some k_ ≠ ((.slice Ao21 t521.length co21) : Value).ownBlock ∧ some k_ ≠ (v525 : Value).ownBlock ∧ some k_ ≠ (v528 : Value).ownBlock ∧ some k_ ≠ (v531 : Value).ownBlock ∧ some k_ ≠ (v534 : Value).ownBlock ∧ some k_ ≠ (v537 : Value).ownBlock) (.slice Ao20 t518.length co20) t518) ∧ Aside0 (Kd.R (Kd.int .u64) 23 w' w.heap.size (fun k_ => some k_ ≠ ((.slice Ao20 t518.length co20) : Value).ownBlock ∧ some k_ ≠ (v525 : Value).ownBlock ∧ some k_ ≠ (v528 : Value).ownBlock ∧ some k_ ≠ (v531 : Value).ownBlock ∧ some k_ ≠ (v534 : Value).ownBlock ∧ some k_ ≠ (v537 : Value).ownBlock) (.slice Ao21 t521.length co21) t521) ∧ Aside0 (Kd.R (Kd.int .u64) 23 w' w.heap.size (fun k_ => some k_ ≠ ((.slice Ao20 t518.length co20) : Value).ownBlock ∧ some k_ ≠ ((.slice Ao21 t521.length co21) : Value).ownBlock ∧ some k_ ≠ (v528 : Value).ownBlock ∧ some k_ ≠ (v531 : Value).ownBlock ∧ some k_ ≠ (v534 : Value).ownBlock ∧ some k_ ≠ (v537 : Value).ownBlock) v525 t524) ∧ Aside0 (Kd.R (Kd.int .u64) 23 w' w.heap.size (fun k_ => some k_ ≠ ((.slice Ao20 t518.length co20) : Value).ownBlock ∧ some k_ ≠ ((.slice Ao21 t521.length co21) : Value).ownBlock ∧ some k_ ≠ (v525 : Value).ownBlock ∧ some k_ ≠ (v531 : Value).ownBlock ∧ some k_ ≠ (v534 : Value).ownBlock ∧ some k_ ≠ (v537 : Value).ownBlock) v528 t527) ∧ Aside0 (Kd.R (Kd.int .u64) 23 w' w.heap.size (fun k_ => some k_ ≠ ((.slice Ao20 t518.length co20) : Value).ownBlock ∧ some k_ ≠ ((.slice Ao21 t521.length co21) : Value).ownBlock ∧ some k_ ≠ (v525 : Value).ownBlock ∧ some k_ ≠ (v528 : Value).ownBlock ∧ some k_ ≠ (v534 : Value).ownBlock ∧ some k_ ≠ (v537 : Value).ownBlock) v531 t530) ∧ Aside0 (Kd.R (Kd.int .u64) 23 w' w.heap.size (fun k_ => some k_ ≠ ((.slice Ao20 t518.length co20) : Value).ownBlock ∧ some k_ ≠ ((.slice Ao21 t521.length co21) : Value).ownBlock ∧ some k_ ≠ (v525 : Value).ownBlock ∧ some k_ ≠ (v528 : Value).ownBlock ∧ some k_ ≠ (v531 : Value).ownBlock ∧ some k_ ≠ (v537 : Value).ownBlock) v534 t533) ∧ Aside0 (Kd.R (Kd.int .u64) 23 w' w.heap.size (fun k_ => some k_ ≠ ((.slice Ao20 t518.length co20) : Value).ownBlock ∧ some k_ ≠ ((.slice Ao21 t521.length co21) : Value).ownBlock ∧ some k_ ≠ (v525 : Value).ownBlock ∧ some k_ ≠ (v528 : Value).ownBlock ∧ some k_ ≠ (v531 : Value).ownBlock ∧ some k_ ≠ (v534 : Value).ownBlock) v537 t536) ∧ Aside0 (Below w.heap.size w w'))
          case atStart => exact ⟨(0), (by first | rfl | (simp; done) | (simp [*]; done)), H', ⟨Nat.le_refl _⟩, ⟨by (with_reducible repeat (first | apply Kd.R_alloc | apply Kd.R_drewN | apply Kd.R_drew)); exact Kd.R_mono HO520.out (fun _ hk => ⟨hk.1.1.1.1.1.2, ⟨hk.1.1.1.1.2, ⟨hk.1.1.1.2, ⟨hk.1.1.2, ⟨hk.1.2, hk.2⟩⟩⟩⟩⟩)⟩, ⟨by (with_reducible repeat (first | apply Kd.R_alloc | apply Kd.R_drewN | apply Kd.R_drew)); exact Kd.R_mono HO523.out (fun _ hk => ⟨hk.1.1.1.1.1.2, ⟨hk.1.1.1.1.2, ⟨hk.1.1.1.2, ⟨hk.1.1.2, ⟨hk.1.2, hk.2⟩⟩⟩⟩⟩)⟩, ⟨by (with_reducible repeat (first | apply Kd.R_alloc | apply Kd.R_drewN | apply Kd.R_drew)); exact Kd.R_mono HO526.out (fun _ hk => ⟨hk.1.1.1.1.1.2, ⟨hk.1.1.1.1.2, ⟨hk.1.1.1.2, ⟨hk.1.1.2, ⟨hk.1.2, hk.2⟩⟩⟩⟩⟩)⟩, ⟨by (with_reducible repeat (first | apply Kd.R_alloc | apply Kd.R_drewN | apply Kd.R_drew)); exact Kd.R_mono HO529.out (fun _ hk => ⟨hk.1.1.1.1.1.2, ⟨hk.1.1.1.1.2, ⟨hk.1.1.1.2, ⟨hk.1.1.2, ⟨hk.1.2, hk.2⟩⟩⟩⟩⟩)⟩, ⟨by (with_reducible repeat (first | apply Kd.R_alloc | apply Kd.R_drewN | apply Kd.R_drew)); exact Kd.R_mono HO532.out (fun _ hk => ⟨hk.1.1.1.1.1.2, ⟨hk.1.1.1.1.2, ⟨hk.1.1.1.2, ⟨hk.1.1.2, ⟨hk.1.2, hk.2⟩⟩⟩⟩⟩)⟩, ⟨by (with_reducible repeat (first | apply Kd.R_alloc | apply Kd.R_drewN | apply Kd.R_drew)); exact Kd.R_mono HO535.out (fun _ hk => ⟨hk.1.1.1.1.1.2, ⟨hk.1.1.1.1.2, ⟨hk.1.1.1.2, ⟨hk.1.1.2, ⟨hk.1.2, hk.2⟩⟩⟩⟩⟩)⟩, ⟨by (with_reducible repeat (first | apply Kd.R_alloc | apply Kd.R_drewN | apply Kd.R_drew)); exact Kd.R_mono HO538.out (fun _ hk => ⟨hk.1.1.1.1.1.2, ⟨hk.1.1.1.1.2, ⟨hk.1.1.1.2, ⟨hk.1.1.2, ⟨hk.1.2, hk.2⟩⟩⟩⟩⟩)⟩, ⟨by repeat (first | (with_reducible first | exact HB.out | apply below_alloc | apply pw_below_drewN | apply below_drew1) | exact HB.out)⟩⟩
          case round =>
            clear H'
            try clear c1
            try clear c2
            try clear p2
            try clear c3
            try clear c6
            try clear c7
            try clear c8
            try clear c9
            try clear c9b0
            try clear c9b1
            try clear c10
            try clear c21
            try clear c23
            try clear c24
            try clear c25
            try clear p2
            obtain ⟨x16_2, rfl, HA, HK2, HO_9, HO_10, HO_11, HO_12, HO_13, HO_14, HO_15, HB⟩ := hrel
            cases gk with
            | zero => exact absurd HA.out (by simp [withelaw2_RelSets.l0])
            | succ k2 =>
              have H := HA.out
              clear HA
              simp only [withelaw2_RelSets.l0] at H
              by_cases c27 : x16_2 < (t518.length : Int)
              · rw [if_pos c27] at H
                have c27b0 : decide (x16_2 < (t518.length : Int)) = true := decide_eq_true c27
                clear c27
                have H' := Aside0.mk H
                clear H
                go_wp2
                try go_simp
                go_loopg [17] k2 (fun kq v17 w' => ∃ (x17_3 : Int), v17 = .int .i64 x17_3 ∧ Aside0 (withelaw2_RelSets.l1 kq a3 t518 t521 t524 t527 t530 t533 t536 x16_2 x17_3 = some r) ∧ Aside0 (kq ≤ k2) ∧ Aside0 (Kd.R (Kd.int .u64) 23 w' w.heap.size (fun k_ => some k_ ≠ ((.slice Ao21 t521.length co21) : Value).ownBlock ∧ some k_ ≠ (v525 : Value).ownBlock ∧ some k_ ≠ (v528 : Value).ownBlock ∧ some k_ ≠ (v531 : Value).ownBlock ∧ some k_ ≠ (v534 : Value).ownBlock ∧ some k_ ≠ (v537 : Value).ownBlock) (.slice Ao20 t518.length co20) t518) ∧ Aside0 (Kd.R (Kd.int .u64) 23 w' w.heap.size (fun k_ => some k_ ≠ ((.slice Ao20 t518.length co20) : Value).ownBlock ∧ some k_ ≠ (v525 : Value).ownBlock ∧ some k_ ≠ (v528 : Value).ownBlock ∧ some k_ ≠ (v531 : Value).ownBlock ∧ some k_ ≠ (v534 : Value).ownBlock ∧ some k_ ≠ (v537 : Value).ownBlock) (.slice Ao21 t521.length co21) t521) ∧ Aside0 (Kd.R (Kd.int .u64) 23 w' w.heap.size (fun k_ => some k_ ≠ ((.slice Ao20 t518.length co20) : Value).ownBlock ∧ some k_ ≠ ((.slice Ao21 t521.length co21) : Value).ownBlock ∧ some k_ ≠ (v528 : Value).ownBlock ∧ some k_ ≠ (v531 : Value).ownBlock ∧ some k_ ≠ (v534 : Value).ownBlock ∧ some k_ ≠ (v537 : Value).ownBlock) v525 t524) ∧ Aside0 (Kd.R (Kd.int .u64) 23 w' w.heap.size (fun k_ => some k_ ≠ ((.slice Ao20 t518.length co20) : Value).ownBlock ∧ some k_ ≠ ((.slice Ao21 t521.length co21) : Value).ownBlock ∧ some k_ ≠ (v525 : Value).ownBlock ∧ some k_ ≠ (v531 : Value).ownBlock ∧ some k_ ≠ (v534 : Value).ownBlock ∧ some k_ ≠ (v537 : Value).ownBlock) v528 t527) ∧ Aside0 (Kd.R (Kd.int .u64) 23 w' w.heap.size (fun k_ => some k_ ≠ ((.slice Ao20 t518.length co20) : Value).ownBlock ∧ some k_ ≠ ((.slice Ao21 t521.length co21) : Value).ownBlock ∧ some k_ ≠ (v525 : Value).ownBlock ∧ some k_ ≠ (v528 : Value).ownBlock ∧ some k_ ≠ (v534 : Value).ownBlock ∧ some k_ ≠ (v537 : Value).ownBlock) v531 t530) ∧ Aside0 (Kd.R (Kd.int .u64) 23 w' w.heap.size (fun k_ => some k_ ≠ ((.slice Ao20 t518.length co20) : Value).ownBlock ∧ some k_ ≠ ((.slice Ao21 t521.length co21) : Value).ownBlock ∧ some k_ ≠ (v525 : Value).ownBlock ∧ some k_ ≠ (v528 : Value).ownBlock ∧ some k_ ≠ (v531 : Value).ownBlock ∧ some k_ ≠ (v537 : Value).ownBlock) v534 t533) ∧ Aside0 (Kd.R (Kd.int .u64) 23 w' w.heap.size (fun k_ => some k_ ≠ ((.slice Ao20 t518.length co20) : Value).ownBlock ∧ some k_ ≠ ((.slice Ao21 t521.length co21) : Value).ownBlock ∧ some k_ ≠ (v525 : Value).ownBlock ∧ some k_ ≠ (v528 : Value).ownBlock ∧ some k_ ≠ (v531 : Value).ownBlock ∧ some k_ ≠ (v534 : Value).ownBlock) v537 t536) ∧ Aside0 (Below w.heap.size w w'))
                case atStart => exact ⟨(0), (by first | rfl | (simp; done) | (simp [*]; done)), H', ⟨Nat.le_refl _⟩, ⟨by (with_reducible repeat (first | apply Kd.R_alloc | apply Kd.R_drewN | apply Kd.R_drew)); exact HO_9.out⟩, ⟨by (with_reducible repeat (first | apply Kd.R_alloc | apply Kd.R_drewN | apply Kd.R_drew)); exact HO_10.out⟩, ⟨by (with_reducible repeat (first | apply Kd.R_alloc | apply Kd.R_drewN | apply Kd.R_drew)); exact HO_11.out⟩, ⟨by (with_reducible repeat (first | apply Kd.R_alloc | apply Kd.R_drewN | apply Kd.R_drew)); exact HO_12.out⟩, ⟨by (with_reducible repeat (first | apply Kd.R_alloc | apply Kd.R_drewN | apply Kd.R_drew)); exact HO_13.out⟩, ⟨by (with_reducible repeat (first | apply Kd.R_alloc | apply Kd.R_drewN | apply Kd.R_drew)); exact HO_14.out⟩, ⟨by (with_reducible repeat (first | apply Kd.R_alloc | apply Kd.R_drewN | apply Kd.R_drew)); exact HO_15.out⟩, ⟨by repeat (first | (with_reducible first | exact HB.out | apply below_alloc | apply pw_below_drewN | apply below_drew1) | exact HB.out)⟩⟩
                case round =>
                  clear H'
                  try clear c1
                  try clear c2
                  try clear p2
                  try clear c3
                  try clear c6
                  try clear c7
                  try clear c8
                  try clear c9
                  try clear c9b0
                  try clear c9b1
                  try clear c10
                  try clear c21
                  try clear c23
                  try clear c24
                  try clear c25
                  try clear c27
                  try clear c27b0
                  try clear p2
                  obtain ⟨x17_3, rfl, HA, HK3, HO_9, HO_10, HO_11, HO_12, HO_13, HO_14, HO_15, HB⟩ := hrel
                  cases gk with
                  | zero => exact absurd HA.out (by simp [withelaw2_RelSets.l1])
                  | succ k3 =>
                    have H := HA.out
                    clear HA
                    simp only [withelaw2_RelSets.l1] at H
                    by_cases c28 : x17_3 < (t518.length : Int)
                    · rw [if_pos c28] at H
                      have c28b0 : decide (x17_3 < (t518.length : Int)) = true := decide_eq_true c28
                      clear c28
                      replace H := Option.bind_eq_some_iff.mp H
                      obtain ⟨t539, A290, H⟩ := H
                      replace H : ((rel_Has.f k3 t521 x16_2 x17_3).bind fun t540 => (if 0 ≤ (IntKind.u64.wrap (x16_2)) then (if (Go.bits .and .u64 (shr .u64 a3 (IntKind.u64.wrap (x16_2))) 1) = 1 then (if 0 ≤ (IntKind.u64.wrap (x17_3)) then (withelaw2_RelSets.j3 k3 a3 t518 t521 t524 t527 t530 t533 t536 x16_2 x17_3 t539 t540 ((Go.bits .and .u64 (shr .u64 a3 (IntKind.u64.wrap (x17_3))) 1) == 1)) else (none)) else (withelaw2_RelSets.j3 k3 a3 t518 t521 t524 t527 t530 t533 t536 x16_2 x17_3 t539 t540 false)) else (none))) = some r := H
                      have A29 := Aside0.mk A290
                      clear A290
                      replace H := Option.bind_eq_some_iff.mp H
                      obtain ⟨t540, A300, H⟩ := H
                      replace H : (if 0 ≤ (IntKind.u64.wrap (x16_2)) then (if (Go.bits .and .u64 (shr .u64 a3 (IntKind.u64.wrap (x16_2))) 1) = 1 then (if 0 ≤ (IntKind.u64.wrap (x17_3)) then (withelaw2_RelSets.j3 k3 a3 t518 t521 t524 t527 t530 t533 t536 x16_2 x17_3 t539 t540 ((Go.bits .and .u64 (shr .u64 a3 (IntKind.u64.wrap (x17_3))) 1) == 1)) else (none)) else (withelaw2_RelSets.j3 k3 a3 t518 t521 t524 t527 t530 t533 t536 x16_2 x17_3 t539 t540 false)) else (none)) = some r := H
                      have A30 := Aside0.mk A300
                      clear A300
                      have HC31 := Aside0.mk H
                      clear H
                      go_upto_region 14 with (first | ((with_reducible refine gate_callee (f := 16) rfl ?_); refine goesL_ (some 66) rfl rfl Tryd.func16 (by kernel_rfl) rfl #[.slice Ao20 t518.length co20, .int .i64 x16_2, .int .i64 x17_3] rfl (by (try simp only [List.map_toArray, List.map_cons, List.map_nil]); first | done | rfl | (simp only [List.length_drop, List.length_take]; rfl)) ?_; (with_reducible refine (rel_Has.calls k3 _ _ t518 x16_2 x17_3 t539 _ ?side1 ?side2 A29.out).mono ?_); (case side1 => repeat (first | exact (Kd.R_reads' HO_9.out).2.2 | (with_reducible refine Kd.C_alloc ?_ _) | (with_reducible refine Kd.C_drewN ?_ _) | (with_reducible refine Kd.C_drew ?_))); (case side2 => exact (Kd.R_reads' HO_9.out).2.1); rintro e w32 ⟨rfl, hb⟩; refine ⟨_, rfl, ?_⟩; have n0_ := Aside0.mk (Kd.R_below (by (with_reducible repeat (first | apply Kd.R_alloc | apply Kd.R_drewN | apply Kd.R_drew)); exact HO_9.out) hb); have n1_ := Aside0.mk (Kd.R_below (by (with_reducible repeat (first | apply Kd.R_alloc | apply Kd.R_drewN | apply Kd.R_drew)); exact HO_10.out) hb); have n2_ := Aside0.mk (Kd.R_below (by (with_reducible repeat (first | apply Kd.R_alloc | apply Kd.R_drewN | apply Kd.R_drew)); exact HO_11.out) hb); have n3_ := Aside0.mk (Kd.R_below (by (with_reducible repeat (first | apply Kd.R_alloc | apply Kd.R_drewN | apply Kd.R_drew)); exact HO_12.out) hb); have n4_ := Aside0.mk (Kd.R_below (by (with_reducible repeat (first | apply Kd.R_alloc | apply Kd.R_drewN | apply Kd.R_drew)); exact HO_13.out) hb); have n5_ := Aside0.mk (Kd.R_below (by (with_reducible repeat (first | apply Kd.R_alloc | apply Kd.R_drewN | apply Kd.R_drew)); exact HO_14.out) hb); have n6_ := Aside0.mk (Kd.R_below (by (with_reducible repeat (first | apply Kd.R_alloc | apply Kd.R_drewN | apply Kd.R_drew)); exact HO_15.out) hb); have n7_ := Aside0.mk (below_step (by repeat (first | (with_reducible first | exact HB.out | apply below_alloc | apply pw_below_drewN | apply below_drew1) | exact HB.out)) hb); clear HO_9; clear HO_10; clear HO_11; clear HO_12; clear HO_13; clear HO_14; clear HO_15; clear HB; have HO_9 := n0_; have HO_10 := n1_; have HO_11 := n2_; have HO_12 := n3_; have HO_13 := n4_; have HO_14 := n5_; have HO_15 := n6_; have HB := n7_; clear n0_ n1_ n2_ n3_ n4_ n5_ n6_ n7_; (try clear hb); (try clear hb2); (try clear hk); (try clear hi)) | ((with_reducible refine gate_callee (f := 16) rfl ?_); refine goesL_ (some 70) rfl rfl Tryd.func16 (by kernel_rfl) rfl #[.slice Ao21 t521.length co21, .int .i64 x16_2, .int .i64 x17_3] rfl (by (try simp only [List.map_toArray, List.map_cons, List.map_nil]); first | done | rfl | (simp only [List.length_drop, List.length_take]; rfl)) ?_; (with_reducible refine (rel_Has.calls k3 _ _ t521 x16_2 x17_3 t540 _ ?side1 ?side2 A30.out).mono ?_); (case side1 => repeat (first | exact (Kd.R_reads' HO_10.out).2.2 | (with_reducible refine Kd.C_alloc ?_ _) | (with_reducible refine Kd.C_drewN ?_ _) | (with_reducible refine Kd.C_drew ?_))); (case side2 => exact (Kd.R_reads' HO_10.out).2.1); rintro e w33 ⟨rfl, hb⟩; refine ⟨_, rfl, ?_⟩; have n0_ := Aside0.mk (Kd.R_below (by (with_reducible repeat (first | apply Kd.R_alloc | apply Kd.R_drewN | apply Kd.R_drew)); exact HO_9.out) hb); have n1_ := Aside0.mk (Kd.R_below (by (with_reducible repeat (first | apply Kd.R_alloc | apply Kd.R_drewN | apply Kd.R_drew)); exact HO_10.out) hb); have n2_ := Aside0.mk (Kd.R_below (by (with_reducible repeat (first | apply Kd.R_alloc | apply Kd.R_drewN | apply Kd.R_drew)); exact HO_11.out) hb); have n3_ := Aside0.mk (Kd.R_below (by (with_reducible repeat (first | apply Kd.R_alloc | apply Kd.R_drewN | apply Kd.R_drew)); exact HO_12.out) hb); have n4_ := Aside0.mk (Kd.R_below (by (with_reducible repeat (first | apply Kd.R_alloc | apply Kd.R_drewN | apply Kd.R_drew)); exact HO_13.out) hb); have n5_ := Aside0.mk (Kd.R_below (by (with_reducible repeat (first | apply Kd.R_alloc | apply Kd.R_drewN | apply Kd.R_drew)); exact HO_14.out) hb); have n6_ := Aside0.mk (Kd.R_below (by (with_reducible repeat (first | apply Kd.R_alloc | apply Kd.R_drewN | apply Kd.R_drew)); exact HO_15.out) hb); have n7_ := Aside0.mk (below_step (by repeat (first | (with_reducible first | exact HB.out | apply below_alloc | apply pw_below_drewN | apply below_drew1) | exact HB.out)) hb); clear HO_9; clear HO_10; clear HO_11; clear HO_12; clear HO_13; clear HO_14; clear HO_15; clear HB; have HO_9 := n0_; have HO_10 := n1_; have HO_11 := n2_; have HO_12 := n3_; have HO_13 := n4_; have HO_14 := n5_; have HO_15 := n6_; have HB := n7_; clear n0_ n1_ n2_ n3_ n4_ n5_ n6_ n7_; (try clear hb); (try clear hb2); (try clear hk); (try clear hi)))
                      (try simp only [Act.put, List.setIfInBounds_toArray, List.set_cons_zero, List.set_cons_succ])
                      go_cut [20] (fun v20 wc => ∃ (kq : Nat) (x20_30 : Bool), v20 = .bool x20_30 ∧ Aside0 (withelaw2_RelSets.j3 kq a3 t518 t521 t524 t527 t530 t533 t536 x16_2 x17_3 t539 t540 x20_30 = some r) ∧ Aside0 (kq ≤ k3) ∧ Aside0 (Kd.R (Kd.int .u64) 23 wc w.heap.size (fun k_ => some k_ ≠ ((.slice Ao21 t521.length co21) : Value).ownBlock ∧ some k_ ≠ (v525 : Value).ownBlock ∧ some k_ ≠ (v528 : Value).ownBlock ∧ some k_ ≠ (v531 : Value).ownBlock ∧ some k_ ≠ (v534 : Value).ownBlock ∧ some k_ ≠ (v537 : Value).ownBlock) (.slice Ao20 t518.length co20) t518) ∧ Aside0 (Kd.R (Kd.int .u64) 23 wc w.heap.size (fun k_ => some k_ ≠ ((.slice Ao20 t518.length co20) : Value).ownBlock ∧ some k_ ≠ (v525 : Value).ownBlock ∧ some k_ ≠ (v528 : Value).ownBlock ∧ some k_ ≠ (v531 : Value).ownBlock ∧ some k_ ≠ (v534 : Value).ownBlock ∧ some k_ ≠ (v537 : Value).ownBlock) (.slice Ao21 t521.length co21) t521) ∧ Aside0 (Kd.R (Kd.int .u64) 23 wc w.heap.size (fun k_ => some k_ ≠ ((.slice Ao20 t518.length co20) : Value).ownBlock ∧ some k_ ≠ ((.slice Ao21 t521.length co21) : Value).ownBlock ∧ some k_ ≠ (v528 : Value).ownBlock ∧ some k_ ≠ (v531 : Value).ownBlock ∧ some k_ ≠ (v534 : Value).ownBlock ∧ some k_ ≠ (v537 : Value).ownBlock) v525 t524) ∧ Aside0 (Kd.R (Kd.int .u64) 23 wc w.heap.size (fun k_ => some k_ ≠ ((.slice Ao20 t518.length co20) : Value).ownBlock ∧ some k_ ≠ ((.slice Ao21 t521.length co21) : Value).ownBlock ∧ some k_ ≠ (v525 : Value).ownBlock ∧ some k_ ≠ (v531 : Value).ownBlock ∧ some k_ ≠ (v534 : Value).ownBlock ∧ some k_ ≠ (v537 : Value).ownBlock) v528 t527) ∧ Aside0 (Kd.R (Kd.int .u64) 23 wc w.heap.size (fun k_ => some k_ ≠ ((.slice Ao20 t518.length co20) : Value).ownBlock ∧ some k_ ≠ ((.slice Ao21 t521.length co21) : Value).ownBlock ∧ some k_ ≠ (v525 : Value).ownBlock ∧ some k_ ≠ (v528 : Value).ownBlock ∧ some k_ ≠ (v534 : Value).ownBlock ∧ some k_ ≠ (v537 : Value).ownBlock) v531 t530) ∧ Aside0 (Kd.R (Kd.int .u64) 23 wc w.heap.size (fun k_ => some k_ ≠ ((.slice Ao20 t518.length co20) : Value).ownBlock ∧ some k_ ≠ ((.slice Ao21 t521.length co21) : Value).ownBlock ∧ some k_ ≠ (v525 : Value).ownBlock ∧ some k_ ≠ (v528 : Value).ownBlock ∧ some k_ ≠ (v531 : Value).ownBlock ∧ some k_ ≠ (v537 : Value).ownBlock) v534 t533) ∧ Aside0 (Kd.R (Kd.int .u64) 23 wc w.heap.size (fun k_ => some k_ ≠ ((.slice Ao20 t518.length co20) : Value).ownBlock ∧ some k_ ≠ ((.slice Ao21 t521.length co21) : Value).ownBlock ∧ some k_ ≠ (v525 : Value).ownBlock ∧ some k_ ≠ (v528 : Value).ownBlock ∧ some k_ ≠ (v531 : Value).ownBlock ∧ some k_ ≠ (v534 : Value).ownBlock) v537 t536) ∧ Aside0 (Below w.heap.size w wc))
                      case first =>
                        have H := HC31.out
                        clear HC31
                        obtain ⟨ji34, hji34⟩ : ∃ j_ : Int, (IntKind.u64.wrap (x16_2)) = j_ := ⟨_, rfl⟩
                        replace H : (if 0 ≤ (ji34) then (if (Go.bits .and .u64 (shr .u64 a3 (ji34)) 1) = 1 then (if 0 ≤ (IntKind.u64.wrap (x17_3)) then (withelaw2_RelSets.j3 k3 a3 t518 t521 t524 t527 t530 t533 t536 x16_2 x17_3 t539 t540 ((Go.bits .and .u64 (shr .u64 a3 (IntKind.u64.wrap (x17_3))) 1) == 1)) else (none)) else (withelaw2_RelSets.j3 k3 a3 t518 t521 t524 t527 t530 t533 t536 x16_2 x17_3 t539 t540 false)) else (none)) = some r := by first | (rw [hji34] at H; exact H) | (simp only [hji34] at H ⊢; exact H)
                        by_cases c35 : 0 ≤ (ji34)
                        · rw [if_pos c35] at H
                          have c35b0 := eq_true c35
                          have c35b1 : decide (0 ≤ (ji34)) = true := decide_eq_true c35
                          clear c35
                          obtain ⟨ji36, hji36⟩ : ∃ j_ : Int, (shr .u64 a3 (ji34)) = j_ := ⟨_, rfl⟩
                          replace H : (if (Go.bits .and .u64 (ji36) 1) = 1 then (if 0 ≤ (IntKind.u64.wrap (x17_3)) then (withelaw2_RelSets.j3 k3 a3 t518 t521 t524 t527 t530 t533 t536 x16_2 x17_3 t539 t540 ((Go.bits .and .u64 (shr .u64 a3 (IntKind.u64.wrap (x17_3))) 1) == 1)) else (none)) else (withelaw2_RelSets.j3 k3 a3 t518 t521 t524 t527 t530 t533 t536 x16_2 x17_3 t539 t540 false)) = some r := by first | (rw [hji36] at H; exact H) | (simp only [hji36] at H ⊢; exact H)
                          have hji36_ : (a3 / 2 ^ min (ji34).toNat 64) = ji36 := hji36
                          have hji36z : (ji34) ≤ 64 → (a3 / 2 ^ (ji34).toNat) = ji36 := shr_small hji36
                          by_cases c37 : (Go.bits .and .u64 (ji36) 1) = 1
                          · rw [if_pos c37] at H
                            have c37b0 : ((Go.bits .and .u64 (ji36) 1) == 1) = true := beq_iff_eq.mpr c37
                            have c37b1 : ((Go.bits .and .u64 (ji36) 1) != 1) = false := bne_eq_false_iff_eq.mpr c37
                            clear c37
                            (first | rw [c37b0] | (simp only [i64_w, i32_w]; rw [c37b0]) | skip)
                            obtain ⟨ji38, hji38⟩ : ∃ j_ : Int, (IntKind.u64.wrap (x17_3)) = j_ := ⟨_, rfl⟩
                            replace H : (if 0 ≤ (ji38) then (withelaw2_RelSets.j3 k3 a3 t518 t521 t524 t527 t530 t533 t536 x16_2 x17_3 t539 t540 ((Go.bits .and .u64 (shr .u64 a3 (ji38)) 1) == 1)) else (none)) = some r := by first | (rw [hji38] at H; exact H) | (simp only [hji38] at H ⊢; exact H)
                            by_cases c39 : 0 ≤ (ji38)
                            · rw [if_pos c39] at H
                              have c39b0 := eq_true c39
                              have c39b1 : decide (0 ≤ (ji38)) = true := decide_eq_true c39
                              clear c39
                              obtain ⟨ji40, hji40⟩ : ∃ j_ : Int, (shr .u64 a3 (ji38)) = j_ := ⟨_, rfl⟩
                              replace H : (withelaw2_RelSets.j3 k3 a3 t518 t521 t524 t527 t530 t533 t536 x16_2 x17_3 t539 t540 ((Go.bits .and .u64 (ji40) 1) == 1)) = some r := by first | (rw [hji40] at H; exact H) | (simp only [hji40] at H ⊢; exact H)
                              have hji40_ : (a3 / 2 ^ min (ji38).toNat 64) = ji40 := hji40
                              have hji40z : (ji38) ≤ 64 → (a3 / 2 ^ (ji38).toNat) = ji40 := shr_small hji40
                              have H' := Aside0.mk H
                              clear H
                              go_wp2
                              go_meet
                              case rel => exact ⟨_, (((Go.bits .and .u64 (ji40) 1) == 1)), (by first | rfl | (simp; done) | (simp only [← hji40] <;> (first | rfl | simp)) | (simp [*]; done)), H', ⟨by have := HJ6.out; have := HK2.out; have := HK3.out; first | omega | exact Nat.le_refl _⟩, ⟨by (with_reducible repeat (first | apply Kd.R_alloc | apply Kd.R_drewN | apply Kd.R_drew)); exact HO_9.out⟩, ⟨by (with_reducible repeat (first | apply Kd.R_alloc | apply Kd.R_drewN | apply Kd.R_drew)); exact HO_10.out⟩, ⟨by (with_reducible repeat (first | apply Kd.R_alloc | apply Kd.R_drewN | apply Kd.R_drew)); exact HO_11.out⟩, ⟨by (with_reducible repeat (first | apply Kd.R_alloc | apply Kd.R_drewN | apply Kd.R_drew)); exact HO_12.out⟩, ⟨by (with_reducible repeat (first | apply Kd.R_alloc | apply Kd.R_drewN | apply Kd.R_drew)); exact HO_13.out⟩, ⟨by (with_reducible repeat (first | apply Kd.R_alloc | apply Kd.R_drewN | apply Kd.R_drew)); exact HO_14.out⟩, ⟨by (with_reducible repeat (first | apply Kd.R_alloc | apply Kd.R_drewN | apply Kd.R_drew)); exact HO_15.out⟩, ⟨by repeat (first | (with_reducible first | exact HB.out | apply below_alloc | apply pw_below_drewN | apply below_drew1) | exact HB.out)⟩⟩
                            · rw [if_neg c39] at H
                              exact absurd H (by simp)
                          · rw [if_neg c37] at H
                            have c37b0 : ((Go.bits .and .u64 (ji36) 1) == 1) = false := beq_eq_false_iff_ne.mpr c37
                            have c37b1 : ((Go.bits .and .u64 (ji36) 1) != 1) = true := bne_iff_ne.mpr c37
                            (first | rw [c37b0] | (simp only [i64_w, i32_w]; rw [c37b0]) | skip)
                            have H' := Aside0.mk H
                            clear H
                            go_wp2
                            go_meet
                            case rel => exact ⟨_, (false), (by first | rfl | (simp; done) | (simp [*]; done)), H', ⟨by have := HJ6.out; have := HK2.out; have := HK3.out; first | omega | exact Nat.le_refl _⟩, ⟨by (with_reducible repeat (first | apply Kd.R_alloc | apply Kd.R_drewN | apply Kd.R_drew)); exact HO_9.out⟩, ⟨by (with_reducible repeat (first | apply Kd.R_alloc | apply Kd.R_drewN | apply Kd.R_drew)); exact HO_10.out⟩, ⟨by (with_reducible repeat (first | apply Kd.R_alloc | apply Kd.R_drewN | apply Kd.R_drew)); exact HO_11.out⟩, ⟨by (with_reducible repeat (first | apply Kd.R_alloc | apply Kd.R_drewN | apply Kd.R_drew)); exact HO_12.out⟩, ⟨by (with_reducible repeat (first | apply Kd.R_alloc | apply Kd.R_drewN | apply Kd.R_drew)); exact HO_13.out⟩, ⟨by (with_reducible repeat (first | apply Kd.R_alloc | apply Kd.R_drewN | apply Kd.R_drew)); exact HO_14.out⟩, ⟨by (with_reducible repeat (first | apply Kd.R_alloc | apply Kd.R_drewN | apply Kd.R_drew)); exact HO_15.out⟩, ⟨by repeat (first | (with_reducible first | exact HB.out | apply below_alloc | apply pw_below_drewN | apply below_drew1) | exact HB.out)⟩⟩
                        · rw [if_neg c35] at H
                          exact absurd H (by simp)
                      case rest =>
                        clear HC31
                        try clear c1
                        try clear c2
                        try clear p2
                        try clear c3
                        try clear c6
                        try clear c7
                        try clear c8
                        try clear c9
                        try clear c9b0
                        try clear c9b1
                        try clear c10
                        try clear c16
                        try clear c21
                        try clear c23
                        try clear c24
                        try clear c25
                        try clear c27
                        try clear c27b0
                        try clear c28
                        try clear c28b0
                        try clear c31
                        try clear c35
                        try clear c35b0
                        try clear c35b1
                        try clear c37
                        try clear c37b0
                        try clear c37b1
                        try clear c39
                        try clear c39b0
                        try clear c39b1
                        try clear p2
                        obtain ⟨kq, x20_30, rfl, HA, HJ30, HO_9, HO_10, HO_11, HO_12, HO_13, HO_14, HO_15, HB⟩ := hcut
                        cases kq with
                        | zero => exact absurd HA.out (by simp [withelaw2_RelSets.j3])
                        | succ kj30 =>
                          have H := HA.out
                          clear HA
                          simp only [withelaw2_RelSets.j3] at H
                          replace H := Option.bind_eq_some_iff.mp H
                          obtain ⟨t541, A410, H⟩ := H
                          replace H : (if t539 = true then (if (t541 != true) = true then (none) else ((rel_Has.f kj30 t527 x16_2 x17_3).bind fun t542 => (if (t542 != t540) = true then (none) else ((rel_Has.f kj30 t530 x16_2 x17_3).bind fun t543 => (if (t543 != (!t540)) = true then (none) else ((rel_Has.f kj30 t533 x16_2 x17_3).bind fun t544 => (if (t544 != x20_30) = true then (none) else ((rel_Has.f kj30 t536 x17_3 x16_2).bind fun t545 => (if (t545 != t539) = true then (none) else (withelaw2_RelSets.l1 kj30 a3 t518 t521 t524 t527 t530 t533 t536 x16_2 (wrap64 (x17_3 + 1)))))))))))) else (if (t541 != t540) = true then (none) else ((rel_Has.f kj30 t527 x16_2 x17_3).bind fun t546 => (if (t546 != false) = true then (none) else ((rel_Has.f kj30 t530 x16_2 x17_3).bind fun t547 => (if (t547 != false) = true then (none) else ((rel_Has.f kj30 t533 x16_2 x17_3).bind fun t548 => (if (t548 != false) = true then (none) else ((rel_Has.f kj30 t536 x17_3 x16_2).bind fun t549 => (if (t549 != t539) = true then (none) else (withelaw2_RelSets.l1 kj30 a3 t518 t521 t524 t527 t530 t533 t536 x16_2 (wrap64 (x17_3 + 1))))))))))))) = some r := H
                          have A41 := Aside0.mk A410
                          clear A410
                          by_cases c42 : t539 = true
                          · subst c42
                            have H1 : (if (t541 != true) = true then (none) else ((rel_Has.f kj30 t527 x16_2 x17_3).bind fun t542 => (if (t542 != t540) = true then (none) else ((rel_Has.f kj30 t530 x16_2 x17_3).bind fun t543 => (if (t543 != (!t540)) = true then (none) else ((rel_Has.f kj30 t533 x16_2 x17_3).bind fun t544 => (if (t544 != x20_30) = true then (none) else ((rel_Has.f kj30 t536 x17_3 x16_2).bind fun t545 => (if (t545 != true) = true then (none) else (withelaw2_RelSets.l1 kj30 a3 t518 t521 t524 t527 t530 t533 t536 x16_2 (wrap64 (x17_3 + 1)))))))))))) = some r := by rw [if_pos rfl] at H; exact H
                            clear H
                            have H := H1
                            clear H1
                            by_cases c43 : (t541 != true) = true
                            · rw [if_pos c43] at H
                              exact absurd H (by simp)
                            · rw [if_neg c43] at H
                              have c43b0 : (t541 != true) = false := by simpa using c43
                              (try (have c43b1 : decide (t541 = true) = true := by simpa using c43))
                              (try (have c43b2 : (t541 == true) = true := by simpa using c43))
                              clear c43
                              replace H := Option.bind_eq_some_iff.mp H
                              obtain ⟨t542, A440, H⟩ := H
                              replace H : (if (t542 != t540) = true then (none) else ((rel_Has.f kj30 t530 x16_2 x17_3).bind fun t543 => (if (t543 != (!t540)) = true then (none) else ((rel_Has.f kj30 t533 x16_2 x17_3).bind fun t544 => (if (t544 != x20_30) = true then (none) else ((rel_Has.f kj30 t536 x17_3 x16_2).bind fun t545 => (if (t545 != true) = true then (none) else (withelaw2_RelSets.l1 kj30 a3 t518 t521 t524 t527 t530 t533 t536 x16_2 (wrap64 (x17_3 + 1)))))))))) = some r := H
                              have A44 := Aside0.mk A440
                              clear A440
                              by_cases c45 : (t542 != t540) = true
                              · rw [if_pos c45] at H
                                exact absurd H (by simp)
                              · rw [if_neg c45] at H
                                have c45b0 : (t542 != t540) = false := by simpa using c45
                                (try (have c45b1 : decide (t542 = t540) = true := by simpa using c45))
                                (try (have c45b2 : (t542 == t540) = true := by simpa using c45))
                                clear c45
                                replace H := Option.bind_eq_some_iff.mp H
                                obtain ⟨t543, A460, H⟩ := H
                                replace H : (if (t543 != (!t540)) = true then (none) else ((rel_Has.f kj30 t533 x16_2 x17_3).bind fun t544 => (if (t544 != x20_30) = true then (none) else ((rel_Has.f kj30 t536 x17_3 x16_2).bind fun t545 => (if (t545 != true) = true then (none) else (withelaw2_RelSets.l1 kj30 a3 t518 t521 t524 t527 t530 t533 t536 x16_2 (wrap64 (x17_3 + 1)))))))) = some r := H
                                have A46 := Aside0.mk A460
                                clear A460
                                by_cases c47 : (t543 != (!t540)) = true
                                · rw [if_pos c47] at H
                                  exact absurd H (by simp)
                                · rw [if_neg c47] at H
                                  have c47b0 : (t543 != (!t540)) = false := by simpa using c47
                                  (try (have c47b1 : decide (t543 = (!t540)) = true := by revert c47; cases t543 <;> cases t540 <;> decide)); (try (have c47b1n : t543 = (!t540) := by revert c47; cases t543 <;> cases t540 <;> decide))
                                  (try (have c47b2 : (t543 == (!t540)) = true := by revert c47; cases t543 <;> cases t540 <;> decide)); (try (have c47b2n : t543 = (!t540) := by revert c47; cases t543 <;> cases t540 <;> decide))
                                  clear c47
                                  replace H := Option.bind_eq_some_iff.mp H
                                  obtain ⟨t544, A480, H⟩ := H
                                  replace H : (if (t544 != x20_30) = true then (none) else ((rel_Has.f kj30 t536 x17_3 x16_2).bind fun t545 => (if (t545 != true) = true then (none) else (withelaw2_RelSets.l1 kj30 a3 t518 t521 t524 t527 t530 t533 t536 x16_2 (wrap64 (x17_3 + 1)))))) = some r := H
                                  have A48 := Aside0.mk A480
                                  clear A480
                                  by_cases c49 : (t544 != x20_30) = true
                                  · rw [if_pos c49] at H
                                    exact absurd H (by simp)
                                  · rw [if_neg c49] at H
                                    have c49b0 : (t544 != x20_30) = false := by simpa using c49
                                    (try (have c49b1 : decide (t544 = x20_30) = true := by simpa using c49))
                                    (try (have c49b2 : (t544 == x20_30) = true := by simpa using c49))
                                    clear c49
                                    replace H := Option.bind_eq_some_iff.mp H
                                    obtain ⟨t545, A500, H⟩ := H
                                    replace H : (if (t545 != true) = true then (none) else (withelaw2_RelSets.l1 kj30 a3 t518 t521 t524 t527 t530 t533 t536 x16_2 (wrap64 (x17_3 + 1)))) = some r := H
                                    have A50 := Aside0.mk A500
                                    clear A500
                                    by_cases c51 : (t545 != true) = true
                                    · rw [if_pos c51] at H
                                      exact absurd H (by simp)
                                    · rw [if_neg c51] at H
                                      have c51b0 : (t545 != true) = false := by simpa using c51
                                      (try (have c51b1 : decide (t545 = true) = true := by simpa using c51))
                                      (try (have c51b2 : (t545 == true) = true := by simpa using c51))
                                      clear c51
                                      have H' := Aside0.mk H
                                      clear H
                                      obtain ⟨Ao52, co52, eo52⟩ := Kd.R_slice HO_11.out
                                      subst eo52
                                      go_wp2_with (first | ((with_reducible refine gate_callee (f := 16) rfl ?_); refine goesL_ (some 88) rfl rfl Tryd.func16 (by kernel_rfl) rfl #[.slice Ao52 t524.length co52, .int .i64 x16_2, .int .i64 x17_3] rfl (by (try simp only [List.map_toArray, List.map_cons, List.map_nil]); first | done | rfl | (simp only [List.length_drop, List.length_take]; rfl)) ?_; (with_reducible refine (rel_Has.calls kj30 _ _ t524 x16_2 x17_3 t541 _ ?side1 ?side2 A41.out).mono ?_); (case side1 => repeat (first | exact (Kd.R_reads' HO_11.out).2.2 | (with_reducible refine Kd.C_alloc ?_ _) | (with_reducible refine Kd.C_drewN ?_ _) | (with_reducible refine Kd.C_drew ?_))); (case side2 => exact (Kd.R_reads' HO_11.out).2.1); rintro e w53 ⟨rfl, hb⟩; refine ⟨_, rfl, ?_⟩; have n0_ := Aside0.mk (Kd.R_below (by (with_reducible repeat (first | apply Kd.R_alloc | apply Kd.R_drewN | apply Kd.R_drew)); exact HO_9.out) hb); have n1_ := Aside0.mk (Kd.R_below (by (with_reducible repeat (first | apply Kd.R_alloc | apply Kd.R_drewN | apply Kd.R_drew)); exact HO_10.out) hb); have n2_ := Aside0.mk (Kd.R_below (by (with_reducible repeat (first | apply Kd.R_alloc | apply Kd.R_drewN | apply Kd.R_drew)); exact HO_11.out) hb); have n3_ := Aside0.mk (Kd.R_below (by (with_reducible repeat (first | apply Kd.R_alloc | apply Kd.R_drewN | apply Kd.R_drew)); exact HO_12.out) hb); have n4_ := Aside0.mk (Kd.R_below (by (with_reducible repeat (first | apply Kd.R_alloc | apply Kd.R_drewN | apply Kd.R_drew)); exact HO_13.out) hb); have n5_ := Aside0.mk (Kd.R_below (by (with_reducible repeat (first | apply Kd.R_alloc | apply Kd.R_drewN | apply Kd.R_drew)); exact HO_14.out) hb); have n6_ := Aside0.mk (Kd.R_below (by (with_reducible repeat (first | apply Kd.R_alloc | apply Kd.R_drewN | apply Kd.R_drew)); exact HO_15.out) hb); have n7_ := Aside0.mk (below_step (by repeat (first | (with_reducible first | exact HB.out | apply below_alloc | apply pw_below_drewN | apply below_drew1) | exact HB.out)) hb); clear HO_9; clear HO_10; clear HO_11; clear HO_12; clear HO_13; clear HO_14; clear HO_15; clear HB; have HO_9 := n0_; have HO_10 := n1_; have HO_11 := n2_; have HO_12 := n3_; have HO_13 := n4_; have HO_14 := n5_; have HO_15 := n6_; have HB := n7_; clear n0_ n1_ n2_ n3_ n4_ n5_ n6_ n7_; (try clear hb); (try clear hb2); (try clear hk); (try clear hi); obtain ⟨Ao54, co54, eo54⟩ := Kd.R_slice HO_12.out; subst eo54) | ((first | ((with_reducible refine gate_callee (f := 16) rfl ?_); (refine gate_guard (by rfl) ?_; dsimp only); refine goesL_ (some 98) rfl rfl Tryd.func16 (by kernel_rfl) rfl #[.slice Ao54 t527.length co54, .int .i64 x16_2, .int .i64 x17_3] rfl (by (try simp only [List.map_toArray, List.map_cons, List.map_nil]); first | done | rfl | (simp only [List.length_drop, List.length_take]; rfl)) ?_; (with_reducible refine (rel_Has.calls kj30 _ _ t527 x16_2 x17_3 t542 _ ?side1 ?side2 A44.out).mono ?_); (case side1 => repeat (first | exact (Kd.R_reads' HO_12.out).2.2 | (with_reducible refine Kd.C_alloc ?_ _) | (with_reducible refine Kd.C_drewN ?_ _) | (with_reducible refine Kd.C_drew ?_))); (case side2 => exact (Kd.R_reads' HO_12.out).2.1); rintro e w55 ⟨rfl, hb⟩; refine ⟨_, rfl, ?_⟩; have n0_ := Aside0.mk (Kd.R_below (by (with_reducible repeat (first | apply Kd.R_alloc | apply Kd.R_drewN | apply Kd.R_drew)); exact HO_9.out) hb); have n1_ := Aside0.mk (Kd.R_below (by (with_reducible repeat (first | apply Kd.R_alloc | apply Kd.R_drewN | apply Kd.R_drew)); exact HO_10.out) hb); have n2_ := Aside0.mk (Kd.R_below (by (with_reducible repeat (first | apply Kd.R_alloc | apply Kd.R_drewN | apply Kd.R_drew)); exact HO_11.out) hb); have n3_ := Aside0.mk (Kd.R_below (by (with_reducible repeat (first | apply Kd.R_alloc | apply Kd.R_drewN | apply Kd.R_drew)); exact HO_12.out) hb); have n4_ := Aside0.mk (Kd.R_below (by (with_reducible repeat (first | apply Kd.R_alloc | apply Kd.R_drewN | apply Kd.R_drew)); exact HO_13.out) hb); have n5_ := Aside0.mk (Kd.R_below (by (with_reducible repeat (first | apply Kd.R_alloc | apply Kd.R_drewN | apply Kd.R_drew)); exact HO_14.out) hb); have n6_ := Aside0.mk (Kd.R_below (by (with_reducible repeat (first | apply Kd.R_alloc | apply Kd.R_drewN | apply Kd.R_drew)); exact HO_15.out) hb); have n7_ := Aside0.mk (below_step (by repeat (first | (with_reducible first | exact HB.out | apply below_alloc | apply pw_below_drewN | apply below_drew1) | exact HB.out)) hb); clear HO_9; clear HO_10; clear HO_11; clear HO_12; clear HO_13; clear HO_14; clear HO_15; clear HB; have HO_9 := n0_; have HO_10 := n1_; have HO_11 := n2_; have HO_12 := n3_; have HO_13 := n4_; have HO_14 := n5_; have HO_15 := n6_; have HB := n7_; clear n0_ n1_ n2_ n3_ n4_ n5_ n6_ n7_; (try clear hb); (try clear hb2); (try clear hk); (try clear hi)) | (go_at_call 16; (with_reducible refine (rel_Has.calls kj30 _ _ t527 x16_2 x17_3 t542 _ ?side1 ?side2 A44.out).mono ?_); (case side1 => repeat (first | exact (Kd.R_reads' HO_12.out).2.2 | (with_reducible refine Kd.C_alloc ?_ _) | (with_reducible refine Kd.C_drewN ?_ _) | (with_reducible refine Kd.C_drew ?_))); (case side2 => exact (Kd.R_reads' HO_12.out).2.1); rintro e w55 ⟨rfl, hb⟩; have n0_ := Aside0.mk (Kd.R_below (by (with_reducible repeat (first | apply Kd.R_alloc | apply Kd.R_drewN | apply Kd.R_drew)); exact HO_9.out) hb); have n1_ := Aside0.mk (Kd.R_below (by (with_reducible repeat (first | apply Kd.R_alloc | apply Kd.R_drewN | apply Kd.R_drew)); exact HO_10.out) hb); have n2_ := Aside0.mk (Kd.R_below (by (with_reducible repeat (first | apply Kd.R_alloc | apply Kd.R_drewN | apply Kd.R_drew)); exact HO_11.out) hb); have n3_ := Aside0.mk (Kd.R_below (by (with_reducible repeat (first | apply Kd.R_alloc | apply Kd.R_drewN | apply Kd.R_drew)); exact HO_12.out) hb); have n4_ := Aside0.mk (Kd.R_below (by (with_reducible repeat (first | apply Kd.R_alloc | apply Kd.R_drewN | apply Kd.R_drew)); exact HO_13.out) hb); have n5_ := Aside0.mk (Kd.R_below (by (with_reducible repeat (first | apply Kd.R_alloc | apply Kd.R_drewN | apply Kd.R_drew)); exact HO_14.out) hb); have n6_ := Aside0.mk (Kd.R_below (by (with_reducible repeat (first | apply Kd.R_alloc | apply Kd.R_drewN | apply Kd.R_drew)); exact HO_15.out) hb); have n7_ := Aside0.mk (below_step (by repeat (first | (with_reducible first | exact HB.out | apply below_alloc | apply pw_below_drewN | apply below_drew1) | exact HB.out)) hb); clear HO_9; clear HO_10; clear HO_11; clear HO_12; clear HO_13; clear HO_14; clear HO_15; clear HB; have HO_9 := n0_; have HO_10 := n1_; have HO_11 := n2_; have HO_12 := n3_; have HO_13 := n4_; have HO_14 := n5_; have HO_15 := n6_; have HB := n7_; clear n0_ n1_ n2_ n3_ n4_ n5_ n6_ n7_; (try clear hb); (try clear hb2); (try clear hk); (try clear hi))); obtain ⟨Ao56, co56, eo56⟩ := Kd.R_slice HO_13.out; subst eo56) | ((first | ((with_reducible refine gate_callee (f := 16) rfl ?_); (refine gate_guard (by rfl) ?_; dsimp only); refine goesL_ (some 109) rfl rfl Tryd.func16 (by kernel_rfl) rfl #[.slice Ao56 t530.length co56, .int .i64 x16_2, .int .i64 x17_3] rfl (by (try simp only [List.map_toArray, List.map_cons, List.map_nil]); first | done | rfl | (simp only [List.length_drop, List.length_take]; rfl)) ?_; (with_reducible refine (rel_Has.calls kj30 _ _ t530 x16_2 x17_3 t543 _ ?side1 ?side2 A46.out).mono ?_); (case side1 => repeat (first | exact (Kd.R_reads' HO_13.out).2.2 | (with_reducible refine Kd.C_alloc ?_ _) | (with_reducible refine Kd.C_drewN ?_ _) | (with_reducible refine Kd.C_drew ?_))); (case side2 => exact (Kd.R_reads' HO_13.out).2.1); rintro e w57 ⟨rfl, hb⟩; refine ⟨_, rfl, ?_⟩; have n0_ := Aside0.mk (Kd.R_below (by (with_reducible repeat (first | apply Kd.R_alloc | apply Kd.R_drewN | apply Kd.R_drew)); exact HO_9.out) hb); have n1_ := Aside0.mk (Kd.R_below (by (with_reducible repeat (first | apply Kd.R_alloc | apply Kd.R_drewN | apply Kd.R_drew)); exact HO_10.out) hb); have n2_ := Aside0.mk (Kd.R_below (by (with_reducible repeat (first | apply Kd.R_alloc | apply Kd.R_drewN | apply Kd.R_drew)); exact HO_11.out) hb); have n3_ := Aside0.mk (Kd.R_below (by (with_reducible repeat (first | apply Kd.R_alloc | apply Kd.R_drewN | apply Kd.R_drew)); exact HO_12.out) hb); have n4_ := Aside0.mk (Kd.R_below (by (with_reducible repeat (first | apply Kd.R_alloc | apply Kd.R_drewN | apply Kd.R_drew)); exact HO_13.out) hb); have n5_ := Aside0.mk (Kd.R_below (by (with_reducible repeat (first | apply Kd.R_alloc | apply Kd.R_drewN | apply Kd.R_drew)); exact HO_14.out) hb); have n6_ := Aside0.mk (Kd.R_below (by (with_reducible repeat (first | apply Kd.R_alloc | apply Kd.R_drewN | apply Kd.R_drew)); exact HO_15.out) hb); have n7_ := Aside0.mk (below_step (by repeat (first | (with_reducible first | exact HB.out | apply below_alloc | apply pw_below_drewN | apply below_drew1) | exact HB.out)) hb); clear HO_9; clear HO_10; clear HO_11; clear HO_12; clear HO_13; clear HO_14; clear HO_15; clear HB; have HO_9 := n0_; have HO_10 := n1_; have HO_11 := n2_; have HO_12 := n3_; have HO_13 := n4_; have HO_14 := n5_; have HO_15 := n6_; have HB := n7_; clear n0_ n1_ n2_ n3_ n4_ n5_ n6_ n7_; (try clear hb); (try clear hb2); (try clear hk); (try clear hi)) | (go_at_call 16; (with_reducible refine (rel_Has.calls kj30 _ _ t530 x16_2 x17_3 t543 _ ?side1 ?side2 A46.out).mono ?_); (case side1 => repeat (first | exact (Kd.R_reads' HO_13.out).2.2 | (with_reducible refine Kd.C_alloc ?_ _) | (with_reducible refine Kd.C_drewN ?_ _) | (with_reducible refine Kd.C_drew ?_))); (case side2 => exact (Kd.R_reads' HO_13.out).2.1); rintro e w57 ⟨rfl, hb⟩; have n0_ := Aside0.mk (Kd.R_below (by (with_reducible repeat (first | apply Kd.R_alloc | apply Kd.R_drewN | apply Kd.R_drew)); exact HO_9.out) hb); have n1_ := Aside0.mk (Kd.R_below (by (with_reducible repeat (first | apply Kd.R_alloc | apply Kd.R_drewN | apply Kd.R_drew)); exact HO_10.out) hb); have n2_ := Aside0.mk (Kd.R_below (by (with_reducible repeat (first | apply Kd.R_alloc | apply Kd.R_drewN | apply Kd.R_drew)); exact HO_11.out) hb); have n3_ := Aside0.mk (Kd.R_below (by (with_reducible repeat (first | apply Kd.R_alloc | apply Kd.R_drewN | apply Kd.R_drew)); exact HO_12.out) hb); have n4_ := Aside0.mk (Kd.R_below (by (with_reducible repeat (first | apply Kd.R_alloc | apply Kd.R_drewN | apply Kd.R_drew)); exact HO_13.out) hb); have n5_ := Aside0.mk (Kd.R_below (by (with_reducible repeat (first | apply Kd.R_alloc | apply Kd.R_drewN | apply Kd.R_drew)); exact HO_14.out) hb); have n6_ := Aside0.mk (Kd.R_below (by (with_reducible repeat (first | apply Kd.R_alloc | apply Kd.R_drewN | apply Kd.R_drew)); exact HO_15.out) hb); have n7_ := Aside0.mk (below_step (by repeat (first | (with_reducible first | exact HB.out | apply below_alloc | apply pw_below_drewN | apply below_drew1) | exact HB.out)) hb); clear HO_9; clear HO_10; clear HO_11; clear HO_12; clear HO_13; clear HO_14; clear HO_15; clear HB; have HO_9 := n0_; have HO_10 := n1_; have HO_11 := n2_; have HO_12 := n3_; have HO_13 := n4_; have HO_14 := n5_; have HO_15 := n6_; have HB := n7_; clear n0_ n1_ n2_ n3_ n4_ n5_ n6_ n7_; (try clear hb); (try clear hb2); (try clear hk); (try clear hi))); obtain ⟨Ao58, co58, eo58⟩ := Kd.R_slice HO_14.out; subst eo58) | ((first | ((with_reducible refine gate_callee (f := 16) rfl ?_); (refine gate_guard (by rfl) ?_; dsimp only); refine goesL_ (some 121) rfl rfl Tryd.func16 (by kernel_rfl) rfl #[.slice Ao58 t533.length co58, .int .i64 x16_2, .int .i64 x17_3] rfl (by (try simp only [List.map_toArray, List.map_cons, List.map_nil]); first | done | rfl | (simp only [List.length_drop, List.length_take]; rfl)) ?_; (with_reducible refine (rel_Has.calls kj30 _ _ t533 x16_2 x17_3 t544 _ ?side1 ?side2 A48.out).mono ?_); (case side1 => repeat (first | exact (Kd.R_reads' HO_14.out).2.2 | (with_reducible refine Kd.C_alloc ?_ _) | (with_reducible refine Kd.C_drewN ?_ _) | (with_reducible refine Kd.C_drew ?_))); (case side2 => exact (Kd.R_reads' HO_14.out).2.1); rintro e w59 ⟨rfl, hb⟩; refine ⟨_, rfl, ?_⟩; have n0_ := Aside0.mk (Kd.R_below (by (with_reducible repeat (first | apply Kd.R_alloc | apply Kd.R_drewN | apply Kd.R_drew)); exact HO_9.out) hb); have n1_ := Aside0.mk (Kd.R_below (by (with_reducible repeat (first | apply Kd.R_alloc | apply Kd.R_drewN | apply Kd.R_drew)); exact HO_10.out) hb); have n2_ := Aside0.mk (Kd.R_below (by (with_reducible repeat (first | apply Kd.R_alloc | apply Kd.R_drewN | apply Kd.R_drew)); exact HO_11.out) hb); have n3_ := Aside0.mk (Kd.R_below (by (with_reducible repeat (first | apply Kd.R_alloc | apply Kd.R_drewN | apply Kd.R_drew)); exact HO_12.out) hb); have n4_ := Aside0.mk (Kd.R_below (by (with_reducible repeat (first | apply Kd.R_alloc | apply Kd.R_drewN | apply Kd.R_drew)); exact HO_13.out) hb); have n5_ := Aside0.mk (Kd.R_below (by (with_reducible repeat (first | apply Kd.R_alloc | apply Kd.R_drewN | apply Kd.R_drew)); exact HO_14.out) hb); have n6_ := Aside0.mk (Kd.R_below (by (with_reducible repeat (first | apply Kd.R_alloc | apply Kd.R_drewN | apply Kd.R_drew)); exact HO_15.out) hb); have n7_ := Aside0.mk (below_step (by repeat (first | (with_reducible first | exact HB.out | apply below_alloc | apply pw_below_drewN | apply below_drew1) | exact HB.out)) hb); clear HO_9; clear HO_10; clear HO_11; clear HO_12; clear HO_13; clear HO_14; clear HO_15; clear HB; have HO_9 := n0_; have HO_10 := n1_; have HO_11 := n2_; have HO_12 := n3_; have HO_13 := n4_; have HO_14 := n5_; have HO_15 := n6_; have HB := n7_; clear n0_ n1_ n2_ n3_ n4_ n5_ n6_ n7_; (try clear hb); (try clear hb2); (try clear hk); (try clear hi)) | (go_at_call 16; (with_reducible refine (rel_Has.calls kj30 _ _ t533 x16_2 x17_3 t544 _ ?side1 ?side2 A48.out).mono ?_); (case side1 => repeat (first | exact (Kd.R_reads' HO_14.out).2.2 | (with_reducible refine Kd.C_alloc ?_ _) | (with_reducible refine Kd.C_drewN ?_ _) | (with_reducible refine Kd.C_drew ?_))); (case side2 => exact (Kd.R_reads' HO_14.out).2.1); rintro e w59 ⟨rfl, hb⟩; have n0_ := Aside0.mk (Kd.R_below (by (with_reducible repeat (first | apply Kd.R_alloc | apply Kd.R_drewN | apply Kd.R_drew)); exact HO_9.out) hb); have n1_ := Aside0.mk (Kd.R_below (by (with_reducible repeat (first | apply Kd.R_alloc | apply Kd.R_drewN | apply Kd.R_drew)); exact HO_10.out) hb); have n2_ := Aside0.mk (Kd.R_below (by (with_reducible repeat (first | apply Kd.R_alloc | apply Kd.R_drewN | apply Kd.R_drew)); exact HO_11.out) hb); have n3_ := Aside0.mk (Kd.R_below (by (with_reducible repeat (first | apply Kd.R_alloc | apply Kd.R_drewN | apply Kd.R_drew)); exact HO_12.out) hb); have n4_ := Aside0.mk (Kd.R_below (by (with_reducible repeat (first | apply Kd.R_alloc | apply Kd.R_drewN | apply Kd.R_drew)); exact HO_13.out) hb); have n5_ := Aside0.mk (Kd.R_below (by (with_reducible repeat (first | apply Kd.R_alloc | apply Kd.R_drewN | apply Kd.R_drew)); exact HO_14.out) hb); have n6_ := Aside0.mk (Kd.R_below (by (with_reducible repeat (first | apply Kd.R_alloc | apply Kd.R_drewN | apply Kd.R_drew)); exact HO_15.out) hb); have n7_ := Aside0.mk (below_step (by repeat (first | (with_reducible first | exact HB.out | apply below_alloc | apply pw_below_drewN | apply below_drew1) | exact HB.out)) hb); clear HO_9; clear HO_10; clear HO_11; clear HO_12; clear HO_13; clear HO_14; clear HO_15; clear HB; have HO_9 := n0_; have HO_10 := n1_; have HO_11 := n2_; have HO_12 := n3_; have HO_13 := n4_; have HO_14 := n5_; have HO_15 := n6_; have HB := n7_; clear n0_ n1_ n2_ n3_ n4_ n5_ n6_ n7_; (try clear hb); (try clear hb2); (try clear hk); (try clear hi))); obtain ⟨Ao60, co60, eo60⟩ := Kd.R_slice HO_15.out; subst eo60) | ((first | ((with_reducible refine gate_callee (f := 16) rfl ?_); (refine gate_guard (by rfl) ?_; dsimp only); refine goesL_ (some 132) rfl rfl Tryd.func16 (by kernel_rfl) rfl #[.slice Ao60 t536.length co60, .int .i64 x17_3, .int .i64 x16_2] rfl (by (try simp only [List.map_toArray, List.map_cons, List.map_nil]); first | done | rfl | (simp only [List.length_drop, List.length_take]; rfl)) ?_; (with_reducible refine (rel_Has.calls kj30 _ _ t536 x17_3 x16_2 t545 _ ?side1 ?side2 A50.out).mono ?_); (case side1 => repeat (first | exact (Kd.R_reads' HO_15.out).2.2 | (with_reducible refine Kd.C_alloc ?_ _) | (with_reducible refine Kd.C_drewN ?_ _) | (with_reducible refine Kd.C_drew ?_))); (case side2 => exact (Kd.R_reads' HO_15.out).2.1); rintro e w61 ⟨rfl, hb⟩; refine ⟨_, rfl, ?_⟩; have n0_ := Aside0.mk (Kd.R_below (by (with_reducible repeat (first | apply Kd.R_alloc | apply Kd.R_drewN | apply Kd.R_drew)); exact HO_9.out) hb); have n1_ := Aside0.mk (Kd.R_below (by (with_reducible repeat (first | apply Kd.R_alloc | apply Kd.R_drewN | apply Kd.R_drew)); exact HO_10.out) hb); have n2_ := Aside0.mk (Kd.R_below (by (with_reducible repeat (first | apply Kd.R_alloc | apply Kd.R_drewN | apply Kd.R_drew)); exact HO_11.out) hb); have n3_ := Aside0.mk (Kd.R_below (by (with_reducible repeat (first | apply Kd.R_alloc | apply Kd.R_drewN | apply Kd.R_drew)); exact HO_12.out) hb); have n4_ := Aside0.mk (Kd.R_below (by (with_reducible repeat (first | apply Kd.R_alloc | apply Kd.R_drewN | apply Kd.R_drew)); exact HO_13.out) hb); have n5_ := Aside0.mk (Kd.R_below (by (with_reducible repeat (first | apply Kd.R_alloc | apply Kd.R_drewN | apply Kd.R_drew)); exact HO_14.out) hb); have n6_ := Aside0.mk (Kd.R_below (by (with_reducible repeat (first | apply Kd.R_alloc | apply Kd.R_drewN | apply Kd.R_drew)); exact HO_15.out) hb); have n7_ := Aside0.mk (below_step (by repeat (first | (with_reducible first | exact HB.out | apply below_alloc | apply pw_below_drewN | apply below_drew1) | exact HB.out)) hb); clear HO_9; clear HO_10; clear HO_11; clear HO_12; clear HO_13; clear HO_14; clear HO_15; clear HB; have HO_9 := n0_; have HO_10 := n1_; have HO_11 := n2_; have HO_12 := n3_; have HO_13 := n4_; have HO_14 := n5_; have HO_15 := n6_; have HB := n7_; clear n0_ n1_ n2_ n3_ n4_ n5_ n6_ n7_; (try clear hb); (try clear hb2); (try clear hk); (try clear hi)) | (go_at_call 16; (with_reducible refine (rel_Has.calls kj30 _ _ t536 x17_3 x16_2 t545 _ ?side1 ?side2 A50.out).mono ?_); (case side1 => repeat (first | exact (Kd.R_reads' HO_15.out).2.2 | (with_reducible refine Kd.C_alloc ?_ _) | (with_reducible refine Kd.C_drewN ?_ _) | (with_reducible refine Kd.C_drew ?_))); (case side2 => exact (Kd.R_reads' HO_15.out).2.1); rintro e w61 ⟨rfl, hb⟩; have n0_ := Aside0.mk (Kd.R_below (by (with_reducible repeat (first | apply Kd.R_alloc | apply Kd.R_drewN | apply Kd.R_drew)); exact HO_9.out) hb); have n1_ := Aside0.mk (Kd.R_below (by (with_reducible repeat (first | apply Kd.R_alloc | apply Kd.R_drewN | apply Kd.R_drew)); exact HO_10.out) hb); have n2_ := Aside0.mk (Kd.R_below (by (with_reducible repeat (first | apply Kd.R_alloc | apply Kd.R_drewN | apply Kd.R_drew)); exact HO_11.out) hb); have n3_ := Aside0.mk (Kd.R_below (by (with_reducible repeat (first | apply Kd.R_alloc | apply Kd.R_drewN | apply Kd.R_drew)); exact HO_12.out) hb); have n4_ := Aside0.mk (Kd.R_below (by (with_reducible repeat (first | apply Kd.R_alloc | apply Kd.R_drewN | apply Kd.R_drew)); exact HO_13.out) hb); have n5_ := Aside0.mk (Kd.R_below (by (with_reducible repeat (first | apply Kd.R_alloc | apply Kd.R_drewN | apply Kd.R_drew)); exact HO_14.out) hb); have n6_ := Aside0.mk (Kd.R_below (by (with_reducible repeat (first | apply Kd.R_alloc | apply Kd.R_drewN | apply Kd.R_drew)); exact HO_15.out) hb); have n7_ := Aside0.mk (below_step (by repeat (first | (with_reducible first | exact HB.out | apply below_alloc | apply pw_below_drewN | apply below_drew1) | exact HB.out)) hb); clear HO_9; clear HO_10; clear HO_11; clear HO_12; clear HO_13; clear HO_14; clear HO_15; clear HB; have HO_9 := n0_; have HO_10 := n1_; have HO_11 := n2_; have HO_12 := n3_; have HO_13 := n4_; have HO_14 := n5_; have HO_15 := n6_; have HB := n7_; clear n0_ n1_ n2_ n3_ n4_ n5_ n6_ n7_; (try clear hb); (try clear hb2); (try clear hk); (try clear hi)))))
                                      go_roundg kj30
                                      case measure => have := HJ6.out; have := HK2.out; have := HK3.out; have := HJ30.out; omega
                                      case rel => exact ⟨(wrap64 (x17_3 + 1)), (by first | rfl | (simp; done) | (simp [*]; done)), H', ⟨by have := HJ6.out; have := HK2.out; have := HK3.out; have := HJ30.out; omega⟩, ⟨by (with_reducible repeat (first | apply Kd.R_alloc | apply Kd.R_drewN | apply Kd.R_drew)); exact HO_9.out⟩, ⟨by (with_reducible repeat (first | apply Kd.R_alloc | apply Kd.R_drewN | apply Kd.R_drew)); exact HO_10.out⟩, ⟨by (with_reducible repeat (first | apply Kd.R_alloc | apply Kd.R_drewN | apply Kd.R_drew)); exact HO_11.out⟩, ⟨by (with_reducible repeat (first | apply Kd.R_alloc | apply Kd.R_drewN | apply Kd.R_drew)); exact HO_12.out⟩, ⟨by (with_reducible repeat (first | apply Kd.R_alloc | apply Kd.R_drewN | apply Kd.R_drew)); exact HO_13.out⟩, ⟨by (with_reducible repeat (first | apply Kd.R_alloc | apply Kd.R_drewN | apply Kd.R_drew)); exact HO_14.out⟩, ⟨by (with_reducible repeat (first | apply Kd.R_alloc | apply Kd.R_drewN | apply Kd.R_drew)); exact HO_15.out⟩, ⟨by repeat (first | (with_reducible first | exact HB.out | apply below_alloc | apply pw_below_drewN | apply below_drew1) | exact HB.out)⟩⟩
                          · replace c42 := Bool.eq_false_iff.mpr c42
                            subst c42
                            have H1 : (if (t541 != t540) = true then (none) else ((rel_Has.f kj30 t527 x16_2 x17_3).bind fun t546 => (if (t546 != false) = true then (none) else ((rel_Has.f kj30 t530 x16_2 x17_3).bind fun t547 => (if (t547 != false) = true then (none) else ((rel_Has.f kj30 t533 x16_2 x17_3).bind fun t548 => (if (t548 != false) = true then (none) else ((rel_Has.f kj30 t536 x17_3 x16_2).bind fun t549 => (if (t549 != false) = true then (none) else (withelaw2_RelSets.l1 kj30 a3 t518 t521 t524 t527 t530 t533 t536 x16_2 (wrap64 (x17_3 + 1)))))))))))) = some r := by rw [if_neg (show ¬ (false = true) by decide)] at H; exact H
                            clear H
                            have H := H1
                            clear H1
                            by_cases c62 : (t541 != t540) = true
                            · rw [if_pos c62] at H
                              exact absurd H (by simp)
                            · rw [if_neg c62] at H
                              have c62b0 : (t541 != t540) = false := by simpa using c62
                              (try (have c62b1 : decide (t541 = t540) = true := by simpa using c62))
                              (try (have c62b2 : (t541 == t540) = true := by simpa using c62))
                              clear c62
                              replace H := Option.bind_eq_some_iff.mp H
                              obtain ⟨t546, A630, H⟩ := H
                              replace H : (if (t546 != false) = true then (none) else ((rel_Has.f kj30 t530 x16_2 x17_3).bind fun t547 => (if (t547 != false) = true then (none) else ((rel_Has.f kj30 t533 x16_2 x17_3).bind fun t548 => (if (t548 != false) = true then (none) else ((rel_Has.f kj30 t536 x17_3 x16_2).bind fun t549 => (if (t549 != false) = true then (none) else (withelaw2_RelSets.l1 kj30 a3 t518 t521 t524 t527 t530 t533 t536 x16_2 (wrap64 (x17_3 + 1)))))))))) = some r := H
                              have A63 := Aside0.mk A630
                              clear A630
                              by_cases c64 : (t546 != false) = true
                              · rw [if_pos c64] at H
                                exact absurd H (by simp)
                              · rw [if_neg c64] at H
                                have c64b0 : (t546 != false) = false := by simpa using c64
                                (try (have c64b1 : decide (t546 = false) = true := by simpa using c64))
                                (try (have c64b2 : (t546 == false) = true := by simpa using c64))
                                clear c64
                                replace H := Option.bind_eq_some_iff.mp H
                                obtain ⟨t547, A650, H⟩ := H
                                replace H : (if (t547 != false) = true then (none) else ((rel_Has.f kj30 t533 x16_2 x17_3).bind fun t548 => (if (t548 != false) = true then (none) else ((rel_Has.f kj30 t536 x17_3 x16_2).bind fun t549 => (if (t549 != false) = true then (none) else (withelaw2_RelSets.l1 kj30 a3 t518 t521 t524 t527 t530 t533 t536 x16_2 (wrap64 (x17_3 + 1)))))))) = some r := H
                                have A65 := Aside0.mk A650
                                clear A650
                                by_cases c66 : (t547 != false) = true
                                · rw [if_pos c66] at H
                                  exact absurd H (by simp)
                                · rw [if_neg c66] at H
                                  have c66b0 : (t547 != false) = false := by simpa using c66
                                  (try (have c66b1 : decide (t547 = false) = true := by simpa using c66))
                                  (try (have c66b2 : (t547 == false) = true := by simpa using c66))
                                  clear c66
                                  replace H := Option.bind_eq_some_iff.mp H
                                  obtain ⟨t548, A670, H⟩ := H
                                  replace H : (if (t548 != false) = true then (none) else ((rel_Has.f kj30 t536 x17_3 x16_2).bind fun t549 => (if (t549 != false) = true then (none) else (withelaw2_RelSets.l1 kj30 a3 t518 t521 t524 t527 t530 t533 t536 x16_2 (wrap64 (x17_3 + 1)))))) = some r := H
                                  have A67 := Aside0.mk A670
                                  clear A670
                                  by_cases c68 : (t548 != false) = true
                                  · rw [if_pos c68] at H
                                    exact absurd H (by simp)
                                  · rw [if_neg c68] at H
                                    have c68b0 : (t548 != false) = false := by simpa using c68
                                    (try (have c68b1 : decide (t548 = false) = true := by simpa using c68))
                                    (try (have c68b2 : (t548 == false) = true := by simpa using c68))
                                    clear c68
                                    replace H := Option.bind_eq_some_iff.mp H
                                    obtain ⟨t549, A690, H⟩ := H
                                    replace H : (if (t549 != false) = true then (none) else (withelaw2_RelSets.l1 kj30 a3 t518 t521 t524 t527 t530 t533 t536 x16_2 (wrap64 (x17_3 + 1)))) = some r := H
                                    have A69 := Aside0.mk A690
                                    clear A690
                                    by_cases c70 : (t549 != false) = true
                                    · rw [if_pos c70] at H
                                      exact absurd H (by simp)
                                    · rw [if_neg c70] at H
                                      have c70b0 : (t549 != false) = false := by simpa using c70
                                      (try (have c70b1 : decide (t549 = false) = true := by simpa using c70))
                                      (try (have c70b2 : (t549 == false) = true := by simpa using c70))
                                      clear c70
                                      have H' := Aside0.mk H
                                      clear H
                                      obtain ⟨Ao71, co71, eo71⟩ := Kd.R_slice HO_11.out
                                      subst eo71
                                      go_wp2_with (first | ((with_reducible refine gate_callee (f := 16) rfl ?_); refine goesL_ (some 88) rfl rfl Tryd.func16 (by kernel_rfl) rfl #[.slice Ao71 t524.length co71, .int .i64 x16_2, .int .i64 x17_3] rfl (by (try simp only [List.map_toArray, List.map_cons, List.map_nil]); first | done | rfl | (simp only [List.length_drop, List.length_take]; rfl)) ?_; (with_reducible refine (rel_Has.calls kj30 _ _ t524 x16_2 x17_3 t541 _ ?side1 ?side2 A41.out).mono ?_); (case side1 => repeat (first | exact (Kd.R_reads' HO_11.out).2.2 | (with_reducible refine Kd.C_alloc ?_ _) | (with_reducible refine Kd.C_drewN ?_ _) | (with_reducible refine Kd.C_drew ?_))); (case side2 => exact (Kd.R_reads' HO_11.out).2.1); rintro e w72 ⟨rfl, hb⟩; refine ⟨_, rfl, ?_⟩; have n0_ := Aside0.mk (Kd.R_below (by (with_reducible repeat (first | apply Kd.R_alloc | apply Kd.R_drewN | apply Kd.R_drew)); exact HO_9.out) hb); have n1_ := Aside0.mk (Kd.R_below (by (with_reducible repeat (first | apply Kd.R_alloc | apply Kd.R_drewN | apply Kd.R_drew)); exact HO_10.out) hb); have n2_ := Aside0.mk (Kd.R_below (by (with_reducible repeat (first | apply Kd.R_alloc | apply Kd.R_drewN | apply Kd.R_drew)); exact HO_11.out) hb); have n3_ := Aside0.mk (Kd.R_below (by (with_reducible repeat (first | apply Kd.R_alloc | apply Kd.R_drewN | apply Kd.R_drew)); exact HO_12.out) hb); have n4_ := Aside0.mk (Kd.R_below (by (with_reducible repeat (first | apply Kd.R_alloc | apply Kd.R_drewN | apply Kd.R_drew)); exact HO_13.out) hb); have n5_ := Aside0.mk (Kd.R_below (by (with_reducible repeat (first | apply Kd.R_alloc | apply Kd.R_drewN | apply Kd.R_drew)); exact HO_14.out) hb); have n6_ := Aside0.mk (Kd.R_below (by (with_reducible repeat (first | apply Kd.R_alloc | apply Kd.R_drewN | apply Kd.R_drew)); exact HO_15.out) hb); have n7_ := Aside0.mk (below_step (by repeat (first | (with_reducible first | exact HB.out | apply below_alloc | apply pw_below_drewN | apply below_drew1) | exact HB.out)) hb); clear HO_9; clear HO_10; clear HO_11; clear HO_12; clear HO_13; clear HO_14; clear HO_15; clear HB; have HO_9 := n0_; have HO_10 := n1_; have HO_11 := n2_; have HO_12 := n3_; have HO_13 := n4_; have HO_14 := n5_; have HO_15 := n6_; have HB := n7_; clear n0_ n1_ n2_ n3_ n4_ n5_ n6_ n7_; (try clear hb); (try clear hb2); (try clear hk); (try clear hi); obtain ⟨Ao73, co73, eo73⟩ := Kd.R_slice HO_12.out; subst eo73) | ((first | ((with_reducible refine gate_callee (f := 16) rfl ?_); (refine gate_guard (by rfl) ?_; dsimp only); refine goesL_ (some 98) rfl rfl Tryd.func16 (by kernel_rfl) rfl #[.slice Ao73 t527.length co73, .int .i64 x16_2, .int .i64 x17_3] rfl (by (try simp only [List.map_toArray, List.map_cons, List.map_nil]); first | done | rfl | (simp only [List.length_drop, List.length_take]; rfl)) ?_; (with_reducible refine (rel_Has.calls kj30 _ _ t527 x16_2 x17_3 t546 _ ?side1 ?side2 A63.out).mono ?_); (case side1 => repeat (first | exact (Kd.R_reads' HO_12.out).2.2 | (with_reducible refine Kd.C_alloc ?_ _) | (with_reducible refine Kd.C_drewN ?_ _) | (with_reducible refine Kd.C_drew ?_))); (case side2 => exact (Kd.R_reads' HO_12.out).2.1); rintro e w74 ⟨rfl, hb⟩; refine ⟨_, rfl, ?_⟩; have n0_ := Aside0.mk (Kd.R_below (by (with_reducible repeat (first | apply Kd.R_alloc | apply Kd.R_drewN | apply Kd.R_drew)); exact HO_9.out) hb); have n1_ := Aside0.mk (Kd.R_below (by (with_reducible repeat (first | apply Kd.R_alloc | apply Kd.R_drewN | apply Kd.R_drew)); exact HO_10.out) hb); have n2_ := Aside0.mk (Kd.R_below (by (with_reducible repeat (first | apply Kd.R_alloc | apply Kd.R_drewN | apply Kd.R_drew)); exact HO_11.out) hb); have n3_ := Aside0.mk (Kd.R_below (by (with_reducible repeat (first | apply Kd.R_alloc | apply Kd.R_drewN | apply Kd.R_drew)); exact HO_12.out) hb); have n4_ := Aside0.mk (Kd.R_below (by (with_reducible repeat (first | apply Kd.R_alloc | apply Kd.R_drewN | apply Kd.R_drew)); exact HO_13.out) hb); have n5_ := Aside0.mk (Kd.R_below (by (with_reducible repeat (first | apply Kd.R_alloc | apply Kd.R_drewN | apply Kd.R_drew)); exact HO_14.out) hb); have n6_ := Aside0.mk (Kd.R_below (by (with_reducible repeat (first | apply Kd.R_alloc | apply Kd.R_drewN | apply Kd.R_drew)); exact HO_15.out) hb); have n7_ := Aside0.mk (below_step (by repeat (first | (with_reducible first | exact HB.out | apply below_alloc | apply pw_below_drewN | apply below_drew1) | exact HB.out)) hb); clear HO_9; clear HO_10; clear HO_11; clear HO_12; clear HO_13; clear HO_14; clear HO_15; clear HB; have HO_9 := n0_; have HO_10 := n1_; have HO_11 := n2_; have HO_12 := n3_; have HO_13 := n4_; have HO_14 := n5_; have HO_15 := n6_; have HB := n7_; clear n0_ n1_ n2_ n3_ n4_ n5_ n6_ n7_; (try clear hb); (try clear hb2); (try clear hk); (try clear hi)) | (go_at_call 16; (with_reducible refine (rel_Has.calls kj30 _ _ t527 x16_2 x17_3 t546 _ ?side1 ?side2 A63.out).mono ?_); (case side1 => repeat (first | exact (Kd.R_reads' HO_12.out).2.2 | (with_reducible refine Kd.C_alloc ?_ _) | (with_reducible refine Kd.C_drewN ?_ _) | (with_reducible refine Kd.C_drew ?_))); (case side2 => exact (Kd.R_reads' HO_12.out).2.1); rintro e w74 ⟨rfl, hb⟩; have n0_ := Aside0.mk (Kd.R_below (by (with_reducible repeat (first | apply Kd.R_alloc | apply Kd.R_drewN | apply Kd.R_drew)); exact HO_9.out) hb); have n1_ := Aside0.mk (Kd.R_below (by (with_reducible repeat (first | apply Kd.R_alloc | apply Kd.R_drewN | apply Kd.R_drew)); exact HO_10.out) hb); have n2_ := Aside0.mk (Kd.R_below (by (with_reducible repeat (first | apply Kd.R_alloc | apply Kd.R_drewN | apply Kd.R_drew)); exact HO_11.out) hb); have n3_ := Aside0.mk (Kd.R_below (by (with_reducible repeat (first | apply Kd.R_alloc | apply Kd.R_drewN | apply Kd.R_drew)); exact HO_12.out) hb); have n4_ := Aside0.mk (Kd.R_below (by (with_reducible repeat (first | apply Kd.R_alloc | apply Kd.R_drewN | apply Kd.R_drew)); exact HO_13.out) hb); have n5_ := Aside0.mk (Kd.R_below (by (with_reducible repeat (first | apply Kd.R_alloc | apply Kd.R_drewN | apply Kd.R_drew)); exact HO_14.out) hb); have n6_ := Aside0.mk (Kd.R_below (by (with_reducible repeat (first | apply Kd.R_alloc | apply Kd.R_drewN | apply Kd.R_drew)); exact HO_15.out) hb); have n7_ := Aside0.mk (below_step (by repeat (first | (with_reducible first | exact HB.out | apply below_alloc | apply pw_below_drewN | apply below_drew1) | exact HB.out)) hb); clear HO_9; clear HO_10; clear HO_11; clear HO_12; clear HO_13; clear HO_14; clear HO_15; clear HB; have HO_9 := n0_; have HO_10 := n1_; have HO_11 := n2_; have HO_12 := n3_; have HO_13 := n4_; have HO_14 := n5_; have HO_15 := n6_; have HB := n7_; clear n0_ n1_ n2_ n3_ n4_ n5_ n6_ n7_; (try clear hb); (try clear hb2); (try clear hk); (try clear hi))); obtain ⟨Ao75, co75, eo75⟩ := Kd.R_slice HO_13.out; subst eo75) | ((first | ((with_reducible refine gate_callee (f := 16) rfl ?_); (refine gate_guard (by rfl) ?_; dsimp only); refine goesL_ (some 109) rfl rfl Tryd.func16 (by kernel_rfl) rfl #[.slice Ao75 t530.length co75, .int .i64 x16_2, .int .i64 x17_3] rfl (by (try simp only [List.map_toArray, List.map_cons, List.map_nil]); first | done | rfl | (simp only [List.length_drop, List.length_take]; rfl)) ?_; (with_reducible refine (rel_Has.calls kj30 _ _ t530 x16_2 x17_3 t547 _ ?side1 ?side2 A65.out).mono ?_); (case side1 => repeat (first | exact (Kd.R_reads' HO_13.out).2.2 | (with_reducible refine Kd.C_alloc ?_ _) | (with_reducible refine Kd.C_drewN ?_ _) | (with_reducible refine Kd.C_drew ?_))); (case side2 => exact (Kd.R_reads' HO_13.out).2.1); rintro e w76 ⟨rfl, hb⟩; refine ⟨_, rfl, ?_⟩; have n0_ := Aside0.mk (Kd.R_below (by (with_reducible repeat (first | apply Kd.R_alloc | apply Kd.R_drewN | apply Kd.R_drew)); exact HO_9.out) hb); have n1_ := Aside0.mk (Kd.R_below (by (with_reducible repeat (first | apply Kd.R_alloc | apply Kd.R_drewN | apply Kd.R_drew)); exact HO_10.out) hb); have n2_ := Aside0.mk (Kd.R_below (by (with_reducible repeat (first | apply Kd.R_alloc | apply Kd.R_drewN | apply Kd.R_drew)); exact HO_11.out) hb); have n3_ := Aside0.mk (Kd.R_below (by (with_reducible repeat (first | apply Kd.R_alloc | apply Kd.R_drewN | apply Kd.R_drew)); exact HO_12.out) hb); have n4_ := Aside0.mk (Kd.R_below (by (with_reducible repeat (first | apply Kd.R_alloc | apply Kd.R_drewN | apply Kd.R_drew)); exact HO_13.out) hb); have n5_ := Aside0.mk (Kd.R_below (by (with_reducible repeat (first | apply Kd.R_alloc | apply Kd.R_drewN | apply Kd.R_drew)); exact HO_14.out) hb); have n6_ := Aside0.mk (Kd.R_below (by (with_reducible repeat (first | apply Kd.R_alloc | apply Kd.R_drewN | apply Kd.R_drew)); exact HO_15.out) hb); have n7_ := Aside0.mk (below_step (by repeat (first | (with_reducible first | exact HB.out | apply below_alloc | apply pw_below_drewN | apply below_drew1) | exact HB.out)) hb); clear HO_9; clear HO_10; clear HO_11; clear HO_12; clear HO_13; clear HO_14; clear HO_15; clear HB; have HO_9 := n0_; have HO_10 := n1_; have HO_11 := n2_; have HO_12 := n3_; have HO_13 := n4_; have HO_14 := n5_; have HO_15 := n6_; have HB := n7_; clear n0_ n1_ n2_ n3_ n4_ n5_ n6_ n7_; (try clear hb); (try clear hb2); (try clear hk); (try clear hi)) | (go_at_call 16; (with_reducible refine (rel_Has.calls kj30 _ _ t530 x16_2 x17_3 t547 _ ?side1 ?side2 A65.out).mono ?_); (case side1 => repeat (first | exact (Kd.R_reads' HO_13.out).2.2 | (with_reducible refine Kd.C_alloc ?_ _) | (with_reducible refine Kd.C_drewN ?_ _) | (with_reducible refine Kd.C_drew ?_))); (case side2 => exact (Kd.R_reads' HO_13.out).2.1); rintro e w76 ⟨rfl, hb⟩; have n0_ := Aside0.mk (Kd.R_below (by (with_reducible repeat (first | apply Kd.R_alloc | apply Kd.R_drewN | apply Kd.R_drew)); exact HO_9.out) hb); have n1_ := Aside0.mk (Kd.R_below (by (with_reducible repeat (first | apply Kd.R_alloc | apply Kd.R_drewN | apply Kd.R_drew)); exact HO_10.out) hb); have n2_ := Aside0.mk (Kd.R_below (by (with_reducible repeat (first | apply Kd.R_alloc | apply Kd.R_drewN | apply Kd.R_drew)); exact HO_11.out) hb); have n3_ := Aside0.mk (Kd.R_below (by (with_reducible repeat (first | apply Kd.R_alloc | apply Kd.R_drewN | apply Kd.R_drew)); exact HO_12.out) hb); have n4_ := Aside0.mk (Kd.R_below (by (with_reducible repeat (first | apply Kd.R_alloc | apply Kd.R_drewN | apply Kd.R_drew)); exact HO_13.out) hb); have n5_ := Aside0.mk (Kd.R_below (by (with_reducible repeat (first | apply Kd.R_alloc | apply Kd.R_drewN | apply Kd.R_drew)); exact HO_14.out) hb); have n6_ := Aside0.mk (Kd.R_below (by (with_reducible repeat (first | apply Kd.R_alloc | apply Kd.R_drewN | apply Kd.R_drew)); exact HO_15.out) hb); have n7_ := Aside0.mk (below_step (by repeat (first | (with_reducible first | exact HB.out | apply below_alloc | apply pw_below_drewN | apply below_drew1) | exact HB.out)) hb); clear HO_9; clear HO_10; clear HO_11; clear HO_12; clear HO_13; clear HO_14; clear HO_15; clear HB; have HO_9 := n0_; have HO_10 := n1_; have HO_11 := n2_; have HO_12 := n3_; have HO_13 := n4_; have HO_14 := n5_; have HO_15 := n6_; have HB := n7_; clear n0_ n1_ n2_ n3_ n4_ n5_ n6_ n7_; (try clear hb); (try clear hb2); (try clear hk); (try clear hi))); obtain ⟨Ao77, co77, eo77⟩ := Kd.R_slice HO_14.out; subst eo77) | ((first | ((with_reducible refine gate_callee (f := 16) rfl ?_); (refine gate_guard (by rfl) ?_; dsimp only); refine goesL_ (some 121) rfl rfl Tryd.func16 (by kernel_rfl) rfl #[.slice Ao77 t533.length co77, .int .i64 x16_2, .int .i64 x17_3] rfl (by (try simp only [List.map_toArray, List.map_cons, List.map_nil]); first | done | rfl | (simp only [List.length_drop, List.length_take]; rfl)) ?_; (with_reducible refine (rel_Has.calls kj30 _ _ t533 x16_2 x17_3 t548 _ ?side1 ?side2 A67.out).mono ?_); (case side1 => repeat (first | exact (Kd.R_reads' HO_14.out).2.2 | (with_reducible refine Kd.C_alloc ?_ _) | (with_reducible refine Kd.C_drewN ?_ _) | (with_reducible refine Kd.C_drew ?_))); (case side2 => exact (Kd.R_reads' HO_14.out).2.1); rintro e w78 ⟨rfl, hb⟩; refine ⟨_, rfl, ?_⟩; have n0_ := Aside0.mk (Kd.R_below (by (with_reducible repeat (first | apply Kd.R_alloc | apply Kd.R_drewN | apply Kd.R_drew)); exact HO_9.out) hb); have n1_ := Aside0.mk (Kd.R_below (by (with_reducible repeat (first | apply Kd.R_alloc | apply Kd.R_drewN | apply Kd.R_drew)); exact HO_10.out) hb); have n2_ := Aside0.mk (Kd.R_below (by (with_reducible repeat (first | apply Kd.R_alloc | apply Kd.R_drewN | apply Kd.R_drew)); exact HO_11.out) hb); have n3_ := Aside0.mk (Kd.R_below (by (with_reducible repeat (first | apply Kd.R_alloc | apply Kd.R_drewN | apply Kd.R_drew)); exact HO_12.out) hb); have n4_ := Aside0.mk (Kd.R_below (by (with_reducible repeat (first | apply Kd.R_alloc | apply Kd.R_drewN | apply Kd.R_drew)); exact HO_13.out) hb); have n5_ := Aside0.mk (Kd.R_below (by (with_reducible repeat (first | apply Kd.R_alloc | apply Kd.R_drewN | apply Kd.R_drew)); exact HO_14.out) hb); have n6_ := Aside0.mk (Kd.R_below (by (with_reducible repeat (first | apply Kd.R_alloc | apply Kd.R_drewN | apply Kd.R_drew)); exact HO_15.out) hb); have n7_ := Aside0.mk (below_step (by repeat (first | (with_reducible first | exact HB.out | apply below_alloc | apply pw_below_drewN | apply below_drew1) | exact HB.out)) hb); clear HO_9; clear HO_10; clear HO_11; clear HO_12; clear HO_13; clear HO_14; clear HO_15; clear HB; have HO_9 := n0_; have HO_10 := n1_; have HO_11 := n2_; have HO_12 := n3_; have HO_13 := n4_; have HO_14 := n5_; have HO_15 := n6_; have HB := n7_; clear n0_ n1_ n2_ n3_ n4_ n5_ n6_ n7_; (try clear hb); (try clear hb2); (try clear hk); (try clear hi)) | (go_at_call 16; (with_reducible refine (rel_Has.calls kj30 _ _ t533 x16_2 x17_3 t548 _ ?side1 ?side2 A67.out).mono ?_); (case side1 => repeat (first | exact (Kd.R_reads' HO_14.out).2.2 | (with_reducible refine Kd.C_alloc ?_ _) | (with_reducible refine Kd.C_drewN ?_ _) | (with_reducible refine Kd.C_drew ?_))); (case side2 => exact (Kd.R_reads' HO_14.out).2.1); rintro e w78 ⟨rfl, hb⟩; have n0_ := Aside0.mk (Kd.R_below (by (with_reducible repeat (first | apply Kd.R_alloc | apply Kd.R_drewN | apply Kd.R_drew)); exact HO_9.out) hb); have n1_ := Aside0.mk (Kd.R_below (by (with_reducible repeat (first | apply Kd.R_alloc | apply Kd.R_drewN | apply Kd.R_drew)); exact HO_10.out) hb); have n2_ := Aside0.mk (Kd.R_below (by (with_reducible repeat (first | apply Kd.R_alloc | apply Kd.R_drewN | apply Kd.R_drew)); exact HO_11.out) hb); have n3_ := Aside0.mk (Kd.R_below (by (with_reducible repeat (first | apply Kd.R_alloc | apply Kd.R_drewN | apply Kd.R_drew)); exact HO_12.out) hb); have n4_ := Aside0.mk (Kd.R_below (by (with_reducible repeat (first | apply Kd.R_alloc | apply Kd.R_drewN | apply Kd.R_drew)); exact HO_13.out) hb); have n5_ := Aside0.mk (Kd.R_below (by (with_reducible repeat (first | apply Kd.R_alloc | apply Kd.R_drewN | apply Kd.R_drew)); exact HO_14.out) hb); have n6_ := Aside0.mk (Kd.R_below (by (with_reducible repeat (first | apply Kd.R_alloc | apply Kd.R_drewN | apply Kd.R_drew)); exact HO_15.out) hb); have n7_ := Aside0.mk (below_step (by repeat (first | (with_reducible first | exact HB.out | apply below_alloc | apply pw_below_drewN | apply below_drew1) | exact HB.out)) hb); clear HO_9; clear HO_10; clear HO_11; clear HO_12; clear HO_13; clear HO_14; clear HO_15; clear HB; have HO_9 := n0_; have HO_10 := n1_; have HO_11 := n2_; have HO_12 := n3_; have HO_13 := n4_; have HO_14 := n5_; have HO_15 := n6_; have HB := n7_; clear n0_ n1_ n2_ n3_ n4_ n5_ n6_ n7_; (try clear hb); (try clear hb2); (try clear hk); (try clear hi))); obtain ⟨Ao79, co79, eo79⟩ := Kd.R_slice HO_15.out; subst eo79) | ((first | ((with_reducible refine gate_callee (f := 16) rfl ?_); (refine gate_guard (by rfl) ?_; dsimp only); refine goesL_ (some 132) rfl rfl Tryd.func16 (by kernel_rfl) rfl #[.slice Ao79 t536.length co79, .int .i64 x17_3, .int .i64 x16_2] rfl (by (try simp only [List.map_toArray, List.map_cons, List.map_nil]); first | done | rfl | (simp only [List.length_drop, List.length_take]; rfl)) ?_; (with_reducible refine (rel_Has.calls kj30 _ _ t536 x17_3 x16_2 t549 _ ?side1 ?side2 A69.out).mono ?_); (case side1 => repeat (first | exact (Kd.R_reads' HO_15.out).2.2 | (with_reducible refine Kd.C_alloc ?_ _) | (with_reducible refine Kd.C_drewN ?_ _) | (with_reducible refine Kd.C_drew ?_))); (case side2 => exact (Kd.R_reads' HO_15.out).2.1); rintro e w80 ⟨rfl, hb⟩; refine ⟨_, rfl, ?_⟩; have n0_ := Aside0.mk (Kd.R_below (by (with_reducible repeat (first | apply Kd.R_alloc | apply Kd.R_drewN | apply Kd.R_drew)); exact HO_9.out) hb); have n1_ := Aside0.mk (Kd.R_below (by (with_reducible repeat (first | apply Kd.R_alloc | apply Kd.R_drewN | apply Kd.R_drew)); exact HO_10.out) hb); have n2_ := Aside0.mk (Kd.R_below (by (with_reducible repeat (first | apply Kd.R_alloc | apply Kd.R_drewN | apply Kd.R_drew)); exact HO_11.out) hb); have n3_ := Aside0.mk (Kd.R_below (by (with_reducible repeat (first | apply Kd.R_alloc | apply Kd.R_drewN | apply Kd.R_drew)); exact HO_12.out) hb); have n4_ := Aside0.mk (Kd.R_below (by (with_reducible repeat (first | apply Kd.R_alloc | apply Kd.R_drewN | apply Kd.R_drew)); exact HO_13.out) hb); have n5_ := Aside0.mk (Kd.R_below (by (with_reducible repeat (first | apply Kd.R_alloc | apply Kd.R_drewN | apply Kd.R_drew)); exact HO_14.out) hb); have n6_ := Aside0.mk (Kd.R_below (by (with_reducible repeat (first | apply Kd.R_alloc | apply Kd.R_drewN | apply Kd.R_drew)); exact HO_15.out) hb); have n7_ := Aside0.mk (below_step (by repeat (first | (with_reducible first | exact HB.out | apply below_alloc | apply pw_below_drewN | apply below_drew1) | exact HB.out)) hb); clear HO_9; clear HO_10; clear HO_11; clear HO_12; clear HO_13; clear HO_14; clear HO_15; clear HB; have HO_9 := n0_; have HO_10 := n1_; have HO_11 := n2_; have HO_12 := n3_; have HO_13 := n4_; have HO_14 := n5_; have HO_15 := n6_; have HB := n7_; clear n0_ n1_ n2_ n3_ n4_ n5_ n6_ n7_; (try clear hb); (try clear hb2); (try clear hk); (try clear hi)) | (go_at_call 16; (with_reducible refine (rel_Has.calls kj30 _ _ t536 x17_3 x16_2 t549 _ ?side1 ?side2 A69.out).mono ?_); (case side1 => repeat (first | exact (Kd.R_reads' HO_15.out).2.2 | (with_reducible refine Kd.C_alloc ?_ _) | (with_reducible refine Kd.C_drewN ?_ _) | (with_reducible refine Kd.C_drew ?_))); (case side2 => exact (Kd.R_reads' HO_15.out).2.1); rintro e w80 ⟨rfl, hb⟩; have n0_ := Aside0.mk (Kd.R_below (by (with_reducible repeat (first | apply Kd.R_alloc | apply Kd.R_drewN | apply Kd.R_drew)); exact HO_9.out) hb); have n1_ := Aside0.mk (Kd.R_below (by (with_reducible repeat (first | apply Kd.R_alloc | apply Kd.R_drewN | apply Kd.R_drew)); exact HO_10.out) hb); have n2_ := Aside0.mk (Kd.R_below (by (with_reducible repeat (first | apply Kd.R_alloc | apply Kd.R_drewN | apply Kd.R_drew)); exact HO_11.out) hb); have n3_ := Aside0.mk (Kd.R_below (by (with_reducible repeat (first | apply Kd.R_alloc | apply Kd.R_drewN | apply Kd.R_drew)); exact HO_12.out) hb); have n4_ := Aside0.mk (Kd.R_below (by (with_reducible repeat (first | apply Kd.R_alloc | apply Kd.R_drewN | apply Kd.R_drew)); exact HO_13.out) hb); have n5_ := Aside0.mk (Kd.R_below (by (with_reducible repeat (first | apply Kd.R_alloc | apply Kd.R_drewN | apply Kd.R_drew)); exact HO_14.out) hb); have n6_ := Aside0.mk (Kd.R_below (by (with_reducible repeat (first | apply Kd.R_alloc | apply Kd.R_drewN | apply Kd.R_drew)); exact HO_15.out) hb); have n7_ := Aside0.mk (below_step (by repeat (first | (with_reducible first | exact HB.out | apply below_alloc | apply pw_below_drewN | apply below_drew1) | exact HB.out)) hb); clear HO_9; clear HO_10; clear HO_11; clear HO_12; clear HO_13; clear HO_14; clear HO_15; clear HB; have HO_9 := n0_; have HO_10 := n1_; have HO_11 := n2_; have HO_12 := n3_; have HO_13 := n4_; have HO_14 := n5_; have HO_15 := n6_; have HB := n7_; clear n0_ n1_ n2_ n3_ n4_ n5_ n6_ n7_; (try clear hb); (try clear hb2); (try clear hk); (try clear hi)))))
                                      go_roundg kj30
                                      case measure => have := HJ6.out; have := HK2.out; have := HK3.out; have := HJ30.out; omega
                                      case rel => exact ⟨(wrap64 (x17_3 + 1)), (by first | rfl | (simp; done) | (simp [*]; done)), H', ⟨by have := HJ6.out; have := HK2.out; have := HK3.out; have := HJ30.out; omega⟩, ⟨by (with_reducible repeat (first | apply Kd.R_alloc | apply Kd.R_drewN | apply Kd.R_drew)); exact HO_9.out⟩, ⟨by (with_reducible repeat (first | apply Kd.R_alloc | apply Kd.R_drewN | apply Kd.R_drew)); exact HO_10.out⟩, ⟨by (with_reducible repeat (first | apply Kd.R_alloc | apply Kd.R_drewN | apply Kd.R_drew)); exact HO_11.out⟩, ⟨by (with_reducible repeat (first | apply Kd.R_alloc | apply Kd.R_drewN | apply Kd.R_drew)); exact HO_12.out⟩, ⟨by (with_reducible repeat (first | apply Kd.R_alloc | apply Kd.R_drewN | apply Kd.R_drew)); exact HO_13.out⟩, ⟨by (with_reducible repeat (first | apply Kd.R_alloc | apply Kd.R_drewN | apply Kd.R_drew)); exact HO_14.out⟩, ⟨by (with_reducible repeat (first | apply Kd.R_alloc | apply Kd.R_drewN | apply Kd.R_drew)); exact HO_15.out⟩, ⟨by repeat (first | (with_reducible first | exact HB.out | apply below_alloc | apply pw_below_drewN | apply below_drew1) | exact HB.out)⟩⟩
                    · rw [if_neg c28] at H
                      have c28b0 : decide (x17_3 < (t518.length : Int)) = false := decide_eq_false c28
                      clear c28
                      have H' := Aside0.mk H
                      clear H
                      go_wp2
                      go_roundg k3
                      case measure => have := HJ6.out; have := HK2.out; have := HK3.out; omega
                      case rel => exact ⟨(wrap64 (x16_2 + 1)), (by first | rfl | (simp; done) | (simp [*]; done)), H', ⟨by have := HJ6.out; have := HK2.out; have := HK3.out; omega⟩, ⟨by (with_reducible repeat (first | apply Kd.R_alloc | apply Kd.R_drewN | apply Kd.R_drew)); exact HO_9.out⟩, ⟨by (with_reducible repeat (first | apply Kd.R_alloc | apply Kd.R_drewN | apply Kd.R_drew)); exact HO_10.out⟩, ⟨by (with_reducible repeat (first | apply Kd.R_alloc | apply Kd.R_drewN | apply Kd.R_drew)); exact HO_11.out⟩, ⟨by (with_reducible repeat (first | apply Kd.R_alloc | apply Kd.R_drewN | apply Kd.R_drew)); exact HO_12.out⟩, ⟨by (with_reducible repeat (first | apply Kd.R_alloc | apply Kd.R_drewN | apply Kd.R_drew)); exact HO_13.out⟩, ⟨by (with_reducible repeat (first | apply Kd.R_alloc | apply Kd.R_drewN | apply Kd.R_drew)); exact HO_14.out⟩, ⟨by (with_reducible repeat (first | apply Kd.R_alloc | apply Kd.R_drewN | apply Kd.R_drew)); exact HO_15.out⟩, ⟨by repeat (first | (with_reducible first | exact HB.out | apply below_alloc | apply pw_below_drewN | apply below_drew1) | exact HB.out)⟩⟩
              · rw [if_neg c27] at H
                have c27b0 : decide (x16_2 < (t518.length : Int)) = false := decide_eq_false c27
                clear c27
                replace H := Option.bind_eq_some_iff.mp H
                obtain ⟨t550, A810, H⟩ := H
                replace H : ((rel_Count.f k2 t527).bind fun t551 => ((rel_Count.f k2 t518).bind fun t552 => ((rel_Count.f k2 t521).bind fun t553 => (if (wrap64 (t550 + t551)) = (wrap64 (t552 + t553)) then ((rel_Or.f k2 t530 t527).bind fun t554 => ((rel_Same.f k2 t554 t518).bind fun t557 => (if t557 = true then ((rel_May.f k2 t524).bind fun t558 => (some t558)) else (none)))) else (none))))) = some r := H
                have A81 := Aside0.mk A810
                clear A810
                replace H := Option.bind_eq_some_iff.mp H
                obtain ⟨t551, A820, H⟩ := H
                replace H : ((rel_Count.f k2 t518).bind fun t552 => ((rel_Count.f k2 t521).bind fun t553 => (if (wrap64 (t550 + t551)) = (wrap64 (t552 + t553)) then ((rel_Or.f k2 t530 t527).bind fun t554 => ((rel_Same.f k2 t554 t518).bind fun t557 => (if t557 = true then ((rel_May.f k2 t524).bind fun t558 => (some t558)) else (none)))) else (none)))) = some r := H
                have A82 := Aside0.mk A820
                clear A820
                replace H := Option.bind_eq_some_iff.mp H
                obtain ⟨t552, A830, H⟩ := H
                replace H : ((rel_Count.f k2 t521).bind fun t553 => (if (wrap64 (t550 + t551)) = (wrap64 (t552 + t553)) then ((rel_Or.f k2 t530 t527).bind fun t554 => ((rel_Same.f k2 t554 t518).bind fun t557 => (if t557 = true then ((rel_May.f k2 t524).bind fun t558 => (some t558)) else (none)))) else (none))) = some r := H
                have A83 := Aside0.mk A830
                clear A830
                replace H := Option.bind_eq_some_iff.mp H
                obtain ⟨t553, A840, H⟩ := H
                replace H : (if (wrap64 (t550 + t551)) = (wrap64 (t552 + t553)) then ((rel_Or.f k2 t530 t527).bind fun t554 => ((rel_Same.f k2 t554 t518).bind fun t557 => (if t557 = true then ((rel_May.f k2 t524).bind fun t558 => (some t558)) else (none)))) else (none)) = some r := H
                have A84 := Aside0.mk A840
                clear A840
                by_cases c85 : (wrap64 (t550 + t551)) = (wrap64 (t552 + t553))
                · rw [if_pos c85] at H
                  have c85b0 : ((wrap64 (t550 + t551)) == (wrap64 (t552 + t553))) = true := beq_iff_eq.mpr c85
                  have c85b1 : ((wrap64 (t550 + t551)) != (wrap64 (t552 + t553))) = false := bne_eq_false_iff_eq.mpr c85
                  clear c85
                  replace H := Option.bind_eq_some_iff.mp H
                  obtain ⟨t554, A860, H⟩ := H
                  replace H : ((rel_Same.f k2 t554 t518).bind fun t557 => (if t557 = true then ((rel_May.f k2 t524).bind fun t558 => (some t558)) else (none))) = some r := H
                  have A86 := Aside0.mk A860
                  clear A860
                  replace H := Option.bind_eq_some_iff.mp H
                  obtain ⟨t557, A870, H⟩ := H
                  replace H : (if t557 = true then ((rel_May.f k2 t524).bind fun t558 => (some t558)) else (none)) = some r := H
                  have A87 := Aside0.mk A870
                  clear A870
                  by_cases c88 : t557 = true
                  · subst c88
                    have H1 : ((rel_May.f k2 t524).bind fun t558 => (some t558)) = some r := by rw [if_pos rfl] at H; exact H
                    clear H
                    have H := H1
                    clear H1
                    replace H := Option.bind_eq_some_iff.mp H
                    obtain ⟨t558, A890, H⟩ := H
                    replace H : (some t558) = some r := H
                    have A89 := Aside0.mk A890
                    clear A890
                    obtain rfl := Option.some.inj H
                    obtain ⟨Ao90, co90, eo90⟩ := Kd.R_slice HO_11.out
                    subst eo90
                    go_wp2_with (first | ((with_reducible refine gate_callee (f := 17) rfl ?_); refine goesL_ (some 137) rfl rfl Tryd.func17 (by kernel_rfl) rfl #[.slice Ao90 t524.length co90] rfl (by (try simp only [List.map_toArray, List.map_cons, List.map_nil]); first | done | rfl | (simp only [List.length_drop, List.length_take]; rfl)) ?_; (with_reducible refine (rel_Count.calls k2 _ _ t524 t550 _ ?side1 ?side2 A81.out).mono ?_); (case side1 => repeat (first | exact (Kd.R_reads' HO_11.out).2.2 | (with_reducible refine Kd.C_alloc ?_ _) | (with_reducible refine Kd.C_drewN ?_ _) | (with_reducible refine Kd.C_drew ?_))); (case side2 => exact (Kd.R_reads' HO_11.out).2.1); rintro e w91 ⟨rfl, hb⟩; refine ⟨_, rfl, ?_⟩; have n0_ := Aside0.mk (Kd.R_below (by (with_reducible repeat (first | apply Kd.R_alloc | apply Kd.R_drewN | apply Kd.R_drew)); exact HO_9.out) hb); have n1_ := Aside0.mk (Kd.R_below (by (with_reducible repeat (first | apply Kd.R_alloc | apply Kd.R_drewN | apply Kd.R_drew)); exact HO_10.out) hb); have n2_ := Aside0.mk (Kd.R_below (by (with_reducible repeat (first | apply Kd.R_alloc | apply Kd.R_drewN | apply Kd.R_drew)); exact HO_11.out) hb); have n3_ := Aside0.mk (Kd.R_below (by (with_reducible repeat (first | apply Kd.R_alloc | apply Kd.R_drewN | apply Kd.R_drew)); exact HO_12.out) hb); have n4_ := Aside0.mk (Kd.R_below (by (with_reducible repeat (first | apply Kd.R_alloc | apply Kd.R_drewN | apply Kd.R_drew)); exact HO_13.out) hb); have n5_ := Aside0.mk (Kd.R_below (by (with_reducible repeat (first | apply Kd.R_alloc | apply Kd.R_drewN | apply Kd.R_drew)); exact HO_14.out) hb); have n6_ := Aside0.mk (Kd.R_below (by (with_reducible repeat (first | apply Kd.R_alloc | apply Kd.R_drewN | apply Kd.R_drew)); exact HO_15.out) hb); have n7_ := Aside0.mk (below_step (by repeat (first | (with_reducible first | exact HB.out | apply below_alloc | apply pw_below_drewN | apply below_drew1) | exact HB.out)) hb); clear HO_9; clear HO_10; clear HO_11; clear HO_12; clear HO_13; clear HO_14; clear HO_15; clear HB; have HO_9 := n0_; have HO_10 := n1_; have HO_11 := n2_; have HO_12 := n3_; have HO_13 := n4_; have HO_14 := n5_; have HO_15 := n6_; have HB := n7_; clear n0_ n1_ n2_ n3_ n4_ n5_ n6_ n7_; (try clear hb); (try clear hb2); (try clear hk); (try clear hi); obtain ⟨Ao92, co92, eo92⟩ := Kd.R_slice HO_12.out; subst eo92) | ((with_reducible refine gate_callee (f := 17) rfl ?_); refine goesL_ (some 139) rfl rfl Tryd.func17 (by kernel_rfl) rfl #[.slice Ao92 t527.length co92] rfl (by (try simp only [List.map_toArray, List.map_cons, List.map_nil]); first | done | rfl | (simp only [List.length_drop, List.length_take]; rfl)) ?_; (with_reducible refine (rel_Count.calls k2 _ _ t527 t551 _ ?side1 ?side2 A82.out).mono ?_); (case side1 => repeat (first | exact (Kd.R_reads' HO_12.out).2.2 | (with_reducible refine Kd.C_alloc ?_ _) | (with_reducible refine Kd.C_drewN ?_ _) | (with_reducible refine Kd.C_drew ?_))); (case side2 => exact (Kd.R_reads' HO_12.out).2.1); rintro e w93 ⟨rfl, hb⟩; refine ⟨_, rfl, ?_⟩; have n0_ := Aside0.mk (Kd.R_below (by (with_reducible repeat (first | apply Kd.R_alloc | apply Kd.R_drewN | apply Kd.R_drew)); exact HO_9.out) hb); have n1_ := Aside0.mk (Kd.R_below (by (with_reducible repeat (first | apply Kd.R_alloc | apply Kd.R_drewN | apply Kd.R_drew)); exact HO_10.out) hb); have n2_ := Aside0.mk (Kd.R_below (by (with_reducible repeat (first | apply Kd.R_alloc | apply Kd.R_drewN | apply Kd.R_drew)); exact HO_11.out) hb); have n3_ := Aside0.mk (Kd.R_below (by (with_reducible repeat (first | apply Kd.R_alloc | apply Kd.R_drewN | apply Kd.R_drew)); exact HO_12.out) hb); have n4_ := Aside0.mk (Kd.R_below (by (with_reducible repeat (first | apply Kd.R_alloc | apply Kd.R_drewN | apply Kd.R_drew)); exact HO_13.out) hb); have n5_ := Aside0.mk (Kd.R_below (by (with_reducible repeat (first | apply Kd.R_alloc | apply Kd.R_drewN | apply Kd.R_drew)); exact HO_14.out) hb); have n6_ := Aside0.mk (Kd.R_below (by (with_reducible repeat (first | apply Kd.R_alloc | apply Kd.R_drewN | apply Kd.R_drew)); exact HO_15.out) hb); have n7_ := Aside0.mk (below_step (by repeat (first | (with_reducible first | exact HB.out | apply below_alloc | apply pw_below_drewN | apply below_drew1) | exact HB.out)) hb); clear HO_9; clear HO_10; clear HO_11; clear HO_12; clear HO_13; clear HO_14; clear HO_15; clear HB; have HO_9 := n0_; have HO_10 := n1_; have HO_11 := n2_; have HO_12 := n3_; have HO_13 := n4_; have HO_14 := n5_; have HO_15 := n6_; have HB := n7_; clear n0_ n1_ n2_ n3_ n4_ n5_ n6_ n7_; (try clear hb); (try clear hb2); (try clear hk); (try clear hi)) | ((with_reducible refine gate_callee (f := 17) rfl ?_); refine goesL_ (some 142) rfl rfl Tryd.func17 (by kernel_rfl) rfl #[.slice Ao20 t518.length co20] rfl (by (try simp only [List.map_toArray, List.map_cons, List.map_nil]); first | done | rfl | (simp only [List.length_drop, List.length_take]; rfl)) ?_; (with_reducible refine (rel_Count.calls k2 _ _ t518 t552 _ ?side1 ?side2 A83.out).mono ?_); (case side1 => repeat (first | exact (Kd.R_reads' HO_9.out).2.2 | (with_reducible refine Kd.C_alloc ?_ _) | (with_reducible refine Kd.C_drewN ?_ _) | (with_reducible refine Kd.C_drew ?_))); (case side2 => exact (Kd.R_reads' HO_9.out).2.1); rintro e w94 ⟨rfl, hb⟩; refine ⟨_, rfl, ?_⟩; have n0_ := Aside0.mk (Kd.R_below (by (with_reducible repeat (first | apply Kd.R_alloc | apply Kd.R_drewN | apply Kd.R_drew)); exact HO_9.out) hb); have n1_ := Aside0.mk (Kd.R_below (by (with_reducible repeat (first | apply Kd.R_alloc | apply Kd.R_drewN | apply Kd.R_drew)); exact HO_10.out) hb); have n2_ := Aside0.mk (Kd.R_below (by (with_reducible repeat (first | apply Kd.R_alloc | apply Kd.R_drewN | apply Kd.R_drew)); exact HO_11.out) hb); have n3_ := Aside0.mk (Kd.R_below (by (with_reducible repeat (first | apply Kd.R_alloc | apply Kd.R_drewN | apply Kd.R_drew)); exact HO_12.out) hb); have n4_ := Aside0.mk (Kd.R_below (by (with_reducible repeat (first | apply Kd.R_alloc | apply Kd.R_drewN | apply Kd.R_drew)); exact HO_13.out) hb); have n5_ := Aside0.mk (Kd.R_below (by (with_reducible repeat (first | apply Kd.R_alloc | apply Kd.R_drewN | apply Kd.R_drew)); exact HO_14.out) hb); have n6_ := Aside0.mk (Kd.R_below (by (with_reducible repeat (first | apply Kd.R_alloc | apply Kd.R_drewN | apply Kd.R_drew)); exact HO_15.out) hb); have n7_ := Aside0.mk (below_step (by repeat (first | (with_reducible first | exact HB.out | apply below_alloc | apply pw_below_drewN | apply below_drew1) | exact HB.out)) hb); clear HO_9; clear HO_10; clear HO_11; clear HO_12; clear HO_13; clear HO_14; clear HO_15; clear HB; have HO_9 := n0_; have HO_10 := n1_; have HO_11 := n2_; have HO_12 := n3_; have HO_13 := n4_; have HO_14 := n5_; have HO_15 := n6_; have HB := n7_; clear n0_ n1_ n2_ n3_ n4_ n5_ n6_ n7_; (try clear hb); (try clear hb2); (try clear hk); (try clear hi)) | ((with_reducible refine gate_callee (f := 17) rfl ?_); refine goesL_ (some 144) rfl rfl Tryd.func17 (by kernel_rfl) rfl #[.slice Ao21 t521.length co21] rfl (by (try simp only [List.map_toArray, List.map_cons, List.map_nil]); first | done | rfl | (simp only [List.length_drop, List.length_take]; rfl)) ?_; (with_reducible refine (rel_Count.calls k2 _ _ t521 t553 _ ?side1 ?side2 A84.out).mono ?_); (case side1 => repeat (first | exact (Kd.R_reads' HO_10.out).2.2 | (with_reducible refine Kd.C_alloc ?_ _) | (with_reducible refine Kd.C_drewN ?_ _) | (with_reducible refine Kd.C_drew ?_))); (case side2 => exact (Kd.R_reads' HO_10.out).2.1); rintro e w95 ⟨rfl, hb⟩; refine ⟨_, rfl, ?_⟩; have n0_ := Aside0.mk (Kd.R_below (by (with_reducible repeat (first | apply Kd.R_alloc | apply Kd.R_drewN | apply Kd.R_drew)); exact HO_9.out) hb); have n1_ := Aside0.mk (Kd.R_below (by (with_reducible repeat (first | apply Kd.R_alloc | apply Kd.R_drewN | apply Kd.R_drew)); exact HO_10.out) hb); have n2_ := Aside0.mk (Kd.R_below (by (with_reducible repeat (first | apply Kd.R_alloc | apply Kd.R_drewN | apply Kd.R_drew)); exact HO_11.out) hb); have n3_ := Aside0.mk (Kd.R_below (by (with_reducible repeat (first | apply Kd.R_alloc | apply Kd.R_drewN | apply Kd.R_drew)); exact HO_12.out) hb); have n4_ := Aside0.mk (Kd.R_below (by (with_reducible repeat (first | apply Kd.R_alloc | apply Kd.R_drewN | apply Kd.R_drew)); exact HO_13.out) hb); have n5_ := Aside0.mk (Kd.R_below (by (with_reducible repeat (first | apply Kd.R_alloc | apply Kd.R_drewN | apply Kd.R_drew)); exact HO_14.out) hb); have n6_ := Aside0.mk (Kd.R_below (by (with_reducible repeat (first | apply Kd.R_alloc | apply Kd.R_drewN | apply Kd.R_drew)); exact HO_15.out) hb); have n7_ := Aside0.mk (below_step (by repeat (first | (with_reducible first | exact HB.out | apply below_alloc | apply pw_below_drewN | apply below_drew1) | exact HB.out)) hb); clear HO_9; clear HO_10; clear HO_11; clear HO_12; clear HO_13; clear HO_14; clear HO_15; clear HB; have HO_9 := n0_; have HO_10 := n1_; have HO_11 := n2_; have HO_12 := n3_; have HO_13 := n4_; have HO_14 := n5_; have HO_15 := n6_; have HB := n7_; clear n0_ n1_ n2_ n3_ n4_ n5_ n6_ n7_; (try clear hb); (try clear hb2); (try clear hk); (try clear hi); obtain ⟨Ao96, co96, eo96⟩ := Kd.R_slice HO_13.out; subst eo96) | ((first | ((with_reducible refine gate_callee (f := 23) rfl ?_); (refine gate_guard (by rfl) ?_; dsimp only); refine goesL_ (some 150) rfl rfl Tryd.func23 (by kernel_rfl) rfl #[.slice Ao96 t530.length co96, .slice Ao92 t527.length co92] rfl (by (try simp only [List.map_toArray, List.map_cons, List.map_nil]); first | done | rfl | (simp only [List.length_drop, List.length_take]; rfl)) ?_; (with_reducible refine (rel_Or.calls k2 _ _ t530 _ _ t527 t554 _ ?side1 ?side2 ?side3 ?side4 A86.out).mono ?_); (case side1 => repeat (first | exact (Kd.R_reads' HO_13.out).2.2 | (with_reducible refine Kd.C_alloc ?_ _) | (with_reducible refine Kd.C_drewN ?_ _) | (with_reducible refine Kd.C_drew ?_))); (case side2 => exact (Kd.R_reads' HO_13.out).2.1); (case side3 => repeat (first | exact (Kd.R_reads' HO_12.out).2.2 | (with_reducible refine Kd.C_alloc ?_ _) | (with_reducible refine Kd.C_drewN ?_ _) | (with_reducible refine Kd.C_drew ?_))); (case side4 => exact (Kd.R_reads' HO_12.out).2.1); rintro e w97 ⟨v555, rfl, ho0, hb⟩; refine ⟨_, rfl, ?_⟩; have n0_ := Aside0.mk (Kd.R_elder' (by (with_reducible repeat (first | apply Kd.R_alloc | apply Kd.R_drewN | apply Kd.R_drew)); exact HO_9.out) (Kd.R_base ho0) hb); have n1_ := Aside0.mk (Kd.R_elder' (by (with_reducible repeat (first | apply Kd.R_alloc | apply Kd.R_drewN | apply Kd.R_drew)); exact HO_10.out) (Kd.R_base ho0) hb); have n2_ := Aside0.mk (Kd.R_elder' (by (with_reducible repeat (first | apply Kd.R_alloc | apply Kd.R_drewN | apply Kd.R_drew)); exact HO_11.out) (Kd.R_base ho0) hb); have n3_ := Aside0.mk (Kd.R_elder' (by (with_reducible repeat (first | apply Kd.R_alloc | apply Kd.R_drewN | apply Kd.R_drew)); exact HO_12.out) (Kd.R_base ho0) hb); have n4_ := Aside0.mk (Kd.R_elder' (by (with_reducible repeat (first | apply Kd.R_alloc | apply Kd.R_drewN | apply Kd.R_drew)); exact HO_13.out) (Kd.R_base ho0) hb); have n5_ := Aside0.mk (Kd.R_elder' (by (with_reducible repeat (first | apply Kd.R_alloc | apply Kd.R_drewN | apply Kd.R_drew)); exact HO_14.out) (Kd.R_base ho0) hb); have n6_ := Aside0.mk (Kd.R_elder' (by (with_reducible repeat (first | apply Kd.R_alloc | apply Kd.R_drewN | apply Kd.R_drew)); exact HO_15.out) (Kd.R_base ho0) hb); have n7_ := Aside0.mk (Kd.R_lower (Kd.R_new' (Kd.R_new' (Kd.R_new' (Kd.R_new' (Kd.R_new' (Kd.R_new' (Kd.R_new' ho0 (Kd.R_lt (by (with_reducible repeat (first | apply Kd.R_alloc | apply Kd.R_drewN | apply Kd.R_drew)); exact HO_9.out))) (Kd.R_lt (by (with_reducible repeat (first | apply Kd.R_alloc | apply Kd.R_drewN | apply Kd.R_drew)); exact HO_10.out))) (Kd.R_lt (by (with_reducible repeat (first | apply Kd.R_alloc | apply Kd.R_drewN | apply Kd.R_drew)); exact HO_11.out))) (Kd.R_lt (by (with_reducible repeat (first | apply Kd.R_alloc | apply Kd.R_drewN | apply Kd.R_drew)); exact HO_12.out))) (Kd.R_lt (by (with_reducible repeat (first | apply Kd.R_alloc | apply Kd.R_drewN | apply Kd.R_drew)); exact HO_13.out))) (Kd.R_lt (by (with_reducible repeat (first | apply Kd.R_alloc | apply Kd.R_drewN | apply Kd.R_drew)); exact HO_14.out))) (Kd.R_lt (by (with_reducible repeat (first | apply Kd.R_alloc | apply Kd.R_drewN | apply Kd.R_drew)); exact HO_15.out))) (below_size (by repeat (first | (with_reducible first | exact HB.out | apply below_alloc | apply pw_below_drewN | apply below_drew1) | exact HB.out)))); have n8_ := Aside0.mk (below_step (by repeat (first | (with_reducible first | exact HB.out | apply below_alloc | apply pw_below_drewN | apply below_drew1) | exact HB.out)) hb); clear HO_9; clear HO_10; clear HO_11; clear HO_12; clear HO_13; clear HO_14; clear HO_15; clear HB; have HO_9 := n0_; have HO_10 := n1_; have HO_11 := n2_; have HO_12 := n3_; have HO_13 := n4_; have HO_14 := n5_; have HO_15 := n6_; have HO556 := n7_; have HB := n8_; clear n0_ n1_ n2_ n3_ n4_ n5_ n6_ n7_ n8_; (try clear hb); (try clear hb2); (try clear hk); (try clear hi); (try clear ho0)) | (go_at_call 23; (with_reducible refine (rel_Or.calls k2 _ _ t530 _ _ t527 t554 _ ?side1 ?side2 ?side3 ?side4 A86.out).mono ?_); (case side1 => repeat (first | exact (Kd.R_reads' HO_13.out).2.2 | (with_reducible refine Kd.C_alloc ?_ _) | (with_reducible refine Kd.C_drewN ?_ _) | (with_reducible refine Kd.C_drew ?_))); (case side2 => exact (Kd.R_reads' HO_13.out).2.1); (case side3 => repeat (first | exact (Kd.R_reads' HO_12.out).2.2 | (with_reducible refine Kd.C_alloc ?_ _) | (with_reducible refine Kd.C_drewN ?_ _) | (with_reducible refine Kd.C_drew ?_))); (case side4 => exact (Kd.R_reads' HO_12.out).2.1); rintro e w97 ⟨v555, rfl, ho0, hb⟩; have n0_ := Aside0.mk (Kd.R_elder' (by (with_reducible repeat (first | apply Kd.R_alloc | apply Kd.R_drewN | apply Kd.R_drew)); exact HO_9.out) (Kd.R_base ho0) hb); have n1_ := Aside0.mk (Kd.R_elder' (by (with_reducible repeat (first | apply Kd.R_alloc | apply Kd.R_drewN | apply Kd.R_drew)); exact HO_10.out) (Kd.R_base ho0) hb); have n2_ := Aside0.mk (Kd.R_elder' (by (with_reducible repeat (first | apply Kd.R_alloc | apply Kd.R_drewN | apply Kd.R_drew)); exact HO_11.out) (Kd.R_base ho0) hb); have n3_ := Aside0.mk (Kd.R_elder' (by (with_reducible repeat (first | apply Kd.R_alloc | apply Kd.R_drewN | apply Kd.R_drew)); exact HO_12.out) (Kd.R_base ho0) hb); have n4_ := Aside0.mk (Kd.R_elder' (by (with_reducible repeat (first | apply Kd.R_alloc | apply Kd.R_drewN | apply Kd.R_drew)); exact HO_13.out) (Kd.R_base ho0) hb); have n5_ := Aside0.mk (Kd.R_elder' (by (with_reducible repeat (first | apply Kd.R_alloc | apply Kd.R_drewN | apply Kd.R_drew)); exact HO_14.out) (Kd.R_base ho0) hb); have n6_ := Aside0.mk (Kd.R_elder' (by (with_reducible repeat (first | apply Kd.R_alloc | apply Kd.R_drewN | apply Kd.R_drew)); exact HO_15.out) (Kd.R_base ho0) hb); have n7_ := Aside0.mk (Kd.R_lower (Kd.R_new' (Kd.R_new' (Kd.R_new' (Kd.R_new' (Kd.R_new' (Kd.R_new' (Kd.R_new' ho0 (Kd.R_lt (by (with_reducible repeat (first | apply Kd.R_alloc | apply Kd.R_drewN | apply Kd.R_drew)); exact HO_9.out))) (Kd.R_lt (by (with_reducible repeat (first | apply Kd.R_alloc | apply Kd.R_drewN | apply Kd.R_drew)); exact HO_10.out))) (Kd.R_lt (by (with_reducible repeat (first | apply Kd.R_alloc | apply Kd.R_drewN | apply Kd.R_drew)); exact HO_11.out))) (Kd.R_lt (by (with_reducible repeat (first | apply Kd.R_alloc | apply Kd.R_drewN | apply Kd.R_drew)); exact HO_12.out))) (Kd.R_lt (by (with_reducible repeat (first | apply Kd.R_alloc | apply Kd.R_drewN | apply Kd.R_drew)); exact HO_13.out))) (Kd.R_lt (by (with_reducible repeat (first | apply Kd.R_alloc | apply Kd.R_drewN | apply Kd.R_drew)); exact HO_14.out))) (Kd.R_lt (by (with_reducible repeat (first | apply Kd.R_alloc | apply Kd.R_drewN | apply Kd.R_drew)); exact HO_15.out))) (below_size (by repeat (first | (with_reducible first | exact HB.out | apply below_alloc | apply pw_below_drewN | apply below_drew1) | exact HB.out)))); have n8_ := Aside0.mk (below_step (by repeat (first | (with_reducible first | exact HB.out | apply below_alloc | apply pw_below_drewN | apply below_drew1) | exact HB.out)) hb); clear HO_9; clear HO_10; clear HO_11; clear HO_12; clear HO_13; clear HO_14; clear HO_15; clear HB; have HO_9 := n0_; have HO_10 := n1_; have HO_11 := n2_; have HO_12 := n3_; have HO_13 := n4_; have HO_14 := n5_; have HO_15 := n6_; have HO556 := n7_; have HB := n8_; clear n0_ n1_ n2_ n3_ n4_ n5_ n6_ n7_ n8_; (try clear hb); (try clear hb2); (try clear hk); (try clear hi); (try clear ho0))); obtain ⟨Ao98, co98, eo98⟩ := Kd.R_slice HO556.out; subst eo98) | ((first | ((with_reducible refine gate_callee (f := 18) rfl ?_); (refine gate_guard (by rfl) ?_; dsimp only); refine goesL_ (some 152) rfl rfl Tryd.func18 (by kernel_rfl) rfl #[.slice Ao98 t554.length co98, .slice Ao20 t518.length co20] rfl (by (try simp only [List.map_toArray, List.map_cons, List.map_nil]); first | done | rfl | (simp only [List.length_drop, List.length_take]; rfl)) ?_; (with_reducible refine (rel_Same.calls k2 _ _ t554 _ _ t518 true _ ?side1 ?side2 ?side3 ?side4 A87.out).mono ?_); (case side1 => repeat (first | exact (Kd.R_reads' HO556.out).2.2 | (with_reducible refine Kd.C_alloc ?_ _) | (with_reducible refine Kd.C_drewN ?_ _) | (with_reducible refine Kd.C_drew ?_))); (case side2 => exact (Kd.R_reads' HO556.out).2.1); (case side3 => repeat (first | exact (Kd.R_reads' HO_9.out).2.2 | (with_reducible refine Kd.C_alloc ?_ _) | (with_reducible refine Kd.C_drewN ?_ _) | (with_reducible refine Kd.C_drew ?_))); (case side4 => exact (Kd.R_reads' HO_9.out).2.1); rintro e w' ⟨rfl, ⟨nd, rfl⟩⟩; refine ⟨_, rfl, ?_⟩) | (go_at_call 18; (with_reducible refine (rel_Same.calls k2 _ _ t554 _ _ t518 true _ ?side1 ?side2 ?side3 ?side4 A87.out).mono ?_); (case side1 => repeat (first | exact (Kd.R_reads' HO556.out).2.2 | (with_reducible refine Kd.C_alloc ?_ _) | (with_reducible refine Kd.C_drewN ?_ _) | (with_reducible refine Kd.C_drew ?_))); (case side2 => exact (Kd.R_reads' HO556.out).2.1); (case side3 => repeat (first | exact (Kd.R_reads' HO_9.out).2.2 | (with_reducible refine Kd.C_alloc ?_ _) | (with_reducible refine Kd.C_drewN ?_ _) | (with_reducible refine Kd.C_drew ?_))); (case side4 => exact (Kd.R_reads' HO_9.out).2.1); rintro e w' ⟨rfl, ⟨nd, rfl⟩⟩))) | ((first | ((with_reducible refine gate_callee (f := 13) rfl ?_); (refine gate_guard (by rfl) ?_; dsimp only); refine goesL_ (some 156) rfl rfl Tryd.func13 (by kernel_rfl) rfl #[.slice Ao90 t524.length co90] rfl (by (try simp only [List.map_toArray, List.map_cons, List.map_nil]); first | done | rfl | (simp only [List.length_drop, List.length_take]; rfl)) ?_; (with_reducible refine (rel_May.calls k2 _ _ t524 t558 _ ?side1 ?side2 A89.out).mono ?_); (case side1 => repeat (first | exact (Kd.R_reads' HO_11.out).2.2 | (with_reducible refine Kd.C_alloc ?_ _) | (with_reducible refine Kd.C_drewN ?_ _) | (with_reducible refine Kd.C_drew ?_))); (case side2 => exact (Kd.R_reads' HO_11.out).2.1); rintro e w99 ⟨rfl, hb⟩; refine ⟨_, rfl, ?_⟩; have n0_ := Aside0.mk (Kd.R_below (by (with_reducible repeat (first | apply Kd.R_alloc | apply Kd.R_drewN | apply Kd.R_drew)); exact HO_9.out) hb); have n1_ := Aside0.mk (Kd.R_below (by (with_reducible repeat (first | apply Kd.R_alloc | apply Kd.R_drewN | apply Kd.R_drew)); exact HO_10.out) hb); have n2_ := Aside0.mk (Kd.R_below (by (with_reducible repeat (first | apply Kd.R_alloc | apply Kd.R_drewN | apply Kd.R_drew)); exact HO_11.out) hb); have n3_ := Aside0.mk (Kd.R_below (by (with_reducible repeat (first | apply Kd.R_alloc | apply Kd.R_drewN | apply Kd.R_drew)); exact HO_12.out) hb); have n4_ := Aside0.mk (Kd.R_below (by (with_reducible repeat (first | apply Kd.R_alloc | apply Kd.R_drewN | apply Kd.R_drew)); exact HO_13.out) hb); have n5_ := Aside0.mk (Kd.R_below (by (with_reducible repeat (first | apply Kd.R_alloc | apply Kd.R_drewN | apply Kd.R_drew)); exact HO_14.out) hb); have n6_ := Aside0.mk (Kd.R_below (by (with_reducible repeat (first | apply Kd.R_alloc | apply Kd.R_drewN | apply Kd.R_drew)); exact HO_15.out) hb); have n7_ := Aside0.mk (Kd.R_below (by (with_reducible repeat (first | apply Kd.R_alloc | apply Kd.R_drewN | apply Kd.R_drew)); exact HO556.out) hb); have n8_ := Aside0.mk (below_step (by repeat (first | (with_reducible first | exact HB.out | apply below_alloc | apply pw_below_drewN | apply below_drew1) | exact HB.out)) hb); clear HO_9; clear HO_10; clear HO_11; clear HO_12; clear HO_13; clear HO_14; clear HO_15; clear HO556; clear HB; have HO_9 := n0_; have HO_10 := n1_; have HO_11 := n2_; have HO_12 := n3_; have HO_13 := n4_; have HO_14 := n5_; have HO_15 := n6_; have HO556 := n7_; have HB := n8_; clear n0_ n1_ n2_ n3_ n4_ n5_ n6_ n7_ n8_; (try clear hb); (try clear hb2); (try clear hk); (try clear hi)) | (go_at_call 13; (with_reducible refine (rel_May.calls k2 _ _ t524 t558 _ ?side1 ?side2 A89.out).mono ?_); (case side1 => repeat (first | exact (Kd.R_reads' HO_11.out).2.2 | (with_reducible refine Kd.C_alloc ?_ _) | (with_reducible refine Kd.C_drewN ?_ _) | (with_reducible refine Kd.C_drew ?_))); (case side2 => exact (Kd.R_reads' HO_11.out).2.1); rintro e w99 ⟨rfl, hb⟩; have n0_ := Aside0.mk (Kd.R_below (by (with_reducible repeat (first | apply Kd.R_alloc | apply Kd.R_drewN | apply Kd.R_drew)); exact HO_9.out) hb); have n1_ := Aside0.mk (Kd.R_below (by (with_reducible repeat (first | apply Kd.R_alloc | apply Kd.R_drewN | apply Kd.R_drew)); exact HO_10.out) hb); have n2_ := Aside0.mk (Kd.R_below (by (with_reducible repeat (first | apply Kd.R_alloc | apply Kd.R_drewN | apply Kd.R_drew)); exact HO_11.out) hb); have n3_ := Aside0.mk (Kd.R_below (by (with_reducible repeat (first | apply Kd.R_alloc | apply Kd.R_drewN | apply Kd.R_drew)); exact HO_12.out) hb); have n4_ := Aside0.mk (Kd.R_below (by (with_reducible repeat (first | apply Kd.R_alloc | apply Kd.R_drewN | apply Kd.R_drew)); exact HO_13.out) hb); have n5_ := Aside0.mk (Kd.R_below (by (with_reducible repeat (first | apply Kd.R_alloc | apply Kd.R_drewN | apply Kd.R_drew)); exact HO_14.out) hb); have n6_ := Aside0.mk (Kd.R_below (by (with_reducible repeat (first | apply Kd.R_alloc | apply Kd.R_drewN | apply Kd.R_drew)); exact HO_15.out) hb); have n7_ := Aside0.mk (Kd.R_below (by (with_reducible repeat (first | apply Kd.R_alloc | apply Kd.R_drewN | apply Kd.R_drew)); exact HO556.out) hb); have n8_ := Aside0.mk (below_step (by repeat (first | (with_reducible first | exact HB.out | apply below_alloc | apply pw_below_drewN | apply below_drew1) | exact HB.out)) hb); clear HO_9; clear HO_10; clear HO_11; clear HO_12; clear HO_13; clear HO_14; clear HO_15; clear HO556; clear HB; have HO_9 := n0_; have HO_10 := n1_; have HO_11 := n2_; have HO_12 := n3_; have HO_13 := n4_; have HO_14 := n5_; have HO_15 := n6_; have HO556 := n7_; have HB := n8_; clear n0_ n1_ n2_ n3_ n4_ n5_ n6_ n7_ n8_; (try clear hb); (try clear hb2); (try clear hk); (try clear hi)))))
                    go_ret
                    exact ⟨by first | rfl | (simp [errW_none, errW_some] <;> rfl) | (simp [*, errW_none, errW_some] <;> rfl), by repeat (first | (with_reducible first | exact HB.out | apply below_alloc | apply pw_below_drewN | apply below_drew1) | exact HB.out)⟩
                  · replace c88 := Bool.eq_false_iff.mpr c88
                    subst c88
                    have H1 : (none) = some r := by rw [if_neg (show ¬ (false = true) by decide)] at H; exact H
                    clear H
                    have H := H1
                    clear H1
                    exact absurd H (by simp)
                · rw [if_neg c85] at H
                  exact absurd H (by simp)
  · replace c6 := Bool.eq_false_iff.mpr c6
    subst c6
    have H1 : (none) = some r := by rw [if_neg (show ¬ (false = true) by decide)] at H; exact H
    clear H
    have H := H1
    clear H1
    exact absurd H (by simp)

/-- THE ONE PURE STATEMENT of withelaw2_RelSets: yours. -/
def withelaw2_RelSets.Pure : Prop := ∀ (l0 : List Int) (l1 : List Int) (a2 : Int) (a3 : Int), l0.length ≤ maxLen → l0.length * 1 ≤ 140737488351232 → (∀ x ∈ l0, (Lit.int .u8 x).wf = true) → l1.length ≤ maxLen → l1.length * 1 ≤ 140737488351232 → (∀ x ∈ l1, (Lit.int .u8 x).wf = true) → (Lit.int .u8 a2).wf = true → (Lit.int .u64 a3).wf = true → ∃ k, withelaw2_RelSets.f k l0 l1 a2 a3 = some true
theorem withelaw2_RelSets.walk (P : withelaw2_RelSets.Pure) (a0 : Option Addr) (len0 cap0 : Nat) (z0 : List Int) (a1 : Option Addr) (len1 cap1 : Nat) (z1 : List Int) (a2 : Int) (a3 : Int) (w : World) (hG : GOk w) (w0 : (a0 = none ∧ len0 = 0 ∧ cap0 = 0 ∧ z0 = []) ∨ ∃ x, a0 = some x ∧ len0 ≤ cap0 ∧ cap0 ≤ maxLen ∧ z0.length = cap0 ∧ (∀ i, i < z0.length → w.cell? (x.add i) = some (.int .u8 (z0.getD i 0))) ∧ ∀ n ∈ z0, (Lit.int .u8 n).wf = true) (y0 : len0 * 1 ≤ 140737488351232) (w1 : (a1 = none ∧ len1 = 0 ∧ cap1 = 0 ∧ z1 = []) ∨ ∃ x, a1 = some x ∧ len1 ≤ cap1 ∧ cap1 ≤ maxLen ∧ z1.length = cap1 ∧ (∀ i, i < z1.length → w.cell? (x.add i) = some (.int .u8 (z1.getD i 0))) ∧ ∀ n ∈ z1, (Lit.int .u8 n).wf = true) (y1 : len1 * 1 ≤ 140737488351232) (w2 : (Lit.int .u8 a2).wf = true) (w3 : (Lit.int .u64 a3).wf = true) :
    Calls Tryd.prog 7 #[.slice a0 len0 cap0, .slice a1 len1 cap1, .int .u8 a2, .int .u64 a3] w fun e w' => e = .returned (.bool true) ∧ Below w.heap.size w w' := by
  obtain ⟨l0, rfl, hr0, hm0, hw0, hc0⟩ := ReadsInt.ofRowC w0
  obtain ⟨l1, rfl, hr1, hm1, hw1, hc1⟩ := ReadsInt.ofRowC w1
  have HG := Aside0.mk hG
  obtain ⟨k, h⟩ := P l0 l1 a2 a3 hm0 y0 hw0 hm1 y1 hw1 w2 w3
  refine (withelaw2_RelSets.calls k _ _ l0 _ _ l1 a2 a3 true w (Kd.C_of_reads (d := (0 : Int)) (h1 := fun _ => rfl) hr0) hc0 (Kd.C_of_reads (d := (0 : Int)) (h1 := fun _ => rfl) hr1) hc1 h).mono ?_
  rintro e w' ⟨rfl, hd⟩
  exact ⟨rfl, hd⟩

end Go.Proofs.YtcehnbneiabaaaaDoor.PR
