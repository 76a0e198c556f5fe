-- made by fvprint.py over the kit's print
import Derived.Test.YtcehnbneiabaaaaDoorPRx0
import Derived.Test.YtcehnbneiabaaaaDoorPRx1
import Derived.Test.YtcehnbneiabaaaaDoorPRx2
import Derived.Test.YtcehnbneiabaaaaDoorPRx3
import Derived.Test.YtcehnbneiabaaaaDoorPRx4
import Derived.Test.YtcehnbneiabaaaaDoorPRx10
import Derived.Test.YtcehnbneiabaaaaDoorPRx11
import Derived.Test.YtcehnbneiabaaaaDoorPRx12
namespace Go.Proofs.YtcehnbneiabaaaaDoor.PR
open Go.RowKit Go.Proofs.YtcehnbneiabaaaaDoorW.PrintWords Go.Proofs.YtcehnbneiabaaaaDoorW.PrintLast Go.Proofs.YtcehnbneiabaaaaDoorW.PrintMore
attribute [local go_sem] max2_int min2_int max_two min_two max_three min_three max_four min_four   -- for this text's walks alone
set_option linter.unusedVariables false
set_option linter.unusedSimpArgs false

attribute [local go_sem high] eqA28
attribute [local go_sem] cell_set_some
/-! ### withelaw2_RelFrom: function 4 -/
mutual
def withelaw2_RelFrom.j0 : Nat → Int → List (S28) → Bool → Option (Bool)
  | 0, _, _, _ => none
  | k + 1, x0, x1, x5 => withelaw2_RelFrom.l0 k x0 x1 x5 0
def withelaw2_RelFrom.l0 : Nat → Int → List (S28) → Bool → Int → Option (Bool)
  | 0, _, _, _, _ => none
  | k + 1, x0, x1, x5, x6 => if x6 < (x1.length : Int) then (if x5 = true then (if 0 ≤ x6 then (if ((rd_T28 x1 x6).f0) ≥ 0 then (if ((rd_T28 x1 x6).f0) < x0 then (if ((rd_T28 x1 x6).f1) ≥ 0 then (withelaw2_RelFrom.l0 k x0 x1 (decide (((rd_T28 x1 x6).f1) < x0)) (wrap64 (x6 + 1))) else (withelaw2_RelFrom.l0 k x0 x1 false (wrap64 (x6 + 1)))) else (withelaw2_RelFrom.l0 k x0 x1 false (wrap64 (x6 + 1)))) else (withelaw2_RelFrom.l0 k x0 x1 false (wrap64 (x6 + 1)))) else (none)) else (withelaw2_RelFrom.l0 k x0 x1 false (wrap64 (x6 + 1)))) else ((rel_From.f k x0 x1).bind fun bt410 => (if (bt410.2 != x5) = true then (none) else (if bt410.2 = true then (withelaw2_RelFrom.l1 k x0 x1 bt410.1 0 0) else (some ((bt410.1.length : Int) == 0)))))
def withelaw2_RelFrom.l1 : Nat → Int → List (S28) → List Int → Int → Int → Option (Bool)
  | 0, _, _, _, _, _ => none
  | k + 1, x0, x1, x7, x9, x10 => if x10 < x0 then (withelaw2_RelFrom.l2 k x0 x1 x7 x9 x10 0) else ((rel_Pairs.f k x7).bind fun t417 => ((rel_From.f k x0 t417).bind fun bt420 => (if (x7.length : Int) = x0 then ((rel_Count.f k x7).bind fun t424 => (if t424 = x9 then (if bt420.2 = true then ((rel_Same.f k bt420.1 x7).bind fun t425 => (if t425 = true then ((rel_New.f x0).bind fun t426 => (if (t426.length : Int) = x0 then ((rel_New.f x0).bind fun t429 => ((rel_Count.f k t429).bind fun t432 => (some (t432 == 0)))) else (none))) else (none))) else (none)) else (none))) else (none))))
def withelaw2_RelFrom.l2 : Nat → Int → List (S28) → List Int → Int → Int → Int → Option (Bool)
  | 0, _, _, _, _, _, _ => none
  | k + 1, x0, x1, x7, x9, x10, x11 => if x11 < x0 then (withelaw2_RelFrom.l3 k x0 x1 x7 x9 x10 x11 false 0) else (withelaw2_RelFrom.l1 k x0 x1 x7 x9 (wrap64 (x10 + 1)))
def withelaw2_RelFrom.l3 : Nat → Int → List (S28) → List Int → Int → Int → Int → Bool → Int → Option (Bool)
  | 0, _, _, _, _, _, _, _, _ => none
  | k + 1, x0, x1, x7, x9, x10, x11, x12, x13 => if x13 < (x1.length : Int) then (if x12 = true then (withelaw2_RelFrom.l3 k x0 x1 x7 x9 x10 x11 true (wrap64 (x13 + 1))) else (if 0 ≤ x13 then (withelaw2_RelFrom.l3 k x0 x1 x7 x9 x10 x11 (((rd_T28 x1 x13).f0) == x10 && (((rd_T28 x1 x13).f1) == x11)) (wrap64 (x13 + 1))) else (none))) else (if x12 = true then ((rel_Has.f k x7 x10 x11).bind fun t415 => (if (t415 != x12) = true then (none) else (withelaw2_RelFrom.l2 k x0 x1 x7 (wrap64 (x9 + 1)) x10 (wrap64 (x11 + 1))))) else ((rel_Has.f k x7 x10 x11).bind fun t416 => (if (t416 != x12) = true then (none) else (withelaw2_RelFrom.l2 k x0 x1 x7 x9 x10 (wrap64 (x11 + 1))))))
end
def withelaw2_RelFrom.f (k : Nat) (a0 : Int) (l1 : List (S28)) : Option (Bool) := (withelaw2_begun.f k).bind fun t405 => (if t405 = true then (if (l1.length : Int) > 60 then (some true) else (if a0 ≥ 0 then (withelaw2_RelFrom.j0 k a0 l1 (decide (a0 ≤ 64))) else (withelaw2_RelFrom.j0 k a0 l1 false))) else (none))
theorem withelaw2_RelFrom.mono_l : ∀ k, (∀ y0 y1 y2, LeO (withelaw2_RelFrom.j0 k y0 y1 y2) (withelaw2_RelFrom.j0 (k + 1) y0 y1 y2)) ∧ (∀ y0 y1 y2 y3, LeO (withelaw2_RelFrom.l0 k y0 y1 y2 y3) (withelaw2_RelFrom.l0 (k + 1) y0 y1 y2 y3)) ∧ (∀ y0 y1 y2 y3 y4, LeO (withelaw2_RelFrom.l1 k y0 y1 y2 y3 y4) (withelaw2_RelFrom.l1 (k + 1) y0 y1 y2 y3 y4)) ∧ (∀ y0 y1 y2 y3 y4 y5, LeO (withelaw2_RelFrom.l2 k y0 y1 y2 y3 y4 y5) (withelaw2_RelFrom.l2 (k + 1) y0 y1 y2 y3 y4 y5)) ∧ (∀ y0 y1 y2 y3 y4 y5 y6 y7, LeO (withelaw2_RelFrom.l3 k y0 y1 y2 y3 y4 y5 y6 y7) (withelaw2_RelFrom.l3 (k + 1) y0 y1 y2 y3 y4 y5 y6 y7))
  | 0 => ⟨fun _ _ _ r h => by simp [withelaw2_RelFrom.j0] at h, fun _ _ _ _ r h => by simp [withelaw2_RelFrom.l0] at h, fun _ _ _ _ _ r h => by simp [withelaw2_RelFrom.l1] at h, fun _ _ _ _ _ _ r h => by simp [withelaw2_RelFrom.l2] at h, fun _ _ _ _ _ _ _ _ r h => by simp [withelaw2_RelFrom.l3] at h⟩
  | k + 1 => by
    obtain ⟨ih0, ih1, ih2, ih3, ih4⟩ := withelaw2_RelFrom.mono_l k
    refine ⟨?_, ?_, ?_, ?_, ?_⟩
    · intro y0 y1 y2
      unfold withelaw2_RelFrom.j0
      repeat' first
      | (with_reducible exact ih0 _ _ _)
      | (with_reducible exact ih1 _ _ _ _)
      | (with_reducible exact ih2 _ _ _ _ _)
      | (with_reducible exact ih3 _ _ _ _ _ _)
      | (with_reducible exact ih4 _ _ _ _ _ _ _ _)
      | (with_reducible exact rel_Count.mono _ _)
      | (with_reducible exact rel_From.mono _ _ _)
      | (with_reducible exact rel_Has.mono _ _ _ _)
      | (with_reducible exact rel_Pairs.mono _ _)
      | (with_reducible exact rel_Same.mono _ _ _)
      | (with_reducible exact withelaw2_begun.mono _)
      | (with_reducible exact LeO.refl _)
      | (with_reducible exact LeO.none _)
      | (with_reducible refine LeO.ite ?_ ?_)
      | (with_reducible refine LeO.bind ?_ (fun _ => ?_))
      | exact ih0 _ _ _
      | exact ih1 _ _ _ _
      | exact ih2 _ _ _ _ _
      | exact ih3 _ _ _ _ _ _
      | exact ih4 _ _ _ _ _ _ _ _
      | exact rel_Count.mono _ _
      | exact rel_From.mono _ _ _
      | exact rel_Has.mono _ _ _ _
      | exact rel_Pairs.mono _ _
      | exact rel_Same.mono _ _ _
      | exact withelaw2_begun.mono _
      | exact LeO.none _
      | refine LeO.ite ?_ ?_
      | refine LeO.bind ?_ (fun _ => ?_)
    · intro y0 y1 y2 y3
      unfold withelaw2_RelFrom.l0
      repeat' first
      | (with_reducible exact ih0 _ _ _)
      | (with_reducible exact ih1 _ _ _ _)
      | (with_reducible exact ih2 _ _ _ _ _)
      | (with_reducible exact ih3 _ _ _ _ _ _)
      | (with_reducible exact ih4 _ _ _ _ _ _ _ _)
      | (with_reducible exact rel_Count.mono _ _)
      | (with_reducible exact rel_From.mono _ _ _)
      | (with_reducible exact rel_Has.mono _ _ _ _)
      | (with_reducible exact rel_Pairs.mono _ _)
      | (with_reducible exact rel_Same.mono _ _ _)
      | (with_reducible exact withelaw2_begun.mono _)
      | (with_reducible exact LeO.refl _)
      | (with_reducible exact LeO.none _)
      | (with_reducible refine LeO.ite ?_ ?_)
      | (with_reducible refine LeO.bind ?_ (fun _ => ?_))
      | exact ih0 _ _ _
      | exact ih1 _ _ _ _
      | exact ih2 _ _ _ _ _
      | exact ih3 _ _ _ _ _ _
      | exact ih4 _ _ _ _ _ _ _ _
      | exact rel_Count.mono _ _
      | exact rel_From.mono _ _ _
      | exact rel_Has.mono _ _ _ _
      | exact rel_Pairs.mono _ _
      | exact rel_Same.mono _ _ _
      | exact withelaw2_begun.mono _
      | exact LeO.none _
      | refine LeO.ite ?_ ?_
      | refine LeO.bind ?_ (fun _ => ?_)
    · intro y0 y1 y2 y3 y4
      unfold withelaw2_RelFrom.l1
      repeat' first
      | (with_reducible exact ih0 _ _ _)
      | (with_reducible exact ih1 _ _ _ _)
      | (with_reducible exact ih2 _ _ _ _ _)
      | (with_reducible exact ih3 _ _ _ _ _ _)
      | (with_reducible exact ih4 _ _ _ _ _ _ _ _)
      | (with_reducible exact rel_Count.mono _ _)
      | (with_reducible exact rel_From.mono _ _ _)
      | (with_reducible exact rel_Has.mono _ _ _ _)
      | (with_reducible exact rel_Pairs.mono _ _)
      | (with_reducible exact rel_Same.mono _ _ _)
      | (with_reducible exact withelaw2_begun.mono _)
      | (with_reducible exact LeO.refl _)
      | (with_reducible exact LeO.none _)
      | (with_reducible refine LeO.ite ?_ ?_)
      | (with_reducible refine LeO.bind ?_ (fun _ => ?_))
      | exact ih0 _ _ _
      | exact ih1 _ _ _ _
      | exact ih2 _ _ _ _ _
      | exact ih3 _ _ _ _ _ _
      | exact ih4 _ _ _ _ _ _ _ _
      | exact rel_Count.mono _ _
      | exact rel_From.mono _ _ _
      | exact rel_Has.mono _ _ _ _
      | exact rel_Pairs.mono _ _
      | exact rel_Same.mono _ _ _
      | exact withelaw2_begun.mono _
      | exact LeO.none _
      | refine LeO.ite ?_ ?_
      | refine LeO.bind ?_ (fun _ => ?_)
    · intro y0 y1 y2 y3 y4 y5
      unfold withelaw2_RelFrom.l2
      repeat' first
      | (with_reducible exact ih0 _ _ _)
      | (with_reducible exact ih1 _ _ _ _)
      | (with_reducible exact ih2 _ _ _ _ _)
      | (with_reducible exact ih3 _ _ _ _ _ _)
      | (with_reducible exact ih4 _ _ _ _ _ _ _ _)
      | (with_reducible exact rel_Count.mono _ _)
      | (with_reducible exact rel_From.mono _ _ _)
      | (with_reducible exact rel_Has.mono _ _ _ _)
      | (with_reducible exact rel_Pairs.mono _ _)
      | (with_reducible exact rel_Same.mono _ _ _)
      | (with_reducible exact withelaw2_begun.mono _)
      | (with_reducible exact LeO.refl _)
      | (with_reducible exact LeO.none _)
      | (with_reducible refine LeO.ite ?_ ?_)
      | (with_reducible refine LeO.bind ?_ (fun _ => ?_))
      | exact ih0 _ _ _
      | exact ih1 _ _ _ _
      | exact ih2 _ _ _ _ _
      | exact ih3 _ _ _ _ _ _
      | exact ih4 _ _ _ _ _ _ _ _
      | exact rel_Count.mono _ _
      | exact rel_From.mono _ _ _
      | exact rel_Has.mono _ _ _ _
      | exact rel_Pairs.mono _ _
      | exact rel_Same.mono _ _ _
      | exact withelaw2_begun.mono _
      | exact LeO.none _
      | refine LeO.ite ?_ ?_
      | refine LeO.bind ?_ (fun _ => ?_)
    · intro y0 y1 y2 y3 y4 y5 y6 y7
      unfold withelaw2_RelFrom.l3
      repeat' first
      | (with_reducible exact ih0 _ _ _)
      | (with_reducible exact ih1 _ _ _ _)
      | (with_reducible exact ih2 _ _ _ _ _)
      | (with_reducible exact ih3 _ _ _ _ _ _)
      | (with_reducible exact ih4 _ _ _ _ _ _ _ _)
      | (with_reducible exact rel_Count.mono _ _)
      | (with_reducible exact rel_From.mono _ _ _)
      | (with_reducible exact rel_Has.mono _ _ _ _)
      | (with_reducible exact rel_Pairs.mono _ _)
      | (with_reducible exact rel_Same.mono _ _ _)
      | (with_reducible exact withelaw2_begun.mono _)
      | (with_reducible exact LeO.refl _)
      | (with_reducible exact LeO.none _)
      | (with_reducible refine LeO.ite ?_ ?_)
      | (with_reducible refine LeO.bind ?_ (fun _ => ?_))
      | exact ih0 _ _ _
      | exact ih1 _ _ _ _
      | exact ih2 _ _ _ _ _
      | exact ih3 _ _ _ _ _ _
      | exact ih4 _ _ _ _ _ _ _ _
      | exact rel_Count.mono _ _
      | exact rel_From.mono _ _ _
      | exact rel_Has.mono _ _ _ _
      | exact rel_Pairs.mono _ _
      | exact rel_Same.mono _ _ _
      | exact withelaw2_begun.mono _
      | exact LeO.none _
      | refine LeO.ite ?_ ?_
      | refine LeO.bind ?_ (fun _ => ?_)
theorem withelaw2_RelFrom.mono : ∀ a0 a1 k, LeO (withelaw2_RelFrom.f k a0 a1) (withelaw2_RelFrom.f (k + 1) a0 a1) := by
  intro a0 a1 k
  obtain ⟨ih0, ih1, ih2, ih3, ih4⟩ := withelaw2_RelFrom.mono_l k
  unfold withelaw2_RelFrom.f
  repeat' first
      | (with_reducible exact ih0 _ _ _)
      | (with_reducible exact ih1 _ _ _ _)
      | (with_reducible exact ih2 _ _ _ _ _)
      | (with_reducible exact ih3 _ _ _ _ _ _)
      | (with_reducible exact ih4 _ _ _ _ _ _ _ _)
      | (with_reducible exact rel_Count.mono _ _)
      | (with_reducible exact rel_From.mono _ _ _)
      | (with_reducible exact rel_Has.mono _ _ _ _)
      | (with_reducible exact rel_Pairs.mono _ _)
      | (with_reducible exact rel_Same.mono _ _ _)
      | (with_reducible exact withelaw2_begun.mono _)
      | (with_reducible exact LeO.refl _)
      | (with_reducible exact LeO.none _)
      | (with_reducible refine LeO.ite ?_ ?_)
      | (with_reducible refine LeO.bind ?_ (fun _ => ?_))
      | exact ih0 _ _ _
      | exact ih1 _ _ _ _
      | exact ih2 _ _ _ _ _
      | exact ih3 _ _ _ _ _ _
      | exact ih4 _ _ _ _ _ _ _ _
      | exact rel_Count.mono _ _
      | exact rel_From.mono _ _ _
      | exact rel_Has.mono _ _ _ _
      | exact rel_Pairs.mono _ _
      | exact rel_Same.mono _ _ _
      | exact withelaw2_begun.mono _
      | exact LeO.none _
      | refine LeO.ite ?_ ?_
      | refine LeO.bind ?_ (fun _ => ?_)
set_option maxHeartbeats 8000000 in
set_option maxRecDepth 100000 in
theorem withelaw2_RelFrom.calls (k : Nat) (a0 : Int) (A1 : Option Addr) (c1 : Nat) (l1 : List (S28)) (r : Bool) (w : World) (hr1 : Kd.C k28 w A1 l1.length l1) (hc1 : l1.length ≤ c1) (h : withelaw2_RelFrom.f k a0 l1 = some r) (hG : GOk w := by first | exact Aside0.out (by assumption) | exact GOk.le (Aside0.out (by assumption)) (by repeat (first | exact Aside0.out (by assumption) | exact Below.refl _ _ | apply below_alloc | apply pw_below_drewN | apply below_drew1 | refine below_set ?_ (Aside0.out (by assumption))))) :
    Calls Tryd.prog 4 #[.int .i64 a0, .slice A1 l1.length c1] w fun e w' => e = .returned (.bool r) ∧ Below w.heap.size w w' := by
  have hu28 := Tryd.underlying28
  have HR1 := Aside0.mk hr1
  have HC1 := Aside0.mk hc1
  clear hr1 hc1
  have HB := Aside0.mk (Below.refl w.heap.size w)
  have H : ((withelaw2_begun.f k).bind fun t405 => (if t405 = true then (if (l1.length : Int) > 60 then (some true) else (if a0 ≥ 0 then (withelaw2_RelFrom.j0 k a0 l1 (decide (a0 ≤ 64))) else (withelaw2_RelFrom.j0 k a0 l1 false))) else (none))) = some r := h
  clear h
  have HG := Aside0.mk hG
  clear hG
  replace H := Option.bind_eq_some_iff.mp H
  obtain ⟨t405, A30, H⟩ := H
  replace H : (if t405 = true then (if (l1.length : Int) > 60 then (some true) else (if a0 ≥ 0 then (withelaw2_RelFrom.j0 k a0 l1 (decide (a0 ≤ 64))) else (withelaw2_RelFrom.j0 k a0 l1 false))) else (none)) = some r := H
  have A3 := Aside0.mk A30
  clear A30
  by_cases c4 : t405 = true
  · subst c4
    have H1 : (if (l1.length : Int) > 60 then (some true) else (if a0 ≥ 0 then (withelaw2_RelFrom.j0 k a0 l1 (decide (a0 ≤ 64))) else (withelaw2_RelFrom.j0 k a0 l1 false))) = some r := by rw [if_pos rfl] at H; exact H
    clear H
    have H := H1
    clear H1
    by_cases c5 : (l1.length : Int) > 60
    · rw [if_pos c5] at H
      have c5b0 : decide (60 < (l1.length : Int)) = true := decide_eq_true c5
      have c5b1 : decide (60 < l1.length) = true := decide_eq_true (by omega)
      clear c5
      obtain rfl := Option.some.inj H
      go_enter Tryd.func4, Tryd.ntmps4
      go_wp2_with (first | ((with_reducible refine gate_callee (f := 8) rfl ?_); refine goesL_ (some 16) rfl rfl Tryd.func8 (by kernel_rfl) rfl #[] rfl (by (try simp only [List.map_toArray, List.map_cons, List.map_nil]); first | done | rfl | (simp only [List.length_drop, List.length_take]; rfl)) ?_; (with_reducible refine (withelaw2_begun.calls k  true _ A3.out).mono ?_); rintro e w6 ⟨rfl, hb⟩; refine ⟨_, rfl, ?_⟩; have n0_ := Aside0.mk (below_step (by repeat (first | (with_reducible first | exact HB.out | apply below_alloc | apply pw_below_drewN | apply below_drew1) | exact HB.out)) hb); clear HB; have HB := n0_; clear n0_; (try clear hb); (try clear hb2); (try clear hk); (try clear hi)))
      go_ret
      exact ⟨by first | rfl | (simp [errW_none, errW_some] <;> rfl) | (simp [*, errW_none, errW_some] <;> rfl), by repeat (first | (with_reducible first | exact HB.out | apply below_alloc | apply pw_below_drewN | apply below_drew1) | exact HB.out)⟩
    · rw [if_neg c5] at H
      have c5b0 : decide (60 < (l1.length : Int)) = false := decide_eq_false c5
      have c5b1 : decide (60 < l1.length) = false := decide_eq_false (by omega)
      clear c5
      have HC7 := Aside0.mk H
      clear H
      go_enter Tryd.func4, Tryd.ntmps4
      go_upto_region 5 with (first | ((with_reducible refine gate_callee (f := 8) rfl ?_); refine goesL_ (some 16) rfl rfl Tryd.func8 (by kernel_rfl) rfl #[] rfl (by (try simp only [List.map_toArray, List.map_cons, List.map_nil]); first | done | rfl | (simp only [List.length_drop, List.length_take]; rfl)) ?_; (with_reducible refine (withelaw2_begun.calls k  true _ A3.out).mono ?_); rintro e w8 ⟨rfl, hb⟩; refine ⟨_, rfl, ?_⟩; have n0_ := Aside0.mk (below_step (by repeat (first | (with_reducible first | exact HB.out | apply below_alloc | apply pw_below_drewN | apply below_drew1) | exact HB.out)) hb); clear HB; have HB := n0_; clear n0_; (try clear hb); (try clear hb2); (try clear hk); (try clear hi)))
      (try simp only [Act.put, List.setIfInBounds_toArray, List.set_cons_zero, List.set_cons_succ])
      go_cut [5] (fun v5 wc => ∃ (kq : Nat) (x5_6 : Bool), v5 = .bool x5_6 ∧ Aside0 (withelaw2_RelFrom.j0 kq a0 l1 x5_6 = some r) ∧ Aside0 (kq ≤ k) ∧ Aside0 (Below w.heap.size w wc))
      case first =>
        have H := HC7.out
        clear HC7
        by_cases c9 : a0 ≥ 0
        · rw [if_pos c9] at H
          have c9b0 : decide (0 ≤ a0) = true := decide_eq_true c9
          clear c9
          (first | rw [c9b0] | (simp only [i64_w, i32_w]; rw [c9b0]) | skip)
          have H' := Aside0.mk H
          clear H
          go_wp2
          go_meet
          case rel => exact ⟨_, (decide (a0 ≤ 64)), (by first | rfl | (simp; done) | (simp [*]; done)), H', ⟨by first | omega | exact Nat.le_refl _⟩, ⟨by repeat (first | (with_reducible first | exact HB.out | apply below_alloc | apply pw_below_drewN | apply below_drew1) | exact HB.out)⟩⟩
        · rw [if_neg c9] at H
          have c9b0 : decide (0 ≤ a0) = false := decide_eq_false c9
          clear c9
          (first | rw [c9b0] | (simp only [i64_w, i32_w]; rw [c9b0]) | skip)
          have H' := Aside0.mk H
          clear H
          go_wp2
          go_meet
          case rel => exact ⟨_, (false), (by first | rfl | (simp; done) | (simp [*]; done)), H', ⟨by first | omega | exact Nat.le_refl _⟩, ⟨by repeat (first | (with_reducible first | exact HB.out | apply below_alloc | apply pw_below_drewN | apply below_drew1) | exact HB.out)⟩⟩
      case rest =>
        clear HC7
        try clear c1
        try clear p2
        try clear c4
        try clear c5
        try clear c5b0
        try clear c5b1
        try clear c8
        try clear c9
        try clear c9b0
        obtain ⟨kq, x5_6, rfl, HA, HJ6, HB⟩ := hcut
        cases kq with
        | zero => exact absurd HA.out (by simp [withelaw2_RelFrom.j0])
        | succ kj6 =>
          have H := HA.out
          clear HA
          simp only [withelaw2_RelFrom.j0] at H
          have H' := Aside0.mk H
          clear H
          go_wp2
          try go_simp
          go_loopg [5, 6] kj6 (fun kq v5 v6 w' => ∃ (x5_2 : Bool) (x6_2 : Int), v5 = .bool x5_2 ∧ v6 = .int .i64 x6_2 ∧ Aside0 (withelaw2_RelFrom.l0 kq a0 l1 x5_2 x6_2 = some r) ∧ Aside0 (kq ≤ kj6) ∧ Aside0 (Below w.heap.size w w'))
          case atStart => exact ⟨(x5_6), (0), (by first | rfl | (simp; done) | (simp [*]; done)), (by first | rfl | (simp; done) | (simp [*]; done)), H', ⟨Nat.le_refl _⟩, ⟨by repeat (first | (with_reducible first | exact HB.out | apply below_alloc | apply pw_below_drewN | apply below_drew1) | exact HB.out)⟩⟩
          case round =>
            clear H'
            try clear c1
            try clear p2
            try clear c4
            try clear c5
            try clear c5b0
            try clear c5b1
            try clear c8
            try clear c9
            try clear c9b0
            try clear p2
            obtain ⟨x5_2, x6_2, rfl, rfl, HA, HK2, HB⟩ := hrel
            cases gk with
            | zero => exact absurd HA.out (by simp [withelaw2_RelFrom.l0])
            | succ k2 =>
              have H := HA.out
              clear HA
              simp only [withelaw2_RelFrom.l0] at H
              by_cases c10 : x6_2 < (l1.length : Int)
              · rw [if_pos c10] at H
                have c10b0 : decide (x6_2 < (l1.length : Int)) = true := decide_eq_true c10
                clear c10
                by_cases c11 : x5_2 = true
                · subst c11
                  have H1 : (if 0 ≤ x6_2 then (if ((rd_T28 l1 x6_2).f0) ≥ 0 then (if ((rd_T28 l1 x6_2).f0) < a0 then (if ((rd_T28 l1 x6_2).f1) ≥ 0 then (withelaw2_RelFrom.l0 k2 a0 l1 (decide (((rd_T28 l1 x6_2).f1) < a0)) (wrap64 (x6_2 + 1))) else (withelaw2_RelFrom.l0 k2 a0 l1 false (wrap64 (x6_2 + 1)))) else (withelaw2_RelFrom.l0 k2 a0 l1 false (wrap64 (x6_2 + 1)))) else (withelaw2_RelFrom.l0 k2 a0 l1 false (wrap64 (x6_2 + 1)))) else (none)) = some r := by rw [if_pos rfl] at H; exact H
                  clear H
                  have H := H1
                  clear H1
                  by_cases c12 : 0 ≤ x6_2
                  · rw [if_pos c12] at H
                    have c12b0 : decide (0 ≤ x6_2) = true := decide_eq_true c12
                    clear c12
                    by_cases c13 : ((rd_T28 l1 x6_2).f0) ≥ 0
                    · rw [if_pos c13] at H
                      have c13b0 : decide (0 ≤ ((rd_T28 l1 x6_2).f0)) = true := decide_eq_true c13
                      clear c13
                      by_cases c14 : ((rd_T28 l1 x6_2).f0) < a0
                      · rw [if_pos c14] at H
                        have c14b0 : decide (((rd_T28 l1 x6_2).f0) < a0) = true := decide_eq_true c14
                        clear c14
                        by_cases c15 : ((rd_T28 l1 x6_2).f1) ≥ 0
                        · rw [if_pos c15] at H
                          have c15b0 : decide (0 ≤ ((rd_T28 l1 x6_2).f1)) = true := decide_eq_true c15
                          clear c15
                          have H' := Aside0.mk H
                          clear H
                          have p406 : 0 ≤ (x6_2 : Int) := of_decide_eq_true (by first | (with_reducible assumption) | assumption)
                          have q406 : x6_2 < (l1.length : Int) := of_decide_eq_true (by first | (with_reducible assumption) | assumption)
                          obtain ⟨ad406, e406, hx406_0, hx406_1⟩ := at_T28 HR1.out x6_2 p406 q406
                          cases e406
                          replace hx406_0 := (HB.out.cell (World.block_lt_of_cell? w _ hx406_0)).trans hx406_0
                          replace hx406_1 := (HB.out.cell (World.block_lt_of_cell? w _ hx406_1)).trans hx406_1
                          replace p406 := eq_true p406
                          replace q406 := eq_true q406
                          have p407 : 0 ≤ (x6_2 : Int) := of_decide_eq_true (by first | (with_reducible assumption) | assumption)
                          have q407 : x6_2 < (l1.length : Int) := of_decide_eq_true (by first | (with_reducible assumption) | assumption)
                          obtain ⟨ad407, e407, hx407_0, hx407_1⟩ := at_T28 HR1.out x6_2 p407 q407
                          obtain rfl : ad406 = ad407 := (by injection e407)
                          replace hx407_0 := (HB.out.cell (World.block_lt_of_cell? w _ hx407_0)).trans hx407_0
                          replace hx407_1 := (HB.out.cell (World.block_lt_of_cell? w _ hx407_1)).trans hx407_1
                          replace p407 := eq_true p407
                          replace q407 := eq_true q407
                          have p408 : 0 ≤ (x6_2 : Int) := of_decide_eq_true (by first | (with_reducible assumption) | assumption)
                          have q408 : x6_2 < (l1.length : Int) := of_decide_eq_true (by first | (with_reducible assumption) | assumption)
                          obtain ⟨ad408, e408, hx408_0, hx408_1⟩ := at_T28 HR1.out x6_2 p408 q408
                          obtain rfl : ad406 = ad408 := (by injection e408)
                          replace hx408_0 := (HB.out.cell (World.block_lt_of_cell? w _ hx408_0)).trans hx408_0
                          replace hx408_1 := (HB.out.cell (World.block_lt_of_cell? w _ hx408_1)).trans hx408_1
                          replace p408 := eq_true p408
                          replace q408 := eq_true q408
                          have p409 : 0 ≤ (x6_2 : Int) := of_decide_eq_true (by first | (with_reducible assumption) | assumption)
                          have q409 : x6_2 < (l1.length : Int) := of_decide_eq_true (by first | (with_reducible assumption) | assumption)
                          obtain ⟨ad409, e409, hx409_0, hx409_1⟩ := at_T28 HR1.out x6_2 p409 q409
                          obtain rfl : ad406 = ad409 := (by injection e409)
                          replace hx409_0 := (HB.out.cell (World.block_lt_of_cell? w _ hx409_0)).trans hx409_0
                          replace hx409_1 := (HB.out.cell (World.block_lt_of_cell? w _ hx409_1)).trans hx409_1
                          replace p409 := eq_true p409
                          replace q409 := eq_true q409
                          go_wp2
                          go_roundg k2
                          case measure => have := HJ6.out; have := HK2.out; omega
                          case rel => exact ⟨(decide (((rd_T28 l1 x6_2).f1) < a0)), (wrap64 (x6_2 + 1)), (by first | rfl | (simp; done) | (simp [*]; done)), (by first | rfl | (simp; done) | (simp [*]; done)), H', ⟨by have := HJ6.out; have := HK2.out; omega⟩, ⟨by repeat (first | (with_reducible first | exact HB.out | apply below_alloc | apply pw_below_drewN | apply below_drew1) | exact HB.out)⟩⟩
                        · rw [if_neg c15] at H
                          have c15b0 : decide (0 ≤ ((rd_T28 l1 x6_2).f1)) = false := decide_eq_false c15
                          clear c15
                          have H' := Aside0.mk H
                          clear H
                          have p406 : 0 ≤ (x6_2 : Int) := of_decide_eq_true (by first | (with_reducible assumption) | assumption)
                          have q406 : x6_2 < (l1.length : Int) := of_decide_eq_true (by first | (with_reducible assumption) | assumption)
                          obtain ⟨ad406, e406, hx406_0, hx406_1⟩ := at_T28 HR1.out x6_2 p406 q406
                          cases e406
                          replace hx406_0 := (HB.out.cell (World.block_lt_of_cell? w _ hx406_0)).trans hx406_0
                          replace hx406_1 := (HB.out.cell (World.block_lt_of_cell? w _ hx406_1)).trans hx406_1
                          replace p406 := eq_true p406
                          replace q406 := eq_true q406
                          have p407 : 0 ≤ (x6_2 : Int) := of_decide_eq_true (by first | (with_reducible assumption) | assumption)
                          have q407 : x6_2 < (l1.length : Int) := of_decide_eq_true (by first | (with_reducible assumption) | assumption)
                          obtain ⟨ad407, e407, hx407_0, hx407_1⟩ := at_T28 HR1.out x6_2 p407 q407
                          obtain rfl : ad406 = ad407 := (by injection e407)
                          replace hx407_0 := (HB.out.cell (World.block_lt_of_cell? w _ hx407_0)).trans hx407_0
                          replace hx407_1 := (HB.out.cell (World.block_lt_of_cell? w _ hx407_1)).trans hx407_1
                          replace p407 := eq_true p407
                          replace q407 := eq_true q407
                          have p408 : 0 ≤ (x6_2 : Int) := of_decide_eq_true (by first | (with_reducible assumption) | assumption)
                          have q408 : x6_2 < (l1.length : Int) := of_decide_eq_true (by first | (with_reducible assumption) | assumption)
                          obtain ⟨ad408, e408, hx408_0, hx408_1⟩ := at_T28 HR1.out x6_2 p408 q408
                          obtain rfl : ad406 = ad408 := (by injection e408)
                          replace hx408_0 := (HB.out.cell (World.block_lt_of_cell? w _ hx408_0)).trans hx408_0
                          replace hx408_1 := (HB.out.cell (World.block_lt_of_cell? w _ hx408_1)).trans hx408_1
                          replace p408 := eq_true p408
                          replace q408 := eq_true q408
                          go_wp2
                          go_roundg k2
                          case measure => have := HJ6.out; have := HK2.out; omega
                          case rel => exact ⟨(false), (wrap64 (x6_2 + 1)), (by first | rfl | (simp; done) | (simp [*]; done)), (by first | rfl | (simp; done) | (simp [*]; done)), H', ⟨by have := HJ6.out; have := HK2.out; omega⟩, ⟨by repeat (first | (with_reducible first | exact HB.out | apply below_alloc | apply pw_below_drewN | apply below_drew1) | exact HB.out)⟩⟩
                      · rw [if_neg c14] at H
                        have c14b0 : decide (((rd_T28 l1 x6_2).f0) < a0) = false := decide_eq_false c14
                        clear c14
                        have H' := Aside0.mk H
                        clear H
                        have p406 : 0 ≤ (x6_2 : Int) := of_decide_eq_true (by first | (with_reducible assumption) | assumption)
                        have q406 : x6_2 < (l1.length : Int) := of_decide_eq_true (by first | (with_reducible assumption) | assumption)
                        obtain ⟨ad406, e406, hx406_0, hx406_1⟩ := at_T28 HR1.out x6_2 p406 q406
                        cases e406
                        replace hx406_0 := (HB.out.cell (World.block_lt_of_cell? w _ hx406_0)).trans hx406_0
                        replace hx406_1 := (HB.out.cell (World.block_lt_of_cell? w _ hx406_1)).trans hx406_1
                        replace p406 := eq_true p406
                        replace q406 := eq_true q406
                        have p407 : 0 ≤ (x6_2 : Int) := of_decide_eq_true (by first | (with_reducible assumption) | assumption)
                        have q407 : x6_2 < (l1.length : Int) := of_decide_eq_true (by first | (with_reducible assumption) | assumption)
                        obtain ⟨ad407, e407, hx407_0, hx407_1⟩ := at_T28 HR1.out x6_2 p407 q407
                        obtain rfl : ad406 = ad407 := (by injection e407)
                        replace hx407_0 := (HB.out.cell (World.block_lt_of_cell? w _ hx407_0)).trans hx407_0
                        replace hx407_1 := (HB.out.cell (World.block_lt_of_cell? w _ hx407_1)).trans hx407_1
                        replace p407 := eq_true p407
                        replace q407 := eq_true q407
                        go_wp2
                        go_roundg k2
                        case measure => have := HJ6.out; have := HK2.out; omega
                        case rel => exact ⟨(false), (wrap64 (x6_2 + 1)), (by first | rfl | (simp; done) | (simp [*]; done)), (by first | rfl | (simp; done) | (simp [*]; done)), H', ⟨by have := HJ6.out; have := HK2.out; omega⟩, ⟨by repeat (first | (with_reducible first | exact HB.out | apply below_alloc | apply pw_below_drewN | apply below_drew1) | exact HB.out)⟩⟩
                    · rw [if_neg c13] at H
                      have c13b0 : decide (0 ≤ ((rd_T28 l1 x6_2).f0)) = false := decide_eq_false c13
                      clear c13
                      have H' := Aside0.mk H
                      clear H
                      have p406 : 0 ≤ (x6_2 : Int) := of_decide_eq_true (by first | (with_reducible assumption) | assumption)
                      have q406 : x6_2 < (l1.length : Int) := of_decide_eq_true (by first | (with_reducible assumption) | assumption)
                      obtain ⟨ad406, e406, hx406_0, hx406_1⟩ := at_T28 HR1.out x6_2 p406 q406
                      cases e406
                      replace hx406_0 := (HB.out.cell (World.block_lt_of_cell? w _ hx406_0)).trans hx406_0
                      replace hx406_1 := (HB.out.cell (World.block_lt_of_cell? w _ hx406_1)).trans hx406_1
                      replace p406 := eq_true p406
                      replace q406 := eq_true q406
                      go_wp2
                      go_roundg k2
                      case measure => have := HJ6.out; have := HK2.out; omega
                      case rel => exact ⟨(false), (wrap64 (x6_2 + 1)), (by first | rfl | (simp; done) | (simp [*]; done)), (by first | rfl | (simp; done) | (simp [*]; done)), H', ⟨by have := HJ6.out; have := HK2.out; omega⟩, ⟨by repeat (first | (with_reducible first | exact HB.out | apply below_alloc | apply pw_below_drewN | apply below_drew1) | exact HB.out)⟩⟩
                  · rw [if_neg c12] at H
                    exact absurd H (by simp)
                · replace c11 := Bool.eq_false_iff.mpr c11
                  subst c11
                  have H1 : (withelaw2_RelFrom.l0 k2 a0 l1 false (wrap64 (x6_2 + 1))) = some r := by rw [if_neg (show ¬ (false = true) by decide)] at H; exact H
                  clear H
                  have H := H1
                  clear H1
                  have H' := Aside0.mk H
                  clear H
                  go_wp2
                  go_roundg k2
                  case measure => have := HJ6.out; have := HK2.out; omega
                  case rel => exact ⟨(false), (wrap64 (x6_2 + 1)), (by first | rfl | (simp; done) | (simp [*]; done)), (by first | rfl | (simp; done) | (simp [*]; done)), H', ⟨by have := HJ6.out; have := HK2.out; omega⟩, ⟨by repeat (first | (with_reducible first | exact HB.out | apply below_alloc | apply pw_below_drewN | apply below_drew1) | exact HB.out)⟩⟩
              · rw [if_neg c10] at H
                have c10b0 : decide (x6_2 < (l1.length : Int)) = false := decide_eq_false c10
                clear c10
                replace H := Option.bind_eq_some_iff.mp H
                obtain ⟨⟨t410, t411⟩, A160, H⟩ := H
                replace H : (if (t411 != x5_2) = true then (none) else (if t411 = true then (withelaw2_RelFrom.l1 k2 a0 l1 t410 0 0) else (some ((t410.length : Int) == 0)))) = some r := H
                have A16 := Aside0.mk A160
                clear A160
                by_cases c17 : (t411 != x5_2) = true
                · rw [if_pos c17] at H
                  exact absurd H (by simp)
                · rw [if_neg c17] at H
                  have c17b0 : (t411 != x5_2) = false := by simpa using c17
                  (try (have c17b1 : decide (t411 = x5_2) = true := by simpa using c17))
                  (try (have c17b2 : (t411 == x5_2) = true := by simpa using c17))
                  clear c17
                  by_cases c18 : t411 = true
                  · subst c18
                    have H1 : (withelaw2_RelFrom.l1 k2 a0 l1 t410 0 0) = some r := by rw [if_pos rfl] at H; exact H
                    clear H
                    have H := H1
                    clear H1
                    have H' := Aside0.mk H
                    clear H
                    go_wp2_with (first | ((with_reducible refine gate_callee (f := 29) rfl ?_); refine goesL_ (some 71) rfl rfl Tryd.func29 (by kernel_rfl) rfl #[.int .i64 a0, .slice A1 l1.length c1] rfl (by (try simp only [List.map_toArray, List.map_cons, List.map_nil]); first | done | rfl | (simp only [List.length_drop, List.length_take]; rfl)) ?_; (with_reducible refine (rel_From.calls k2 a0 _ _ l1 t410 true _ ?side1 ?side2 A16.out).mono ?_); (case side1 => repeat (first | exact (Kd.C_below HR1.out HB.out) | (with_reducible refine Kd.C_alloc ?_ _) | (with_reducible refine Kd.C_drewN ?_ _) | (with_reducible refine Kd.C_drew ?_))); (case side2 => exact HC1.out); rintro e w19 ⟨v412, rfl, ho0, hb⟩; refine ⟨_, rfl, ?_⟩; have n0_ := Aside0.mk (Kd.R_lower ho0 (below_size (by repeat (first | (with_reducible first | exact HB.out | apply below_alloc | apply pw_below_drewN | apply below_drew1) | exact HB.out)))); have n1_ := Aside0.mk (below_step (by repeat (first | (with_reducible first | exact HB.out | apply below_alloc | apply pw_below_drewN | apply below_drew1) | exact HB.out)) hb); clear HB; have HO413 := n0_; have HB := n1_; clear n0_ n1_; (try clear hb); (try clear hb2); (try clear hk); (try clear hi); (try clear ho0)))
                    try go_simp
                    go_loopg [9, 10] k2 (fun kq v9 v10 w' => ∃ (x9_3 : Int) (x10_3 : Int), v9 = .int .i64 x9_3 ∧ v10 = .int .i64 x10_3 ∧ Aside0 (withelaw2_RelFrom.l1 kq a0 l1 t410 x9_3 x10_3 = some r) ∧ Aside0 (kq ≤ k2) ∧ Aside0 (Kd.R (Kd.int .u64) 23 w' w.heap.size (fun _ => True) v412 t410) ∧ Aside0 (Below w.heap.size w w'))
                    case atStart => exact ⟨(0), (0), (by first | rfl | (simp; done) | (simp [*]; done)), (by first | rfl | (simp; done) | (simp [*]; done)), H', ⟨Nat.le_refl _⟩, ⟨by (with_reducible repeat (first | apply Kd.R_alloc | apply Kd.R_drewN | apply Kd.R_drew)); exact HO413.out⟩, ⟨by repeat (first | (with_reducible first | exact HB.out | apply below_alloc | apply pw_below_drewN | apply below_drew1) | exact HB.out)⟩⟩
                    case round =>
                      clear H'
                      try clear c1
                      try clear c2
                      try clear p2
                      try clear c4
                      try clear p4
                      try clear q4
                      try clear hx4
                      try clear c5
                      try clear c5b0
                      try clear c5b1
                      try clear p6
                      try clear c8
                      try clear c9
                      try clear c9b0
                      try clear c10
                      try clear c10b0
                      try clear c11
                      try clear c12
                      try clear c12b0
                      try clear c13
                      try clear c13b0
                      try clear c14
                      try clear c14b0
                      try clear c15
                      try clear c15b0
                      try clear c17
                      try clear c17b0
                      try clear c17b1
                      try clear c17b2
                      try clear c18
                      try clear hx406_0
                      try clear hx406_1
                      try clear hx407_0
                      try clear hx407_1
                      try clear hx408_0
                      try clear hx408_1
                      try clear hx409_0
                      try clear hx409_1
                      try clear p2
                      try clear p406
                      try clear p407
                      try clear p408
                      try clear p409
                      try clear q406
                      try clear q407
                      try clear q408
                      try clear q409
                      obtain ⟨x9_3, x10_3, rfl, rfl, HA, HK3, HO_7, HB⟩ := hrel
                      cases gk with
                      | zero => exact absurd HA.out (by simp [withelaw2_RelFrom.l1])
                      | succ k3 =>
                        have H := HA.out
                        clear HA
                        simp only [withelaw2_RelFrom.l1] at H
                        by_cases c20 : x10_3 < a0
                        · rw [if_pos c20] at H
                          have c20b0 : decide (x10_3 < a0) = true := decide_eq_true c20
                          clear c20
                          have H' := Aside0.mk H
                          clear H
                          go_wp2
                          try go_simp
                          go_loopg [9, 11] k3 (fun kq v9 v11 w' => ∃ (x9_4 : Int) (x11_4 : Int), v9 = .int .i64 x9_4 ∧ v11 = .int .i64 x11_4 ∧ Aside0 (withelaw2_RelFrom.l2 kq a0 l1 t410 x9_4 x10_3 x11_4 = some r) ∧ Aside0 (kq ≤ k3) ∧ Aside0 (Kd.R (Kd.int .u64) 23 w' w.heap.size (fun _ => True) v412 t410) ∧ Aside0 (Below w.heap.size w w'))
                          case atStart => exact ⟨(x9_3), (0), (by first | rfl | (simp; done) | (simp [*]; done)), (by first | rfl | (simp; done) | (simp [*]; done)), H', ⟨Nat.le_refl _⟩, ⟨by (with_reducible repeat (first | apply Kd.R_alloc | apply Kd.R_drewN | apply Kd.R_drew)); exact HO_7.out⟩, ⟨by repeat (first | (with_reducible first | exact HB.out | apply below_alloc | apply pw_below_drewN | apply below_drew1) | exact HB.out)⟩⟩
                          case round =>
                            clear H'
                            try clear c1
                            try clear c2
                            try clear p2
                            try clear c4
                            try clear p4
                            try clear q4
                            try clear hx4
                            try clear c5
                            try clear c5b0
                            try clear c5b1
                            try clear p6
                            try clear c8
                            try clear c9
                            try clear c9b0
                            try clear c10
                            try clear c10b0
                            try clear c11
                            try clear c12
                            try clear c12b0
                            try clear c13
                            try clear c13b0
                            try clear c14
                            try clear c14b0
                            try clear c15
                            try clear c15b0
                            try clear c17
                            try clear c17b0
                            try clear c17b1
                            try clear c17b2
                            try clear c18
                            try clear c20
                            try clear c20b0
                            try clear hx406_0
                            try clear hx406_1
                            try clear hx407_0
                            try clear hx407_1
                            try clear hx408_0
                            try clear hx408_1
                            try clear hx409_0
                            try clear hx409_1
                            try clear p2
                            try clear p4
                            try clear p406
                            try clear p407
                            try clear p408
                            try clear p409
                            try clear p6
                            try clear q4
                            try clear q406
                            try clear q407
                            try clear q408
                            try clear q409
                            obtain ⟨x9_4, x11_4, rfl, rfl, HA, HK4, HO_7, HB⟩ := hrel
                            cases gk with
                            | zero => exact absurd HA.out (by simp [withelaw2_RelFrom.l2])
                            | succ k4 =>
                              have H := HA.out
                              clear HA
                              simp only [withelaw2_RelFrom.l2] at H
                              by_cases c21 : x11_4 < a0
                              · rw [if_pos c21] at H
                                have c21b0 : decide (x11_4 < a0) = true := decide_eq_true c21
                                clear c21
                                have H' := Aside0.mk H
                                clear H
                                go_wp2
                                try go_simp
                                go_loopg [12, 13] k4 (fun kq v12 v13 w' => ∃ (x12_5 : Bool) (x13_5 : Int), v12 = .bool x12_5 ∧ v13 = .int .i64 x13_5 ∧ Aside0 (withelaw2_RelFrom.l3 kq a0 l1 t410 x9_4 x10_3 x11_4 x12_5 x13_5 = some r) ∧ Aside0 (kq ≤ k4) ∧ Aside0 (Kd.R (Kd.int .u64) 23 w' w.heap.size (fun _ => True) v412 t410) ∧ Aside0 (Below w.heap.size w w'))
                                case atStart => exact ⟨(false), (0), (by first | rfl | (simp; done) | (simp [*]; done)), (by first | rfl | (simp; done) | (simp [*]; done)), H', ⟨Nat.le_refl _⟩, ⟨by (with_reducible repeat (first | apply Kd.R_alloc | apply Kd.R_drewN | apply Kd.R_drew)); exact HO_7.out⟩, ⟨by repeat (first | (with_reducible first | exact HB.out | apply below_alloc | apply pw_below_drewN | apply below_drew1) | exact HB.out)⟩⟩
                                case round =>
                                  clear H'
                                  try clear c1
                                  try clear c2
                                  try clear p2
                                  try clear c4
                                  try clear p4
                                  try clear q4
                                  try clear hx4
                                  try clear c5
                                  try clear c5b0
                                  try clear c5b1
                                  try clear p6
                                  try clear c8
                                  try clear c9
                                  try clear c9b0
                                  try clear c10
                                  try clear c10b0
                                  try clear c11
                                  try clear c12
                                  try clear c12b0
                                  try clear c13
                                  try clear c13b0
                                  try clear c14
                                  try clear c14b0
                                  try clear c15
                                  try clear c15b0
                                  try clear c17
                                  try clear c17b0
                                  try clear c17b1
                                  try clear c17b2
                                  try clear c18
                                  try clear c20
                                  try clear c20b0
                                  try clear c21
                                  try clear c21b0
                                  try clear hx406_0
                                  try clear hx406_1
                                  try clear hx407_0
                                  try clear hx407_1
                                  try clear hx408_0
                                  try clear hx408_1
                                  try clear hx409_0
                                  try clear hx409_1
                                  try clear p2
                                  try clear p4
                                  try clear p406
                                  try clear p407
                                  try clear p408
                                  try clear p409
                                  try clear p6
                                  try clear q4
                                  try clear q406
                                  try clear q407
                                  try clear q408
                                  try clear q409
                                  obtain ⟨x12_5, x13_5, rfl, rfl, HA, HK5, HO_7, HB⟩ := hrel
                                  cases gk with
                                  | zero => exact absurd HA.out (by simp [withelaw2_RelFrom.l3])
                                  | succ k5 =>
                                    have H := HA.out
                                    clear HA
                                    simp only [withelaw2_RelFrom.l3] at H
                                    by_cases c22 : x13_5 < (l1.length : Int)
                                    · rw [if_pos c22] at H
                                      have c22b0 : decide (x13_5 < (l1.length : Int)) = true := decide_eq_true c22
                                      clear c22
                                      by_cases c23 : x12_5 = true
                                      · subst c23
                                        have H1 : (withelaw2_RelFrom.l3 k5 a0 l1 t410 x9_4 x10_3 x11_4 true (wrap64 (x13_5 + 1))) = some r := by rw [if_pos rfl] at H; exact H
                                        clear H
                                        have H := H1
                                        clear H1
                                        have H' := Aside0.mk H
                                        clear H
                                        go_wp2
                                        go_roundg k5
                                        case measure => have := HJ6.out; have := HK2.out; have := HK3.out; have := HK4.out; have := HK5.out; omega
                                        case rel => exact ⟨(true), (wrap64 (x13_5 + 1)), (by first | rfl | (simp; done) | (simp [*]; done)), (by first | rfl | (simp; done) | (simp [*]; done)), H', ⟨by have := HJ6.out; have := HK2.out; have := HK3.out; have := HK4.out; have := HK5.out; omega⟩, ⟨by (with_reducible repeat (first | apply Kd.R_alloc | apply Kd.R_drewN | apply Kd.R_drew)); exact HO_7.out⟩, ⟨by repeat (first | (with_reducible first | exact HB.out | apply below_alloc | apply pw_below_drewN | apply below_drew1) | exact HB.out)⟩⟩
                                      · replace c23 := Bool.eq_false_iff.mpr c23
                                        subst c23
                                        have H1 : (if 0 ≤ x13_5 then (withelaw2_RelFrom.l3 k5 a0 l1 t410 x9_4 x10_3 x11_4 (((rd_T28 l1 x13_5).f0) == x10_3 && (((rd_T28 l1 x13_5).f1) == x11_4)) (wrap64 (x13_5 + 1))) else (none)) = some r := by rw [if_neg (show ¬ (false = true) by decide)] at H; exact H
                                        clear H
                                        have H := H1
                                        clear H1
                                        by_cases c24 : 0 ≤ x13_5
                                        · rw [if_pos c24] at H
                                          have c24b0 : decide (0 ≤ x13_5) = true := decide_eq_true c24
                                          clear c24
                                          have H' := Aside0.mk H
                                          clear H
                                          have p414 : 0 ≤ (x13_5 : Int) := of_decide_eq_true (by first | (with_reducible assumption) | assumption)
                                          have q414 : x13_5 < (l1.length : Int) := of_decide_eq_true (by first | (with_reducible assumption) | assumption)
                                          obtain ⟨ad414, e414, hx414_0, hx414_1⟩ := at_T28 HR1.out x13_5 p414 q414
                                          cases e414
                                          replace hx414_0 := (HB.out.cell (World.block_lt_of_cell? w _ hx414_0)).trans hx414_0
                                          replace hx414_1 := (HB.out.cell (World.block_lt_of_cell? w _ hx414_1)).trans hx414_1
                                          replace p414 := eq_true p414
                                          replace q414 := eq_true q414
                                          go_wp2
                                          go_roundg k5
                                          case measure => have := HJ6.out; have := HK2.out; have := HK3.out; have := HK4.out; have := HK5.out; omega
                                          case rel => exact ⟨((((rd_T28 l1 x13_5).f0) == x10_3 && (((rd_T28 l1 x13_5).f1) == x11_4))), (wrap64 (x13_5 + 1)), (by first | rfl | (simp; done) | (simp [*]; done)), (by first | rfl | (simp; done) | (simp [*]; done)), H', ⟨by have := HJ6.out; have := HK2.out; have := HK3.out; have := HK4.out; have := HK5.out; omega⟩, ⟨by (with_reducible repeat (first | apply Kd.R_alloc | apply Kd.R_drewN | apply Kd.R_drew)); exact HO_7.out⟩, ⟨by repeat (first | (with_reducible first | exact HB.out | apply below_alloc | apply pw_below_drewN | apply below_drew1) | exact HB.out)⟩⟩
                                        · rw [if_neg c24] at H
                                          exact absurd H (by simp)
                                    · rw [if_neg c22] at H
                                      have c22b0 : decide (x13_5 < (l1.length : Int)) = false := decide_eq_false c22
                                      clear c22
                                      by_cases c25 : x12_5 = true
                                      · subst c25
                                        have H1 : ((rel_Has.f k5 t410 x10_3 x11_4).bind fun t415 => (if (t415 != true) = true then (none) else (withelaw2_RelFrom.l2 k5 a0 l1 t410 (wrap64 (x9_4 + 1)) x10_3 (wrap64 (x11_4 + 1))))) = some r := by rw [if_pos rfl] at H; exact H
                                        clear H
                                        have H := H1
                                        clear H1
                                        replace H := Option.bind_eq_some_iff.mp H
                                        obtain ⟨t415, A260, H⟩ := H
                                        replace H : (if (t415 != true) = true then (none) else (withelaw2_RelFrom.l2 k5 a0 l1 t410 (wrap64 (x9_4 + 1)) x10_3 (wrap64 (x11_4 + 1)))) = some r := H
                                        have A26 := Aside0.mk A260
                                        clear A260
                                        by_cases c27 : (t415 != true) = true
                                        · rw [if_pos c27] at H
                                          exact absurd H (by simp)
                                        · rw [if_neg c27] at H
                                          have c27b0 : (t415 != true) = false := by simpa using c27
                                          (try (have c27b1 : decide (t415 = true) = true := by simpa using c27))
                                          (try (have c27b2 : (t415 == true) = true := by simpa using c27))
                                          clear c27
                                          have H' := Aside0.mk H
                                          clear H
                                          obtain ⟨Ao28, co28, eo28⟩ := Kd.R_slice HO_7.out
                                          subst eo28
                                          go_wp2_with (first | ((with_reducible refine gate_callee (f := 16) rfl ?_); refine goesL_ (some 115) rfl rfl Tryd.func16 (by kernel_rfl) rfl #[.slice Ao28 t410.length co28, .int .i64 x10_3, .int .i64 x11_4] rfl (by (try simp only [List.map_toArray, List.map_cons, List.map_nil]); first | done | rfl | (simp only [List.length_drop, List.length_take]; rfl)) ?_; (with_reducible refine (rel_Has.calls k5 _ _ t410 x10_3 x11_4 t415 _ ?side1 ?side2 A26.out).mono ?_); (case side1 => repeat (first | exact (Kd.R_reads' HO_7.out).2.2 | (with_reducible refine Kd.C_alloc ?_ _) | (with_reducible refine Kd.C_drewN ?_ _) | (with_reducible refine Kd.C_drew ?_))); (case side2 => exact (Kd.R_reads' HO_7.out).2.1); rintro e w29 ⟨rfl, hb⟩; refine ⟨_, rfl, ?_⟩; have n0_ := Aside0.mk (Kd.R_below (by (with_reducible repeat (first | apply Kd.R_alloc | apply Kd.R_drewN | apply Kd.R_drew)); exact HO_7.out) hb); have n1_ := Aside0.mk (below_step (by repeat (first | (with_reducible first | exact HB.out | apply below_alloc | apply pw_below_drewN | apply below_drew1) | exact HB.out)) hb); clear HO_7; clear HB; have HO_7 := n0_; have HB := n1_; clear n0_ n1_; (try clear hb); (try clear hb2); (try clear hk); (try clear hi)))
                                          go_roundg k5
                                          case measure => have := HJ6.out; have := HK2.out; have := HK3.out; have := HK4.out; have := HK5.out; omega
                                          case rel => exact ⟨(wrap64 (x9_4 + 1)), (wrap64 (x11_4 + 1)), (by first | rfl | (simp; done) | (simp [*]; done)), (by first | rfl | (simp; done) | (simp [*]; done)), H', ⟨by have := HJ6.out; have := HK2.out; have := HK3.out; have := HK4.out; have := HK5.out; omega⟩, ⟨by (with_reducible repeat (first | apply Kd.R_alloc | apply Kd.R_drewN | apply Kd.R_drew)); exact HO_7.out⟩, ⟨by repeat (first | (with_reducible first | exact HB.out | apply below_alloc | apply pw_below_drewN | apply below_drew1) | exact HB.out)⟩⟩
                                      · replace c25 := Bool.eq_false_iff.mpr c25
                                        subst c25
                                        have H1 : ((rel_Has.f k5 t410 x10_3 x11_4).bind fun t416 => (if (t416 != false) = true then (none) else (withelaw2_RelFrom.l2 k5 a0 l1 t410 x9_4 x10_3 (wrap64 (x11_4 + 1))))) = some r := by rw [if_neg (show ¬ (false = true) by decide)] at H; exact H
                                        clear H
                                        have H := H1
                                        clear H1
                                        replace H := Option.bind_eq_some_iff.mp H
                                        obtain ⟨t416, A300, H⟩ := H
                                        replace H : (if (t416 != false) = true then (none) else (withelaw2_RelFrom.l2 k5 a0 l1 t410 x9_4 x10_3 (wrap64 (x11_4 + 1)))) = some r := H
                                        have A30 := Aside0.mk A300
                                        clear A300
                                        by_cases c31 : (t416 != false) = true
                                        · rw [if_pos c31] at H
                                          exact absurd H (by simp)
                                        · rw [if_neg c31] at H
                                          have c31b0 : (t416 != false) = false := by simpa using c31
                                          (try (have c31b1 : decide (t416 = false) = true := by simpa using c31))
                                          (try (have c31b2 : (t416 == false) = true := by simpa using c31))
                                          clear c31
                                          have H' := Aside0.mk H
                                          clear H
                                          obtain ⟨Ao32, co32, eo32⟩ := Kd.R_slice HO_7.out
                                          subst eo32
                                          go_wp2_with (first | ((with_reducible refine gate_callee (f := 16) rfl ?_); refine goesL_ (some 115) rfl rfl Tryd.func16 (by kernel_rfl) rfl #[.slice Ao32 t410.length co32, .int .i64 x10_3, .int .i64 x11_4] rfl (by (try simp only [List.map_toArray, List.map_cons, List.map_nil]); first | done | rfl | (simp only [List.length_drop, List.length_take]; rfl)) ?_; (with_reducible refine (rel_Has.calls k5 _ _ t410 x10_3 x11_4 t416 _ ?side1 ?side2 A30.out).mono ?_); (case side1 => repeat (first | exact (Kd.R_reads' HO_7.out).2.2 | (with_reducible refine Kd.C_alloc ?_ _) | (with_reducible refine Kd.C_drewN ?_ _) | (with_reducible refine Kd.C_drew ?_))); (case side2 => exact (Kd.R_reads' HO_7.out).2.1); rintro e w33 ⟨rfl, hb⟩; refine ⟨_, rfl, ?_⟩; have n0_ := Aside0.mk (Kd.R_below (by (with_reducible repeat (first | apply Kd.R_alloc | apply Kd.R_drewN | apply Kd.R_drew)); exact HO_7.out) hb); have n1_ := Aside0.mk (below_step (by repeat (first | (with_reducible first | exact HB.out | apply below_alloc | apply pw_below_drewN | apply below_drew1) | exact HB.out)) hb); clear HO_7; clear HB; have HO_7 := n0_; have HB := n1_; clear n0_ n1_; (try clear hb); (try clear hb2); (try clear hk); (try clear hi)))
                                          go_roundg k5
                                          case measure => have := HJ6.out; have := HK2.out; have := HK3.out; have := HK4.out; have := HK5.out; omega
                                          case rel => exact ⟨(x9_4), (wrap64 (x11_4 + 1)), (by first | rfl | (simp; done) | (simp [*]; done)), (by first | rfl | (simp; done) | (simp [*]; done)), H', ⟨by have := HJ6.out; have := HK2.out; have := HK3.out; have := HK4.out; have := HK5.out; omega⟩, ⟨by (with_reducible repeat (first | apply Kd.R_alloc | apply Kd.R_drewN | apply Kd.R_drew)); exact HO_7.out⟩, ⟨by repeat (first | (with_reducible first | exact HB.out | apply below_alloc | apply pw_below_drewN | apply below_drew1) | exact HB.out)⟩⟩
                              · rw [if_neg c21] at H
                                have c21b0 : decide (x11_4 < a0) = false := decide_eq_false c21
                                clear c21
                                have H' := Aside0.mk H
                                clear H
                                go_wp2
                                go_roundg k4
                                case measure => have := HJ6.out; have := HK2.out; have := HK3.out; have := HK4.out; omega
                                case rel => exact ⟨(x9_4), (wrap64 (x10_3 + 1)), (by first | rfl | (simp; done) | (simp [*]; done)), (by first | rfl | (simp; done) | (simp [*]; done)), H', ⟨by have := HJ6.out; have := HK2.out; have := HK3.out; have := HK4.out; omega⟩, ⟨by (with_reducible repeat (first | apply Kd.R_alloc | apply Kd.R_drewN | apply Kd.R_drew)); exact HO_7.out⟩, ⟨by repeat (first | (with_reducible first | exact HB.out | apply below_alloc | apply pw_below_drewN | apply below_drew1) | exact HB.out)⟩⟩
                        · rw [if_neg c20] at H
                          have c20b0 : decide (x10_3 < a0) = false := decide_eq_false c20
                          clear c20
                          replace H := Option.bind_eq_some_iff.mp H
                          obtain ⟨t417, A340, H⟩ := H
                          replace H : ((rel_From.f k3 a0 t417).bind fun bt420 => (if (t410.length : Int) = a0 then ((rel_Count.f k3 t410).bind fun t424 => (if t424 = x9_3 then (if bt420.2 = true then ((rel_Same.f k3 bt420.1 t410).bind fun t425 => (if t425 = true then ((rel_New.f a0).bind fun t426 => (if (t426.length : Int) = a0 then ((rel_New.f a0).bind fun t429 => ((rel_Count.f k3 t429).bind fun t432 => (some (t432 == 0)))) else (none))) else (none))) else (none)) else (none))) else (none))) = some r := H
                          have A34 := Aside0.mk A340
                          clear A340
                          replace H := Option.bind_eq_some_iff.mp H
                          obtain ⟨⟨t420, t421⟩, A350, H⟩ := H
                          replace H : (if (t410.length : Int) = a0 then ((rel_Count.f k3 t410).bind fun t424 => (if t424 = x9_3 then (if t421 = true then ((rel_Same.f k3 t420 t410).bind fun t425 => (if t425 = true then ((rel_New.f a0).bind fun t426 => (if (t426.length : Int) = a0 then ((rel_New.f a0).bind fun t429 => ((rel_Count.f k3 t429).bind fun t432 => (some (t432 == 0)))) else (none))) else (none))) else (none)) else (none))) else (none)) = some r := H
                          have A35 := Aside0.mk A350
                          clear A350
                          by_cases c36 : (t410.length : Int) = a0
                          · rw [if_pos c36] at H
                            have c36b0 : ((t410.length : Int) == a0) = true := beq_iff_eq.mpr c36
                            have c36b1 : ((t410.length : Int) != a0) = false := bne_eq_false_iff_eq.mpr c36
                            clear c36
                            replace H := Option.bind_eq_some_iff.mp H
                            obtain ⟨t424, A370, H⟩ := H
                            replace H : (if t424 = x9_3 then (if t421 = true then ((rel_Same.f k3 t420 t410).bind fun t425 => (if t425 = true then ((rel_New.f a0).bind fun t426 => (if (t426.length : Int) = a0 then ((rel_New.f a0).bind fun t429 => ((rel_Count.f k3 t429).bind fun t432 => (some (t432 == 0)))) else (none))) else (none))) else (none)) else (none)) = some r := H
                            have A37 := Aside0.mk A370
                            clear A370
                            by_cases c38 : t424 = x9_3
                            · rw [if_pos c38] at H
                              have c38b0 : (t424 == x9_3) = true := beq_iff_eq.mpr c38
                              have c38b1 : (t424 != x9_3) = false := bne_eq_false_iff_eq.mpr c38
                              clear c38
                              by_cases c39 : t421 = true
                              · subst c39
                                have H1 : ((rel_Same.f k3 t420 t410).bind fun t425 => (if t425 = true then ((rel_New.f a0).bind fun t426 => (if (t426.length : Int) = a0 then ((rel_New.f a0).bind fun t429 => ((rel_Count.f k3 t429).bind fun t432 => (some (t432 == 0)))) else (none))) else (none))) = some r := by rw [if_pos rfl] at H; exact H
                                clear H
                                have H := H1
                                clear H1
                                replace H := Option.bind_eq_some_iff.mp H
                                obtain ⟨t425, A400, H⟩ := H
                                replace H : (if t425 = true then ((rel_New.f a0).bind fun t426 => (if (t426.length : Int) = a0 then ((rel_New.f a0).bind fun t429 => ((rel_Count.f k3 t429).bind fun t432 => (some (t432 == 0)))) else (none))) else (none)) = some r := H
                                have A40 := Aside0.mk A400
                                clear A400
                                by_cases c41 : t425 = true
                                · subst c41
                                  have H1 : ((rel_New.f a0).bind fun t426 => (if (t426.length : Int) = a0 then ((rel_New.f a0).bind fun t429 => ((rel_Count.f k3 t429).bind fun t432 => (some (t432 == 0)))) else (none))) = some r := by rw [if_pos rfl] at H; exact H
                                  clear H
                                  have H := H1
                                  clear H1
                                  replace H := Option.bind_eq_some_iff.mp H
                                  obtain ⟨t426, A420, H⟩ := H
                                  replace H : (if (t426.length : Int) = a0 then ((rel_New.f a0).bind fun t429 => ((rel_Count.f k3 t429).bind fun t432 => (some (t432 == 0)))) else (none)) = some r := H
                                  have A42 := Aside0.mk A420
                                  clear A420
                                  by_cases c43 : (t426.length : Int) = a0
                                  · rw [if_pos c43] at H
                                    have c43b0 : ((t426.length : Int) == a0) = true := beq_iff_eq.mpr c43
                                    have c43b1 : ((t426.length : Int) != a0) = false := bne_eq_false_iff_eq.mpr c43
                                    clear c43
                                    replace H := Option.bind_eq_some_iff.mp H
                                    obtain ⟨t429, A440, H⟩ := H
                                    replace H : ((rel_Count.f k3 t429).bind fun t432 => (some (t432 == 0))) = some r := H
                                    have A44 := Aside0.mk A440
                                    clear A440
                                    replace H := Option.bind_eq_some_iff.mp H
                                    obtain ⟨t432, A450, H⟩ := H
                                    replace H : (some (t432 == 0)) = some r := H
                                    have A45 := Aside0.mk A450
                                    clear A450
                                    obtain rfl := Option.some.inj H
                                    obtain ⟨Ao46, co46, eo46⟩ := Kd.R_slice HO_7.out
                                    subst eo46
                                    go_wp2_with (first | ((with_reducible refine gate_callee (f := 15) rfl ?_); refine goesL_ (some 121) rfl rfl Tryd.func15 (by kernel_rfl) rfl #[.slice Ao46 t410.length co46] rfl (by (try simp only [List.map_toArray, List.map_cons, List.map_nil]); first | done | rfl | (simp only [List.length_drop, List.length_take]; rfl)) ?_; (with_reducible refine (rel_Pairs.calls k3 _ _ t410 t417 _ ?side1 ?side2 A34.out).mono ?_); (case side1 => repeat (first | exact (Kd.R_reads' HO_7.out).2.2 | (with_reducible refine Kd.C_alloc ?_ _) | (with_reducible refine Kd.C_drewN ?_ _) | (with_reducible refine Kd.C_drew ?_))); (case side2 => exact (Kd.R_reads' HO_7.out).2.1); rintro e w47 ⟨v418, rfl, ho0, hb⟩; refine ⟨_, rfl, ?_⟩; have n0_ := Aside0.mk (Kd.R_below (by (with_reducible repeat (first | apply Kd.R_alloc | apply Kd.R_drewN | apply Kd.R_drew)); exact HO_7.out) hb); have n1_ := Aside0.mk (Kd.R_lower ho0 (below_size (by repeat (first | (with_reducible first | exact HB.out | apply below_alloc | apply pw_below_drewN | apply below_drew1) | exact HB.out)))); have n2_ := Aside0.mk (below_step (by repeat (first | (with_reducible first | exact HB.out | apply below_alloc | apply pw_below_drewN | apply below_drew1) | exact HB.out)) hb); clear HO_7; clear HB; have HO_7 := n0_; have HO419 := n1_; have HB := n2_; clear n0_ n1_ n2_; (try clear hb); (try clear hb2); (try clear hk); (try clear hi); (try clear ho0); obtain ⟨Ao48, co48, eo48⟩ := Kd.R_slice HO419.out; subst eo48) | ((with_reducible refine gate_callee (f := 29) rfl ?_); refine goesL_ (some 122) rfl rfl Tryd.func29 (by kernel_rfl) rfl #[.int .i64 a0, .slice Ao48 t417.length co48] rfl (by (try simp only [List.map_toArray, List.map_cons, List.map_nil]); first | done | rfl | (simp only [List.length_drop, List.length_take]; rfl)) ?_; (with_reducible refine (rel_From.calls k3 a0 _ _ t417 t420 true _ ?side1 ?side2 A35.out).mono ?_); (case side1 => repeat (first | exact (Kd.R_reads' HO419.out).2.2 | (with_reducible refine Kd.C_alloc ?_ _) | (with_reducible refine Kd.C_drewN ?_ _) | (with_reducible refine Kd.C_drew ?_))); (case side2 => exact (Kd.R_reads' HO419.out).2.1); rintro e w49 ⟨v422, rfl, ho0, hb⟩; refine ⟨_, rfl, ?_⟩; have n0_ := Aside0.mk (Kd.R_elder' (by (with_reducible repeat (first | apply Kd.R_alloc | apply Kd.R_drewN | apply Kd.R_drew)); exact HO_7.out) (Kd.R_base ho0) hb); have n1_ := Aside0.mk (Kd.R_below (by (with_reducible repeat (first | apply Kd.R_alloc | apply Kd.R_drewN | apply Kd.R_drew)); exact HO419.out) hb); have n2_ := Aside0.mk (Kd.R_lower (Kd.R_new' ho0 (Kd.R_lt (by (with_reducible repeat (first | apply Kd.R_alloc | apply Kd.R_drewN | apply Kd.R_drew)); exact HO_7.out))) (below_size (by repeat (first | (with_reducible first | exact HB.out | apply below_alloc | apply pw_below_drewN | apply below_drew1) | exact HB.out)))); have n3_ := Aside0.mk (below_step (by repeat (first | (with_reducible first | exact HB.out | apply below_alloc | apply pw_below_drewN | apply below_drew1) | exact HB.out)) hb); clear HO_7; clear HO419; clear HB; have HO_7 := n0_; have HO419 := n1_; have HO423 := n2_; have HB := n3_; clear n0_ n1_ n2_ n3_; (try clear hb); (try clear hb2); (try clear hk); (try clear hi); (try clear ho0)) | ((first | ((with_reducible refine gate_callee (f := 17) rfl ?_); (refine gate_guard (by rfl) ?_; dsimp only); refine goesL_ (some 131) rfl rfl Tryd.func17 (by kernel_rfl) rfl #[.slice Ao46 t410.length co46] rfl (by (try simp only [List.map_toArray, List.map_cons, List.map_nil]); first | done | rfl | (simp only [List.length_drop, List.length_take]; rfl)) ?_; (with_reducible refine (rel_Count.calls k3 _ _ t410 t424 _ ?side1 ?side2 A37.out).mono ?_); (case side1 => repeat (first | exact (Kd.R_reads' HO_7.out).2.2 | (with_reducible refine Kd.C_alloc ?_ _) | (with_reducible refine Kd.C_drewN ?_ _) | (with_reducible refine Kd.C_drew ?_))); (case side2 => exact (Kd.R_reads' HO_7.out).2.1); rintro e w50 ⟨rfl, hb⟩; refine ⟨_, rfl, ?_⟩; have n0_ := Aside0.mk (Kd.R_below (by (with_reducible repeat (first | apply Kd.R_alloc | apply Kd.R_drewN | apply Kd.R_drew)); exact HO_7.out) hb); have n1_ := Aside0.mk (Kd.R_below (by (with_reducible repeat (first | apply Kd.R_alloc | apply Kd.R_drewN | apply Kd.R_drew)); exact HO419.out) hb); have n2_ := Aside0.mk (Kd.R_below (by (with_reducible repeat (first | apply Kd.R_alloc | apply Kd.R_drewN | apply Kd.R_drew)); exact HO423.out) hb); have n3_ := Aside0.mk (below_step (by repeat (first | (with_reducible first | exact HB.out | apply below_alloc | apply pw_below_drewN | apply below_drew1) | exact HB.out)) hb); clear HO_7; clear HO419; clear HO423; clear HB; have HO_7 := n0_; have HO419 := n1_; have HO423 := n2_; have HB := n3_; clear n0_ n1_ n2_ n3_; (try clear hb); (try clear hb2); (try clear hk); (try clear hi)) | (go_at_call 17; (with_reducible refine (rel_Count.calls k3 _ _ t410 t424 _ ?side1 ?side2 A37.out).mono ?_); (case side1 => repeat (first | exact (Kd.R_reads' HO_7.out).2.2 | (with_reducible refine Kd.C_alloc ?_ _) | (with_reducible refine Kd.C_drewN ?_ _) | (with_reducible refine Kd.C_drew ?_))); (case side2 => exact (Kd.R_reads' HO_7.out).2.1); rintro e w50 ⟨rfl, hb⟩; have n0_ := Aside0.mk (Kd.R_below (by (with_reducible repeat (first | apply Kd.R_alloc | apply Kd.R_drewN | apply Kd.R_drew)); exact HO_7.out) hb); have n1_ := Aside0.mk (Kd.R_below (by (with_reducible repeat (first | apply Kd.R_alloc | apply Kd.R_drewN | apply Kd.R_drew)); exact HO419.out) hb); have n2_ := Aside0.mk (Kd.R_below (by (with_reducible repeat (first | apply Kd.R_alloc | apply Kd.R_drewN | apply Kd.R_drew)); exact HO423.out) hb); have n3_ := Aside0.mk (below_step (by repeat (first | (with_reducible first | exact HB.out | apply below_alloc | apply pw_below_drewN | apply below_drew1) | exact HB.out)) hb); clear HO_7; clear HO419; clear HO423; clear HB; have HO_7 := n0_; have HO419 := n1_; have HO423 := n2_; have HB := n3_; clear n0_ n1_ n2_ n3_; (try clear hb); (try clear hb2); (try clear hk); (try clear hi))); obtain ⟨Ao51, co51, eo51⟩ := Kd.R_slice HO423.out; subst eo51) | ((first | ((with_reducible refine gate_callee (f := 18) rfl ?_); (refine gate_guard (by rfl) ?_; dsimp only); refine goesL_ (some 141) rfl rfl Tryd.func18 (by kernel_rfl) rfl #[.slice Ao51 t420.length co51, .slice Ao46 t410.length co46] rfl (by (try simp only [List.map_toArray, List.map_cons, List.map_nil]); first | done | rfl | (simp only [List.length_drop, List.length_take]; rfl)) ?_; (with_reducible refine (rel_Same.calls k3 _ _ t420 _ _ t410 true _ ?side1 ?side2 ?side3 ?side4 A40.out).mono ?_); (case side1 => repeat (first | exact (Kd.R_reads' HO423.out).2.2 | (with_reducible refine Kd.C_alloc ?_ _) | (with_reducible refine Kd.C_drewN ?_ _) | (with_reducible refine Kd.C_drew ?_))); (case side2 => exact (Kd.R_reads' HO423.out).2.1); (case side3 => repeat (first | exact (Kd.R_reads' HO_7.out).2.2 | (with_reducible refine Kd.C_alloc ?_ _) | (with_reducible refine Kd.C_drewN ?_ _) | (with_reducible refine Kd.C_drew ?_))); (case side4 => exact (Kd.R_reads' HO_7.out).2.1); rintro e w' ⟨rfl, ⟨nd, rfl⟩⟩; refine ⟨_, rfl, ?_⟩) | (go_at_call 18; (with_reducible refine (rel_Same.calls k3 _ _ t420 _ _ t410 true _ ?side1 ?side2 ?side3 ?side4 A40.out).mono ?_); (case side1 => repeat (first | exact (Kd.R_reads' HO423.out).2.2 | (with_reducible refine Kd.C_alloc ?_ _) | (with_reducible refine Kd.C_drewN ?_ _) | (with_reducible refine Kd.C_drew ?_))); (case side2 => exact (Kd.R_reads' HO423.out).2.1); (case side3 => repeat (first | exact (Kd.R_reads' HO_7.out).2.2 | (with_reducible refine Kd.C_alloc ?_ _) | (with_reducible refine Kd.C_drewN ?_ _) | (with_reducible refine Kd.C_drew ?_))); (case side4 => exact (Kd.R_reads' HO_7.out).2.1); rintro e w' ⟨rfl, ⟨nd, rfl⟩⟩))) | ((first | ((with_reducible refine gate_callee (f := 30) rfl ?_); (refine gate_guard (by rfl) ?_; dsimp only); refine goesL_ (some 145) rfl rfl Tryd.func30 (by kernel_rfl) rfl #[.int .i64 a0] rfl (by (try simp only [List.map_toArray, List.map_cons, List.map_nil]); first | done | rfl | (simp only [List.length_drop, List.length_take]; rfl)) ?_; (with_reducible refine (rel_New.calls a0 t426 _ A42.out).mono ?_); rintro e w52 ⟨v427, rfl, ho0, hb⟩; refine ⟨_, rfl, ?_⟩; have n0_ := Aside0.mk (Kd.R_elder' (by (with_reducible repeat (first | apply Kd.R_alloc | apply Kd.R_drewN | apply Kd.R_drew)); exact HO_7.out) (Kd.R_base ho0) hb); have n1_ := Aside0.mk (Kd.R_below (by (with_reducible repeat (first | apply Kd.R_alloc | apply Kd.R_drewN | apply Kd.R_drew)); exact HO419.out) hb); have n2_ := Aside0.mk (Kd.R_elder' (by (with_reducible repeat (first | apply Kd.R_alloc | apply Kd.R_drewN | apply Kd.R_drew)); exact HO423.out) (Kd.R_base ho0) hb); have n3_ := Aside0.mk (Kd.R_lower (Kd.R_new' (Kd.R_new' ho0 (Kd.R_lt (by (with_reducible repeat (first | apply Kd.R_alloc | apply Kd.R_drewN | apply Kd.R_drew)); exact HO_7.out))) (Kd.R_lt (by (with_reducible repeat (first | apply Kd.R_alloc | apply Kd.R_drewN | apply Kd.R_drew)); exact HO423.out))) (below_size (by repeat (first | (with_reducible first | exact HB.out | apply below_alloc | apply pw_below_drewN | apply below_drew1) | exact HB.out)))); have n4_ := Aside0.mk (below_step (by repeat (first | (with_reducible first | exact HB.out | apply below_alloc | apply pw_below_drewN | apply below_drew1) | exact HB.out)) hb); clear HO_7; clear HO419; clear HO423; clear HB; have HO_7 := n0_; have HO419 := n1_; have HO423 := n2_; have HO428 := n3_; have HB := n4_; clear n0_ n1_ n2_ n3_ n4_; (try clear hb); (try clear hb2); (try clear hk); (try clear hi); (try clear ho0)) | (go_at_call 30; (with_reducible refine (rel_New.calls a0 t426 _ A42.out).mono ?_); rintro e w52 ⟨v427, rfl, ho0, hb⟩; have n0_ := Aside0.mk (Kd.R_elder' (by (with_reducible repeat (first | apply Kd.R_alloc | apply Kd.R_drewN | apply Kd.R_drew)); exact HO_7.out) (Kd.R_base ho0) hb); have n1_ := Aside0.mk (Kd.R_below (by (with_reducible repeat (first | apply Kd.R_alloc | apply Kd.R_drewN | apply Kd.R_drew)); exact HO419.out) hb); have n2_ := Aside0.mk (Kd.R_elder' (by (with_reducible repeat (first | apply Kd.R_alloc | apply Kd.R_drewN | apply Kd.R_drew)); exact HO423.out) (Kd.R_base ho0) hb); have n3_ := Aside0.mk (Kd.R_lower (Kd.R_new' (Kd.R_new' ho0 (Kd.R_lt (by (with_reducible repeat (first | apply Kd.R_alloc | apply Kd.R_drewN | apply Kd.R_drew)); exact HO_7.out))) (Kd.R_lt (by (with_reducible repeat (first | apply Kd.R_alloc | apply Kd.R_drewN | apply Kd.R_drew)); exact HO423.out))) (below_size (by repeat (first | (with_reducible first | exact HB.out | apply below_alloc | apply pw_below_drewN | apply below_drew1) | exact HB.out)))); have n4_ := Aside0.mk (below_step (by repeat (first | (with_reducible first | exact HB.out | apply below_alloc | apply pw_below_drewN | apply below_drew1) | exact HB.out)) hb); clear HO_7; clear HO419; clear HO423; clear HB; have HO_7 := n0_; have HO419 := n1_; have HO423 := n2_; have HO428 := n3_; have HB := n4_; clear n0_ n1_ n2_ n3_ n4_; (try clear hb); (try clear hb2); (try clear hk); (try clear hi); (try clear ho0))); obtain ⟨Ao53, co53, eo53⟩ := Kd.R_slice HO428.out; subst eo53) | ((first | ((with_reducible refine gate_callee (f := 30) rfl ?_); (refine gate_guard (by rfl) ?_; dsimp only); refine goesL_ (some 152) rfl rfl Tryd.func30 (by kernel_rfl) rfl #[.int .i64 a0] rfl (by (try simp only [List.map_toArray, List.map_cons, List.map_nil]); first | done | rfl | (simp only [List.length_drop, List.length_take]; rfl)) ?_; (with_reducible refine (rel_New.calls a0 t429 _ A44.out).mono ?_); rintro e w54 ⟨v430, rfl, ho0, hb⟩; refine ⟨_, rfl, ?_⟩; have n0_ := Aside0.mk (Kd.R_elder' (by (with_reducible repeat (first | apply Kd.R_alloc | apply Kd.R_drewN | apply Kd.R_drew)); exact HO_7.out) (Kd.R_base ho0) hb); have n1_ := Aside0.mk (Kd.R_below (by (with_reducible repeat (first | apply Kd.R_alloc | apply Kd.R_drewN | apply Kd.R_drew)); exact HO419.out) hb); have n2_ := Aside0.mk (Kd.R_elder' (by (with_reducible repeat (first | apply Kd.R_alloc | apply Kd.R_drewN | apply Kd.R_drew)); exact HO423.out) (Kd.R_base ho0) hb); have n3_ := Aside0.mk (Kd.R_elder' (by (with_reducible repeat (first | apply Kd.R_alloc | apply Kd.R_drewN | apply Kd.R_drew)); exact HO428.out) (Kd.R_base ho0) hb); have n4_ := Aside0.mk (Kd.R_lower (Kd.R_new' (Kd.R_new' (Kd.R_new' ho0 (Kd.R_lt (by (with_reducible repeat (first | apply Kd.R_alloc | apply Kd.R_drewN | apply Kd.R_drew)); exact HO_7.out))) (Kd.R_lt (by (with_reducible repeat (first | apply Kd.R_alloc | apply Kd.R_drewN | apply Kd.R_drew)); exact HO423.out))) (Kd.R_lt (by (with_reducible repeat (first | apply Kd.R_alloc | apply Kd.R_drewN | apply Kd.R_drew)); exact HO428.out))) (below_size (by repeat (first | (with_reducible first | exact HB.out | apply below_alloc | apply pw_below_drewN | apply below_drew1) | exact HB.out)))); have n5_ := Aside0.mk (below_step (by repeat (first | (with_reducible first | exact HB.out | apply below_alloc | apply pw_below_drewN | apply below_drew1) | exact HB.out)) hb); clear HO_7; clear HO419; clear HO423; clear HO428; clear HB; have HO_7 := n0_; have HO419 := n1_; have HO423 := n2_; have HO428 := n3_; have HO431 := n4_; have HB := n5_; clear n0_ n1_ n2_ n3_ n4_ n5_; (try clear hb); (try clear hb2); (try clear hk); (try clear hi); (try clear ho0)) | (go_at_call 30; (with_reducible refine (rel_New.calls a0 t429 _ A44.out).mono ?_); rintro e w54 ⟨v430, rfl, ho0, hb⟩; have n0_ := Aside0.mk (Kd.R_elder' (by (with_reducible repeat (first | apply Kd.R_alloc | apply Kd.R_drewN | apply Kd.R_drew)); exact HO_7.out) (Kd.R_base ho0) hb); have n1_ := Aside0.mk (Kd.R_below (by (with_reducible repeat (first | apply Kd.R_alloc | apply Kd.R_drewN | apply Kd.R_drew)); exact HO419.out) hb); have n2_ := Aside0.mk (Kd.R_elder' (by (with_reducible repeat (first | apply Kd.R_alloc | apply Kd.R_drewN | apply Kd.R_drew)); exact HO423.out) (Kd.R_base ho0) hb); have n3_ := Aside0.mk (Kd.R_elder' (by (with_reducible repeat (first | apply Kd.R_alloc | apply Kd.R_drewN | apply Kd.R_drew)); exact HO428.out) (Kd.R_base ho0) hb); have n4_ := Aside0.mk (Kd.R_lower (Kd.R_new' (Kd.R_new' (Kd.R_new' ho0 (Kd.R_lt (by (with_reducible repeat (first | apply Kd.R_alloc | apply Kd.R_drewN | apply Kd.R_drew)); exact HO_7.out))) (Kd.R_lt (by (with_reducible repeat (first | apply Kd.R_alloc | apply Kd.R_drewN | apply Kd.R_drew)); exact HO423.out))) (Kd.R_lt (by (with_reducible repeat (first | apply Kd.R_alloc | apply Kd.R_drewN | apply Kd.R_drew)); exact HO428.out))) (below_size (by repeat (first | (with_reducible first | exact HB.out | apply below_alloc | apply pw_below_drewN | apply below_drew1) | exact HB.out)))); have n5_ := Aside0.mk (below_step (by repeat (first | (with_reducible first | exact HB.out | apply below_alloc | apply pw_below_drewN | apply below_drew1) | exact HB.out)) hb); clear HO_7; clear HO419; clear HO423; clear HO428; clear HB; have HO_7 := n0_; have HO419 := n1_; have HO423 := n2_; have HO428 := n3_; have HO431 := n4_; have HB := n5_; clear n0_ n1_ n2_ n3_ n4_ n5_; (try clear hb); (try clear hb2); (try clear hk); (try clear hi); (try clear ho0))); obtain ⟨Ao55, co55, eo55⟩ := Kd.R_slice HO431.out; subst eo55) | ((first | ((with_reducible refine gate_callee (f := 17) rfl ?_); (refine gate_guard (by rfl) ?_; dsimp only); refine goesL_ (some 153) rfl rfl Tryd.func17 (by kernel_rfl) rfl #[.slice Ao55 t429.length co55] rfl (by (try simp only [List.map_toArray, List.map_cons, List.map_nil]); first | done | rfl | (simp only [List.length_drop, List.length_take]; rfl)) ?_; (with_reducible refine (rel_Count.calls k3 _ _ t429 t432 _ ?side1 ?side2 A45.out).mono ?_); (case side1 => repeat (first | exact (Kd.R_reads' HO431.out).2.2 | (with_reducible refine Kd.C_alloc ?_ _) | (with_reducible refine Kd.C_drewN ?_ _) | (with_reducible refine Kd.C_drew ?_))); (case side2 => exact (Kd.R_reads' HO431.out).2.1); rintro e w56 ⟨rfl, hb⟩; refine ⟨_, rfl, ?_⟩; have n0_ := Aside0.mk (Kd.R_below (by (with_reducible repeat (first | apply Kd.R_alloc | apply Kd.R_drewN | apply Kd.R_drew)); exact HO_7.out) hb); have n1_ := Aside0.mk (Kd.R_below (by (with_reducible repeat (first | apply Kd.R_alloc | apply Kd.R_drewN | apply Kd.R_drew)); exact HO419.out) hb); have n2_ := Aside0.mk (Kd.R_below (by (with_reducible repeat (first | apply Kd.R_alloc | apply Kd.R_drewN | apply Kd.R_drew)); exact HO423.out) hb); have n3_ := Aside0.mk (Kd.R_below (by (with_reducible repeat (first | apply Kd.R_alloc | apply Kd.R_drewN | apply Kd.R_drew)); exact HO428.out) hb); have n4_ := Aside0.mk (Kd.R_below (by (with_reducible repeat (first | apply Kd.R_alloc | apply Kd.R_drewN | apply Kd.R_drew)); exact HO431.out) hb); have n5_ := Aside0.mk (below_step (by repeat (first | (with_reducible first | exact HB.out | apply below_alloc | apply pw_below_drewN | apply below_drew1) | exact HB.out)) hb); clear HO_7; clear HO419; clear HO423; clear HO428; clear HO431; clear HB; have HO_7 := n0_; have HO419 := n1_; have HO423 := n2_; have HO428 := n3_; have HO431 := n4_; have HB := n5_; clear n0_ n1_ n2_ n3_ n4_ n5_; (try clear hb); (try clear hb2); (try clear hk); (try clear hi)) | (go_at_call 17; (with_reducible refine (rel_Count.calls k3 _ _ t429 t432 _ ?side1 ?side2 A45.out).mono ?_); (case side1 => repeat (first | exact (Kd.R_reads' HO431.out).2.2 | (with_reducible refine Kd.C_alloc ?_ _) | (with_reducible refine Kd.C_drewN ?_ _) | (with_reducible refine Kd.C_drew ?_))); (case side2 => exact (Kd.R_reads' HO431.out).2.1); rintro e w56 ⟨rfl, hb⟩; have n0_ := Aside0.mk (Kd.R_below (by (with_reducible repeat (first | apply Kd.R_alloc | apply Kd.R_drewN | apply Kd.R_drew)); exact HO_7.out) hb); have n1_ := Aside0.mk (Kd.R_below (by (with_reducible repeat (first | apply Kd.R_alloc | apply Kd.R_drewN | apply Kd.R_drew)); exact HO419.out) hb); have n2_ := Aside0.mk (Kd.R_below (by (with_reducible repeat (first | apply Kd.R_alloc | apply Kd.R_drewN | apply Kd.R_drew)); exact HO423.out) hb); have n3_ := Aside0.mk (Kd.R_below (by (with_reducible repeat (first | apply Kd.R_alloc | apply Kd.R_drewN | apply Kd.R_drew)); exact HO428.out) hb); have n4_ := Aside0.mk (Kd.R_below (by (with_reducible repeat (first | apply Kd.R_alloc | apply Kd.R_drewN | apply Kd.R_drew)); exact HO431.out) hb); have n5_ := Aside0.mk (below_step (by repeat (first | (with_reducible first | exact HB.out | apply below_alloc | apply pw_below_drewN | apply below_drew1) | exact HB.out)) hb); clear HO_7; clear HO419; clear HO423; clear HO428; clear HO431; clear HB; have HO_7 := n0_; have HO419 := n1_; have HO423 := n2_; have HO428 := n3_; have HO431 := n4_; have HB := n5_; clear n0_ n1_ n2_ n3_ n4_ n5_; (try clear hb); (try clear hb2); (try clear hk); (try clear hi)))))
                                    go_ret
                                    exact ⟨by first | rfl | (simp [errW_none, errW_some] <;> rfl) | (simp [*, errW_none, errW_some] <;> rfl), by repeat (first | (with_reducible first | exact HB.out | apply below_alloc | apply pw_below_drewN | apply below_drew1) | exact HB.out)⟩
                                  · rw [if_neg c43] at H
                                    exact absurd H (by simp)
                                · replace c41 := Bool.eq_false_iff.mpr c41
                                  subst c41
                                  have H1 : (none) = some r := by rw [if_neg (show ¬ (false = true) by decide)] at H; exact H
                                  clear H
                                  have H := H1
                                  clear H1
                                  exact absurd H (by simp)
                              · replace c39 := Bool.eq_false_iff.mpr c39
                                subst c39
                                have H1 : (none) = some r := by rw [if_neg (show ¬ (false = true) by decide)] at H; exact H
                                clear H
                                have H := H1
                                clear H1
                                exact absurd H (by simp)
                            · rw [if_neg c38] at H
                              exact absurd H (by simp)
                          · rw [if_neg c36] at H
                            exact absurd H (by simp)
                  · replace c18 := Bool.eq_false_iff.mpr c18
                    subst c18
                    have H1 : (some ((t410.length : Int) == 0)) = some r := by rw [if_neg (show ¬ (false = true) by decide)] at H; exact H
                    clear H
                    have H := H1
                    clear H1
                    obtain rfl := Option.some.inj H
                    go_wp2_with (first | ((with_reducible refine gate_callee (f := 29) rfl ?_); refine goesL_ (some 71) rfl rfl Tryd.func29 (by kernel_rfl) rfl #[.int .i64 a0, .slice A1 l1.length c1] rfl (by (try simp only [List.map_toArray, List.map_cons, List.map_nil]); first | done | rfl | (simp only [List.length_drop, List.length_take]; rfl)) ?_; (with_reducible refine (rel_From.calls k2 a0 _ _ l1 t410 false _ ?side1 ?side2 A16.out).mono ?_); (case side1 => repeat (first | exact (Kd.C_below HR1.out HB.out) | (with_reducible refine Kd.C_alloc ?_ _) | (with_reducible refine Kd.C_drewN ?_ _) | (with_reducible refine Kd.C_drew ?_))); (case side2 => exact HC1.out); rintro e w57 ⟨v412, rfl, ho0, hb⟩; refine ⟨_, rfl, ?_⟩; have n0_ := Aside0.mk (Kd.R_lower ho0 (below_size (by repeat (first | (with_reducible first | exact HB.out | apply below_alloc | apply pw_below_drewN | apply below_drew1) | exact HB.out)))); have n1_ := Aside0.mk (below_step (by repeat (first | (with_reducible first | exact HB.out | apply below_alloc | apply pw_below_drewN | apply below_drew1) | exact HB.out)) hb); clear HB; have HO413 := n0_; have HB := n1_; clear n0_ n1_; (try clear hb); (try clear hb2); (try clear hk); (try clear hi); (try clear ho0); obtain ⟨Ao58, co58, eo58⟩ := Kd.R_slice HO413.out; subst eo58))
                    go_ret
                    exact ⟨by first | rfl | (simp [errW_none, errW_some] <;> rfl) | (simp [*, errW_none, errW_some] <;> rfl), by repeat (first | (with_reducible first | exact HB.out | apply below_alloc | apply pw_below_drewN | apply below_drew1) | exact HB.out)⟩
  · replace c4 := Bool.eq_false_iff.mpr c4
    subst c4
    have H1 : (none) = some r := by rw [if_neg (show ¬ (false = true) by decide)] at H; exact H
    clear H
    have H := H1
    clear H1
    exact absurd H (by simp)

end Go.Proofs.YtcehnbneiabaaaaDoor.PR
