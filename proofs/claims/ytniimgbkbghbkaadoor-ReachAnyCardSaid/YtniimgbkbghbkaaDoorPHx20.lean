-- made by fvprint.py over the kit's print
import Derived.Test.YtniimgbkbghbkaaDoorPHx0
import Derived.Test.YtniimgbkbghbkaaDoorPHx1
import Derived.Test.YtniimgbkbghbkaaDoorPHx3
import Derived.Test.YtniimgbkbghbkaaDoorPHx6
import Derived.Test.YtniimgbkbghbkaaDoorPHx7
import Derived.Test.YtniimgbkbghbkaaDoorPHx8
import Derived.Test.YtniimgbkbghbkaaDoorPHx9
import Derived.Test.YtniimgbkbghbkaaDoorPHx11
import Derived.Test.YtniimgbkbghbkaaDoorPHx13
namespace Go.Proofs.YtniimgbkbghbkaaDoor.PH
open Go.RowKit Go.Proofs.YtniimgbkbghbkaaDoorW.PrintWords Go.Proofs.YtniimgbkbghbkaaDoorW.PrintLast Go.Proofs.YtniimgbkbghbkaaDoorW.PrintMore
attribute [local go_sem] max2_int min2_int max_two min_two max_three min_three max_four min_four   -- for this text's walks alone
set_option linter.unusedVariables false
set_option linter.unusedSimpArgs false

attribute [local go_sem] cell_set_some
/-! ### withelaw3_ReachAny: function 4 -/
def withelaw3_ReachAny.j0 : Nat → List Int → Int → Bool → Option (Bool)
  | 0, _, _, _ => none
  | k + 1, x0, x1, x17 => if x17 = true then (some true) else ((reach_Order.f k x0).bind fun bt368 => ((reach_Deep.f k x0).bind fun bt372 => ((reach_Plus.f k x0).bind fun t376 => (if (t376.length : Int) = 0 then ((reach_Star.f k x0).bind fun t379 => (if (t379.length : Int) = 0 then ((reach_Acyclic.f k x0).bind fun t382 => (if t382 = true then (none) else (if bt368.2 = true then (none) else (if (bt368.1.length : Int) = 0 then (if bt372.2 = true then (none) else (if (bt372.1.length : Int) = 0 then ((reach_Total.f k x0 x1).bind fun t383 => (if t383 = true then (none) else ((reach_Down.f k x0 x1).bind fun t384 => (if t384 = 0 then ((reach_Up.f k x0 x1).bind fun t385 => (some (t385 == 0))) else (none))))) else (none))) else (none))))) else (none))) else (none)))))
def withelaw3_ReachAny.f (k : Nat) (l0 : List Int) (a1 : Int) : Option (Bool) := (withelaw3_begun.f k).bind fun t366 => (if t366 = true then (if (l0.length : Int) > 12 then (withelaw3_ReachAny.j0 k l0 a1 true) else ((witheref1_May.f k l0).bind fun t367 => (withelaw3_ReachAny.j0 k l0 a1 t367))) else (none))
theorem withelaw3_ReachAny.mono_l : ∀ k, (∀ y0 y1 y2, LeO (withelaw3_ReachAny.j0 k y0 y1 y2) (withelaw3_ReachAny.j0 (k + 1) y0 y1 y2))
  | 0 => fun _ _ _ r h => by simp [withelaw3_ReachAny.j0] at h
  | k + 1 => by
    have ih0 := withelaw3_ReachAny.mono_l k
    · intro y0 y1 y2
      unfold withelaw3_ReachAny.j0
      repeat' first
      | (with_reducible exact ih0 _ _ _)
      | (with_reducible exact reach_Acyclic.mono _ _)
      | (with_reducible exact reach_Deep.mono _ _)
      | (with_reducible exact reach_Down.mono _ _ _)
      | (with_reducible exact reach_Order.mono _ _)
      | (with_reducible exact reach_Plus.mono _ _)
      | (with_reducible exact reach_Star.mono _ _)
      | (with_reducible exact reach_Total.mono _ _ _)
      | (with_reducible exact reach_Up.mono _ _ _)
      | (with_reducible exact withelaw3_begun.mono _)
      | (with_reducible exact witheref1_May.mono _ _)
      | (with_reducible exact LeO.refl _)
      | (with_reducible exact LeO.none _)
      | (with_reducible refine LeO.ite ?_ ?_)
      | (with_reducible refine LeO.bind ?_ (fun _ => ?_))
      | exact ih0 _ _ _
      | exact reach_Acyclic.mono _ _
      | exact reach_Deep.mono _ _
      | exact reach_Down.mono _ _ _
      | exact reach_Order.mono _ _
      | exact reach_Plus.mono _ _
      | exact reach_Star.mono _ _
      | exact reach_Total.mono _ _ _
      | exact reach_Up.mono _ _ _
      | exact withelaw3_begun.mono _
      | exact witheref1_May.mono _ _
      | exact LeO.none _
      | refine LeO.ite ?_ ?_
      | refine LeO.bind ?_ (fun _ => ?_)
theorem withelaw3_ReachAny.mono : ∀ a0 a1 k, LeO (withelaw3_ReachAny.f k a0 a1) (withelaw3_ReachAny.f (k + 1) a0 a1) := by
  intro a0 a1 k
  have ih0 := withelaw3_ReachAny.mono_l k
  unfold withelaw3_ReachAny.f
  repeat' first
      | (with_reducible exact ih0 _ _ _)
      | (with_reducible exact reach_Acyclic.mono _ _)
      | (with_reducible exact reach_Deep.mono _ _)
      | (with_reducible exact reach_Down.mono _ _ _)
      | (with_reducible exact reach_Order.mono _ _)
      | (with_reducible exact reach_Plus.mono _ _)
      | (with_reducible exact reach_Star.mono _ _)
      | (with_reducible exact reach_Total.mono _ _ _)
      | (with_reducible exact reach_Up.mono _ _ _)
      | (with_reducible exact withelaw3_begun.mono _)
      | (with_reducible exact witheref1_May.mono _ _)
      | (with_reducible exact LeO.refl _)
      | (with_reducible exact LeO.none _)
      | (with_reducible refine LeO.ite ?_ ?_)
      | (with_reducible refine LeO.bind ?_ (fun _ => ?_))
      | exact ih0 _ _ _
      | exact reach_Acyclic.mono _ _
      | exact reach_Deep.mono _ _
      | exact reach_Down.mono _ _ _
      | exact reach_Order.mono _ _
      | exact reach_Plus.mono _ _
      | exact reach_Star.mono _ _
      | exact reach_Total.mono _ _ _
      | exact reach_Up.mono _ _ _
      | exact withelaw3_begun.mono _
      | exact witheref1_May.mono _ _
      | exact LeO.none _
      | refine LeO.ite ?_ ?_
      | refine LeO.bind ?_ (fun _ => ?_)
set_option maxHeartbeats 8000000 in
set_option maxRecDepth 100000 in
theorem withelaw3_ReachAny.calls (k : Nat) (A0 : Option Addr) (c0 : Nat) (l0 : List Int) (a1 : Int) (r : Bool) (w : World) (hr0 : Kd.C (Kd.int .u64) w A0 l0.length l0) (hc0 : l0.length ≤ c0) (h : withelaw3_ReachAny.f k l0 a1 = some r) (hG : GOk w := by first | exact Aside0.out (by assumption) | exact GOk.le (Aside0.out (by assumption)) (by repeat (first | exact Aside0.out (by assumption) | exact Below.refl _ _ | apply below_alloc | apply pw_below_drewN | apply below_drew1 | refine below_set ?_ (Aside0.out (by assumption))))) :
    Calls Tryd.prog 4 #[.slice A0 l0.length c0, .int .u64 a1] w fun e w' => e = .returned (.bool r) ∧ Below w.heap.size w w' := by
  have HR0 := Aside0.mk hr0
  have HC0 := Aside0.mk hc0
  clear hr0 hc0
  have HB := Aside0.mk (Below.refl w.heap.size w)
  have H : ((withelaw3_begun.f k).bind fun t366 => (if t366 = true then (if (l0.length : Int) > 12 then (withelaw3_ReachAny.j0 k l0 a1 true) else ((witheref1_May.f k l0).bind fun t367 => (withelaw3_ReachAny.j0 k l0 a1 t367))) else (none))) = some r := h
  clear h
  have HG := Aside0.mk hG
  clear hG
  replace H := Option.bind_eq_some_iff.mp H
  obtain ⟨t366, A30, H⟩ := H
  replace H : (if t366 = true then (if (l0.length : Int) > 12 then (withelaw3_ReachAny.j0 k l0 a1 true) else ((witheref1_May.f k l0).bind fun t367 => (withelaw3_ReachAny.j0 k l0 a1 t367))) else (none)) = some r := H
  have A3 := Aside0.mk A30
  clear A30
  by_cases c4 : t366 = true
  · subst c4
    have H1 : (if (l0.length : Int) > 12 then (withelaw3_ReachAny.j0 k l0 a1 true) else ((witheref1_May.f k l0).bind fun t367 => (withelaw3_ReachAny.j0 k l0 a1 t367))) = some r := by rw [if_pos rfl] at H; exact H
    clear H
    have H := H1
    clear H1
    have HC5 := Aside0.mk H
    clear H
    go_enter Tryd.func4, Tryd.ntmps4
    go_upto_region 3 with (first | ((with_reducible refine gate_callee (f := 8) rfl ?_); refine goesL_ (some 9) rfl rfl Tryd.func8 (by kernel_rfl) rfl #[] rfl (by (try simp only [List.map_toArray, List.map_cons, List.map_nil]); first | done | rfl | (simp only [List.length_drop, List.length_take]; rfl)) ?_; (with_reducible refine (withelaw3_begun.calls k  true _ A3.out).mono ?_); rintro e w6 ⟨rfl, hb⟩; refine ⟨_, rfl, ?_⟩; have n0_ := Aside0.mk (below_step (by repeat (first | (with_reducible first | exact HB.out | apply below_alloc | apply pw_below_drewN | apply below_drew1) | exact HB.out)) hb); clear HB; have HB := n0_; clear n0_; (try clear hb); (try clear hb2); (try clear hk); (try clear hi)))
    (try simp only [Act.put, List.setIfInBounds_toArray, List.set_cons_zero, List.set_cons_succ])
    go_cut [17] (fun v17 wc => ∃ (kq : Nat) (x17_4 : Bool), v17 = .bool x17_4 ∧ Aside0 (withelaw3_ReachAny.j0 kq l0 a1 x17_4 = some r) ∧ Aside0 (kq ≤ k) ∧ Aside0 (Below w.heap.size w wc))
    case first =>
      have H := HC5.out
      clear HC5
      by_cases c7 : (l0.length : Int) > 12
      · rw [if_pos c7] at H
        have c7b0 : decide (12 < (l0.length : Int)) = true := decide_eq_true c7
        have c7b1 : decide (12 < l0.length) = true := decide_eq_true (by omega)
        clear c7
        (first | rw [c7b0] | (simp only [i64_w, i32_w]; rw [c7b0]) | skip)
        have H' := Aside0.mk H
        clear H
        go_wp2
        go_meet
        case rel => exact ⟨_, (true), (by first | rfl | (simp; done) | (simp [*]; done)), H', ⟨by first | omega | exact Nat.le_refl _⟩, ⟨by repeat (first | (with_reducible first | exact HB.out | apply below_alloc | apply pw_below_drewN | apply below_drew1) | exact HB.out)⟩⟩
      · rw [if_neg c7] at H
        have c7b0 : decide (12 < (l0.length : Int)) = false := decide_eq_false c7
        have c7b1 : decide (12 < l0.length) = false := decide_eq_false (by omega)
        clear c7
        (first | rw [c7b0] | (simp only [i64_w, i32_w]; rw [c7b0]) | skip)
        replace H := Option.bind_eq_some_iff.mp H
        obtain ⟨t367, A80, H⟩ := H
        replace H : (withelaw3_ReachAny.j0 k l0 a1 t367) = some r := H
        have A8 := Aside0.mk A80
        clear A80
        have H' := Aside0.mk H
        clear H
        go_wp2_with (first | ((first | ((with_reducible refine gate_callee (f := 27) rfl ?_); (refine gate_guard (by rfl) ?_; dsimp only); refine goesL_ (some 16) rfl rfl Tryd.func27 (by kernel_rfl) rfl #[.slice A0 l0.length c0] rfl (by (try simp only [List.map_toArray, List.map_cons, List.map_nil]); first | done | rfl | (simp only [List.length_drop, List.length_take]; rfl)) ?_; (with_reducible refine (witheref1_May.calls k _ _ l0 t367 _ ?side1 ?side2 A8.out).mono ?_); (case side1 => repeat (first | exact (Kd.C_below HR0.out HB.out) | (with_reducible refine Kd.C_alloc ?_ _) | (with_reducible refine Kd.C_drewN ?_ _) | (with_reducible refine Kd.C_drew ?_))); (case side2 => exact HC0.out); rintro e w' ⟨rfl, ⟨nd, rfl⟩⟩; refine ⟨_, rfl, ?_⟩) | (go_at_call 27; (with_reducible refine (witheref1_May.calls k _ _ l0 t367 _ ?side1 ?side2 A8.out).mono ?_); (case side1 => repeat (first | exact (Kd.C_below HR0.out HB.out) | (with_reducible refine Kd.C_alloc ?_ _) | (with_reducible refine Kd.C_drewN ?_ _) | (with_reducible refine Kd.C_drew ?_))); (case side2 => exact HC0.out); rintro e w' ⟨rfl, ⟨nd, rfl⟩⟩))))
        go_meet
        case rel => exact ⟨_, (t367), (by first | rfl | (simp; done) | (simp [*]; done)), H', ⟨by first | omega | exact Nat.le_refl _⟩, ⟨by repeat (first | (with_reducible first | exact HB.out | apply below_alloc | apply pw_below_drewN | apply below_drew1) | exact HB.out)⟩⟩
    case rest =>
      clear HC5
      try clear c2
      try clear p2
      try clear c4
      try clear c7
      try clear c7b0
      try clear c7b1
      try clear c8
      obtain ⟨kq, x17_4, rfl, HA, HJ4, HB⟩ := hcut
      cases kq with
      | zero => exact absurd HA.out (by simp [withelaw3_ReachAny.j0])
      | succ kj4 =>
        have H := HA.out
        clear HA
        simp only [withelaw3_ReachAny.j0] at H
        by_cases c9 : x17_4 = true
        · subst c9
          have H1 : (some true) = some r := by rw [if_pos rfl] at H; exact H
          clear H
          have H := H1
          clear H1
          obtain rfl := Option.some.inj H
          go_wp2
          go_ret
          exact ⟨by first | rfl | (simp [errW_none, errW_some] <;> rfl) | (simp [*, errW_none, errW_some] <;> rfl), by repeat (first | (with_reducible first | exact HB.out | apply below_alloc | apply pw_below_drewN | apply below_drew1) | exact HB.out)⟩
        · replace c9 := Bool.eq_false_iff.mpr c9
          subst c9
          have H1 : ((reach_Order.f kj4 l0).bind fun bt368 => ((reach_Deep.f kj4 l0).bind fun bt372 => ((reach_Plus.f kj4 l0).bind fun t376 => (if (t376.length : Int) = 0 then ((reach_Star.f kj4 l0).bind fun t379 => (if (t379.length : Int) = 0 then ((reach_Acyclic.f kj4 l0).bind fun t382 => (if t382 = true then (none) else (if bt368.2 = true then (none) else (if (bt368.1.length : Int) = 0 then (if bt372.2 = true then (none) else (if (bt372.1.length : Int) = 0 then ((reach_Total.f kj4 l0 a1).bind fun t383 => (if t383 = true then (none) else ((reach_Down.f kj4 l0 a1).bind fun t384 => (if t384 = 0 then ((reach_Up.f kj4 l0 a1).bind fun t385 => (some (t385 == 0))) else (none))))) else (none))) else (none))))) else (none))) else (none))))) = some r := by rw [if_neg (show ¬ (false = true) by decide)] at H; exact H
          clear H
          have H := H1
          clear H1
          replace H := Option.bind_eq_some_iff.mp H
          obtain ⟨⟨t368, t369⟩, A100, H⟩ := H
          replace H : ((reach_Deep.f kj4 l0).bind fun bt372 => ((reach_Plus.f kj4 l0).bind fun t376 => (if (t376.length : Int) = 0 then ((reach_Star.f kj4 l0).bind fun t379 => (if (t379.length : Int) = 0 then ((reach_Acyclic.f kj4 l0).bind fun t382 => (if t382 = true then (none) else (if t369 = true then (none) else (if (t368.length : Int) = 0 then (if bt372.2 = true then (none) else (if (bt372.1.length : Int) = 0 then ((reach_Total.f kj4 l0 a1).bind fun t383 => (if t383 = true then (none) else ((reach_Down.f kj4 l0 a1).bind fun t384 => (if t384 = 0 then ((reach_Up.f kj4 l0 a1).bind fun t385 => (some (t385 == 0))) else (none))))) else (none))) else (none))))) else (none))) else (none)))) = some r := H
          have A10 := Aside0.mk A100
          clear A100
          replace H := Option.bind_eq_some_iff.mp H
          obtain ⟨⟨t372, t373⟩, A110, H⟩ := H
          replace H : ((reach_Plus.f kj4 l0).bind fun t376 => (if (t376.length : Int) = 0 then ((reach_Star.f kj4 l0).bind fun t379 => (if (t379.length : Int) = 0 then ((reach_Acyclic.f kj4 l0).bind fun t382 => (if t382 = true then (none) else (if t369 = true then (none) else (if (t368.length : Int) = 0 then (if t373 = true then (none) else (if (t372.length : Int) = 0 then ((reach_Total.f kj4 l0 a1).bind fun t383 => (if t383 = true then (none) else ((reach_Down.f kj4 l0 a1).bind fun t384 => (if t384 = 0 then ((reach_Up.f kj4 l0 a1).bind fun t385 => (some (t385 == 0))) else (none))))) else (none))) else (none))))) else (none))) else (none))) = some r := H
          have A11 := Aside0.mk A110
          clear A110
          replace H := Option.bind_eq_some_iff.mp H
          obtain ⟨t376, A120, H⟩ := H
          replace H : (if (t376.length : Int) = 0 then ((reach_Star.f kj4 l0).bind fun t379 => (if (t379.length : Int) = 0 then ((reach_Acyclic.f kj4 l0).bind fun t382 => (if t382 = true then (none) else (if t369 = true then (none) else (if (t368.length : Int) = 0 then (if t373 = true then (none) else (if (t372.length : Int) = 0 then ((reach_Total.f kj4 l0 a1).bind fun t383 => (if t383 = true then (none) else ((reach_Down.f kj4 l0 a1).bind fun t384 => (if t384 = 0 then ((reach_Up.f kj4 l0 a1).bind fun t385 => (some (t385 == 0))) else (none))))) else (none))) else (none))))) else (none))) else (none)) = some r := H
          have A12 := Aside0.mk A120
          clear A120
          by_cases c13 : (t376.length : Int) = 0
          · rw [if_pos c13] at H
            have c13b0 : ((t376.length : Int) == 0) = true := beq_iff_eq.mpr c13
            have c13b1 : ((t376.length : Int) != 0) = false := bne_eq_false_iff_eq.mpr c13
            clear c13
            replace H := Option.bind_eq_some_iff.mp H
            obtain ⟨t379, A140, H⟩ := H
            replace H : (if (t379.length : Int) = 0 then ((reach_Acyclic.f kj4 l0).bind fun t382 => (if t382 = true then (none) else (if t369 = true then (none) else (if (t368.length : Int) = 0 then (if t373 = true then (none) else (if (t372.length : Int) = 0 then ((reach_Total.f kj4 l0 a1).bind fun t383 => (if t383 = true then (none) else ((reach_Down.f kj4 l0 a1).bind fun t384 => (if t384 = 0 then ((reach_Up.f kj4 l0 a1).bind fun t385 => (some (t385 == 0))) else (none))))) else (none))) else (none))))) else (none)) = some r := H
            have A14 := Aside0.mk A140
            clear A140
            by_cases c15 : (t379.length : Int) = 0
            · rw [if_pos c15] at H
              have c15b0 : ((t379.length : Int) == 0) = true := beq_iff_eq.mpr c15
              have c15b1 : ((t379.length : Int) != 0) = false := bne_eq_false_iff_eq.mpr c15
              clear c15
              replace H := Option.bind_eq_some_iff.mp H
              obtain ⟨t382, A160, H⟩ := H
              replace H : (if t382 = true then (none) else (if t369 = true then (none) else (if (t368.length : Int) = 0 then (if t373 = true then (none) else (if (t372.length : Int) = 0 then ((reach_Total.f kj4 l0 a1).bind fun t383 => (if t383 = true then (none) else ((reach_Down.f kj4 l0 a1).bind fun t384 => (if t384 = 0 then ((reach_Up.f kj4 l0 a1).bind fun t385 => (some (t385 == 0))) else (none))))) else (none))) else (none)))) = some r := H
              have A16 := Aside0.mk A160
              clear A160
              by_cases c17 : t382 = true
              · subst c17
                have H1 : (none) = some r := by rw [if_pos rfl] at H; exact H
                clear H
                have H := H1
                clear H1
                exact absurd H (by simp)
              · replace c17 := Bool.eq_false_iff.mpr c17
                subst c17
                have H1 : (if t369 = true then (none) else (if (t368.length : Int) = 0 then (if t373 = true then (none) else (if (t372.length : Int) = 0 then ((reach_Total.f kj4 l0 a1).bind fun t383 => (if t383 = true then (none) else ((reach_Down.f kj4 l0 a1).bind fun t384 => (if t384 = 0 then ((reach_Up.f kj4 l0 a1).bind fun t385 => (some (t385 == 0))) else (none))))) else (none))) else (none))) = some r := by rw [if_neg (show ¬ (false = true) by decide)] at H; exact H
                clear H
                have H := H1
                clear H1
                by_cases c18 : t369 = true
                · subst c18
                  have H1 : (none) = some r := by rw [if_pos rfl] at H; exact H
                  clear H
                  have H := H1
                  clear H1
                  exact absurd H (by simp)
                · replace c18 := Bool.eq_false_iff.mpr c18
                  subst c18
                  have H1 : (if (t368.length : Int) = 0 then (if t373 = true then (none) else (if (t372.length : Int) = 0 then ((reach_Total.f kj4 l0 a1).bind fun t383 => (if t383 = true then (none) else ((reach_Down.f kj4 l0 a1).bind fun t384 => (if t384 = 0 then ((reach_Up.f kj4 l0 a1).bind fun t385 => (some (t385 == 0))) else (none))))) else (none))) else (none)) = some r := by rw [if_neg (show ¬ (false = true) by decide)] at H; exact H
                  clear H
                  have H := H1
                  clear H1
                  by_cases c19 : (t368.length : Int) = 0
                  · rw [if_pos c19] at H
                    have c19b0 : ((t368.length : Int) == 0) = true := beq_iff_eq.mpr c19
                    have c19b1 : ((t368.length : Int) != 0) = false := bne_eq_false_iff_eq.mpr c19
                    clear c19
                    by_cases c20 : t373 = true
                    · subst c20
                      have H1 : (none) = some r := by rw [if_pos rfl] at H; exact H
                      clear H
                      have H := H1
                      clear H1
                      exact absurd H (by simp)
                    · replace c20 := Bool.eq_false_iff.mpr c20
                      subst c20
                      have H1 : (if (t372.length : Int) = 0 then ((reach_Total.f kj4 l0 a1).bind fun t383 => (if t383 = true then (none) else ((reach_Down.f kj4 l0 a1).bind fun t384 => (if t384 = 0 then ((reach_Up.f kj4 l0 a1).bind fun t385 => (some (t385 == 0))) else (none))))) else (none)) = some r := by rw [if_neg (show ¬ (false = true) by decide)] at H; exact H
                      clear H
                      have H := H1
                      clear H1
                      by_cases c21 : (t372.length : Int) = 0
                      · rw [if_pos c21] at H
                        have c21b0 : ((t372.length : Int) == 0) = true := beq_iff_eq.mpr c21
                        have c21b1 : ((t372.length : Int) != 0) = false := bne_eq_false_iff_eq.mpr c21
                        clear c21
                        replace H := Option.bind_eq_some_iff.mp H
                        obtain ⟨t383, A220, H⟩ := H
                        replace H : (if t383 = true then (none) else ((reach_Down.f kj4 l0 a1).bind fun t384 => (if t384 = 0 then ((reach_Up.f kj4 l0 a1).bind fun t385 => (some (t385 == 0))) else (none)))) = some r := H
                        have A22 := Aside0.mk A220
                        clear A220
                        by_cases c23 : t383 = true
                        · subst c23
                          have H1 : (none) = some r := by rw [if_pos rfl] at H; exact H
                          clear H
                          have H := H1
                          clear H1
                          exact absurd H (by simp)
                        · replace c23 := Bool.eq_false_iff.mpr c23
                          subst c23
                          have H1 : ((reach_Down.f kj4 l0 a1).bind fun t384 => (if t384 = 0 then ((reach_Up.f kj4 l0 a1).bind fun t385 => (some (t385 == 0))) else (none))) = some r := by rw [if_neg (show ¬ (false = true) by decide)] at H; exact H
                          clear H
                          have H := H1
                          clear H1
                          replace H := Option.bind_eq_some_iff.mp H
                          obtain ⟨t384, A240, H⟩ := H
                          replace H : (if t384 = 0 then ((reach_Up.f kj4 l0 a1).bind fun t385 => (some (t385 == 0))) else (none)) = some r := H
                          have A24 := Aside0.mk A240
                          clear A240
                          by_cases c25 : t384 = 0
                          · rw [if_pos c25] at H
                            have c25b0 : (t384 == 0) = true := beq_iff_eq.mpr c25
                            have c25b1 : (t384 != 0) = false := bne_eq_false_iff_eq.mpr c25
                            clear c25
                            replace H := Option.bind_eq_some_iff.mp H
                            obtain ⟨t385, A260, H⟩ := H
                            replace H : (some (t385 == 0)) = some r := H
                            have A26 := Aside0.mk A260
                            clear A260
                            obtain rfl := Option.some.inj H
                            go_wp2_with (first | ((with_reducible refine gate_callee (f := 12) rfl ?_); refine goesL_ (some 20) rfl rfl Tryd.func12 (by kernel_rfl) rfl #[.slice A0 l0.length c0] rfl (by (try simp only [List.map_toArray, List.map_cons, List.map_nil]); first | done | rfl | (simp only [List.length_drop, List.length_take]; rfl)) ?_; (with_reducible refine (reach_Order.calls kj4 _ _ l0 t368 false _ ?side1 ?side2 A10.out).mono ?_); (case side1 => repeat (first | exact (Kd.C_below HR0.out HB.out) | (with_reducible refine Kd.C_alloc ?_ _) | (with_reducible refine Kd.C_drewN ?_ _) | (with_reducible refine Kd.C_drew ?_))); (case side2 => exact HC0.out); rintro e w27 ⟨v370, rfl, ho0, hb⟩; refine ⟨_, rfl, ?_⟩; have n0_ := Aside0.mk (Kd.R_lower ho0 (below_size (by repeat (first | (with_reducible first | exact HB.out | apply below_alloc | apply pw_below_drewN | apply below_drew1) | exact HB.out)))); have n1_ := Aside0.mk (below_step (by repeat (first | (with_reducible first | exact HB.out | apply below_alloc | apply pw_below_drewN | apply below_drew1) | exact HB.out)) hb); clear HB; have HO371 := n0_; have HB := n1_; clear n0_ n1_; (try clear hb); (try clear hb2); (try clear hk); (try clear hi); (try clear ho0)) | ((with_reducible refine gate_callee (f := 14) rfl ?_); refine goesL_ (some 25) rfl rfl Tryd.func14 (by kernel_rfl) rfl #[.slice A0 l0.length c0] rfl (by (try simp only [List.map_toArray, List.map_cons, List.map_nil]); first | done | rfl | (simp only [List.length_drop, List.length_take]; rfl)) ?_; (with_reducible refine (reach_Deep.calls kj4 _ _ l0 t372 false _ ?side1 ?side2 A11.out).mono ?_); (case side1 => repeat (first | exact (Kd.C_below HR0.out HB.out) | (with_reducible refine Kd.C_alloc ?_ _) | (with_reducible refine Kd.C_drewN ?_ _) | (with_reducible refine Kd.C_drew ?_))); (case side2 => exact HC0.out); rintro e w28 ⟨v374, rfl, ho0, hb⟩; refine ⟨_, rfl, ?_⟩; have n0_ := Aside0.mk (Kd.R_elder' (by (with_reducible repeat (first | apply Kd.R_alloc | apply Kd.R_drewN | apply Kd.R_drew)); exact HO371.out) (Kd.R_base ho0) hb); have n1_ := Aside0.mk (Kd.R_lower (Kd.R_new' ho0 (Kd.R_lt (by (with_reducible repeat (first | apply Kd.R_alloc | apply Kd.R_drewN | apply Kd.R_drew)); exact HO371.out))) (below_size (by repeat (first | (with_reducible first | exact HB.out | apply below_alloc | apply pw_below_drewN | apply below_drew1) | exact HB.out)))); have n2_ := Aside0.mk (below_step (by repeat (first | (with_reducible first | exact HB.out | apply below_alloc | apply pw_below_drewN | apply below_drew1) | exact HB.out)) hb); clear HO371; clear HB; have HO371 := n0_; have HO375 := n1_; have HB := n2_; clear n0_ n1_ n2_; (try clear hb); (try clear hb2); (try clear hk); (try clear hi); (try clear ho0)) | ((with_reducible refine gate_callee (f := 16) rfl ?_); refine goesL_ (some 29) rfl rfl Tryd.func16 (by kernel_rfl) rfl #[.slice A0 l0.length c0] rfl (by (try simp only [List.map_toArray, List.map_cons, List.map_nil]); first | done | rfl | (simp only [List.length_drop, List.length_take]; rfl)) ?_; (with_reducible refine (reach_Plus.calls kj4 _ _ l0 t376 _ ?side1 ?side2 A12.out).mono ?_); (case side1 => repeat (first | exact (Kd.C_below HR0.out HB.out) | (with_reducible refine Kd.C_alloc ?_ _) | (with_reducible refine Kd.C_drewN ?_ _) | (with_reducible refine Kd.C_drew ?_))); (case side2 => exact HC0.out); rintro e w29 ⟨v377, rfl, ho0, hb⟩; refine ⟨_, rfl, ?_⟩; have n0_ := Aside0.mk (Kd.R_below (by (with_reducible repeat (first | apply Kd.R_alloc | apply Kd.R_drewN | apply Kd.R_drew)); exact HO371.out) hb); have n1_ := Aside0.mk (Kd.R_below (by (with_reducible repeat (first | apply Kd.R_alloc | apply Kd.R_drewN | apply Kd.R_drew)); exact HO375.out) hb); have n2_ := Aside0.mk (Kd.R_lower ho0 (below_size (by repeat (first | (with_reducible first | exact HB.out | apply below_alloc | apply pw_below_drewN | apply below_drew1) | exact HB.out)))); have n3_ := Aside0.mk (below_step (by repeat (first | (with_reducible first | exact HB.out | apply below_alloc | apply pw_below_drewN | apply below_drew1) | exact HB.out)) hb); clear HO371; clear HO375; clear HB; have HO371 := n0_; have HO375 := n1_; have HO378 := n2_; have HB := n3_; clear n0_ n1_ n2_ n3_; (try clear hb); (try clear hb2); (try clear hk); (try clear hi); (try clear ho0); obtain ⟨Ao30, co30, eo30⟩ := Kd.R_slice HO378.out; subst eo30) | ((first | ((with_reducible refine gate_callee (f := 23) rfl ?_); (refine gate_guard (by rfl) ?_; dsimp only); refine goesL_ (some 34) rfl rfl Tryd.func23 (by kernel_rfl) rfl #[.slice A0 l0.length c0] rfl (by (try simp only [List.map_toArray, List.map_cons, List.map_nil]); first | done | rfl | (simp only [List.length_drop, List.length_take]; rfl)) ?_; (with_reducible refine (reach_Star.calls kj4 _ _ l0 t379 _ ?side1 ?side2 A14.out).mono ?_); (case side1 => repeat (first | exact (Kd.C_below HR0.out HB.out) | (with_reducible refine Kd.C_alloc ?_ _) | (with_reducible refine Kd.C_drewN ?_ _) | (with_reducible refine Kd.C_drew ?_))); (case side2 => exact HC0.out); rintro e w31 ⟨v380, rfl, ho0, hb⟩; refine ⟨_, rfl, ?_⟩; have n0_ := Aside0.mk (Kd.R_below (by (with_reducible repeat (first | apply Kd.R_alloc | apply Kd.R_drewN | apply Kd.R_drew)); exact HO371.out) hb); have n1_ := Aside0.mk (Kd.R_below (by (with_reducible repeat (first | apply Kd.R_alloc | apply Kd.R_drewN | apply Kd.R_drew)); exact HO375.out) hb); have n2_ := Aside0.mk (Kd.R_elder' (by (with_reducible repeat (first | apply Kd.R_alloc | apply Kd.R_drewN | apply Kd.R_drew)); exact HO378.out) (Kd.R_base ho0) hb); have n3_ := Aside0.mk (Kd.R_lower (Kd.R_new' ho0 (Kd.R_lt (by (with_reducible repeat (first | apply Kd.R_alloc | apply Kd.R_drewN | apply Kd.R_drew)); exact HO378.out))) (below_size (by repeat (first | (with_reducible first | exact HB.out | apply below_alloc | apply pw_below_drewN | apply below_drew1) | exact HB.out)))); have n4_ := Aside0.mk (below_step (by repeat (first | (with_reducible first | exact HB.out | apply below_alloc | apply pw_below_drewN | apply below_drew1) | exact HB.out)) hb); clear HO371; clear HO375; clear HO378; clear HB; have HO371 := n0_; have HO375 := n1_; have HO378 := n2_; have HO381 := n3_; have HB := n4_; clear n0_ n1_ n2_ n3_ n4_; (try clear hb); (try clear hb2); (try clear hk); (try clear hi); (try clear ho0)) | (go_at_call 23; (with_reducible refine (reach_Star.calls kj4 _ _ l0 t379 _ ?side1 ?side2 A14.out).mono ?_); (case side1 => repeat (first | exact (Kd.C_below HR0.out HB.out) | (with_reducible refine Kd.C_alloc ?_ _) | (with_reducible refine Kd.C_drewN ?_ _) | (with_reducible refine Kd.C_drew ?_))); (case side2 => exact HC0.out); rintro e w31 ⟨v380, rfl, ho0, hb⟩; have n0_ := Aside0.mk (Kd.R_below (by (with_reducible repeat (first | apply Kd.R_alloc | apply Kd.R_drewN | apply Kd.R_drew)); exact HO371.out) hb); have n1_ := Aside0.mk (Kd.R_below (by (with_reducible repeat (first | apply Kd.R_alloc | apply Kd.R_drewN | apply Kd.R_drew)); exact HO375.out) hb); have n2_ := Aside0.mk (Kd.R_elder' (by (with_reducible repeat (first | apply Kd.R_alloc | apply Kd.R_drewN | apply Kd.R_drew)); exact HO378.out) (Kd.R_base ho0) hb); have n3_ := Aside0.mk (Kd.R_lower (Kd.R_new' ho0 (Kd.R_lt (by (with_reducible repeat (first | apply Kd.R_alloc | apply Kd.R_drewN | apply Kd.R_drew)); exact HO378.out))) (below_size (by repeat (first | (with_reducible first | exact HB.out | apply below_alloc | apply pw_below_drewN | apply below_drew1) | exact HB.out)))); have n4_ := Aside0.mk (below_step (by repeat (first | (with_reducible first | exact HB.out | apply below_alloc | apply pw_below_drewN | apply below_drew1) | exact HB.out)) hb); clear HO371; clear HO375; clear HO378; clear HB; have HO371 := n0_; have HO375 := n1_; have HO378 := n2_; have HO381 := n3_; have HB := n4_; clear n0_ n1_ n2_ n3_ n4_; (try clear hb); (try clear hb2); (try clear hk); (try clear hi); (try clear ho0))); obtain ⟨Ao32, co32, eo32⟩ := Kd.R_slice HO381.out; subst eo32) | ((first | ((with_reducible refine gate_callee (f := 17) rfl ?_); (refine gate_guard (by rfl) ?_; dsimp only); refine goesL_ (some 40) rfl rfl Tryd.func17 (by kernel_rfl) rfl #[.slice A0 l0.length c0] rfl (by (try simp only [List.map_toArray, List.map_cons, List.map_nil]); first | done | rfl | (simp only [List.length_drop, List.length_take]; rfl)) ?_; (with_reducible refine (reach_Acyclic.calls kj4 _ _ l0 false _ ?side1 ?side2 A16.out).mono ?_); (case side1 => repeat (first | exact (Kd.C_below HR0.out HB.out) | (with_reducible refine Kd.C_alloc ?_ _) | (with_reducible refine Kd.C_drewN ?_ _) | (with_reducible refine Kd.C_drew ?_))); (case side2 => exact HC0.out); rintro e w33 ⟨rfl, hb⟩; refine ⟨_, rfl, ?_⟩; have n0_ := Aside0.mk (Kd.R_below (by (with_reducible repeat (first | apply Kd.R_alloc | apply Kd.R_drewN | apply Kd.R_drew)); exact HO371.out) hb); have n1_ := Aside0.mk (Kd.R_below (by (with_reducible repeat (first | apply Kd.R_alloc | apply Kd.R_drewN | apply Kd.R_drew)); exact HO375.out) hb); have n2_ := Aside0.mk (Kd.R_below (by (with_reducible repeat (first | apply Kd.R_alloc | apply Kd.R_drewN | apply Kd.R_drew)); exact HO378.out) hb); have n3_ := Aside0.mk (Kd.R_below (by (with_reducible repeat (first | apply Kd.R_alloc | apply Kd.R_drewN | apply Kd.R_drew)); exact HO381.out) hb); have n4_ := Aside0.mk (below_step (by repeat (first | (with_reducible first | exact HB.out | apply below_alloc | apply pw_below_drewN | apply below_drew1) | exact HB.out)) hb); clear HO371; clear HO375; clear HO378; clear HO381; clear HB; have HO371 := n0_; have HO375 := n1_; have HO378 := n2_; have HO381 := n3_; have HB := n4_; clear n0_ n1_ n2_ n3_ n4_; (try clear hb); (try clear hb2); (try clear hk); (try clear hi)) | (go_at_call 17; (with_reducible refine (reach_Acyclic.calls kj4 _ _ l0 false _ ?side1 ?side2 A16.out).mono ?_); (case side1 => repeat (first | exact (Kd.C_below HR0.out HB.out) | (with_reducible refine Kd.C_alloc ?_ _) | (with_reducible refine Kd.C_drewN ?_ _) | (with_reducible refine Kd.C_drew ?_))); (case side2 => exact HC0.out); rintro e w33 ⟨rfl, hb⟩; have n0_ := Aside0.mk (Kd.R_below (by (with_reducible repeat (first | apply Kd.R_alloc | apply Kd.R_drewN | apply Kd.R_drew)); exact HO371.out) hb); have n1_ := Aside0.mk (Kd.R_below (by (with_reducible repeat (first | apply Kd.R_alloc | apply Kd.R_drewN | apply Kd.R_drew)); exact HO375.out) hb); have n2_ := Aside0.mk (Kd.R_below (by (with_reducible repeat (first | apply Kd.R_alloc | apply Kd.R_drewN | apply Kd.R_drew)); exact HO378.out) hb); have n3_ := Aside0.mk (Kd.R_below (by (with_reducible repeat (first | apply Kd.R_alloc | apply Kd.R_drewN | apply Kd.R_drew)); exact HO381.out) hb); have n4_ := Aside0.mk (below_step (by repeat (first | (with_reducible first | exact HB.out | apply below_alloc | apply pw_below_drewN | apply below_drew1) | exact HB.out)) hb); clear HO371; clear HO375; clear HO378; clear HO381; clear HB; have HO371 := n0_; have HO375 := n1_; have HO378 := n2_; have HO381 := n3_; have HB := n4_; clear n0_ n1_ n2_ n3_ n4_; (try clear hb); (try clear hb2); (try clear hk); (try clear hi))); obtain ⟨Ao34, co34, eo34⟩ := Kd.R_slice HO371.out; subst eo34; obtain ⟨Ao35, co35, eo35⟩ := Kd.R_slice HO375.out; subst eo35) | ((first | ((with_reducible refine gate_callee (f := 24) rfl ?_); (refine gate_guard (by rfl) ?_; dsimp only); refine goesL_ (some 64) rfl rfl Tryd.func24 (by kernel_rfl) rfl #[.slice A0 l0.length c0, .int .u64 a1] rfl (by (try simp only [List.map_toArray, List.map_cons, List.map_nil]); first | done | rfl | (simp only [List.length_drop, List.length_take]; rfl)) ?_; (with_reducible refine (reach_Total.calls kj4 _ _ l0 a1 false _ ?side1 ?side2 A22.out).mono ?_); (case side1 => repeat (first | exact (Kd.C_below HR0.out HB.out) | (with_reducible refine Kd.C_alloc ?_ _) | (with_reducible refine Kd.C_drewN ?_ _) | (with_reducible refine Kd.C_drew ?_))); (case side2 => exact HC0.out); rintro e w36 ⟨rfl, hb⟩; refine ⟨_, rfl, ?_⟩; have n0_ := Aside0.mk (Kd.R_below (by (with_reducible repeat (first | apply Kd.R_alloc | apply Kd.R_drewN | apply Kd.R_drew)); exact HO371.out) hb); have n1_ := Aside0.mk (Kd.R_below (by (with_reducible repeat (first | apply Kd.R_alloc | apply Kd.R_drewN | apply Kd.R_drew)); exact HO375.out) hb); have n2_ := Aside0.mk (Kd.R_below (by (with_reducible repeat (first | apply Kd.R_alloc | apply Kd.R_drewN | apply Kd.R_drew)); exact HO378.out) hb); have n3_ := Aside0.mk (Kd.R_below (by (with_reducible repeat (first | apply Kd.R_alloc | apply Kd.R_drewN | apply Kd.R_drew)); exact HO381.out) hb); have n4_ := Aside0.mk (below_step (by repeat (first | (with_reducible first | exact HB.out | apply below_alloc | apply pw_below_drewN | apply below_drew1) | exact HB.out)) hb); clear HO371; clear HO375; clear HO378; clear HO381; clear HB; have HO371 := n0_; have HO375 := n1_; have HO378 := n2_; have HO381 := n3_; have HB := n4_; clear n0_ n1_ n2_ n3_ n4_; (try clear hb); (try clear hb2); (try clear hk); (try clear hi)) | (go_at_call 24; (with_reducible refine (reach_Total.calls kj4 _ _ l0 a1 false _ ?side1 ?side2 A22.out).mono ?_); (case side1 => repeat (first | exact (Kd.C_below HR0.out HB.out) | (with_reducible refine Kd.C_alloc ?_ _) | (with_reducible refine Kd.C_drewN ?_ _) | (with_reducible refine Kd.C_drew ?_))); (case side2 => exact HC0.out); rintro e w36 ⟨rfl, hb⟩; have n0_ := Aside0.mk (Kd.R_below (by (with_reducible repeat (first | apply Kd.R_alloc | apply Kd.R_drewN | apply Kd.R_drew)); exact HO371.out) hb); have n1_ := Aside0.mk (Kd.R_below (by (with_reducible repeat (first | apply Kd.R_alloc | apply Kd.R_drewN | apply Kd.R_drew)); exact HO375.out) hb); have n2_ := Aside0.mk (Kd.R_below (by (with_reducible repeat (first | apply Kd.R_alloc | apply Kd.R_drewN | apply Kd.R_drew)); exact HO378.out) hb); have n3_ := Aside0.mk (Kd.R_below (by (with_reducible repeat (first | apply Kd.R_alloc | apply Kd.R_drewN | apply Kd.R_drew)); exact HO381.out) hb); have n4_ := Aside0.mk (below_step (by repeat (first | (with_reducible first | exact HB.out | apply below_alloc | apply pw_below_drewN | apply below_drew1) | exact HB.out)) hb); clear HO371; clear HO375; clear HO378; clear HO381; clear HB; have HO371 := n0_; have HO375 := n1_; have HO378 := n2_; have HO381 := n3_; have HB := n4_; clear n0_ n1_ n2_ n3_ n4_; (try clear hb); (try clear hb2); (try clear hk); (try clear hi)))) | ((first | ((with_reducible refine gate_callee (f := 25) rfl ?_); (refine gate_guard (by rfl) ?_; dsimp only); refine goesL_ (some 70) rfl rfl Tryd.func25 (by kernel_rfl) rfl #[.slice A0 l0.length c0, .int .u64 a1] rfl (by (try simp only [List.map_toArray, List.map_cons, List.map_nil]); first | done | rfl | (simp only [List.length_drop, List.length_take]; rfl)) ?_; (with_reducible refine (reach_Down.calls kj4 _ _ l0 a1 t384 _ ?side1 ?side2 A24.out).mono ?_); (case side1 => repeat (first | exact (Kd.C_below HR0.out HB.out) | (with_reducible refine Kd.C_alloc ?_ _) | (with_reducible refine Kd.C_drewN ?_ _) | (with_reducible refine Kd.C_drew ?_))); (case side2 => exact HC0.out); rintro e w37 ⟨rfl, hb⟩; refine ⟨_, rfl, ?_⟩; have n0_ := Aside0.mk (Kd.R_below (by (with_reducible repeat (first | apply Kd.R_alloc | apply Kd.R_drewN | apply Kd.R_drew)); exact HO371.out) hb); have n1_ := Aside0.mk (Kd.R_below (by (with_reducible repeat (first | apply Kd.R_alloc | apply Kd.R_drewN | apply Kd.R_drew)); exact HO375.out) hb); have n2_ := Aside0.mk (Kd.R_below (by (with_reducible repeat (first | apply Kd.R_alloc | apply Kd.R_drewN | apply Kd.R_drew)); exact HO378.out) hb); have n3_ := Aside0.mk (Kd.R_below (by (with_reducible repeat (first | apply Kd.R_alloc | apply Kd.R_drewN | apply Kd.R_drew)); exact HO381.out) hb); have n4_ := Aside0.mk (below_step (by repeat (first | (with_reducible first | exact HB.out | apply below_alloc | apply pw_below_drewN | apply below_drew1) | exact HB.out)) hb); clear HO371; clear HO375; clear HO378; clear HO381; clear HB; have HO371 := n0_; have HO375 := n1_; have HO378 := n2_; have HO381 := n3_; have HB := n4_; clear n0_ n1_ n2_ n3_ n4_; (try clear hb); (try clear hb2); (try clear hk); (try clear hi)) | (go_at_call 25; (with_reducible refine (reach_Down.calls kj4 _ _ l0 a1 t384 _ ?side1 ?side2 A24.out).mono ?_); (case side1 => repeat (first | exact (Kd.C_below HR0.out HB.out) | (with_reducible refine Kd.C_alloc ?_ _) | (with_reducible refine Kd.C_drewN ?_ _) | (with_reducible refine Kd.C_drew ?_))); (case side2 => exact HC0.out); rintro e w37 ⟨rfl, hb⟩; have n0_ := Aside0.mk (Kd.R_below (by (with_reducible repeat (first | apply Kd.R_alloc | apply Kd.R_drewN | apply Kd.R_drew)); exact HO371.out) hb); have n1_ := Aside0.mk (Kd.R_below (by (with_reducible repeat (first | apply Kd.R_alloc | apply Kd.R_drewN | apply Kd.R_drew)); exact HO375.out) hb); have n2_ := Aside0.mk (Kd.R_below (by (with_reducible repeat (first | apply Kd.R_alloc | apply Kd.R_drewN | apply Kd.R_drew)); exact HO378.out) hb); have n3_ := Aside0.mk (Kd.R_below (by (with_reducible repeat (first | apply Kd.R_alloc | apply Kd.R_drewN | apply Kd.R_drew)); exact HO381.out) hb); have n4_ := Aside0.mk (below_step (by repeat (first | (with_reducible first | exact HB.out | apply below_alloc | apply pw_below_drewN | apply below_drew1) | exact HB.out)) hb); clear HO371; clear HO375; clear HO378; clear HO381; clear HB; have HO371 := n0_; have HO375 := n1_; have HO378 := n2_; have HO381 := n3_; have HB := n4_; clear n0_ n1_ n2_ n3_ n4_; (try clear hb); (try clear hb2); (try clear hk); (try clear hi)))) | ((first | ((with_reducible refine gate_callee (f := 26) rfl ?_); (refine gate_guard (by rfl) ?_; dsimp only); refine goesL_ (some 76) rfl rfl Tryd.func26 (by kernel_rfl) rfl #[.slice A0 l0.length c0, .int .u64 a1] rfl (by (try simp only [List.map_toArray, List.map_cons, List.map_nil]); first | done | rfl | (simp only [List.length_drop, List.length_take]; rfl)) ?_; (with_reducible refine (reach_Up.calls kj4 _ _ l0 a1 t385 _ ?side1 ?side2 A26.out).mono ?_); (case side1 => repeat (first | exact (Kd.C_below HR0.out HB.out) | (with_reducible refine Kd.C_alloc ?_ _) | (with_reducible refine Kd.C_drewN ?_ _) | (with_reducible refine Kd.C_drew ?_))); (case side2 => exact HC0.out); rintro e w38 ⟨rfl, hb⟩; refine ⟨_, rfl, ?_⟩; have n0_ := Aside0.mk (Kd.R_below (by (with_reducible repeat (first | apply Kd.R_alloc | apply Kd.R_drewN | apply Kd.R_drew)); exact HO371.out) hb); have n1_ := Aside0.mk (Kd.R_below (by (with_reducible repeat (first | apply Kd.R_alloc | apply Kd.R_drewN | apply Kd.R_drew)); exact HO375.out) hb); have n2_ := Aside0.mk (Kd.R_below (by (with_reducible repeat (first | apply Kd.R_alloc | apply Kd.R_drewN | apply Kd.R_drew)); exact HO378.out) hb); have n3_ := Aside0.mk (Kd.R_below (by (with_reducible repeat (first | apply Kd.R_alloc | apply Kd.R_drewN | apply Kd.R_drew)); exact HO381.out) hb); have n4_ := Aside0.mk (below_step (by repeat (first | (with_reducible first | exact HB.out | apply below_alloc | apply pw_below_drewN | apply below_drew1) | exact HB.out)) hb); clear HO371; clear HO375; clear HO378; clear HO381; clear HB; have HO371 := n0_; have HO375 := n1_; have HO378 := n2_; have HO381 := n3_; have HB := n4_; clear n0_ n1_ n2_ n3_ n4_; (try clear hb); (try clear hb2); (try clear hk); (try clear hi)) | (go_at_call 26; (with_reducible refine (reach_Up.calls kj4 _ _ l0 a1 t385 _ ?side1 ?side2 A26.out).mono ?_); (case side1 => repeat (first | exact (Kd.C_below HR0.out HB.out) | (with_reducible refine Kd.C_alloc ?_ _) | (with_reducible refine Kd.C_drewN ?_ _) | (with_reducible refine Kd.C_drew ?_))); (case side2 => exact HC0.out); rintro e w38 ⟨rfl, hb⟩; have n0_ := Aside0.mk (Kd.R_below (by (with_reducible repeat (first | apply Kd.R_alloc | apply Kd.R_drewN | apply Kd.R_drew)); exact HO371.out) hb); have n1_ := Aside0.mk (Kd.R_below (by (with_reducible repeat (first | apply Kd.R_alloc | apply Kd.R_drewN | apply Kd.R_drew)); exact HO375.out) hb); have n2_ := Aside0.mk (Kd.R_below (by (with_reducible repeat (first | apply Kd.R_alloc | apply Kd.R_drewN | apply Kd.R_drew)); exact HO378.out) hb); have n3_ := Aside0.mk (Kd.R_below (by (with_reducible repeat (first | apply Kd.R_alloc | apply Kd.R_drewN | apply Kd.R_drew)); exact HO381.out) hb); have n4_ := Aside0.mk (below_step (by repeat (first | (with_reducible first | exact HB.out | apply below_alloc | apply pw_below_drewN | apply below_drew1) | exact HB.out)) hb); clear HO371; clear HO375; clear HO378; clear HO381; clear HB; have HO371 := n0_; have HO375 := n1_; have HO378 := n2_; have HO381 := n3_; have HB := n4_; clear n0_ n1_ n2_ n3_ n4_; (try clear hb); (try clear hb2); (try clear hk); (try clear hi)))))
                            go_ret
                            exact ⟨by first | rfl | (simp [errW_none, errW_some] <;> rfl) | (simp [*, errW_none, errW_some] <;> rfl), by repeat (first | (with_reducible first | exact HB.out | apply below_alloc | apply pw_below_drewN | apply below_drew1) | exact HB.out)⟩
                          · rw [if_neg c25] at H
                            exact absurd H (by simp)
                      · rw [if_neg c21] at H
                        exact absurd H (by simp)
                  · rw [if_neg c19] at H
                    exact absurd H (by simp)
            · rw [if_neg c15] at H
              exact absurd H (by simp)
          · rw [if_neg c13] at H
            exact absurd H (by simp)
  · replace c4 := Bool.eq_false_iff.mpr c4
    subst c4
    have H1 : (none) = some r := by rw [if_neg (show ¬ (false = true) by decide)] at H; exact H
    clear H
    have H := H1
    clear H1
    exact absurd H (by simp)

/-- THE ONE PURE STATEMENT of withelaw3_ReachAny: yours. -/
def withelaw3_ReachAny.Pure : Prop := ∀ (l0 : List Int) (a1 : Int), l0.length ≤ maxLen → l0.length * 8 ≤ 140737488351232 → (∀ x ∈ l0, (Lit.int .u64 x).wf = true) → (Lit.int .u64 a1).wf = true → ∃ k, withelaw3_ReachAny.f k l0 a1 = some true
theorem withelaw3_ReachAny.walk (P : withelaw3_ReachAny.Pure) (a0 : Option Addr) (len0 cap0 : Nat) (z0 : List Int) (a1 : Int) (w : World) (hG : GOk w) (w0 : (a0 = none ∧ len0 = 0 ∧ cap0 = 0 ∧ z0 = []) ∨ ∃ x, a0 = some x ∧ len0 ≤ cap0 ∧ cap0 ≤ maxLen ∧ z0.length = cap0 ∧ (∀ i, i < z0.length → w.cell? (x.add i) = some (.int .u64 (z0.getD i 0))) ∧ ∀ n ∈ z0, (Lit.int .u64 n).wf = true) (y0 : len0 * 8 ≤ 140737488351232) (w1 : (Lit.int .u64 a1).wf = true) :
    Calls Tryd.prog 4 #[.slice a0 len0 cap0, .int .u64 a1] w fun e w' => e = .returned (.bool true) ∧ Below w.heap.size w w' := by
  obtain ⟨l0, rfl, hr0, hm0, hw0, hc0⟩ := ReadsInt.ofRowC w0
  have HG := Aside0.mk hG
  obtain ⟨k, h⟩ := P l0 a1 hm0 y0 hw0 w1
  refine (withelaw3_ReachAny.calls k _ _ l0 a1 true w (Kd.C_of_reads (d := (0 : Int)) (h1 := fun _ => rfl) hr0) hc0 h).mono ?_
  rintro e w' ⟨rfl, hd⟩
  exact ⟨rfl, hd⟩

end Go.Proofs.YtniimgbkbghbkaaDoor.PH
