-- made by fvprint.py over the kit's print
import Derived.Test.YtcehnbneiabaaaaDoorPRx0
import Derived.Test.YtcehnbneiabaaaaDoorPRx2
import Derived.Test.YtcehnbneiabaaaaDoorPRx12
import Derived.Test.YtcehnbneiabaaaaDoorPRx14
import Derived.Test.YtcehnbneiabaaaaDoorPRx20
import Derived.Test.YtcehnbneiabaaaaDoorPRx23
namespace Go.Proofs.YtcehnbneiabaaaaDoor.PR
open Go.RowKit Go.Proofs.YtcehnbneiabaaaaDoorW.PrintWords Go.Proofs.YtcehnbneiabaaaaDoorW.PrintLast Go.Proofs.YtcehnbneiabaaaaDoorW.PrintMore
attribute [local go_sem] max2_int min2_int max_two min_two max_three min_three max_four min_four   -- for this text's walks alone
set_option linter.unusedVariables false
set_option linter.unusedSimpArgs false

attribute [local go_sem] cell_set_some
/-! ### withelaw2_RelThen: function 5 -/
def withelaw2_RelThen.j0 : Nat → List Int → List Int → Int → List Int → List Int → Bool → Option (Bool)
  | 0, _, _, _, _, _, _ => none
  | k + 1, x0, x1, x2, x3, x4, x32 => if x32 = true then (some true) else ((withelaw2_some.f k x0 x2).bind fun t570 => ((withelaw2_some.f k x1 x2).bind fun t573 => ((rel_Then.f k t570 t573).bind fun t576 => ((witheref1_Then.f k t570 t573).bind fun t579 => ((witheref1_SameRel.f k t576 t579).bind fun t582 => (if t582 = true then ((rel_Then.f k x3 x4).bind fun t583 => ((witheref1_Then.f k x3 x4).bind fun t586 => ((witheref1_SameRel.f k t583 t586).bind fun t589 => (some t589)))) else (none)))))))
def withelaw2_RelThen.f (k : Nat) (l0 : List Int) (l1 : List Int) (a2 : Int) (l3 : List Int) (l4 : List Int) : Option (Bool) := (withelaw2_begun.f k).bind fun t569 => (if t569 = true then (if (l0.length : Int) > 60 then (withelaw2_RelThen.j0 k l0 l1 a2 l3 l4 true) else (if (l1.length : Int) > 60 then (withelaw2_RelThen.j0 k l0 l1 a2 l3 l4 true) else (if (l3.length : Int) > 8 then (withelaw2_RelThen.j0 k l0 l1 a2 l3 l4 true) else (withelaw2_RelThen.j0 k l0 l1 a2 l3 l4 (decide ((l4.length : Int) > 8)))))) else (none))
theorem withelaw2_RelThen.mono_l : ∀ k, (∀ y0 y1 y2 y3 y4 y5, LeO (withelaw2_RelThen.j0 k y0 y1 y2 y3 y4 y5) (withelaw2_RelThen.j0 (k + 1) y0 y1 y2 y3 y4 y5))
  | 0 => fun _ _ _ _ _ _ r h => by simp [withelaw2_RelThen.j0] at h
  | k + 1 => by
    have ih0 := withelaw2_RelThen.mono_l k
    · intro y0 y1 y2 y3 y4 y5
      unfold withelaw2_RelThen.j0
      repeat' first
      | (with_reducible exact ih0 _ _ _ _ _ _)
      | (with_reducible exact rel_Then.mono _ _ _)
      | (with_reducible exact withelaw2_begun.mono _)
      | (with_reducible exact withelaw2_some.mono _ _ _)
      | (with_reducible exact witheref1_SameRel.mono _ _ _)
      | (with_reducible exact witheref1_Then.mono _ _ _)
      | (with_reducible exact LeO.refl _)
      | (with_reducible exact LeO.none _)
      | (with_reducible refine LeO.ite ?_ ?_)
      | (with_reducible refine LeO.bind ?_ (fun _ => ?_))
      | exact ih0 _ _ _ _ _ _
      | exact rel_Then.mono _ _ _
      | exact withelaw2_begun.mono _
      | exact withelaw2_some.mono _ _ _
      | exact witheref1_SameRel.mono _ _ _
      | exact witheref1_Then.mono _ _ _
      | exact LeO.none _
      | refine LeO.ite ?_ ?_
      | refine LeO.bind ?_ (fun _ => ?_)
theorem withelaw2_RelThen.mono : ∀ a0 a1 a2 a3 a4 k, LeO (withelaw2_RelThen.f k a0 a1 a2 a3 a4) (withelaw2_RelThen.f (k + 1) a0 a1 a2 a3 a4) := by
  intro a0 a1 a2 a3 a4 k
  have ih0 := withelaw2_RelThen.mono_l k
  unfold withelaw2_RelThen.f
  repeat' first
      | (with_reducible exact ih0 _ _ _ _ _ _)
      | (with_reducible exact rel_Then.mono _ _ _)
      | (with_reducible exact withelaw2_begun.mono _)
      | (with_reducible exact withelaw2_some.mono _ _ _)
      | (with_reducible exact witheref1_SameRel.mono _ _ _)
      | (with_reducible exact witheref1_Then.mono _ _ _)
      | (with_reducible exact LeO.refl _)
      | (with_reducible exact LeO.none _)
      | (with_reducible refine LeO.ite ?_ ?_)
      | (with_reducible refine LeO.bind ?_ (fun _ => ?_))
      | exact ih0 _ _ _ _ _ _
      | exact rel_Then.mono _ _ _
      | exact withelaw2_begun.mono _
      | exact withelaw2_some.mono _ _ _
      | exact witheref1_SameRel.mono _ _ _
      | exact witheref1_Then.mono _ _ _
      | exact LeO.none _
      | refine LeO.ite ?_ ?_
      | refine LeO.bind ?_ (fun _ => ?_)
set_option maxHeartbeats 8000000 in
set_option maxRecDepth 100000 in
theorem withelaw2_RelThen.calls (k : Nat) (A0 : Option Addr) (c0 : Nat) (l0 : List Int) (A1 : Option Addr) (c1 : Nat) (l1 : List Int) (a2 : Int) (A3 : Option Addr) (c3 : Nat) (l3 : List Int) (A4 : Option Addr) (c4 : Nat) (l4 : List Int) (r : Bool) (w : World) (hr0 : Kd.C (Kd.int .u8) w A0 l0.length l0) (hc0 : l0.length ≤ c0) (hr1 : Kd.C (Kd.int .u8) w A1 l1.length l1) (hc1 : l1.length ≤ c1) (hr3 : Kd.C (Kd.int .u64) w A3 l3.length l3) (hc3 : l3.length ≤ c3) (hr4 : Kd.C (Kd.int .u64) w A4 l4.length l4) (hc4 : l4.length ≤ c4) (h : withelaw2_RelThen.f k l0 l1 a2 l3 l4 = some r) (hG : GOk w := by first | exact Aside0.out (by assumption) | exact GOk.le (Aside0.out (by assumption)) (by repeat (first | exact Aside0.out (by assumption) | exact Below.refl _ _ | apply below_alloc | apply pw_below_drewN | apply below_drew1 | refine below_set ?_ (Aside0.out (by assumption))))) :
    Calls Tryd.prog 5 #[.slice A0 l0.length c0, .slice A1 l1.length c1, .int .u8 a2, .slice A3 l3.length c3, .slice A4 l4.length c4] w fun e w' => e = .returned (.bool r) ∧ Below w.heap.size w w' := by
  have HR0 := Aside0.mk hr0
  have HC0 := Aside0.mk hc0
  clear hr0 hc0
  have HR1 := Aside0.mk hr1
  have HC1 := Aside0.mk hc1
  clear hr1 hc1
  have HR3 := Aside0.mk hr3
  have HC3 := Aside0.mk hc3
  clear hr3 hc3
  have HR4 := Aside0.mk hr4
  have HC4 := Aside0.mk hc4
  clear hr4 hc4
  have HB := Aside0.mk (Below.refl w.heap.size w)
  have H : ((withelaw2_begun.f k).bind fun t569 => (if t569 = true then (if (l0.length : Int) > 60 then (withelaw2_RelThen.j0 k l0 l1 a2 l3 l4 true) else (if (l1.length : Int) > 60 then (withelaw2_RelThen.j0 k l0 l1 a2 l3 l4 true) else (if (l3.length : Int) > 8 then (withelaw2_RelThen.j0 k l0 l1 a2 l3 l4 true) else (withelaw2_RelThen.j0 k l0 l1 a2 l3 l4 (decide ((l4.length : Int) > 8)))))) else (none))) = some r := h
  clear h
  have HG := Aside0.mk hG
  clear hG
  replace H := Option.bind_eq_some_iff.mp H
  obtain ⟨t569, A60, H⟩ := H
  replace H : (if t569 = true then (if (l0.length : Int) > 60 then (withelaw2_RelThen.j0 k l0 l1 a2 l3 l4 true) else (if (l1.length : Int) > 60 then (withelaw2_RelThen.j0 k l0 l1 a2 l3 l4 true) else (if (l3.length : Int) > 8 then (withelaw2_RelThen.j0 k l0 l1 a2 l3 l4 true) else (withelaw2_RelThen.j0 k l0 l1 a2 l3 l4 (decide ((l4.length : Int) > 8)))))) else (none)) = some r := H
  have A6 := Aside0.mk A60
  clear A60
  by_cases c7 : t569 = true
  · subst c7
    have H1 : (if (l0.length : Int) > 60 then (withelaw2_RelThen.j0 k l0 l1 a2 l3 l4 true) else (if (l1.length : Int) > 60 then (withelaw2_RelThen.j0 k l0 l1 a2 l3 l4 true) else (if (l3.length : Int) > 8 then (withelaw2_RelThen.j0 k l0 l1 a2 l3 l4 true) else (withelaw2_RelThen.j0 k l0 l1 a2 l3 l4 (decide ((l4.length : Int) > 8)))))) = some r := by rw [if_pos rfl] at H; exact H
    clear H
    have H := H1
    clear H1
    have HC8 := Aside0.mk H
    clear H
    go_enter Tryd.func5, Tryd.ntmps5
    go_upto_region 3 with (first | ((with_reducible refine gate_callee (f := 8) rfl ?_); refine goesL_ (some 13) rfl rfl Tryd.func8 (by kernel_rfl) rfl #[] rfl (by (try simp only [List.map_toArray, List.map_cons, List.map_nil]); first | done | rfl | (simp only [List.length_drop, List.length_take]; rfl)) ?_; (with_reducible refine (withelaw2_begun.calls k  true _ A6.out).mono ?_); rintro e w9 ⟨rfl, hb⟩; refine ⟨_, rfl, ?_⟩; have n0_ := Aside0.mk (below_step (by repeat (first | (with_reducible first | exact HB.out | apply below_alloc | apply pw_below_drewN | apply below_drew1) | exact HB.out)) hb); clear HB; have HB := n0_; clear n0_; (try clear hb); (try clear hb2); (try clear hk); (try clear hi)))
    (try simp only [Act.put, List.setIfInBounds_toArray, List.set_cons_zero, List.set_cons_succ])
    go_cut [32] (fun v32 wc => ∃ (kq : Nat) (x32_7 : Bool), v32 = .bool x32_7 ∧ Aside0 (withelaw2_RelThen.j0 kq l0 l1 a2 l3 l4 x32_7 = some r) ∧ Aside0 (kq ≤ k) ∧ Aside0 (Below w.heap.size w wc))
    case first =>
      have H := HC8.out
      clear HC8
      by_cases c10 : (l0.length : Int) > 60
      · rw [if_pos c10] at H
        have c10b0 : decide (60 < (l0.length : Int)) = true := decide_eq_true c10
        have c10b1 : decide (60 < l0.length) = true := decide_eq_true (by omega)
        clear c10
        (first | rw [c10b0] | (simp only [i64_w, i32_w]; rw [c10b0]) | skip)
        have H' := Aside0.mk H
        clear H
        go_wp2
        go_meet
        case rel => exact ⟨_, (true), (by first | rfl | (simp; done) | (simp [*]; done)), H', ⟨by first | omega | exact Nat.le_refl _⟩, ⟨by repeat (first | (with_reducible first | exact HB.out | apply below_alloc | apply pw_below_drewN | apply below_drew1) | exact HB.out)⟩⟩
      · rw [if_neg c10] at H
        have c10b0 : decide (60 < (l0.length : Int)) = false := decide_eq_false c10
        have c10b1 : decide (60 < l0.length) = false := decide_eq_false (by omega)
        clear c10
        (first | rw [c10b0] | (simp only [i64_w, i32_w]; rw [c10b0]) | skip)
        by_cases c11 : (l1.length : Int) > 60
        · rw [if_pos c11] at H
          have c11b0 : decide (60 < (l1.length : Int)) = true := decide_eq_true c11
          have c11b1 : decide (60 < l1.length) = true := decide_eq_true (by omega)
          clear c11
          have H' := Aside0.mk H
          clear H
          go_wp2
          go_meet
          case rel => exact ⟨_, (true), (by first | rfl | (simp; done) | (simp [*]; done)), H', ⟨by first | omega | exact Nat.le_refl _⟩, ⟨by repeat (first | (with_reducible first | exact HB.out | apply below_alloc | apply pw_below_drewN | apply below_drew1) | exact HB.out)⟩⟩
        · rw [if_neg c11] at H
          have c11b0 : decide (60 < (l1.length : Int)) = false := decide_eq_false c11
          have c11b1 : decide (60 < l1.length) = false := decide_eq_false (by omega)
          clear c11
          by_cases c12 : (l3.length : Int) > 8
          · rw [if_pos c12] at H
            have c12b0 : decide (8 < (l3.length : Int)) = true := decide_eq_true c12
            have c12b1 : decide (8 < l3.length) = true := decide_eq_true (by omega)
            clear c12
            have H' := Aside0.mk H
            clear H
            go_wp2
            go_meet
            case rel => exact ⟨_, (true), (by first | rfl | (simp; done) | (simp [*]; done)), H', ⟨by first | omega | exact Nat.le_refl _⟩, ⟨by repeat (first | (with_reducible first | exact HB.out | apply below_alloc | apply pw_below_drewN | apply below_drew1) | exact HB.out)⟩⟩
          · rw [if_neg c12] at H
            have c12b0 : decide (8 < (l3.length : Int)) = false := decide_eq_false c12
            have c12b1 : decide (8 < l3.length) = false := decide_eq_false (by omega)
            clear c12
            have H' := Aside0.mk H
            clear H
            go_wp2
            go_meet
            case rel => exact ⟨_, (decide ((l4.length : Int) > 8)), (by first | rfl | (simp; done) | (simp [*]; done)), H', ⟨by first | omega | exact Nat.le_refl _⟩, ⟨by repeat (first | (with_reducible first | exact HB.out | apply below_alloc | apply pw_below_drewN | apply below_drew1) | exact HB.out)⟩⟩
    case rest =>
      clear HC8
      try clear c1
      try clear p2
      try clear c3
      try clear c4
      try clear c5
      try clear c7
      try clear c8
      try clear c10
      try clear c10b0
      try clear c10b1
      try clear c11
      try clear c11b0
      try clear c11b1
      try clear c12
      try clear c12b0
      try clear c12b1
      obtain ⟨kq, x32_7, rfl, HA, HJ7, HB⟩ := hcut
      cases kq with
      | zero => exact absurd HA.out (by simp [withelaw2_RelThen.j0])
      | succ kj7 =>
        have H := HA.out
        clear HA
        simp only [withelaw2_RelThen.j0] at H
        by_cases c13 : x32_7 = true
        · subst c13
          have H1 : (some true) = some r := by rw [if_pos rfl] at H; exact H
          clear H
          have H := H1
          clear H1
          obtain rfl := Option.some.inj H
          go_wp2
          go_ret
          exact ⟨by first | rfl | (simp [errW_none, errW_some] <;> rfl) | (simp [*, errW_none, errW_some] <;> rfl), by repeat (first | (with_reducible first | exact HB.out | apply below_alloc | apply pw_below_drewN | apply below_drew1) | exact HB.out)⟩
        · replace c13 := Bool.eq_false_iff.mpr c13
          subst c13
          have H1 : ((withelaw2_some.f kj7 l0 a2).bind fun t570 => ((withelaw2_some.f kj7 l1 a2).bind fun t573 => ((rel_Then.f kj7 t570 t573).bind fun t576 => ((witheref1_Then.f kj7 t570 t573).bind fun t579 => ((witheref1_SameRel.f kj7 t576 t579).bind fun t582 => (if t582 = true then ((rel_Then.f kj7 l3 l4).bind fun t583 => ((witheref1_Then.f kj7 l3 l4).bind fun t586 => ((witheref1_SameRel.f kj7 t583 t586).bind fun t589 => (some t589)))) else (none))))))) = some r := by rw [if_neg (show ¬ (false = true) by decide)] at H; exact H
          clear H
          have H := H1
          clear H1
          replace H := Option.bind_eq_some_iff.mp H
          obtain ⟨t570, A140, H⟩ := H
          replace H : ((withelaw2_some.f kj7 l1 a2).bind fun t573 => ((rel_Then.f kj7 t570 t573).bind fun t576 => ((witheref1_Then.f kj7 t570 t573).bind fun t579 => ((witheref1_SameRel.f kj7 t576 t579).bind fun t582 => (if t582 = true then ((rel_Then.f kj7 l3 l4).bind fun t583 => ((witheref1_Then.f kj7 l3 l4).bind fun t586 => ((witheref1_SameRel.f kj7 t583 t586).bind fun t589 => (some t589)))) else (none)))))) = some r := H
          have A14 := Aside0.mk A140
          clear A140
          replace H := Option.bind_eq_some_iff.mp H
          obtain ⟨t573, A150, H⟩ := H
          replace H : ((rel_Then.f kj7 t570 t573).bind fun t576 => ((witheref1_Then.f kj7 t570 t573).bind fun t579 => ((witheref1_SameRel.f kj7 t576 t579).bind fun t582 => (if t582 = true then ((rel_Then.f kj7 l3 l4).bind fun t583 => ((witheref1_Then.f kj7 l3 l4).bind fun t586 => ((witheref1_SameRel.f kj7 t583 t586).bind fun t589 => (some t589)))) else (none))))) = some r := H
          have A15 := Aside0.mk A150
          clear A150
          replace H := Option.bind_eq_some_iff.mp H
          obtain ⟨t576, A160, H⟩ := H
          replace H : ((witheref1_Then.f kj7 t570 t573).bind fun t579 => ((witheref1_SameRel.f kj7 t576 t579).bind fun t582 => (if t582 = true then ((rel_Then.f kj7 l3 l4).bind fun t583 => ((witheref1_Then.f kj7 l3 l4).bind fun t586 => ((witheref1_SameRel.f kj7 t583 t586).bind fun t589 => (some t589)))) else (none)))) = some r := H
          have A16 := Aside0.mk A160
          clear A160
          replace H := Option.bind_eq_some_iff.mp H
          obtain ⟨t579, A170, H⟩ := H
          replace H : ((witheref1_SameRel.f kj7 t576 t579).bind fun t582 => (if t582 = true then ((rel_Then.f kj7 l3 l4).bind fun t583 => ((witheref1_Then.f kj7 l3 l4).bind fun t586 => ((witheref1_SameRel.f kj7 t583 t586).bind fun t589 => (some t589)))) else (none))) = some r := H
          have A17 := Aside0.mk A170
          clear A170
          replace H := Option.bind_eq_some_iff.mp H
          obtain ⟨t582, A180, H⟩ := H
          replace H : (if t582 = true then ((rel_Then.f kj7 l3 l4).bind fun t583 => ((witheref1_Then.f kj7 l3 l4).bind fun t586 => ((witheref1_SameRel.f kj7 t583 t586).bind fun t589 => (some t589)))) else (none)) = some r := H
          have A18 := Aside0.mk A180
          clear A180
          by_cases c19 : t582 = true
          · subst c19
            have H1 : ((rel_Then.f kj7 l3 l4).bind fun t583 => ((witheref1_Then.f kj7 l3 l4).bind fun t586 => ((witheref1_SameRel.f kj7 t583 t586).bind fun t589 => (some t589)))) = some r := by rw [if_pos rfl] at H; exact H
            clear H
            have H := H1
            clear H1
            replace H := Option.bind_eq_some_iff.mp H
            obtain ⟨t583, A200, H⟩ := H
            replace H : ((witheref1_Then.f kj7 l3 l4).bind fun t586 => ((witheref1_SameRel.f kj7 t583 t586).bind fun t589 => (some t589))) = some r := H
            have A20 := Aside0.mk A200
            clear A200
            replace H := Option.bind_eq_some_iff.mp H
            obtain ⟨t586, A210, H⟩ := H
            replace H : ((witheref1_SameRel.f kj7 t583 t586).bind fun t589 => (some t589)) = some r := H
            have A21 := Aside0.mk A210
            clear A210
            replace H := Option.bind_eq_some_iff.mp H
            obtain ⟨t589, A220, H⟩ := H
            replace H : (some t589) = some r := H
            have A22 := Aside0.mk A220
            clear A220
            obtain rfl := Option.some.inj H
            go_wp2_with (first | ((with_reducible refine gate_callee (f := 31) rfl ?_); refine goesL_ (some 35) rfl rfl Tryd.func31 (by kernel_rfl) rfl #[.slice A0 l0.length c0, .int .u8 a2] rfl (by (try simp only [List.map_toArray, List.map_cons, List.map_nil]); first | done | rfl | (simp only [List.length_drop, List.length_take]; rfl)) ?_; (with_reducible refine (withelaw2_some.calls kj7 _ _ l0 a2 t570 _ ?side1 ?side2 A14.out).mono ?_); (case side1 => repeat (first | exact (Kd.C_below HR0.out HB.out) | (with_reducible refine Kd.C_alloc ?_ _) | (with_reducible refine Kd.C_drewN ?_ _) | (with_reducible refine Kd.C_drew ?_))); (case side2 => exact HC0.out); rintro e w23 ⟨v571, rfl, ho0, hb⟩; refine ⟨_, rfl, ?_⟩; have n0_ := Aside0.mk (Kd.R_lower ho0 (below_size (by repeat (first | (with_reducible first | exact HB.out | apply below_alloc | apply pw_below_drewN | apply below_drew1) | exact HB.out)))); have n1_ := Aside0.mk (below_step (by repeat (first | (with_reducible first | exact HB.out | apply below_alloc | apply pw_below_drewN | apply below_drew1) | exact HB.out)) hb); clear HB; have HO572 := n0_; have HB := n1_; clear n0_ n1_; (try clear hb); (try clear hb2); (try clear hk); (try clear hi); (try clear ho0)) | ((with_reducible refine gate_callee (f := 31) rfl ?_); refine goesL_ (some 38) rfl rfl Tryd.func31 (by kernel_rfl) rfl #[.slice A1 l1.length c1, .int .u8 a2] rfl (by (try simp only [List.map_toArray, List.map_cons, List.map_nil]); first | done | rfl | (simp only [List.length_drop, List.length_take]; rfl)) ?_; (with_reducible refine (withelaw2_some.calls kj7 _ _ l1 a2 t573 _ ?side1 ?side2 A15.out).mono ?_); (case side1 => repeat (first | exact (Kd.C_below HR1.out HB.out) | (with_reducible refine Kd.C_alloc ?_ _) | (with_reducible refine Kd.C_drewN ?_ _) | (with_reducible refine Kd.C_drew ?_))); (case side2 => exact HC1.out); rintro e w24 ⟨v574, rfl, ho0, hb⟩; refine ⟨_, rfl, ?_⟩; have n0_ := Aside0.mk (Kd.R_elder' (by (with_reducible repeat (first | apply Kd.R_alloc | apply Kd.R_drewN | apply Kd.R_drew)); exact HO572.out) (Kd.R_base ho0) hb); have n1_ := Aside0.mk (Kd.R_lower (Kd.R_new' ho0 (Kd.R_lt (by (with_reducible repeat (first | apply Kd.R_alloc | apply Kd.R_drewN | apply Kd.R_drew)); exact HO572.out))) (below_size (by repeat (first | (with_reducible first | exact HB.out | apply below_alloc | apply pw_below_drewN | apply below_drew1) | exact HB.out)))); have n2_ := Aside0.mk (below_step (by repeat (first | (with_reducible first | exact HB.out | apply below_alloc | apply pw_below_drewN | apply below_drew1) | exact HB.out)) hb); clear HO572; clear HB; have HO572 := n0_; have HO575 := n1_; have HB := n2_; clear n0_ n1_ n2_; (try clear hb); (try clear hb2); (try clear hk); (try clear hi); (try clear ho0); obtain ⟨Ao25, co25, eo25⟩ := Kd.R_slice HO572.out; subst eo25; obtain ⟨Ao26, co26, eo26⟩ := Kd.R_slice HO575.out; subst eo26) | ((with_reducible refine gate_callee (f := 32) rfl ?_); refine goesL_ (some 41) rfl rfl Tryd.func32 (by kernel_rfl) rfl #[.slice Ao25 t570.length co25, .slice Ao26 t573.length co26] rfl (by (try simp only [List.map_toArray, List.map_cons, List.map_nil]); first | done | rfl | (simp only [List.length_drop, List.length_take]; rfl)) ?_; (with_reducible refine (rel_Then.calls kj7 _ _ t570 _ _ t573 t576 _ ?side1 ?side2 ?side3 ?side4 A16.out).mono ?_); (case side1 => repeat (first | exact (Kd.R_reads' HO572.out).2.2 | (with_reducible refine Kd.C_alloc ?_ _) | (with_reducible refine Kd.C_drewN ?_ _) | (with_reducible refine Kd.C_drew ?_))); (case side2 => exact (Kd.R_reads' HO572.out).2.1); (case side3 => repeat (first | exact (Kd.R_reads' HO575.out).2.2 | (with_reducible refine Kd.C_alloc ?_ _) | (with_reducible refine Kd.C_drewN ?_ _) | (with_reducible refine Kd.C_drew ?_))); (case side4 => exact (Kd.R_reads' HO575.out).2.1); rintro e w27 ⟨v577, rfl, ho0, hb⟩; refine ⟨_, rfl, ?_⟩; have n0_ := Aside0.mk (Kd.R_elder' (by (with_reducible repeat (first | apply Kd.R_alloc | apply Kd.R_drewN | apply Kd.R_drew)); exact HO572.out) (Kd.R_base ho0) hb); have n1_ := Aside0.mk (Kd.R_elder' (by (with_reducible repeat (first | apply Kd.R_alloc | apply Kd.R_drewN | apply Kd.R_drew)); exact HO575.out) (Kd.R_base ho0) hb); have n2_ := Aside0.mk (Kd.R_lower (Kd.R_new' (Kd.R_new' ho0 (Kd.R_lt (by (with_reducible repeat (first | apply Kd.R_alloc | apply Kd.R_drewN | apply Kd.R_drew)); exact HO572.out))) (Kd.R_lt (by (with_reducible repeat (first | apply Kd.R_alloc | apply Kd.R_drewN | apply Kd.R_drew)); exact HO575.out))) (below_size (by repeat (first | (with_reducible first | exact HB.out | apply below_alloc | apply pw_below_drewN | apply below_drew1) | exact HB.out)))); have n3_ := Aside0.mk (below_step (by repeat (first | (with_reducible first | exact HB.out | apply below_alloc | apply pw_below_drewN | apply below_drew1) | exact HB.out)) hb); clear HO572; clear HO575; clear HB; have HO572 := n0_; have HO575 := n1_; have HO578 := n2_; have HB := n3_; clear n0_ n1_ n2_ n3_; (try clear hb); (try clear hb2); (try clear hk); (try clear hi); (try clear ho0)) | ((with_reducible refine gate_callee (f := 33) rfl ?_); refine goesL_ (some 44) rfl rfl Tryd.func33 (by kernel_rfl) rfl #[.slice Ao25 t570.length co25, .slice Ao26 t573.length co26] rfl (by (try simp only [List.map_toArray, List.map_cons, List.map_nil]); first | done | rfl | (simp only [List.length_drop, List.length_take]; rfl)) ?_; (with_reducible refine (witheref1_Then.calls kj7 _ _ t570 _ _ t573 t579 _ ?side1 ?side2 ?side3 ?side4 A17.out).mono ?_); (case side1 => repeat (first | exact (Kd.R_reads' HO572.out).2.2 | (with_reducible refine Kd.C_alloc ?_ _) | (with_reducible refine Kd.C_drewN ?_ _) | (with_reducible refine Kd.C_drew ?_))); (case side2 => exact (Kd.R_reads' HO572.out).2.1); (case side3 => repeat (first | exact (Kd.R_reads' HO575.out).2.2 | (with_reducible refine Kd.C_alloc ?_ _) | (with_reducible refine Kd.C_drewN ?_ _) | (with_reducible refine Kd.C_drew ?_))); (case side4 => exact (Kd.R_reads' HO575.out).2.1); rintro e w28 ⟨v580, rfl, ho0, hb⟩; refine ⟨_, rfl, ?_⟩; have n0_ := Aside0.mk (Kd.R_elder' (by (with_reducible repeat (first | apply Kd.R_alloc | apply Kd.R_drewN | apply Kd.R_drew)); exact HO572.out) (Kd.R_base ho0) hb); have n1_ := Aside0.mk (Kd.R_elder' (by (with_reducible repeat (first | apply Kd.R_alloc | apply Kd.R_drewN | apply Kd.R_drew)); exact HO575.out) (Kd.R_base ho0) hb); have n2_ := Aside0.mk (Kd.R_elder' (by (with_reducible repeat (first | apply Kd.R_alloc | apply Kd.R_drewN | apply Kd.R_drew)); exact HO578.out) (Kd.R_base ho0) hb); have n3_ := Aside0.mk (Kd.R_lower (Kd.R_new' (Kd.R_new' (Kd.R_new' ho0 (Kd.R_lt (by (with_reducible repeat (first | apply Kd.R_alloc | apply Kd.R_drewN | apply Kd.R_drew)); exact HO572.out))) (Kd.R_lt (by (with_reducible repeat (first | apply Kd.R_alloc | apply Kd.R_drewN | apply Kd.R_drew)); exact HO575.out))) (Kd.R_lt (by (with_reducible repeat (first | apply Kd.R_alloc | apply Kd.R_drewN | apply Kd.R_drew)); exact HO578.out))) (below_size (by repeat (first | (with_reducible first | exact HB.out | apply below_alloc | apply pw_below_drewN | apply below_drew1) | exact HB.out)))); have n4_ := Aside0.mk (below_step (by repeat (first | (with_reducible first | exact HB.out | apply below_alloc | apply pw_below_drewN | apply below_drew1) | exact HB.out)) hb); clear HO572; clear HO575; clear HO578; clear HB; have HO572 := n0_; have HO575 := n1_; have HO578 := n2_; have HO581 := n3_; have HB := n4_; clear n0_ n1_ n2_ n3_ n4_; (try clear hb); (try clear hb2); (try clear hk); (try clear hi); (try clear ho0); obtain ⟨Ao29, co29, eo29⟩ := Kd.R_slice HO578.out; subst eo29; obtain ⟨Ao30, co30, eo30⟩ := Kd.R_slice HO581.out; subst eo30) | ((with_reducible refine gate_callee (f := 19) rfl ?_); refine goesL_ (some 45) rfl rfl Tryd.func19 (by kernel_rfl) rfl #[.slice Ao29 t576.length co29, .slice Ao30 t579.length co30] rfl (by (try simp only [List.map_toArray, List.map_cons, List.map_nil]); first | done | rfl | (simp only [List.length_drop, List.length_take]; rfl)) ?_; (with_reducible refine (witheref1_SameRel.calls kj7 _ _ t576 _ _ t579 true _ ?side1 ?side2 ?side3 ?side4 A18.out).mono ?_); (case side1 => repeat (first | exact (Kd.R_reads' HO578.out).2.2 | (with_reducible refine Kd.C_alloc ?_ _) | (with_reducible refine Kd.C_drewN ?_ _) | (with_reducible refine Kd.C_drew ?_))); (case side2 => exact (Kd.R_reads' HO578.out).2.1); (case side3 => repeat (first | exact (Kd.R_reads' HO581.out).2.2 | (with_reducible refine Kd.C_alloc ?_ _) | (with_reducible refine Kd.C_drewN ?_ _) | (with_reducible refine Kd.C_drew ?_))); (case side4 => exact (Kd.R_reads' HO581.out).2.1); rintro e w' ⟨rfl, ⟨nd, rfl⟩⟩; refine ⟨_, rfl, ?_⟩) | ((first | ((with_reducible refine gate_callee (f := 32) rfl ?_); (refine gate_guard (by rfl) ?_; dsimp only); refine goesL_ (some 49) rfl rfl Tryd.func32 (by kernel_rfl) rfl #[.slice A3 l3.length c3, .slice A4 l4.length c4] rfl (by (try simp only [List.map_toArray, List.map_cons, List.map_nil]); first | done | rfl | (simp only [List.length_drop, List.length_take]; rfl)) ?_; (with_reducible refine (rel_Then.calls kj7 _ _ l3 _ _ l4 t583 _ ?side1 ?side2 ?side3 ?side4 A20.out).mono ?_); (case side1 => repeat (first | exact (Kd.C_below HR3.out (by repeat (first | (with_reducible first | exact HB.out | apply below_alloc | apply pw_below_drewN | apply below_drew1) | exact HB.out))) | (with_reducible refine Kd.C_alloc ?_ _) | (with_reducible refine Kd.C_drewN ?_ _) | (with_reducible refine Kd.C_drew ?_))); (case side2 => exact HC3.out); (case side3 => repeat (first | exact (Kd.C_below HR4.out (by repeat (first | (with_reducible first | exact HB.out | apply below_alloc | apply pw_below_drewN | apply below_drew1) | exact HB.out))) | (with_reducible refine Kd.C_alloc ?_ _) | (with_reducible refine Kd.C_drewN ?_ _) | (with_reducible refine Kd.C_drew ?_))); (case side4 => exact HC4.out); rintro e w31 ⟨v584, rfl, ho0, hb⟩; refine ⟨_, rfl, ?_⟩; have n0_ := Aside0.mk (Kd.R_elder' (by (with_reducible repeat (first | apply Kd.R_alloc | apply Kd.R_drewN | apply Kd.R_drew)); exact HO572.out) (Kd.R_base ho0) hb); have n1_ := Aside0.mk (Kd.R_elder' (by (with_reducible repeat (first | apply Kd.R_alloc | apply Kd.R_drewN | apply Kd.R_drew)); exact HO575.out) (Kd.R_base ho0) hb); have n2_ := Aside0.mk (Kd.R_elder' (by (with_reducible repeat (first | apply Kd.R_alloc | apply Kd.R_drewN | apply Kd.R_drew)); exact HO578.out) (Kd.R_base ho0) hb); have n3_ := Aside0.mk (Kd.R_elder' (by (with_reducible repeat (first | apply Kd.R_alloc | apply Kd.R_drewN | apply Kd.R_drew)); exact HO581.out) (Kd.R_base ho0) hb); have n4_ := Aside0.mk (Kd.R_lower (Kd.R_new' (Kd.R_new' (Kd.R_new' (Kd.R_new' ho0 (Kd.R_lt (by (with_reducible repeat (first | apply Kd.R_alloc | apply Kd.R_drewN | apply Kd.R_drew)); exact HO572.out))) (Kd.R_lt (by (with_reducible repeat (first | apply Kd.R_alloc | apply Kd.R_drewN | apply Kd.R_drew)); exact HO575.out))) (Kd.R_lt (by (with_reducible repeat (first | apply Kd.R_alloc | apply Kd.R_drewN | apply Kd.R_drew)); exact HO578.out))) (Kd.R_lt (by (with_reducible repeat (first | apply Kd.R_alloc | apply Kd.R_drewN | apply Kd.R_drew)); exact HO581.out))) (below_size (by repeat (first | (with_reducible first | exact HB.out | apply below_alloc | apply pw_below_drewN | apply below_drew1) | exact HB.out)))); have n5_ := Aside0.mk (below_step (by repeat (first | (with_reducible first | exact HB.out | apply below_alloc | apply pw_below_drewN | apply below_drew1) | exact HB.out)) hb); clear HO572; clear HO575; clear HO578; clear HO581; clear HB; have HO572 := n0_; have HO575 := n1_; have HO578 := n2_; have HO581 := n3_; have HO585 := n4_; have HB := n5_; clear n0_ n1_ n2_ n3_ n4_ n5_; (try clear hb); (try clear hb2); (try clear hk); (try clear hi); (try clear ho0)) | (go_at_call 32; (with_reducible refine (rel_Then.calls kj7 _ _ l3 _ _ l4 t583 _ ?side1 ?side2 ?side3 ?side4 A20.out).mono ?_); (case side1 => repeat (first | exact (Kd.C_below HR3.out (by repeat (first | (with_reducible first | exact HB.out | apply below_alloc | apply pw_below_drewN | apply below_drew1) | exact HB.out))) | (with_reducible refine Kd.C_alloc ?_ _) | (with_reducible refine Kd.C_drewN ?_ _) | (with_reducible refine Kd.C_drew ?_))); (case side2 => exact HC3.out); (case side3 => repeat (first | exact (Kd.C_below HR4.out (by repeat (first | (with_reducible first | exact HB.out | apply below_alloc | apply pw_below_drewN | apply below_drew1) | exact HB.out))) | (with_reducible refine Kd.C_alloc ?_ _) | (with_reducible refine Kd.C_drewN ?_ _) | (with_reducible refine Kd.C_drew ?_))); (case side4 => exact HC4.out); rintro e w31 ⟨v584, rfl, ho0, hb⟩; have n0_ := Aside0.mk (Kd.R_elder' (by (with_reducible repeat (first | apply Kd.R_alloc | apply Kd.R_drewN | apply Kd.R_drew)); exact HO572.out) (Kd.R_base ho0) hb); have n1_ := Aside0.mk (Kd.R_elder' (by (with_reducible repeat (first | apply Kd.R_alloc | apply Kd.R_drewN | apply Kd.R_drew)); exact HO575.out) (Kd.R_base ho0) hb); have n2_ := Aside0.mk (Kd.R_elder' (by (with_reducible repeat (first | apply Kd.R_alloc | apply Kd.R_drewN | apply Kd.R_drew)); exact HO578.out) (Kd.R_base ho0) hb); have n3_ := Aside0.mk (Kd.R_elder' (by (with_reducible repeat (first | apply Kd.R_alloc | apply Kd.R_drewN | apply Kd.R_drew)); exact HO581.out) (Kd.R_base ho0) hb); have n4_ := Aside0.mk (Kd.R_lower (Kd.R_new' (Kd.R_new' (Kd.R_new' (Kd.R_new' ho0 (Kd.R_lt (by (with_reducible repeat (first | apply Kd.R_alloc | apply Kd.R_drewN | apply Kd.R_drew)); exact HO572.out))) (Kd.R_lt (by (with_reducible repeat (first | apply Kd.R_alloc | apply Kd.R_drewN | apply Kd.R_drew)); exact HO575.out))) (Kd.R_lt (by (with_reducible repeat (first | apply Kd.R_alloc | apply Kd.R_drewN | apply Kd.R_drew)); exact HO578.out))) (Kd.R_lt (by (with_reducible repeat (first | apply Kd.R_alloc | apply Kd.R_drewN | apply Kd.R_drew)); exact HO581.out))) (below_size (by repeat (first | (with_reducible first | exact HB.out | apply below_alloc | apply pw_below_drewN | apply below_drew1) | exact HB.out)))); have n5_ := Aside0.mk (below_step (by repeat (first | (with_reducible first | exact HB.out | apply below_alloc | apply pw_below_drewN | apply below_drew1) | exact HB.out)) hb); clear HO572; clear HO575; clear HO578; clear HO581; clear HB; have HO572 := n0_; have HO575 := n1_; have HO578 := n2_; have HO581 := n3_; have HO585 := n4_; have HB := n5_; clear n0_ n1_ n2_ n3_ n4_ n5_; (try clear hb); (try clear hb2); (try clear hk); (try clear hi); (try clear ho0)))) | ((first | ((with_reducible refine gate_callee (f := 33) rfl ?_); (refine gate_guard (by rfl) ?_; dsimp only); refine goesL_ (some 52) rfl rfl Tryd.func33 (by kernel_rfl) rfl #[.slice A3 l3.length c3, .slice A4 l4.length c4] rfl (by (try simp only [List.map_toArray, List.map_cons, List.map_nil]); first | done | rfl | (simp only [List.length_drop, List.length_take]; rfl)) ?_; (with_reducible refine (witheref1_Then.calls kj7 _ _ l3 _ _ l4 t586 _ ?side1 ?side2 ?side3 ?side4 A21.out).mono ?_); (case side1 => repeat (first | exact (Kd.C_below HR3.out HB.out) | (with_reducible refine Kd.C_alloc ?_ _) | (with_reducible refine Kd.C_drewN ?_ _) | (with_reducible refine Kd.C_drew ?_))); (case side2 => exact HC3.out); (case side3 => repeat (first | exact (Kd.C_below HR4.out HB.out) | (with_reducible refine Kd.C_alloc ?_ _) | (with_reducible refine Kd.C_drewN ?_ _) | (with_reducible refine Kd.C_drew ?_))); (case side4 => exact HC4.out); rintro e w32 ⟨v587, rfl, ho0, hb⟩; refine ⟨_, rfl, ?_⟩; have n0_ := Aside0.mk (Kd.R_elder' (by (with_reducible repeat (first | apply Kd.R_alloc | apply Kd.R_drewN | apply Kd.R_drew)); exact HO572.out) (Kd.R_base ho0) hb); have n1_ := Aside0.mk (Kd.R_elder' (by (with_reducible repeat (first | apply Kd.R_alloc | apply Kd.R_drewN | apply Kd.R_drew)); exact HO575.out) (Kd.R_base ho0) hb); have n2_ := Aside0.mk (Kd.R_elder' (by (with_reducible repeat (first | apply Kd.R_alloc | apply Kd.R_drewN | apply Kd.R_drew)); exact HO578.out) (Kd.R_base ho0) hb); have n3_ := Aside0.mk (Kd.R_elder' (by (with_reducible repeat (first | apply Kd.R_alloc | apply Kd.R_drewN | apply Kd.R_drew)); exact HO581.out) (Kd.R_base ho0) hb); have n4_ := Aside0.mk (Kd.R_elder' (by (with_reducible repeat (first | apply Kd.R_alloc | apply Kd.R_drewN | apply Kd.R_drew)); exact HO585.out) (Kd.R_base ho0) hb); have n5_ := Aside0.mk (Kd.R_lower (Kd.R_new' (Kd.R_new' (Kd.R_new' (Kd.R_new' (Kd.R_new' ho0 (Kd.R_lt (by (with_reducible repeat (first | apply Kd.R_alloc | apply Kd.R_drewN | apply Kd.R_drew)); exact HO572.out))) (Kd.R_lt (by (with_reducible repeat (first | apply Kd.R_alloc | apply Kd.R_drewN | apply Kd.R_drew)); exact HO575.out))) (Kd.R_lt (by (with_reducible repeat (first | apply Kd.R_alloc | apply Kd.R_drewN | apply Kd.R_drew)); exact HO578.out))) (Kd.R_lt (by (with_reducible repeat (first | apply Kd.R_alloc | apply Kd.R_drewN | apply Kd.R_drew)); exact HO581.out))) (Kd.R_lt (by (with_reducible repeat (first | apply Kd.R_alloc | apply Kd.R_drewN | apply Kd.R_drew)); exact HO585.out))) (below_size (by repeat (first | (with_reducible first | exact HB.out | apply below_alloc | apply pw_below_drewN | apply below_drew1) | exact HB.out)))); have n6_ := Aside0.mk (below_step (by repeat (first | (with_reducible first | exact HB.out | apply below_alloc | apply pw_below_drewN | apply below_drew1) | exact HB.out)) hb); clear HO572; clear HO575; clear HO578; clear HO581; clear HO585; clear HB; have HO572 := n0_; have HO575 := n1_; have HO578 := n2_; have HO581 := n3_; have HO585 := n4_; have HO588 := n5_; have HB := n6_; clear n0_ n1_ n2_ n3_ n4_ n5_ n6_; (try clear hb); (try clear hb2); (try clear hk); (try clear hi); (try clear ho0)) | (go_at_call 33; (with_reducible refine (witheref1_Then.calls kj7 _ _ l3 _ _ l4 t586 _ ?side1 ?side2 ?side3 ?side4 A21.out).mono ?_); (case side1 => repeat (first | exact (Kd.C_below HR3.out HB.out) | (with_reducible refine Kd.C_alloc ?_ _) | (with_reducible refine Kd.C_drewN ?_ _) | (with_reducible refine Kd.C_drew ?_))); (case side2 => exact HC3.out); (case side3 => repeat (first | exact (Kd.C_below HR4.out HB.out) | (with_reducible refine Kd.C_alloc ?_ _) | (with_reducible refine Kd.C_drewN ?_ _) | (with_reducible refine Kd.C_drew ?_))); (case side4 => exact HC4.out); rintro e w32 ⟨v587, rfl, ho0, hb⟩; have n0_ := Aside0.mk (Kd.R_elder' (by (with_reducible repeat (first | apply Kd.R_alloc | apply Kd.R_drewN | apply Kd.R_drew)); exact HO572.out) (Kd.R_base ho0) hb); have n1_ := Aside0.mk (Kd.R_elder' (by (with_reducible repeat (first | apply Kd.R_alloc | apply Kd.R_drewN | apply Kd.R_drew)); exact HO575.out) (Kd.R_base ho0) hb); have n2_ := Aside0.mk (Kd.R_elder' (by (with_reducible repeat (first | apply Kd.R_alloc | apply Kd.R_drewN | apply Kd.R_drew)); exact HO578.out) (Kd.R_base ho0) hb); have n3_ := Aside0.mk (Kd.R_elder' (by (with_reducible repeat (first | apply Kd.R_alloc | apply Kd.R_drewN | apply Kd.R_drew)); exact HO581.out) (Kd.R_base ho0) hb); have n4_ := Aside0.mk (Kd.R_elder' (by (with_reducible repeat (first | apply Kd.R_alloc | apply Kd.R_drewN | apply Kd.R_drew)); exact HO585.out) (Kd.R_base ho0) hb); have n5_ := Aside0.mk (Kd.R_lower (Kd.R_new' (Kd.R_new' (Kd.R_new' (Kd.R_new' (Kd.R_new' ho0 (Kd.R_lt (by (with_reducible repeat (first | apply Kd.R_alloc | apply Kd.R_drewN | apply Kd.R_drew)); exact HO572.out))) (Kd.R_lt (by (with_reducible repeat (first | apply Kd.R_alloc | apply Kd.R_drewN | apply Kd.R_drew)); exact HO575.out))) (Kd.R_lt (by (with_reducible repeat (first | apply Kd.R_alloc | apply Kd.R_drewN | apply Kd.R_drew)); exact HO578.out))) (Kd.R_lt (by (with_reducible repeat (first | apply Kd.R_alloc | apply Kd.R_drewN | apply Kd.R_drew)); exact HO581.out))) (Kd.R_lt (by (with_reducible repeat (first | apply Kd.R_alloc | apply Kd.R_drewN | apply Kd.R_drew)); exact HO585.out))) (below_size (by repeat (first | (with_reducible first | exact HB.out | apply below_alloc | apply pw_below_drewN | apply below_drew1) | exact HB.out)))); have n6_ := Aside0.mk (below_step (by repeat (first | (with_reducible first | exact HB.out | apply below_alloc | apply pw_below_drewN | apply below_drew1) | exact HB.out)) hb); clear HO572; clear HO575; clear HO578; clear HO581; clear HO585; clear HB; have HO572 := n0_; have HO575 := n1_; have HO578 := n2_; have HO581 := n3_; have HO585 := n4_; have HO588 := n5_; have HB := n6_; clear n0_ n1_ n2_ n3_ n4_ n5_ n6_; (try clear hb); (try clear hb2); (try clear hk); (try clear hi); (try clear ho0))); obtain ⟨Ao33, co33, eo33⟩ := Kd.R_slice HO585.out; subst eo33; obtain ⟨Ao34, co34, eo34⟩ := Kd.R_slice HO588.out; subst eo34) | ((first | ((with_reducible refine gate_callee (f := 19) rfl ?_); (refine gate_guard (by rfl) ?_; dsimp only); refine goesL_ (some 53) rfl rfl Tryd.func19 (by kernel_rfl) rfl #[.slice Ao33 t583.length co33, .slice Ao34 t586.length co34] rfl (by (try simp only [List.map_toArray, List.map_cons, List.map_nil]); first | done | rfl | (simp only [List.length_drop, List.length_take]; rfl)) ?_; (with_reducible refine (witheref1_SameRel.calls kj7 _ _ t583 _ _ t586 t589 _ ?side1 ?side2 ?side3 ?side4 A22.out).mono ?_); (case side1 => repeat (first | exact (Kd.R_reads' HO585.out).2.2 | (with_reducible refine Kd.C_alloc ?_ _) | (with_reducible refine Kd.C_drewN ?_ _) | (with_reducible refine Kd.C_drew ?_))); (case side2 => exact (Kd.R_reads' HO585.out).2.1); (case side3 => repeat (first | exact (Kd.R_reads' HO588.out).2.2 | (with_reducible refine Kd.C_alloc ?_ _) | (with_reducible refine Kd.C_drewN ?_ _) | (with_reducible refine Kd.C_drew ?_))); (case side4 => exact (Kd.R_reads' HO588.out).2.1); rintro e w' ⟨rfl, ⟨nd, rfl⟩⟩; refine ⟨_, rfl, ?_⟩) | (go_at_call 19; (with_reducible refine (witheref1_SameRel.calls kj7 _ _ t583 _ _ t586 t589 _ ?side1 ?side2 ?side3 ?side4 A22.out).mono ?_); (case side1 => repeat (first | exact (Kd.R_reads' HO585.out).2.2 | (with_reducible refine Kd.C_alloc ?_ _) | (with_reducible refine Kd.C_drewN ?_ _) | (with_reducible refine Kd.C_drew ?_))); (case side2 => exact (Kd.R_reads' HO585.out).2.1); (case side3 => repeat (first | exact (Kd.R_reads' HO588.out).2.2 | (with_reducible refine Kd.C_alloc ?_ _) | (with_reducible refine Kd.C_drewN ?_ _) | (with_reducible refine Kd.C_drew ?_))); (case side4 => exact (Kd.R_reads' HO588.out).2.1); rintro e w' ⟨rfl, ⟨nd, rfl⟩⟩))))
            go_ret
            exact ⟨by first | rfl | (simp [errW_none, errW_some] <;> rfl) | (simp [*, errW_none, errW_some] <;> rfl), by repeat (first | (with_reducible first | exact HB.out | apply below_alloc | apply pw_below_drewN | apply below_drew1) | exact HB.out)⟩
          · replace c19 := Bool.eq_false_iff.mpr c19
            subst c19
            have H1 : (none) = some r := by rw [if_neg (show ¬ (false = true) by decide)] at H; exact H
            clear H
            have H := H1
            clear H1
            exact absurd H (by simp)
  · replace c7 := Bool.eq_false_iff.mpr c7
    subst c7
    have H1 : (none) = some r := by rw [if_neg (show ¬ (false = true) by decide)] at H; exact H
    clear H
    have H := H1
    clear H1
    exact absurd H (by simp)

/-- THE ONE PURE STATEMENT of withelaw2_RelThen: yours. -/
def withelaw2_RelThen.Pure : Prop := ∀ (l0 : List Int) (l1 : List Int) (a2 : Int) (l3 : List Int) (l4 : List Int), l0.length ≤ maxLen → l0.length * 1 ≤ 140737488351232 → (∀ x ∈ l0, (Lit.int .u8 x).wf = true) → l1.length ≤ maxLen → l1.length * 1 ≤ 140737488351232 → (∀ x ∈ l1, (Lit.int .u8 x).wf = true) → (Lit.int .u8 a2).wf = true → l3.length ≤ maxLen → l3.length * 8 ≤ 140737488351232 → (∀ x ∈ l3, (Lit.int .u64 x).wf = true) → l4.length ≤ maxLen → l4.length * 8 ≤ 140737488351232 → (∀ x ∈ l4, (Lit.int .u64 x).wf = true) → ∃ k, withelaw2_RelThen.f k l0 l1 a2 l3 l4 = some true
theorem withelaw2_RelThen.walk (P : withelaw2_RelThen.Pure) (a0 : Option Addr) (len0 cap0 : Nat) (z0 : List Int) (a1 : Option Addr) (len1 cap1 : Nat) (z1 : List Int) (a2 : Int) (a3 : Option Addr) (len3 cap3 : Nat) (z3 : List Int) (a4 : Option Addr) (len4 cap4 : Nat) (z4 : List Int) (w : World) (hG : GOk w) (w0 : (a0 = none ∧ len0 = 0 ∧ cap0 = 0 ∧ z0 = []) ∨ ∃ x, a0 = some x ∧ len0 ≤ cap0 ∧ cap0 ≤ maxLen ∧ z0.length = cap0 ∧ (∀ i, i < z0.length → w.cell? (x.add i) = some (.int .u8 (z0.getD i 0))) ∧ ∀ n ∈ z0, (Lit.int .u8 n).wf = true) (y0 : len0 * 1 ≤ 140737488351232) (w1 : (a1 = none ∧ len1 = 0 ∧ cap1 = 0 ∧ z1 = []) ∨ ∃ x, a1 = some x ∧ len1 ≤ cap1 ∧ cap1 ≤ maxLen ∧ z1.length = cap1 ∧ (∀ i, i < z1.length → w.cell? (x.add i) = some (.int .u8 (z1.getD i 0))) ∧ ∀ n ∈ z1, (Lit.int .u8 n).wf = true) (y1 : len1 * 1 ≤ 140737488351232) (w2 : (Lit.int .u8 a2).wf = true) (w3 : (a3 = none ∧ len3 = 0 ∧ cap3 = 0 ∧ z3 = []) ∨ ∃ x, a3 = some x ∧ len3 ≤ cap3 ∧ cap3 ≤ maxLen ∧ z3.length = cap3 ∧ (∀ i, i < z3.length → w.cell? (x.add i) = some (.int .u64 (z3.getD i 0))) ∧ ∀ n ∈ z3, (Lit.int .u64 n).wf = true) (y3 : len3 * 8 ≤ 140737488351232) (w4 : (a4 = none ∧ len4 = 0 ∧ cap4 = 0 ∧ z4 = []) ∨ ∃ x, a4 = some x ∧ len4 ≤ cap4 ∧ cap4 ≤ maxLen ∧ z4.length = cap4 ∧ (∀ i, i < z4.length → w.cell? (x.add i) = some (.int .u64 (z4.getD i 0))) ∧ ∀ n ∈ z4, (Lit.int .u64 n).wf = true) (y4 : len4 * 8 ≤ 140737488351232) :
    Calls Tryd.prog 5 #[.slice a0 len0 cap0, .slice a1 len1 cap1, .int .u8 a2, .slice a3 len3 cap3, .slice a4 len4 cap4] w fun e w' => e = .returned (.bool true) ∧ Below w.heap.size w w' := by
  obtain ⟨l0, rfl, hr0, hm0, hw0, hc0⟩ := ReadsInt.ofRowC w0
  obtain ⟨l1, rfl, hr1, hm1, hw1, hc1⟩ := ReadsInt.ofRowC w1
  obtain ⟨l3, rfl, hr3, hm3, hw3, hc3⟩ := ReadsInt.ofRowC w3
  obtain ⟨l4, rfl, hr4, hm4, hw4, hc4⟩ := ReadsInt.ofRowC w4
  have HG := Aside0.mk hG
  obtain ⟨k, h⟩ := P l0 l1 a2 l3 l4 hm0 y0 hw0 hm1 y1 hw1 w2 hm3 y3 hw3 hm4 y4 hw4
  refine (withelaw2_RelThen.calls k _ _ l0 _ _ l1 a2 _ _ l3 _ _ l4 true w (Kd.C_of_reads (d := (0 : Int)) (h1 := fun _ => rfl) hr0) hc0 (Kd.C_of_reads (d := (0 : Int)) (h1 := fun _ => rfl) hr1) hc1 (Kd.C_of_reads (d := (0 : Int)) (h1 := fun _ => rfl) hr3) hc3 (Kd.C_of_reads (d := (0 : Int)) (h1 := fun _ => rfl) hr4) hc4 h).mono ?_
  rintro e w' ⟨rfl, hd⟩
  exact ⟨rfl, hd⟩

end Go.Proofs.YtcehnbneiabaaaaDoor.PR
