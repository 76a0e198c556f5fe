-- made by fvprint.py over the kit's print
import Derived.Test.YtcehnbneiabaaaaDoorPRx0
import Derived.Test.YtcehnbneiabaaaaDoorPRx13
import Derived.Test.YtcehnbneiabaaaaDoorPRx14
namespace Go.Proofs.YtcehnbneiabaaaaDoor.PR
open Go.RowKit Go.Proofs.YtcehnbneiabaaaaDoorW.PrintWords Go.Proofs.YtcehnbneiabaaaaDoorW.PrintLast Go.Proofs.YtcehnbneiabaaaaDoorW.PrintMore
attribute [local go_sem] max2_int min2_int max_two min_two max_three min_three max_four min_four   -- for this text's walks alone
set_option linter.unusedVariables false
set_option linter.unusedSimpArgs false

attribute [local go_sem] cell_set_some
/-! ### witheref1_Two: function 22 -/
mutual
def witheref1_Two.j0 : Nat → List Int → List Int → Int → Bool → Option (List Int)
  | 0, _, _, _, _ => none
  | k + 1, x0, x1, x2, x26 => if x26 = true then (some ([] : List Int)) else (if 0 ≤ (x0.length : Int) then (if ((x0.length : Int) : Int).toNat ≤ 35184372088832 then (witheref1_Two.l0 k x0 x1 x2 (List.replicate ((x0.length : Int) : Int).toNat 0) 0) else (none)) else (none))
def witheref1_Two.l0 : Nat → List Int → List Int → Int → List Int → Int → Option (List Int)
  | 0, _, _, _, _, _ => none
  | k + 1, x0, x1, x2, x7, x8 => if x8 < (x0.length : Int) then (witheref1_Two.l1 k x0 x1 x2 x7 x8 0) else (some x7)
def witheref1_Two.l1 : Nat → List Int → List Int → Int → List Int → Int → Int → Option (List Int)
  | 0, _, _, _, _, _, _ => none
  | k + 1, x0, x1, x2, x7, x8, x9 => if x9 < (x0.length : Int) then ((witheref1_At.f x0 x8 x9).bind fun t307 => ((witheref1_At.f x1 x8 x9).bind fun t308 => (if x2 = 0 then (if t307 = true then (if t308 = true then (if 0 ≤ x8 then (if x8 < (x7.length : Int) then ((witheref1_Put.f k (rd x7 x8) x9).bind fun t310 => (witheref1_Two.l1 k x0 x1 x2 (x7.set (x8 : Int).toNat t310) x8 (wrap64 (x9 + 1)))) else (none)) else (none)) else (if x2 = 1 then (if 0 ≤ x8 then (if x8 < (x7.length : Int) then ((witheref1_Put.f k (rd x7 x8) x9).bind fun t313 => (witheref1_Two.l1 k x0 x1 x2 (x7.set (x8 : Int).toNat t313) x8 (wrap64 (x9 + 1)))) else (none)) else (none)) else (if x2 = 2 then (if 0 ≤ x8 then (if x8 < (x7.length : Int) then ((witheref1_Put.f k (rd x7 x8) x9).bind fun t316 => (witheref1_Two.l1 k x0 x1 x2 (x7.set (x8 : Int).toNat t316) x8 (wrap64 (x9 + 1)))) else (none)) else (none)) else (witheref1_Two.l1 k x0 x1 x2 x7 x8 (wrap64 (x9 + 1)))))) else (if x2 = 1 then (if t308 = true then (if 0 ≤ x8 then (if x8 < (x7.length : Int) then ((witheref1_Put.f k (rd x7 x8) x9).bind fun t319 => (witheref1_Two.l1 k x0 x1 x2 (x7.set (x8 : Int).toNat t319) x8 (wrap64 (x9 + 1)))) else (none)) else (none)) else (if x2 = 2 then (witheref1_Two.l1 k x0 x1 x2 x7 x8 (wrap64 (x9 + 1))) else (witheref1_Two.l1 k x0 x1 x2 x7 x8 (wrap64 (x9 + 1))))) else (if x2 = 2 then (witheref1_Two.l1 k x0 x1 x2 x7 x8 (wrap64 (x9 + 1))) else (witheref1_Two.l1 k x0 x1 x2 x7 x8 (wrap64 (x9 + 1)))))) else (if x2 = 1 then (if t307 = true then (if 0 ≤ x8 then (if x8 < (x7.length : Int) then ((witheref1_Put.f k (rd x7 x8) x9).bind fun t322 => (witheref1_Two.l1 k x0 x1 x2 (x7.set (x8 : Int).toNat t322) x8 (wrap64 (x9 + 1)))) else (none)) else (none)) else (if t308 = true then (if 0 ≤ x8 then (if x8 < (x7.length : Int) then ((witheref1_Put.f k (rd x7 x8) x9).bind fun t325 => (witheref1_Two.l1 k x0 x1 x2 (x7.set (x8 : Int).toNat t325) x8 (wrap64 (x9 + 1)))) else (none)) else (none)) else (if x2 = 2 then (witheref1_Two.l1 k x0 x1 x2 x7 x8 (wrap64 (x9 + 1))) else (witheref1_Two.l1 k x0 x1 x2 x7 x8 (wrap64 (x9 + 1)))))) else (if x2 = 2 then (if t307 = true then (if t308 = true then (witheref1_Two.l1 k x0 x1 x2 x7 x8 (wrap64 (x9 + 1))) else (if 0 ≤ x8 then (if x8 < (x7.length : Int) then ((witheref1_Put.f k (rd x7 x8) x9).bind fun t328 => (witheref1_Two.l1 k x0 x1 x2 (x7.set (x8 : Int).toNat t328) x8 (wrap64 (x9 + 1)))) else (none)) else (none))) else (witheref1_Two.l1 k x0 x1 x2 x7 x8 (wrap64 (x9 + 1)))) else (witheref1_Two.l1 k x0 x1 x2 x7 x8 (wrap64 (x9 + 1)))))))) else (witheref1_Two.l0 k x0 x1 x2 x7 (wrap64 (x8 + 1)))
end
def witheref1_Two.f (k : Nat) (l0 : List Int) (l1 : List Int) (a2 : Int) : Option (List Int) := (witheref1_May.f k l0).bind fun t302 => (if t302 = true then ((witheref1_May.f k l1).bind fun t303 => (if t303 = true then (witheref1_Two.j0 k l0 l1 a2 ((l0.length : Int) != (l1.length : Int))) else (witheref1_Two.j0 k l0 l1 a2 true))) else (witheref1_Two.j0 k l0 l1 a2 true))
theorem witheref1_Two.mono_l : ∀ k, (∀ y0 y1 y2 y3, LeO (witheref1_Two.j0 k y0 y1 y2 y3) (witheref1_Two.j0 (k + 1) y0 y1 y2 y3)) ∧ (∀ y0 y1 y2 y3 y4, LeO (witheref1_Two.l0 k y0 y1 y2 y3 y4) (witheref1_Two.l0 (k + 1) y0 y1 y2 y3 y4)) ∧ (∀ y0 y1 y2 y3 y4 y5, LeO (witheref1_Two.l1 k y0 y1 y2 y3 y4 y5) (witheref1_Two.l1 (k + 1) y0 y1 y2 y3 y4 y5))
  | 0 => ⟨fun _ _ _ _ r h => by simp [witheref1_Two.j0] at h, fun _ _ _ _ _ r h => by simp [witheref1_Two.l0] at h, fun _ _ _ _ _ _ r h => by simp [witheref1_Two.l1] at h⟩
  | k + 1 => by
    obtain ⟨ih0, ih1, ih2⟩ := witheref1_Two.mono_l k
    refine ⟨?_, ?_, ?_⟩
    · intro y0 y1 y2 y3
      unfold witheref1_Two.j0
      repeat' first
      | (with_reducible exact ih0 _ _ _ _)
      | (with_reducible exact ih1 _ _ _ _ _)
      | (with_reducible exact ih2 _ _ _ _ _ _)
      | (with_reducible exact witheref1_May.mono _ _)
      | (with_reducible exact witheref1_Put.mono _ _ _)
      | (with_reducible exact LeO.refl _)
      | (with_reducible exact LeO.none _)
      | (with_reducible refine LeO.ite ?_ ?_)
      | (with_reducible refine LeO.bind ?_ (fun _ => ?_))
      | exact ih0 _ _ _ _
      | exact ih1 _ _ _ _ _
      | exact ih2 _ _ _ _ _ _
      | exact witheref1_May.mono _ _
      | exact witheref1_Put.mono _ _ _
      | exact LeO.none _
      | refine LeO.ite ?_ ?_
      | refine LeO.bind ?_ (fun _ => ?_)
    · intro y0 y1 y2 y3 y4
      unfold witheref1_Two.l0
      repeat' first
      | (with_reducible exact ih0 _ _ _ _)
      | (with_reducible exact ih1 _ _ _ _ _)
      | (with_reducible exact ih2 _ _ _ _ _ _)
      | (with_reducible exact witheref1_May.mono _ _)
      | (with_reducible exact witheref1_Put.mono _ _ _)
      | (with_reducible exact LeO.refl _)
      | (with_reducible exact LeO.none _)
      | (with_reducible refine LeO.ite ?_ ?_)
      | (with_reducible refine LeO.bind ?_ (fun _ => ?_))
      | exact ih0 _ _ _ _
      | exact ih1 _ _ _ _ _
      | exact ih2 _ _ _ _ _ _
      | exact witheref1_May.mono _ _
      | exact witheref1_Put.mono _ _ _
      | exact LeO.none _
      | refine LeO.ite ?_ ?_
      | refine LeO.bind ?_ (fun _ => ?_)
    · intro y0 y1 y2 y3 y4 y5
      unfold witheref1_Two.l1
      repeat' first
      | (with_reducible exact ih0 _ _ _ _)
      | (with_reducible exact ih1 _ _ _ _ _)
      | (with_reducible exact ih2 _ _ _ _ _ _)
      | (with_reducible exact witheref1_May.mono _ _)
      | (with_reducible exact witheref1_Put.mono _ _ _)
      | (with_reducible exact LeO.refl _)
      | (with_reducible exact LeO.none _)
      | (with_reducible refine LeO.ite ?_ ?_)
      | (with_reducible refine LeO.bind ?_ (fun _ => ?_))
      | exact ih0 _ _ _ _
      | exact ih1 _ _ _ _ _
      | exact ih2 _ _ _ _ _ _
      | exact witheref1_May.mono _ _
      | exact witheref1_Put.mono _ _ _
      | exact LeO.none _
      | refine LeO.ite ?_ ?_
      | refine LeO.bind ?_ (fun _ => ?_)
theorem witheref1_Two.mono : ∀ a0 a1 a2 k, LeO (witheref1_Two.f k a0 a1 a2) (witheref1_Two.f (k + 1) a0 a1 a2) := by
  intro a0 a1 a2 k
  obtain ⟨ih0, ih1, ih2⟩ := witheref1_Two.mono_l k
  unfold witheref1_Two.f
  repeat' first
      | (with_reducible exact ih0 _ _ _ _)
      | (with_reducible exact ih1 _ _ _ _ _)
      | (with_reducible exact ih2 _ _ _ _ _ _)
      | (with_reducible exact witheref1_May.mono _ _)
      | (with_reducible exact witheref1_Put.mono _ _ _)
      | (with_reducible exact LeO.refl _)
      | (with_reducible exact LeO.none _)
      | (with_reducible refine LeO.ite ?_ ?_)
      | (with_reducible refine LeO.bind ?_ (fun _ => ?_))
      | exact ih0 _ _ _ _
      | exact ih1 _ _ _ _ _
      | exact ih2 _ _ _ _ _ _
      | exact witheref1_May.mono _ _
      | exact witheref1_Put.mono _ _ _
      | exact LeO.none _
      | refine LeO.ite ?_ ?_
      | refine LeO.bind ?_ (fun _ => ?_)
set_option maxHeartbeats 8000000 in
set_option maxRecDepth 100000 in
theorem witheref1_Two.calls (k : Nat) (A0 : Option Addr) (c0 : Nat) (l0 : List Int) (A1 : Option Addr) (c1 : Nat) (l1 : List Int) (a2 : Int) (r : List Int) (w : World) (hr0 : Kd.C (Kd.int .u64) w A0 l0.length l0) (hc0 : l0.length ≤ c0) (hr1 : Kd.C (Kd.int .u64) w A1 l1.length l1) (hc1 : l1.length ≤ c1) (h : witheref1_Two.f k l0 l1 a2 = some r) :
    Calls Tryd.prog 22 #[.slice A0 l0.length c0, .slice A1 l1.length c1, .int .i64 a2] w fun e w' => ∃ v0_ : Value, e = .returned (v0_) ∧ Kd.R (Kd.int .u64) 23 w' w.heap.size (fun _ => True) v0_ r ∧ Below w.heap.size w w' := by
  have HR0 := Aside0.mk hr0
  have HC0 := Aside0.mk hc0
  clear hr0 hc0
  have HR1 := Aside0.mk hr1
  have HC1 := Aside0.mk hc1
  clear hr1 hc1
  have HB := Aside0.mk (Below.refl w.heap.size w)
  have H : ((witheref1_May.f k l0).bind fun t302 => (if t302 = true then ((witheref1_May.f k l1).bind fun t303 => (if t303 = true then (witheref1_Two.j0 k l0 l1 a2 ((l0.length : Int) != (l1.length : Int))) else (witheref1_Two.j0 k l0 l1 a2 true))) else (witheref1_Two.j0 k l0 l1 a2 true))) = some r := h
  clear h
  have HC4 := Aside0.mk H
  clear H
  go_enter Tryd.func22, Tryd.ntmps22
  go_upto_region 1 with (fail)
  go_cut [26] (fun v26 wc => ∃ (kq : Nat) (x26_3 : Bool), v26 = .bool x26_3 ∧ Aside0 (witheref1_Two.j0 kq l0 l1 a2 x26_3 = some r) ∧ Aside0 (kq ≤ k) ∧ Aside0 (Below w.heap.size w wc))
  case first =>
    have H := HC4.out
    clear HC4
    replace H := Option.bind_eq_some_iff.mp H
    obtain ⟨t302, A50, H⟩ := H
    replace H : (if t302 = true then ((witheref1_May.f k l1).bind fun t303 => (if t303 = true then (witheref1_Two.j0 k l0 l1 a2 ((l0.length : Int) != (l1.length : Int))) else (witheref1_Two.j0 k l0 l1 a2 true))) else (witheref1_Two.j0 k l0 l1 a2 true)) = some r := H
    have A5 := Aside0.mk A50
    clear A50
    by_cases c6 : t302 = true
    · subst c6
      have H1 : ((witheref1_May.f k l1).bind fun t303 => (if t303 = true then (witheref1_Two.j0 k l0 l1 a2 ((l0.length : Int) != (l1.length : Int))) else (witheref1_Two.j0 k l0 l1 a2 true))) = some r := by rw [if_pos rfl] at H; exact H
      clear H
      have H := H1
      clear H1
      replace H := Option.bind_eq_some_iff.mp H
      obtain ⟨t303, A70, H⟩ := H
      replace H : (if t303 = true then (witheref1_Two.j0 k l0 l1 a2 ((l0.length : Int) != (l1.length : Int))) else (witheref1_Two.j0 k l0 l1 a2 true)) = some r := H
      have A7 := Aside0.mk A70
      clear A70
      by_cases c8 : t303 = true
      · subst c8
        have H1 : (witheref1_Two.j0 k l0 l1 a2 ((l0.length : Int) != (l1.length : Int))) = some r := by rw [if_pos rfl] at H; exact H
        clear H
        have H := H1
        clear H1
        have H' := Aside0.mk H
        clear H
        go_wp2_with (first | ((with_reducible refine gate_callee (f := 9) rfl ?_); refine goesL_ (some 13) rfl rfl Tryd.func9 (by kernel_rfl) rfl #[.slice A0 l0.length c0] rfl (by (try simp only [List.map_toArray, List.map_cons, List.map_nil]); first | done | rfl | (simp only [List.length_drop, List.length_take]; rfl)) ?_; (with_reducible refine (witheref1_May.calls k _ _ l0 true _ ?side1 ?side2 A5.out).mono ?_); (case side1 => repeat (first | exact (Kd.C_below HR0.out HB.out) | (with_reducible refine Kd.C_alloc ?_ _) | (with_reducible refine Kd.C_drewN ?_ _) | (with_reducible refine Kd.C_drew ?_))); (case side2 => exact HC0.out); rintro e w' ⟨rfl, ⟨nd, rfl⟩⟩; refine ⟨_, rfl, ?_⟩) | (go_at_call 9; (with_reducible refine (witheref1_May.calls k _ _ l1 true _ ?side1 ?side2 A7.out).mono ?_); (case side1 => repeat (first | exact (Kd.C_below HR1.out (by repeat (first | (with_reducible first | exact HB.out | apply below_alloc | apply pw_below_drewN | apply below_drew1) | exact HB.out))) | (with_reducible refine Kd.C_alloc ?_ _) | (with_reducible refine Kd.C_drewN ?_ _) | (with_reducible refine Kd.C_drew ?_))); (case side2 => exact HC1.out); rintro e w' ⟨rfl, ⟨nd, rfl⟩⟩))
        go_meet
        case rel => exact ⟨_, (((l0.length : Int) != (l1.length : Int))), (by first | rfl | (simp; done) | (simp [*]; done)), H', ⟨by first | omega | exact Nat.le_refl _⟩, ⟨by repeat (first | (with_reducible first | exact HB.out | apply below_alloc | apply pw_below_drewN | apply below_drew1) | exact HB.out)⟩⟩
      · replace c8 := Bool.eq_false_iff.mpr c8
        subst c8
        have H1 : (witheref1_Two.j0 k l0 l1 a2 true) = some r := by rw [if_neg (show ¬ (false = true) by decide)] at H; exact H
        clear H
        have H := H1
        clear H1
        have H' := Aside0.mk H
        clear H
        go_wp2_with (first | ((with_reducible refine gate_callee (f := 9) rfl ?_); refine goesL_ (some 13) rfl rfl Tryd.func9 (by kernel_rfl) rfl #[.slice A0 l0.length c0] rfl (by (try simp only [List.map_toArray, List.map_cons, List.map_nil]); first | done | rfl | (simp only [List.length_drop, List.length_take]; rfl)) ?_; (with_reducible refine (witheref1_May.calls k _ _ l0 true _ ?side1 ?side2 A5.out).mono ?_); (case side1 => repeat (first | exact (Kd.C_below HR0.out HB.out) | (with_reducible refine Kd.C_alloc ?_ _) | (with_reducible refine Kd.C_drewN ?_ _) | (with_reducible refine Kd.C_drew ?_))); (case side2 => exact HC0.out); rintro e w' ⟨rfl, ⟨nd, rfl⟩⟩; refine ⟨_, rfl, ?_⟩) | (go_at_call 9; (with_reducible refine (witheref1_May.calls k _ _ l1 false _ ?side1 ?side2 A7.out).mono ?_); (case side1 => repeat (first | exact (Kd.C_below HR1.out (by repeat (first | (with_reducible first | exact HB.out | apply below_alloc | apply pw_below_drewN | apply below_drew1) | exact HB.out))) | (with_reducible refine Kd.C_alloc ?_ _) | (with_reducible refine Kd.C_drewN ?_ _) | (with_reducible refine Kd.C_drew ?_))); (case side2 => exact HC1.out); rintro e w' ⟨rfl, ⟨nd, rfl⟩⟩))
        go_meet
        case rel => exact ⟨_, (true), (by first | rfl | (simp; done) | (simp [*]; done)), H', ⟨by first | omega | exact Nat.le_refl _⟩, ⟨by repeat (first | (with_reducible first | exact HB.out | apply below_alloc | apply pw_below_drewN | apply below_drew1) | exact HB.out)⟩⟩
    · replace c6 := Bool.eq_false_iff.mpr c6
      subst c6
      have H1 : (witheref1_Two.j0 k l0 l1 a2 true) = some r := by rw [if_neg (show ¬ (false = true) by decide)] at H; exact H
      clear H
      have H := H1
      clear H1
      have H' := Aside0.mk H
      clear H
      go_wp2_with (first | ((with_reducible refine gate_callee (f := 9) rfl ?_); refine goesL_ (some 13) rfl rfl Tryd.func9 (by kernel_rfl) rfl #[.slice A0 l0.length c0] rfl (by (try simp only [List.map_toArray, List.map_cons, List.map_nil]); first | done | rfl | (simp only [List.length_drop, List.length_take]; rfl)) ?_; (with_reducible refine (witheref1_May.calls k _ _ l0 false _ ?side1 ?side2 A5.out).mono ?_); (case side1 => repeat (first | exact (Kd.C_below HR0.out HB.out) | (with_reducible refine Kd.C_alloc ?_ _) | (with_reducible refine Kd.C_drewN ?_ _) | (with_reducible refine Kd.C_drew ?_))); (case side2 => exact HC0.out); rintro e w' ⟨rfl, ⟨nd, rfl⟩⟩; refine ⟨_, rfl, ?_⟩))
      go_meet
      case rel => exact ⟨_, (true), (by first | rfl | (simp; done) | (simp [*]; done)), H', ⟨by first | omega | exact Nat.le_refl _⟩, ⟨by repeat (first | (with_reducible first | exact HB.out | apply below_alloc | apply pw_below_drewN | apply below_drew1) | exact HB.out)⟩⟩
  case rest =>
    clear HC4
    try clear c1
    try clear c2
    try clear p2
    try clear c6
    try clear c8
    obtain ⟨kq, x26_3, rfl, HA, HJ3, HB⟩ := hcut
    cases kq with
    | zero => exact absurd HA.out (by simp [witheref1_Two.j0])
    | succ kj3 =>
      have H := HA.out
      clear HA
      simp only [witheref1_Two.j0] at H
      by_cases c9 : x26_3 = true
      · subst c9
        have H1 : (some ([] : List Int)) = some r := by rw [if_pos rfl] at H; exact H
        clear H
        have H := H1
        clear H1
        obtain rfl := Option.some.inj H
        go_wp2
        go_ret
        exact ⟨_, by first | rfl | (simp [errW_none, errW_some] <;> rfl) | (simp [*, errW_none, errW_some] <;> rfl), by first | exact Kd.R_nil _ _ _ _ _ | exact Kd.N_nil _ _ _ _ _ | exact Kd.V_nil _ _ _ _ _ | exact Kd.Q_nil _ _ _ _ _ | exact Kd.S_nil _ _ _ _ _, by repeat (first | (with_reducible first | exact HB.out | apply below_alloc | apply pw_below_drewN | apply below_drew1) | exact HB.out)⟩
      · replace c9 := Bool.eq_false_iff.mpr c9
        subst c9
        have H1 : (if 0 ≤ (l0.length : Int) then (if ((l0.length : Int) : Int).toNat ≤ 35184372088832 then (witheref1_Two.l0 kj3 l0 l1 a2 (List.replicate ((l0.length : Int) : Int).toNat 0) 0) else (none)) else (none)) = some r := by rw [if_neg (show ¬ (false = true) by decide)] at H; exact H
        clear H
        have H := H1
        clear H1
        by_cases c10 : 0 ≤ (l0.length : Int)
        · rw [if_pos c10] at H
          have c10b0 := eq_true c10
          have c10b1 : decide (0 ≤ (l0.length : Int)) = true := decide_eq_true c10
          clear c10
          by_cases c11 : ((l0.length : Int) : Int).toNat ≤ 35184372088832
          · rw [if_pos c11] at H
            have c11b0 := eq_true c11
            have c11b1 : decide (((l0.length : Int) : Int).toNat ≤ 35184372088832) = true := decide_eq_true c11
            clear c11
            obtain ⟨y304, hy304⟩ : ∃ y_ : List Int, y_ = (List.replicate ((l0.length : Int) : Int).toNat 0) := ⟨_, rfl⟩
            replace H : (witheref1_Two.l0 kj3 l0 l1 a2 y304 0) = some r := by first | (rw [hy304]; with_reducible exact H) | (have H2_ := (Option.bind_some _ _).symm.trans H; rw [hy304]; with_reducible exact H2_) | (have H2_ := (Option.bind_some _ _).symm.trans H; with_reducible exact H2_) | with_reducible exact H | (rw [hy304]; exact H) | exact H
            have Ny304 := Aside0.mk hy304
            clear hy304
            have H' := Aside0.mk H
            clear H
            go_wp2_with (first | ((with_reducible refine gate_dst (N := 29) rfl ?_); (try (refine gate_guard (by rfl) ?_; dsimp only)); refine Kd.R_make (Kd.int .u64) _ 23 rfl (N := 29) rfl 22 _ _ rfl (l0.length : Int) rfl rfl Tryd.underlying22 (.int .u64 0) 8 info23 rfl (by decide) (by omega) 0 (ok := fun _ => True) (okp := fun _ => True) rfl (fun _ hk => hk) trivial (of_decide_eq_true (by first | (with_reducible assumption) | assumption)) (Nat.le_trans (Nat.mul_le_mul_right _ (of_decide_eq_true (by first | (with_reducible assumption) | assumption) : (l0.length : Int).toNat ≤ 35184372088832)) (by omega)) (Below.refl _ _) (Nat.le_refl _) ?_; intro v305 w12 ho13 hb hg_ hnew_; clear hg_ hnew_; (first | rw [← Ny304.out] at ho13 | (simp only [Int.reduceToNat] at ho13; rw [← Ny304.out] at ho13)); have n0_ := Aside0.mk (Kd.R_lower ho13 (below_size (by repeat (first | (with_reducible first | exact HB.out | apply below_alloc | apply pw_below_drewN | apply below_drew1) | exact HB.out)))); have n1_ := Aside0.mk (below_step (by repeat (first | (with_reducible first | exact HB.out | apply below_alloc | apply pw_below_drewN | apply below_drew1) | exact HB.out)) hb); clear HB; have HO306 := n0_; have HB := n1_; clear n0_ n1_; clear hb ho13))
            try go_simp
            go_loopg [8] kj3 (fun kq v8 w' => ∃ (x7_2 : List Int) (x8_2 : Int), v8 = .int .i64 x8_2 ∧ Aside0 (witheref1_Two.l0 kq l0 l1 a2 x7_2 x8_2 = some r) ∧ Aside0 (kq ≤ kj3) ∧ Aside0 (Kd.R (Kd.int .u64) 23 w' w.heap.size (fun _ => True) v305 x7_2) ∧ Aside0 (Below w.heap.size w w'))
            case atStart => exact ⟨(y304), (0), (by first | rfl | (simp; done) | (simp [*]; done)), H', ⟨Nat.le_refl _⟩, ⟨by (with_reducible repeat (first | apply Kd.R_alloc | apply Kd.R_drewN | apply Kd.R_drew)); exact HO306.out⟩, ⟨by repeat (first | (with_reducible first | exact HB.out | apply below_alloc | apply pw_below_drewN | apply below_drew1) | exact HB.out)⟩⟩
            case round =>
              clear H'
              try clear c1
              try clear c2
              try clear p2
              try clear c6
              try clear c8
              try clear c9
              try clear c10
              try clear c10b0
              try clear c10b1
              try clear c11
              try clear c11b0
              try clear c11b1
              try clear p2
              obtain ⟨x7_2, x8_2, rfl, HA, HK2, HO_7, HB⟩ := hrel
              cases gk with
              | zero => exact absurd HA.out (by simp [witheref1_Two.l0])
              | succ k2 =>
                have H := HA.out
                clear HA
                simp only [witheref1_Two.l0] at H
                by_cases c14 : x8_2 < (l0.length : Int)
                · rw [if_pos c14] at H
                  have c14b0 : decide (x8_2 < (l0.length : Int)) = true := decide_eq_true c14
                  clear c14
                  have H' := Aside0.mk H
                  clear H
                  go_wp2
                  try go_simp
                  go_loopg [9] k2 (fun kq v9 w' => ∃ (x7_3 : List Int) (x9_3 : Int), v9 = .int .i64 x9_3 ∧ Aside0 (witheref1_Two.l1 kq l0 l1 a2 x7_3 x8_2 x9_3 = some r) ∧ Aside0 (kq ≤ k2) ∧ Aside0 (Kd.R (Kd.int .u64) 23 w' w.heap.size (fun _ => True) v305 x7_3) ∧ Aside0 (Below w.heap.size w w'))
                  case atStart => exact ⟨(x7_2), (0), (by first | rfl | (simp; done) | (simp [*]; done)), H', ⟨Nat.le_refl _⟩, ⟨by (with_reducible repeat (first | apply Kd.R_alloc | apply Kd.R_drewN | apply Kd.R_drew)); exact HO_7.out⟩, ⟨by repeat (first | (with_reducible first | exact HB.out | apply below_alloc | apply pw_below_drewN | apply below_drew1) | exact HB.out)⟩⟩
                  case round =>
                    clear H'
                    try clear c1
                    try clear c2
                    try clear p2
                    try clear c6
                    try clear c8
                    try clear c9
                    try clear c10
                    try clear c10b0
                    try clear c10b1
                    try clear c11
                    try clear c11b0
                    try clear c11b1
                    try clear c14
                    try clear c14b0
                    try clear p2
                    obtain ⟨x7_3, x9_3, rfl, HA, HK3, HO_7, HB⟩ := hrel
                    cases gk with
                    | zero => exact absurd HA.out (by simp [witheref1_Two.l1])
                    | succ k3 =>
                      have H := HA.out
                      clear HA
                      simp only [witheref1_Two.l1] at H
                      by_cases c15 : x9_3 < (l0.length : Int)
                      · rw [if_pos c15] at H
                        have c15b0 : decide (x9_3 < (l0.length : Int)) = true := decide_eq_true c15
                        clear c15
                        replace H := Option.bind_eq_some_iff.mp H
                        obtain ⟨t307, A160, H⟩ := H
                        replace H : ((witheref1_At.f l1 x8_2 x9_3).bind fun t308 => (if a2 = 0 then (if t307 = true then (if t308 = true then (if 0 ≤ x8_2 then (if x8_2 < (x7_3.length : Int) then ((witheref1_Put.f k3 (rd x7_3 x8_2) x9_3).bind fun t310 => (witheref1_Two.l1 k3 l0 l1 a2 (x7_3.set (x8_2 : Int).toNat t310) x8_2 (wrap64 (x9_3 + 1)))) else (none)) else (none)) else (if a2 = 1 then (if 0 ≤ x8_2 then (if x8_2 < (x7_3.length : Int) then ((witheref1_Put.f k3 (rd x7_3 x8_2) x9_3).bind fun t313 => (witheref1_Two.l1 k3 l0 l1 a2 (x7_3.set (x8_2 : Int).toNat t313) x8_2 (wrap64 (x9_3 + 1)))) else (none)) else (none)) else (if a2 = 2 then (if 0 ≤ x8_2 then (if x8_2 < (x7_3.length : Int) then ((witheref1_Put.f k3 (rd x7_3 x8_2) x9_3).bind fun t316 => (witheref1_Two.l1 k3 l0 l1 a2 (x7_3.set (x8_2 : Int).toNat t316) x8_2 (wrap64 (x9_3 + 1)))) else (none)) else (none)) else (witheref1_Two.l1 k3 l0 l1 a2 x7_3 x8_2 (wrap64 (x9_3 + 1)))))) else (if a2 = 1 then (if t308 = true then (if 0 ≤ x8_2 then (if x8_2 < (x7_3.length : Int) then ((witheref1_Put.f k3 (rd x7_3 x8_2) x9_3).bind fun t319 => (witheref1_Two.l1 k3 l0 l1 a2 (x7_3.set (x8_2 : Int).toNat t319) x8_2 (wrap64 (x9_3 + 1)))) else (none)) else (none)) else (if a2 = 2 then (witheref1_Two.l1 k3 l0 l1 a2 x7_3 x8_2 (wrap64 (x9_3 + 1))) else (witheref1_Two.l1 k3 l0 l1 a2 x7_3 x8_2 (wrap64 (x9_3 + 1))))) else (if a2 = 2 then (witheref1_Two.l1 k3 l0 l1 a2 x7_3 x8_2 (wrap64 (x9_3 + 1))) else (witheref1_Two.l1 k3 l0 l1 a2 x7_3 x8_2 (wrap64 (x9_3 + 1)))))) else (if a2 = 1 then (if t307 = true then (if 0 ≤ x8_2 then (if x8_2 < (x7_3.length : Int) then ((witheref1_Put.f k3 (rd x7_3 x8_2) x9_3).bind fun t322 => (witheref1_Two.l1 k3 l0 l1 a2 (x7_3.set (x8_2 : Int).toNat t322) x8_2 (wrap64 (x9_3 + 1)))) else (none)) else (none)) else (if t308 = true then (if 0 ≤ x8_2 then (if x8_2 < (x7_3.length : Int) then ((witheref1_Put.f k3 (rd x7_3 x8_2) x9_3).bind fun t325 => (witheref1_Two.l1 k3 l0 l1 a2 (x7_3.set (x8_2 : Int).toNat t325) x8_2 (wrap64 (x9_3 + 1)))) else (none)) else (none)) else (if a2 = 2 then (witheref1_Two.l1 k3 l0 l1 a2 x7_3 x8_2 (wrap64 (x9_3 + 1))) else (witheref1_Two.l1 k3 l0 l1 a2 x7_3 x8_2 (wrap64 (x9_3 + 1)))))) else (if a2 = 2 then (if t307 = true then (if t308 = true then (witheref1_Two.l1 k3 l0 l1 a2 x7_3 x8_2 (wrap64 (x9_3 + 1))) else (if 0 ≤ x8_2 then (if x8_2 < (x7_3.length : Int) then ((witheref1_Put.f k3 (rd x7_3 x8_2) x9_3).bind fun t328 => (witheref1_Two.l1 k3 l0 l1 a2 (x7_3.set (x8_2 : Int).toNat t328) x8_2 (wrap64 (x9_3 + 1)))) else (none)) else (none))) else (witheref1_Two.l1 k3 l0 l1 a2 x7_3 x8_2 (wrap64 (x9_3 + 1)))) else (witheref1_Two.l1 k3 l0 l1 a2 x7_3 x8_2 (wrap64 (x9_3 + 1))))))) = some r := H
                        have A16 := Aside0.mk A160
                        clear A160
                        replace H := Option.bind_eq_some_iff.mp H
                        obtain ⟨t308, A170, H⟩ := H
                        replace H : (if a2 = 0 then (if t307 = true then (if t308 = true then (if 0 ≤ x8_2 then (if x8_2 < (x7_3.length : Int) then ((witheref1_Put.f k3 (rd x7_3 x8_2) x9_3).bind fun t310 => (witheref1_Two.l1 k3 l0 l1 a2 (x7_3.set (x8_2 : Int).toNat t310) x8_2 (wrap64 (x9_3 + 1)))) else (none)) else (none)) else (if a2 = 1 then (if 0 ≤ x8_2 then (if x8_2 < (x7_3.length : Int) then ((witheref1_Put.f k3 (rd x7_3 x8_2) x9_3).bind fun t313 => (witheref1_Two.l1 k3 l0 l1 a2 (x7_3.set (x8_2 : Int).toNat t313) x8_2 (wrap64 (x9_3 + 1)))) else (none)) else (none)) else (if a2 = 2 then (if 0 ≤ x8_2 then (if x8_2 < (x7_3.length : Int) then ((witheref1_Put.f k3 (rd x7_3 x8_2) x9_3).bind fun t316 => (witheref1_Two.l1 k3 l0 l1 a2 (x7_3.set (x8_2 : Int).toNat t316) x8_2 (wrap64 (x9_3 + 1)))) else (none)) else (none)) else (witheref1_Two.l1 k3 l0 l1 a2 x7_3 x8_2 (wrap64 (x9_3 + 1)))))) else (if a2 = 1 then (if t308 = true then (if 0 ≤ x8_2 then (if x8_2 < (x7_3.length : Int) then ((witheref1_Put.f k3 (rd x7_3 x8_2) x9_3).bind fun t319 => (witheref1_Two.l1 k3 l0 l1 a2 (x7_3.set (x8_2 : Int).toNat t319) x8_2 (wrap64 (x9_3 + 1)))) else (none)) else (none)) else (if a2 = 2 then (witheref1_Two.l1 k3 l0 l1 a2 x7_3 x8_2 (wrap64 (x9_3 + 1))) else (witheref1_Two.l1 k3 l0 l1 a2 x7_3 x8_2 (wrap64 (x9_3 + 1))))) else (if a2 = 2 then (witheref1_Two.l1 k3 l0 l1 a2 x7_3 x8_2 (wrap64 (x9_3 + 1))) else (witheref1_Two.l1 k3 l0 l1 a2 x7_3 x8_2 (wrap64 (x9_3 + 1)))))) else (if a2 = 1 then (if t307 = true then (if 0 ≤ x8_2 then (if x8_2 < (x7_3.length : Int) then ((witheref1_Put.f k3 (rd x7_3 x8_2) x9_3).bind fun t322 => (witheref1_Two.l1 k3 l0 l1 a2 (x7_3.set (x8_2 : Int).toNat t322) x8_2 (wrap64 (x9_3 + 1)))) else (none)) else (none)) else (if t308 = true then (if 0 ≤ x8_2 then (if x8_2 < (x7_3.length : Int) then ((witheref1_Put.f k3 (rd x7_3 x8_2) x9_3).bind fun t325 => (witheref1_Two.l1 k3 l0 l1 a2 (x7_3.set (x8_2 : Int).toNat t325) x8_2 (wrap64 (x9_3 + 1)))) else (none)) else (none)) else (if a2 = 2 then (witheref1_Two.l1 k3 l0 l1 a2 x7_3 x8_2 (wrap64 (x9_3 + 1))) else (witheref1_Two.l1 k3 l0 l1 a2 x7_3 x8_2 (wrap64 (x9_3 + 1)))))) else (if a2 = 2 then (if t307 = true then (if t308 = true then (witheref1_Two.l1 k3 l0 l1 a2 x7_3 x8_2 (wrap64 (x9_3 + 1))) else (if 0 ≤ x8_2 then (if x8_2 < (x7_3.length : Int) then ((witheref1_Put.f k3 (rd x7_3 x8_2) x9_3).bind fun t328 => (witheref1_Two.l1 k3 l0 l1 a2 (x7_3.set (x8_2 : Int).toNat t328) x8_2 (wrap64 (x9_3 + 1)))) else (none)) else (none))) else (witheref1_Two.l1 k3 l0 l1 a2 x7_3 x8_2 (wrap64 (x9_3 + 1)))) else (witheref1_Two.l1 k3 l0 l1 a2 x7_3 x8_2 (wrap64 (x9_3 + 1)))))) = some r := H
                        have A17 := Aside0.mk A170
                        clear A170
                        by_cases c18 : a2 = 0
                        · rw [if_pos c18] at H
                          have c18b0 : (a2 == 0) = true := beq_iff_eq.mpr c18
                          have c18b1 : (a2 != 0) = false := bne_eq_false_iff_eq.mpr c18
                          clear c18
                          by_cases c19 : t307 = true
                          · subst c19
                            have H1 : (if t308 = true then (if 0 ≤ x8_2 then (if x8_2 < (x7_3.length : Int) then ((witheref1_Put.f k3 (rd x7_3 x8_2) x9_3).bind fun t310 => (witheref1_Two.l1 k3 l0 l1 a2 (x7_3.set (x8_2 : Int).toNat t310) x8_2 (wrap64 (x9_3 + 1)))) else (none)) else (none)) else (if a2 = 1 then (if 0 ≤ x8_2 then (if x8_2 < (x7_3.length : Int) then ((witheref1_Put.f k3 (rd x7_3 x8_2) x9_3).bind fun t313 => (witheref1_Two.l1 k3 l0 l1 a2 (x7_3.set (x8_2 : Int).toNat t313) x8_2 (wrap64 (x9_3 + 1)))) else (none)) else (none)) else (if a2 = 2 then (if 0 ≤ x8_2 then (if x8_2 < (x7_3.length : Int) then ((witheref1_Put.f k3 (rd x7_3 x8_2) x9_3).bind fun t316 => (witheref1_Two.l1 k3 l0 l1 a2 (x7_3.set (x8_2 : Int).toNat t316) x8_2 (wrap64 (x9_3 + 1)))) else (none)) else (none)) else (witheref1_Two.l1 k3 l0 l1 a2 x7_3 x8_2 (wrap64 (x9_3 + 1)))))) = some r := by rw [if_pos rfl] at H; exact H
                            clear H
                            have H := H1
                            clear H1
                            by_cases c20 : t308 = true
                            · subst c20
                              have H1 : (if 0 ≤ x8_2 then (if x8_2 < (x7_3.length : Int) then ((witheref1_Put.f k3 (rd x7_3 x8_2) x9_3).bind fun t310 => (witheref1_Two.l1 k3 l0 l1 a2 (x7_3.set (x8_2 : Int).toNat t310) x8_2 (wrap64 (x9_3 + 1)))) else (none)) else (none)) = some r := by rw [if_pos rfl] at H; exact H
                              clear H
                              have H := H1
                              clear H1
                              by_cases c21 : 0 ≤ x8_2
                              · rw [if_pos c21] at H
                                have c21b0 : decide (0 ≤ x8_2) = true := decide_eq_true c21
                                clear c21
                                by_cases c22 : x8_2 < (x7_3.length : Int)
                                · rw [if_pos c22] at H
                                  have c22b0 : decide (x8_2 < (x7_3.length : Int)) = true := decide_eq_true c22
                                  clear c22
                                  replace H := Option.bind_eq_some_iff.mp H
                                  obtain ⟨t310, A230, H⟩ := H
                                  replace H : (witheref1_Two.l1 k3 l0 l1 a2 (x7_3.set (x8_2 : Int).toNat t310) x8_2 (wrap64 (x9_3 + 1))) = some r := H
                                  have A23 := Aside0.mk A230
                                  clear A230
                                  obtain ⟨y311, hy311⟩ : ∃ y_ : List Int, y_ = (x7_3.set (x8_2 : Int).toNat t310) := ⟨_, rfl⟩
                                  replace H : (witheref1_Two.l1 k3 l0 l1 a2 y311 x8_2 (wrap64 (x9_3 + 1))) = some r := by first | (rw [hy311]; with_reducible exact H) | (have H2_ := (Option.bind_some _ _).symm.trans H; rw [hy311]; with_reducible exact H2_) | (have H2_ := (Option.bind_some _ _).symm.trans H; with_reducible exact H2_) | with_reducible exact H | (rw [hy311]; exact H) | exact H
                                  have Ny311 := Aside0.mk hy311
                                  clear hy311
                                  have H' := Aside0.mk H
                                  clear H
                                  go_wp2_with (first | ((with_reducible refine gate_callee (f := 10) rfl ?_); refine goesL_ (some 45) rfl rfl Tryd.func10 (by kernel_rfl) rfl #[.slice A0 l0.length c0, .int .i64 x8_2, .int .i64 x9_3] rfl (by (try simp only [List.map_toArray, List.map_cons, List.map_nil]); first | done | rfl | (simp only [List.length_drop, List.length_take]; rfl)) ?_; (with_reducible refine (witheref1_At.calls _ _ l0 x8_2 x9_3 true _ ?side1 ?side2 A16.out).mono ?_); (case side1 => repeat (first | exact (Kd.C_below HR0.out HB.out) | (with_reducible refine Kd.C_alloc ?_ _) | (with_reducible refine Kd.C_drewN ?_ _) | (with_reducible refine Kd.C_drew ?_))); (case side2 => exact HC0.out); rintro e w' ⟨rfl, ⟨nd, rfl⟩⟩; refine ⟨_, rfl, ?_⟩; (try (rw [drewN_self wr]; generalize hq_ : World.drewN wr _ = wr; have n0_ : Aside0 (Kd.R (Kd.int .u64) 23 wr w.heap.size (fun _ => True) v305 x7_3) := ⟨by rw [← hq_]; exact (by (with_reducible repeat (first | apply Kd.R_alloc | apply Kd.R_drewN | apply Kd.R_drew)); exact HO_7.out)⟩; have n1_ : Aside0 (Below w.heap.size w wr) := ⟨by rw [← hq_]; exact (by repeat (first | (with_reducible first | exact HB.out | apply below_alloc | apply pw_below_drewN | apply below_drew1) | exact HB.out))⟩; clear HO_7 HB hq_; have HO_7 := n0_; have HB := n1_; clear n0_ n1_))) | ((with_reducible refine gate_callee (f := 10) rfl ?_); refine goesL_ (some 49) rfl rfl Tryd.func10 (by kernel_rfl) rfl #[.slice A1 l1.length c1, .int .i64 x8_2, .int .i64 x9_3] rfl (by (try simp only [List.map_toArray, List.map_cons, List.map_nil]); first | done | rfl | (simp only [List.length_drop, List.length_take]; rfl)) ?_; (with_reducible refine (witheref1_At.calls _ _ l1 x8_2 x9_3 true _ ?side1 ?side2 A17.out).mono ?_); (case side1 => repeat (first | exact (Kd.C_below HR1.out HB.out) | (with_reducible refine Kd.C_alloc ?_ _) | (with_reducible refine Kd.C_drewN ?_ _) | (with_reducible refine Kd.C_drew ?_))); (case side2 => exact HC1.out); rintro e w' ⟨rfl, ⟨nd, rfl⟩⟩; refine ⟨_, rfl, ?_⟩; (try (rw [drewN_self wr]; generalize hq_ : World.drewN wr _ = wr; have n0_ : Aside0 (Kd.R (Kd.int .u64) 23 wr w.heap.size (fun _ => True) v305 x7_3) := ⟨by rw [← hq_]; exact (by (with_reducible repeat (first | apply Kd.R_alloc | apply Kd.R_drewN | apply Kd.R_drew)); exact HO_7.out)⟩; have n1_ : Aside0 (Below w.heap.size w wr) := ⟨by rw [← hq_]; exact (by repeat (first | (with_reducible first | exact HB.out | apply below_alloc | apply pw_below_drewN | apply below_drew1) | exact HB.out))⟩; clear HO_7 HB hq_; have HO_7 := n0_; have HB := n1_; clear n0_ n1_)); obtain ⟨Ao25, co25, eo25⟩ := Kd.R_slice HO_7.out; subst eo25; have p309 : 0 ≤ (x8_2 : Int) := of_decide_eq_true (by first | (with_reducible assumption) | assumption); have q309 : x8_2 < (x7_3.length : Int) := of_decide_eq_true (by first | (with_reducible assumption) | assumption); obtain ⟨ad309, e309, hx309_0⟩ := Kd.at_int (Kd.R_reads' HO_7.out).2.2 x8_2 p309 q309; cases e309; replace p309 := eq_true p309; replace q309 := eq_true q309) | ((with_reducible refine gate_callee (f := 12) rfl ?_); refine goesL_ (some 86) rfl rfl Tryd.func12 (by kernel_rfl) rfl #[.int .u64 (rd x7_3 x8_2), .int .i64 x9_3] rfl (by (try simp only [List.map_toArray, List.map_cons, List.map_nil]); first | done | rfl | (simp only [List.length_drop, List.length_take]; rfl)) ?_; (with_reducible refine (witheref1_Put.calls k3 (rd x7_3 x8_2) x9_3 t310 _ A23.out).mono ?_); rintro e w' ⟨rfl, ⟨nd, rfl⟩⟩; refine ⟨_, rfl, ?_⟩; (try (rw [drewN_self wr]; generalize hq_ : World.drewN wr _ = wr; have n0_ : Aside0 (Kd.R (Kd.int .u64) 23 wr w.heap.size (fun _ => True) (.slice (some ad309) x7_3.length co25) x7_3) := ⟨by rw [← hq_]; exact (by (with_reducible repeat (first | apply Kd.R_alloc | apply Kd.R_drewN | apply Kd.R_drew)); exact HO_7.out)⟩; have n1_ : Aside0 (Below w.heap.size w wr) := ⟨by rw [← hq_]; exact (by repeat (first | (with_reducible first | exact HB.out | apply below_alloc | apply pw_below_drewN | apply below_drew1) | exact HB.out))⟩; clear HO_7 HB hq_; have HO_7 := n0_; have HB := n1_; clear n0_ n1_)); have p24 : 0 ≤ (x8_2 : Int) := of_decide_eq_true (by first | (with_reducible assumption) | assumption); have q24 : (x8_2 : Int) < ((x7_3.length : Int) : Int) := of_decide_eq_true (by first | (with_reducible assumption) | assumption); obtain ⟨go24, co24, eo24, gb24, gl24, cl24, HG24⟩ := Kd.R_form HO_7.out (by omega); (first | cases eo24 | (injection eo24 with ea_ en_ ec_; (first | subst ea_ | (injection ea_ with ea_; subst ea_)); subst ec_; clear en_)); have GB24 := Aside0.mk gb24; have GG24 := Aside0.mk HG24; clear gb24 gl24 HG24; (first | simp only [add_plain] at hx309_0 | skip); obtain ⟨hx24_0, hf24_0⟩ := Kd.R_celln 0 HO_7.out (x8_2 : Int) p24 q24; replace p24 := eq_true p24; replace q24 := eq_true q24; obtain ⟨hy26_, hz26_⟩ := Kd.R_celln 0 HO_7.out (x8_2 : Int) (of_decide_eq_true (by first | (with_reducible assumption) | assumption)) (of_decide_eq_true (by first | (with_reducible assumption) | assumption)); have HP26 := Kd.R_putg HO_7.out (x8_2 : Int) t310) | ((with_reducible refine gate_store (t := 23) (p := 87) rfl ?_); refine store_event (t := 23) (p := 87) (v := ?vo_w27) (w1 := (wr.setCell ⟨go24, (x8_2 : Int).toNat, none⟩ (.int .u64 t310))) ?hg ?ho ?hn ?hr ?_; (case ho => rfl); (case hg => rfl); (case hn => rfl); (case hr => first | (go_simp; done) | (go_simp; rfl)); intro w27 hw; have hg : wr.grownBy w27 (some go24) := (by rw [hw]; exact HP26.2); have hp_ : Kd.R (Kd.int .u64) 23 w27 w.heap.size (fun _ => True) (.slice (some ⟨go24, 0, none⟩) x7_3.length co25) y311 := (by rw [hw, Ny311.out]; exact HP26.1); clear HP26; have n0_ := Aside0.mk (hp_); have n1_ := Aside0.mk ((by rw [hw]; exact below_set (HB.out) GB24.out : Below w.heap.size w w27)); clear HO_7; clear HB; have HO_7 := n0_; have HB := n1_; clear n0_ n1_; clear hg hw hp_))
                                  go_roundg k3
                                  case measure => have := HJ3.out; have := HK2.out; have := HK3.out; omega
                                  case rel => exact ⟨(y311), (wrap64 (x9_3 + 1)), (by first | rfl | (simp; done) | (simp [*]; done)), H', ⟨by have := HJ3.out; have := HK2.out; have := HK3.out; omega⟩, ⟨by (with_reducible repeat (first | apply Kd.R_alloc | apply Kd.R_drewN | apply Kd.R_drew)); exact HO_7.out⟩, ⟨by repeat (first | (with_reducible first | exact HB.out | apply below_alloc | apply pw_below_drewN | apply below_drew1) | exact HB.out)⟩⟩
                                · rw [if_neg c22] at H
                                  exact absurd H (by simp)
                              · rw [if_neg c21] at H
                                exact absurd H (by simp)
                            · replace c20 := Bool.eq_false_iff.mpr c20
                              subst c20
                              have H1 : (if a2 = 1 then (if 0 ≤ x8_2 then (if x8_2 < (x7_3.length : Int) then ((witheref1_Put.f k3 (rd x7_3 x8_2) x9_3).bind fun t313 => (witheref1_Two.l1 k3 l0 l1 a2 (x7_3.set (x8_2 : Int).toNat t313) x8_2 (wrap64 (x9_3 + 1)))) else (none)) else (none)) else (if a2 = 2 then (if 0 ≤ x8_2 then (if x8_2 < (x7_3.length : Int) then ((witheref1_Put.f k3 (rd x7_3 x8_2) x9_3).bind fun t316 => (witheref1_Two.l1 k3 l0 l1 a2 (x7_3.set (x8_2 : Int).toNat t316) x8_2 (wrap64 (x9_3 + 1)))) else (none)) else (none)) else (witheref1_Two.l1 k3 l0 l1 a2 x7_3 x8_2 (wrap64 (x9_3 + 1))))) = some r := by rw [if_neg (show ¬ (false = true) by decide)] at H; exact H
                              clear H
                              have H := H1
                              clear H1
                              by_cases c28 : a2 = 1
                              · rw [if_pos c28] at H
                                have c28b0 : (a2 == 1) = true := beq_iff_eq.mpr c28
                                have c28b1 : (a2 != 1) = false := bne_eq_false_iff_eq.mpr c28
                                clear c28
                                by_cases c29 : 0 ≤ x8_2
                                · rw [if_pos c29] at H
                                  have c29b0 : decide (0 ≤ x8_2) = true := decide_eq_true c29
                                  clear c29
                                  by_cases c30 : x8_2 < (x7_3.length : Int)
                                  · rw [if_pos c30] at H
                                    have c30b0 : decide (x8_2 < (x7_3.length : Int)) = true := decide_eq_true c30
                                    clear c30
                                    replace H := Option.bind_eq_some_iff.mp H
                                    obtain ⟨t313, A310, H⟩ := H
                                    replace H : (witheref1_Two.l1 k3 l0 l1 a2 (x7_3.set (x8_2 : Int).toNat t313) x8_2 (wrap64 (x9_3 + 1))) = some r := H
                                    have A31 := Aside0.mk A310
                                    clear A310
                                    obtain ⟨y314, hy314⟩ : ∃ y_ : List Int, y_ = (x7_3.set (x8_2 : Int).toNat t313) := ⟨_, rfl⟩
                                    replace H : (witheref1_Two.l1 k3 l0 l1 a2 y314 x8_2 (wrap64 (x9_3 + 1))) = some r := by first | (rw [hy314]; with_reducible exact H) | (have H2_ := (Option.bind_some _ _).symm.trans H; rw [hy314]; with_reducible exact H2_) | (have H2_ := (Option.bind_some _ _).symm.trans H; with_reducible exact H2_) | with_reducible exact H | (rw [hy314]; exact H) | exact H
                                    have Ny314 := Aside0.mk hy314
                                    clear hy314
                                    have H' := Aside0.mk H
                                    clear H
                                    go_wp2_with (first | ((with_reducible refine gate_callee (f := 10) rfl ?_); refine goesL_ (some 45) rfl rfl Tryd.func10 (by kernel_rfl) rfl #[.slice A0 l0.length c0, .int .i64 x8_2, .int .i64 x9_3] rfl (by (try simp only [List.map_toArray, List.map_cons, List.map_nil]); first | done | rfl | (simp only [List.length_drop, List.length_take]; rfl)) ?_; (with_reducible refine (witheref1_At.calls _ _ l0 x8_2 x9_3 true _ ?side1 ?side2 A16.out).mono ?_); (case side1 => repeat (first | exact (Kd.C_below HR0.out HB.out) | (with_reducible refine Kd.C_alloc ?_ _) | (with_reducible refine Kd.C_drewN ?_ _) | (with_reducible refine Kd.C_drew ?_))); (case side2 => exact HC0.out); rintro e w' ⟨rfl, ⟨nd, rfl⟩⟩; refine ⟨_, rfl, ?_⟩; (try (rw [drewN_self wr]; generalize hq_ : World.drewN wr _ = wr; have n0_ : Aside0 (Kd.R (Kd.int .u64) 23 wr w.heap.size (fun _ => True) v305 x7_3) := ⟨by rw [← hq_]; exact (by (with_reducible repeat (first | apply Kd.R_alloc | apply Kd.R_drewN | apply Kd.R_drew)); exact HO_7.out)⟩; have n1_ : Aside0 (Below w.heap.size w wr) := ⟨by rw [← hq_]; exact (by repeat (first | (with_reducible first | exact HB.out | apply below_alloc | apply pw_below_drewN | apply below_drew1) | exact HB.out))⟩; clear HO_7 HB hq_; have HO_7 := n0_; have HB := n1_; clear n0_ n1_))) | ((with_reducible refine gate_callee (f := 10) rfl ?_); refine goesL_ (some 49) rfl rfl Tryd.func10 (by kernel_rfl) rfl #[.slice A1 l1.length c1, .int .i64 x8_2, .int .i64 x9_3] rfl (by (try simp only [List.map_toArray, List.map_cons, List.map_nil]); first | done | rfl | (simp only [List.length_drop, List.length_take]; rfl)) ?_; (with_reducible refine (witheref1_At.calls _ _ l1 x8_2 x9_3 false _ ?side1 ?side2 A17.out).mono ?_); (case side1 => repeat (first | exact (Kd.C_below HR1.out HB.out) | (with_reducible refine Kd.C_alloc ?_ _) | (with_reducible refine Kd.C_drewN ?_ _) | (with_reducible refine Kd.C_drew ?_))); (case side2 => exact HC1.out); rintro e w' ⟨rfl, ⟨nd, rfl⟩⟩; refine ⟨_, rfl, ?_⟩; (try (rw [drewN_self wr]; generalize hq_ : World.drewN wr _ = wr; have n0_ : Aside0 (Kd.R (Kd.int .u64) 23 wr w.heap.size (fun _ => True) v305 x7_3) := ⟨by rw [← hq_]; exact (by (with_reducible repeat (first | apply Kd.R_alloc | apply Kd.R_drewN | apply Kd.R_drew)); exact HO_7.out)⟩; have n1_ : Aside0 (Below w.heap.size w wr) := ⟨by rw [← hq_]; exact (by repeat (first | (with_reducible first | exact HB.out | apply below_alloc | apply pw_below_drewN | apply below_drew1) | exact HB.out))⟩; clear HO_7 HB hq_; have HO_7 := n0_; have HB := n1_; clear n0_ n1_)); obtain ⟨Ao33, co33, eo33⟩ := Kd.R_slice HO_7.out; subst eo33; have p312 : 0 ≤ (x8_2 : Int) := of_decide_eq_true (by first | (with_reducible assumption) | assumption); have q312 : x8_2 < (x7_3.length : Int) := of_decide_eq_true (by first | (with_reducible assumption) | assumption); obtain ⟨ad312, e312, hx312_0⟩ := Kd.at_int (Kd.R_reads' HO_7.out).2.2 x8_2 p312 q312; cases e312; replace p312 := eq_true p312; replace q312 := eq_true q312) | ((with_reducible refine gate_callee (f := 12) rfl ?_); refine goesL_ (some 86) rfl rfl Tryd.func12 (by kernel_rfl) rfl #[.int .u64 (rd x7_3 x8_2), .int .i64 x9_3] rfl (by (try simp only [List.map_toArray, List.map_cons, List.map_nil]); first | done | rfl | (simp only [List.length_drop, List.length_take]; rfl)) ?_; (with_reducible refine (witheref1_Put.calls k3 (rd x7_3 x8_2) x9_3 t313 _ A31.out).mono ?_); rintro e w' ⟨rfl, ⟨nd, rfl⟩⟩; refine ⟨_, rfl, ?_⟩; (try (rw [drewN_self wr]; generalize hq_ : World.drewN wr _ = wr; have n0_ : Aside0 (Kd.R (Kd.int .u64) 23 wr w.heap.size (fun _ => True) (.slice (some ad312) x7_3.length co33) x7_3) := ⟨by rw [← hq_]; exact (by (with_reducible repeat (first | apply Kd.R_alloc | apply Kd.R_drewN | apply Kd.R_drew)); exact HO_7.out)⟩; have n1_ : Aside0 (Below w.heap.size w wr) := ⟨by rw [← hq_]; exact (by repeat (first | (with_reducible first | exact HB.out | apply below_alloc | apply pw_below_drewN | apply below_drew1) | exact HB.out))⟩; clear HO_7 HB hq_; have HO_7 := n0_; have HB := n1_; clear n0_ n1_)); have p32 : 0 ≤ (x8_2 : Int) := of_decide_eq_true (by first | (with_reducible assumption) | assumption); have q32 : (x8_2 : Int) < ((x7_3.length : Int) : Int) := of_decide_eq_true (by first | (with_reducible assumption) | assumption); obtain ⟨go32, co32, eo32, gb32, gl32, cl32, HG32⟩ := Kd.R_form HO_7.out (by omega); (first | cases eo32 | (injection eo32 with ea_ en_ ec_; (first | subst ea_ | (injection ea_ with ea_; subst ea_)); subst ec_; clear en_)); have GB32 := Aside0.mk gb32; have GG32 := Aside0.mk HG32; clear gb32 gl32 HG32; (first | simp only [add_plain] at hx312_0 | skip); obtain ⟨hx32_0, hf32_0⟩ := Kd.R_celln 0 HO_7.out (x8_2 : Int) p32 q32; replace p32 := eq_true p32; replace q32 := eq_true q32; obtain ⟨hy34_, hz34_⟩ := Kd.R_celln 0 HO_7.out (x8_2 : Int) (of_decide_eq_true (by first | (with_reducible assumption) | assumption)) (of_decide_eq_true (by first | (with_reducible assumption) | assumption)); have HP34 := Kd.R_putg HO_7.out (x8_2 : Int) t313) | ((with_reducible refine gate_store (t := 23) (p := 87) rfl ?_); refine store_event (t := 23) (p := 87) (v := ?vo_w35) (w1 := (wr.setCell ⟨go32, (x8_2 : Int).toNat, none⟩ (.int .u64 t313))) ?hg ?ho ?hn ?hr ?_; (case ho => rfl); (case hg => rfl); (case hn => rfl); (case hr => first | (go_simp; done) | (go_simp; rfl)); intro w35 hw; have hg : wr.grownBy w35 (some go32) := (by rw [hw]; exact HP34.2); have hp_ : Kd.R (Kd.int .u64) 23 w35 w.heap.size (fun _ => True) (.slice (some ⟨go32, 0, none⟩) x7_3.length co33) y314 := (by rw [hw, Ny314.out]; exact HP34.1); clear HP34; have n0_ := Aside0.mk (hp_); have n1_ := Aside0.mk ((by rw [hw]; exact below_set (HB.out) GB32.out : Below w.heap.size w w35)); clear HO_7; clear HB; have HO_7 := n0_; have HB := n1_; clear n0_ n1_; clear hg hw hp_))
                                    go_roundg k3
                                    case measure => have := HJ3.out; have := HK2.out; have := HK3.out; omega
                                    case rel => exact ⟨(y314), (wrap64 (x9_3 + 1)), (by first | rfl | (simp; done) | (simp [*]; done)), H', ⟨by have := HJ3.out; have := HK2.out; have := HK3.out; omega⟩, ⟨by (with_reducible repeat (first | apply Kd.R_alloc | apply Kd.R_drewN | apply Kd.R_drew)); exact HO_7.out⟩, ⟨by repeat (first | (with_reducible first | exact HB.out | apply below_alloc | apply pw_below_drewN | apply below_drew1) | exact HB.out)⟩⟩
                                  · rw [if_neg c30] at H
                                    exact absurd H (by simp)
                                · rw [if_neg c29] at H
                                  exact absurd H (by simp)
                              · rw [if_neg c28] at H
                                have c28b0 : (a2 == 1) = false := beq_eq_false_iff_ne.mpr c28
                                have c28b1 : (a2 != 1) = true := bne_iff_ne.mpr c28
                                by_cases c36 : a2 = 2
                                · rw [if_pos c36] at H
                                  have c36b0 : (a2 == 2) = true := beq_iff_eq.mpr c36
                                  have c36b1 : (a2 != 2) = false := bne_eq_false_iff_eq.mpr c36
                                  clear c36
                                  by_cases c37 : 0 ≤ x8_2
                                  · rw [if_pos c37] at H
                                    have c37b0 : decide (0 ≤ x8_2) = true := decide_eq_true c37
                                    clear c37
                                    by_cases c38 : x8_2 < (x7_3.length : Int)
                                    · rw [if_pos c38] at H
                                      have c38b0 : decide (x8_2 < (x7_3.length : Int)) = true := decide_eq_true c38
                                      clear c38
                                      replace H := Option.bind_eq_some_iff.mp H
                                      obtain ⟨t316, A390, H⟩ := H
                                      replace H : (witheref1_Two.l1 k3 l0 l1 a2 (x7_3.set (x8_2 : Int).toNat t316) x8_2 (wrap64 (x9_3 + 1))) = some r := H
                                      have A39 := Aside0.mk A390
                                      clear A390
                                      obtain ⟨y317, hy317⟩ : ∃ y_ : List Int, y_ = (x7_3.set (x8_2 : Int).toNat t316) := ⟨_, rfl⟩
                                      replace H : (witheref1_Two.l1 k3 l0 l1 a2 y317 x8_2 (wrap64 (x9_3 + 1))) = some r := by first | (rw [hy317]; with_reducible exact H) | (have H2_ := (Option.bind_some _ _).symm.trans H; rw [hy317]; with_reducible exact H2_) | (have H2_ := (Option.bind_some _ _).symm.trans H; with_reducible exact H2_) | with_reducible exact H | (rw [hy317]; exact H) | exact H
                                      have Ny317 := Aside0.mk hy317
                                      clear hy317
                                      have H' := Aside0.mk H
                                      clear H
                                      go_wp2_with (first | ((with_reducible refine gate_callee (f := 10) rfl ?_); refine goesL_ (some 45) rfl rfl Tryd.func10 (by kernel_rfl) rfl #[.slice A0 l0.length c0, .int .i64 x8_2, .int .i64 x9_3] rfl (by (try simp only [List.map_toArray, List.map_cons, List.map_nil]); first | done | rfl | (simp only [List.length_drop, List.length_take]; rfl)) ?_; (with_reducible refine (witheref1_At.calls _ _ l0 x8_2 x9_3 true _ ?side1 ?side2 A16.out).mono ?_); (case side1 => repeat (first | exact (Kd.C_below HR0.out HB.out) | (with_reducible refine Kd.C_alloc ?_ _) | (with_reducible refine Kd.C_drewN ?_ _) | (with_reducible refine Kd.C_drew ?_))); (case side2 => exact HC0.out); rintro e w' ⟨rfl, ⟨nd, rfl⟩⟩; refine ⟨_, rfl, ?_⟩; (try (rw [drewN_self wr]; generalize hq_ : World.drewN wr _ = wr; have n0_ : Aside0 (Kd.R (Kd.int .u64) 23 wr w.heap.size (fun _ => True) v305 x7_3) := ⟨by rw [← hq_]; exact (by (with_reducible repeat (first | apply Kd.R_alloc | apply Kd.R_drewN | apply Kd.R_drew)); exact HO_7.out)⟩; have n1_ : Aside0 (Below w.heap.size w wr) := ⟨by rw [← hq_]; exact (by repeat (first | (with_reducible first | exact HB.out | apply below_alloc | apply pw_below_drewN | apply below_drew1) | exact HB.out))⟩; clear HO_7 HB hq_; have HO_7 := n0_; have HB := n1_; clear n0_ n1_))) | ((with_reducible refine gate_callee (f := 10) rfl ?_); refine goesL_ (some 49) rfl rfl Tryd.func10 (by kernel_rfl) rfl #[.slice A1 l1.length c1, .int .i64 x8_2, .int .i64 x9_3] rfl (by (try simp only [List.map_toArray, List.map_cons, List.map_nil]); first | done | rfl | (simp only [List.length_drop, List.length_take]; rfl)) ?_; (with_reducible refine (witheref1_At.calls _ _ l1 x8_2 x9_3 false _ ?side1 ?side2 A17.out).mono ?_); (case side1 => repeat (first | exact (Kd.C_below HR1.out HB.out) | (with_reducible refine Kd.C_alloc ?_ _) | (with_reducible refine Kd.C_drewN ?_ _) | (with_reducible refine Kd.C_drew ?_))); (case side2 => exact HC1.out); rintro e w' ⟨rfl, ⟨nd, rfl⟩⟩; refine ⟨_, rfl, ?_⟩; (try (rw [drewN_self wr]; generalize hq_ : World.drewN wr _ = wr; have n0_ : Aside0 (Kd.R (Kd.int .u64) 23 wr w.heap.size (fun _ => True) v305 x7_3) := ⟨by rw [← hq_]; exact (by (with_reducible repeat (first | apply Kd.R_alloc | apply Kd.R_drewN | apply Kd.R_drew)); exact HO_7.out)⟩; have n1_ : Aside0 (Below w.heap.size w wr) := ⟨by rw [← hq_]; exact (by repeat (first | (with_reducible first | exact HB.out | apply below_alloc | apply pw_below_drewN | apply below_drew1) | exact HB.out))⟩; clear HO_7 HB hq_; have HO_7 := n0_; have HB := n1_; clear n0_ n1_)); obtain ⟨Ao41, co41, eo41⟩ := Kd.R_slice HO_7.out; subst eo41; have p315 : 0 ≤ (x8_2 : Int) := of_decide_eq_true (by first | (with_reducible assumption) | assumption); have q315 : x8_2 < (x7_3.length : Int) := of_decide_eq_true (by first | (with_reducible assumption) | assumption); obtain ⟨ad315, e315, hx315_0⟩ := Kd.at_int (Kd.R_reads' HO_7.out).2.2 x8_2 p315 q315; cases e315; replace p315 := eq_true p315; replace q315 := eq_true q315) | ((with_reducible refine gate_callee (f := 12) rfl ?_); refine goesL_ (some 86) rfl rfl Tryd.func12 (by kernel_rfl) rfl #[.int .u64 (rd x7_3 x8_2), .int .i64 x9_3] rfl (by (try simp only [List.map_toArray, List.map_cons, List.map_nil]); first | done | rfl | (simp only [List.length_drop, List.length_take]; rfl)) ?_; (with_reducible refine (witheref1_Put.calls k3 (rd x7_3 x8_2) x9_3 t316 _ A39.out).mono ?_); rintro e w' ⟨rfl, ⟨nd, rfl⟩⟩; refine ⟨_, rfl, ?_⟩; (try (rw [drewN_self wr]; generalize hq_ : World.drewN wr _ = wr; have n0_ : Aside0 (Kd.R (Kd.int .u64) 23 wr w.heap.size (fun _ => True) (.slice (some ad315) x7_3.length co41) x7_3) := ⟨by rw [← hq_]; exact (by (with_reducible repeat (first | apply Kd.R_alloc | apply Kd.R_drewN | apply Kd.R_drew)); exact HO_7.out)⟩; have n1_ : Aside0 (Below w.heap.size w wr) := ⟨by rw [← hq_]; exact (by repeat (first | (with_reducible first | exact HB.out | apply below_alloc | apply pw_below_drewN | apply below_drew1) | exact HB.out))⟩; clear HO_7 HB hq_; have HO_7 := n0_; have HB := n1_; clear n0_ n1_)); have p40 : 0 ≤ (x8_2 : Int) := of_decide_eq_true (by first | (with_reducible assumption) | assumption); have q40 : (x8_2 : Int) < ((x7_3.length : Int) : Int) := of_decide_eq_true (by first | (with_reducible assumption) | assumption); obtain ⟨go40, co40, eo40, gb40, gl40, cl40, HG40⟩ := Kd.R_form HO_7.out (by omega); (first | cases eo40 | (injection eo40 with ea_ en_ ec_; (first | subst ea_ | (injection ea_ with ea_; subst ea_)); subst ec_; clear en_)); have GB40 := Aside0.mk gb40; have GG40 := Aside0.mk HG40; clear gb40 gl40 HG40; (first | simp only [add_plain] at hx315_0 | skip); obtain ⟨hx40_0, hf40_0⟩ := Kd.R_celln 0 HO_7.out (x8_2 : Int) p40 q40; replace p40 := eq_true p40; replace q40 := eq_true q40; obtain ⟨hy42_, hz42_⟩ := Kd.R_celln 0 HO_7.out (x8_2 : Int) (of_decide_eq_true (by first | (with_reducible assumption) | assumption)) (of_decide_eq_true (by first | (with_reducible assumption) | assumption)); have HP42 := Kd.R_putg HO_7.out (x8_2 : Int) t316) | ((with_reducible refine gate_store (t := 23) (p := 87) rfl ?_); refine store_event (t := 23) (p := 87) (v := ?vo_w43) (w1 := (wr.setCell ⟨go40, (x8_2 : Int).toNat, none⟩ (.int .u64 t316))) ?hg ?ho ?hn ?hr ?_; (case ho => rfl); (case hg => rfl); (case hn => rfl); (case hr => first | (go_simp; done) | (go_simp; rfl)); intro w43 hw; have hg : wr.grownBy w43 (some go40) := (by rw [hw]; exact HP42.2); have hp_ : Kd.R (Kd.int .u64) 23 w43 w.heap.size (fun _ => True) (.slice (some ⟨go40, 0, none⟩) x7_3.length co41) y317 := (by rw [hw, Ny317.out]; exact HP42.1); clear HP42; have n0_ := Aside0.mk (hp_); have n1_ := Aside0.mk ((by rw [hw]; exact below_set (HB.out) GB40.out : Below w.heap.size w w43)); clear HO_7; clear HB; have HO_7 := n0_; have HB := n1_; clear n0_ n1_; clear hg hw hp_))
                                      go_roundg k3
                                      case measure => have := HJ3.out; have := HK2.out; have := HK3.out; omega
                                      case rel => exact ⟨(y317), (wrap64 (x9_3 + 1)), (by first | rfl | (simp; done) | (simp [*]; done)), H', ⟨by have := HJ3.out; have := HK2.out; have := HK3.out; omega⟩, ⟨by (with_reducible repeat (first | apply Kd.R_alloc | apply Kd.R_drewN | apply Kd.R_drew)); exact HO_7.out⟩, ⟨by repeat (first | (with_reducible first | exact HB.out | apply below_alloc | apply pw_below_drewN | apply below_drew1) | exact HB.out)⟩⟩
                                    · rw [if_neg c38] at H
                                      exact absurd H (by simp)
                                  · rw [if_neg c37] at H
                                    exact absurd H (by simp)
                                · rw [if_neg c36] at H
                                  have c36b0 : (a2 == 2) = false := beq_eq_false_iff_ne.mpr c36
                                  have c36b1 : (a2 != 2) = true := bne_iff_ne.mpr c36
                                  have H' := Aside0.mk H
                                  clear H
                                  go_wp2_with (first | ((with_reducible refine gate_callee (f := 10) rfl ?_); refine goesL_ (some 45) rfl rfl Tryd.func10 (by kernel_rfl) rfl #[.slice A0 l0.length c0, .int .i64 x8_2, .int .i64 x9_3] rfl (by (try simp only [List.map_toArray, List.map_cons, List.map_nil]); first | done | rfl | (simp only [List.length_drop, List.length_take]; rfl)) ?_; (with_reducible refine (witheref1_At.calls _ _ l0 x8_2 x9_3 true _ ?side1 ?side2 A16.out).mono ?_); (case side1 => repeat (first | exact (Kd.C_below HR0.out HB.out) | (with_reducible refine Kd.C_alloc ?_ _) | (with_reducible refine Kd.C_drewN ?_ _) | (with_reducible refine Kd.C_drew ?_))); (case side2 => exact HC0.out); rintro e w' ⟨rfl, ⟨nd, rfl⟩⟩; refine ⟨_, rfl, ?_⟩) | ((with_reducible refine gate_callee (f := 10) rfl ?_); refine goesL_ (some 49) rfl rfl Tryd.func10 (by kernel_rfl) rfl #[.slice A1 l1.length c1, .int .i64 x8_2, .int .i64 x9_3] rfl (by (try simp only [List.map_toArray, List.map_cons, List.map_nil]); first | done | rfl | (simp only [List.length_drop, List.length_take]; rfl)) ?_; (with_reducible refine (witheref1_At.calls _ _ l1 x8_2 x9_3 false _ ?side1 ?side2 A17.out).mono ?_); (case side1 => repeat (first | exact (Kd.C_below HR1.out (by repeat (first | (with_reducible first | exact HB.out | apply below_alloc | apply pw_below_drewN | apply below_drew1) | exact HB.out))) | (with_reducible refine Kd.C_alloc ?_ _) | (with_reducible refine Kd.C_drewN ?_ _) | (with_reducible refine Kd.C_drew ?_))); (case side2 => exact HC1.out); rintro e w' ⟨rfl, ⟨nd, rfl⟩⟩; refine ⟨_, rfl, ?_⟩))
                                  go_roundg k3
                                  case measure => have := HJ3.out; have := HK2.out; have := HK3.out; omega
                                  case rel => exact ⟨(x7_3), (wrap64 (x9_3 + 1)), (by first | rfl | (simp; done) | (simp [*]; done)), H', ⟨by have := HJ3.out; have := HK2.out; have := HK3.out; omega⟩, ⟨by (with_reducible repeat (first | apply Kd.R_alloc | apply Kd.R_drewN | apply Kd.R_drew)); exact HO_7.out⟩, ⟨by repeat (first | (with_reducible first | exact HB.out | apply below_alloc | apply pw_below_drewN | apply below_drew1) | exact HB.out)⟩⟩
                          · replace c19 := Bool.eq_false_iff.mpr c19
                            subst c19
                            have H1 : (if a2 = 1 then (if t308 = true then (if 0 ≤ x8_2 then (if x8_2 < (x7_3.length : Int) then ((witheref1_Put.f k3 (rd x7_3 x8_2) x9_3).bind fun t319 => (witheref1_Two.l1 k3 l0 l1 a2 (x7_3.set (x8_2 : Int).toNat t319) x8_2 (wrap64 (x9_3 + 1)))) else (none)) else (none)) else (if a2 = 2 then (witheref1_Two.l1 k3 l0 l1 a2 x7_3 x8_2 (wrap64 (x9_3 + 1))) else (witheref1_Two.l1 k3 l0 l1 a2 x7_3 x8_2 (wrap64 (x9_3 + 1))))) else (if a2 = 2 then (witheref1_Two.l1 k3 l0 l1 a2 x7_3 x8_2 (wrap64 (x9_3 + 1))) else (witheref1_Two.l1 k3 l0 l1 a2 x7_3 x8_2 (wrap64 (x9_3 + 1))))) = some r := by rw [if_neg (show ¬ (false = true) by decide)] at H; exact H
                            clear H
                            have H := H1
                            clear H1
                            by_cases c44 : a2 = 1
                            · rw [if_pos c44] at H
                              have c44b0 : (a2 == 1) = true := beq_iff_eq.mpr c44
                              have c44b1 : (a2 != 1) = false := bne_eq_false_iff_eq.mpr c44
                              clear c44
                              by_cases c45 : t308 = true
                              · subst c45
                                have H1 : (if 0 ≤ x8_2 then (if x8_2 < (x7_3.length : Int) then ((witheref1_Put.f k3 (rd x7_3 x8_2) x9_3).bind fun t319 => (witheref1_Two.l1 k3 l0 l1 a2 (x7_3.set (x8_2 : Int).toNat t319) x8_2 (wrap64 (x9_3 + 1)))) else (none)) else (none)) = some r := by rw [if_pos rfl] at H; exact H
                                clear H
                                have H := H1
                                clear H1
                                by_cases c46 : 0 ≤ x8_2
                                · rw [if_pos c46] at H
                                  have c46b0 : decide (0 ≤ x8_2) = true := decide_eq_true c46
                                  clear c46
                                  by_cases c47 : x8_2 < (x7_3.length : Int)
                                  · rw [if_pos c47] at H
                                    have c47b0 : decide (x8_2 < (x7_3.length : Int)) = true := decide_eq_true c47
                                    clear c47
                                    replace H := Option.bind_eq_some_iff.mp H
                                    obtain ⟨t319, A480, H⟩ := H
                                    replace H : (witheref1_Two.l1 k3 l0 l1 a2 (x7_3.set (x8_2 : Int).toNat t319) x8_2 (wrap64 (x9_3 + 1))) = some r := H
                                    have A48 := Aside0.mk A480
                                    clear A480
                                    obtain ⟨y320, hy320⟩ : ∃ y_ : List Int, y_ = (x7_3.set (x8_2 : Int).toNat t319) := ⟨_, rfl⟩
                                    replace H : (witheref1_Two.l1 k3 l0 l1 a2 y320 x8_2 (wrap64 (x9_3 + 1))) = some r := by first | (rw [hy320]; with_reducible exact H) | (have H2_ := (Option.bind_some _ _).symm.trans H; rw [hy320]; with_reducible exact H2_) | (have H2_ := (Option.bind_some _ _).symm.trans H; with_reducible exact H2_) | with_reducible exact H | (rw [hy320]; exact H) | exact H
                                    have Ny320 := Aside0.mk hy320
                                    clear hy320
                                    have H' := Aside0.mk H
                                    clear H
                                    go_wp2_with (first | ((with_reducible refine gate_callee (f := 10) rfl ?_); refine goesL_ (some 45) rfl rfl Tryd.func10 (by kernel_rfl) rfl #[.slice A0 l0.length c0, .int .i64 x8_2, .int .i64 x9_3] rfl (by (try simp only [List.map_toArray, List.map_cons, List.map_nil]); first | done | rfl | (simp only [List.length_drop, List.length_take]; rfl)) ?_; (with_reducible refine (witheref1_At.calls _ _ l0 x8_2 x9_3 false _ ?side1 ?side2 A16.out).mono ?_); (case side1 => repeat (first | exact (Kd.C_below HR0.out HB.out) | (with_reducible refine Kd.C_alloc ?_ _) | (with_reducible refine Kd.C_drewN ?_ _) | (with_reducible refine Kd.C_drew ?_))); (case side2 => exact HC0.out); rintro e w' ⟨rfl, ⟨nd, rfl⟩⟩; refine ⟨_, rfl, ?_⟩; (try (rw [drewN_self wr]; generalize hq_ : World.drewN wr _ = wr; have n0_ : Aside0 (Kd.R (Kd.int .u64) 23 wr w.heap.size (fun _ => True) v305 x7_3) := ⟨by rw [← hq_]; exact (by (with_reducible repeat (first | apply Kd.R_alloc | apply Kd.R_drewN | apply Kd.R_drew)); exact HO_7.out)⟩; have n1_ : Aside0 (Below w.heap.size w wr) := ⟨by rw [← hq_]; exact (by repeat (first | (with_reducible first | exact HB.out | apply below_alloc | apply pw_below_drewN | apply below_drew1) | exact HB.out))⟩; clear HO_7 HB hq_; have HO_7 := n0_; have HB := n1_; clear n0_ n1_))) | ((with_reducible refine gate_callee (f := 10) rfl ?_); refine goesL_ (some 49) rfl rfl Tryd.func10 (by kernel_rfl) rfl #[.slice A1 l1.length c1, .int .i64 x8_2, .int .i64 x9_3] rfl (by (try simp only [List.map_toArray, List.map_cons, List.map_nil]); first | done | rfl | (simp only [List.length_drop, List.length_take]; rfl)) ?_; (with_reducible refine (witheref1_At.calls _ _ l1 x8_2 x9_3 true _ ?side1 ?side2 A17.out).mono ?_); (case side1 => repeat (first | exact (Kd.C_below HR1.out HB.out) | (with_reducible refine Kd.C_alloc ?_ _) | (with_reducible refine Kd.C_drewN ?_ _) | (with_reducible refine Kd.C_drew ?_))); (case side2 => exact HC1.out); rintro e w' ⟨rfl, ⟨nd, rfl⟩⟩; refine ⟨_, rfl, ?_⟩; (try (rw [drewN_self wr]; generalize hq_ : World.drewN wr _ = wr; have n0_ : Aside0 (Kd.R (Kd.int .u64) 23 wr w.heap.size (fun _ => True) v305 x7_3) := ⟨by rw [← hq_]; exact (by (with_reducible repeat (first | apply Kd.R_alloc | apply Kd.R_drewN | apply Kd.R_drew)); exact HO_7.out)⟩; have n1_ : Aside0 (Below w.heap.size w wr) := ⟨by rw [← hq_]; exact (by repeat (first | (with_reducible first | exact HB.out | apply below_alloc | apply pw_below_drewN | apply below_drew1) | exact HB.out))⟩; clear HO_7 HB hq_; have HO_7 := n0_; have HB := n1_; clear n0_ n1_)); obtain ⟨Ao50, co50, eo50⟩ := Kd.R_slice HO_7.out; subst eo50; have p318 : 0 ≤ (x8_2 : Int) := of_decide_eq_true (by first | (with_reducible assumption) | assumption); have q318 : x8_2 < (x7_3.length : Int) := of_decide_eq_true (by first | (with_reducible assumption) | assumption); obtain ⟨ad318, e318, hx318_0⟩ := Kd.at_int (Kd.R_reads' HO_7.out).2.2 x8_2 p318 q318; cases e318; replace p318 := eq_true p318; replace q318 := eq_true q318) | ((with_reducible refine gate_callee (f := 12) rfl ?_); refine goesL_ (some 86) rfl rfl Tryd.func12 (by kernel_rfl) rfl #[.int .u64 (rd x7_3 x8_2), .int .i64 x9_3] rfl (by (try simp only [List.map_toArray, List.map_cons, List.map_nil]); first | done | rfl | (simp only [List.length_drop, List.length_take]; rfl)) ?_; (with_reducible refine (witheref1_Put.calls k3 (rd x7_3 x8_2) x9_3 t319 _ A48.out).mono ?_); rintro e w' ⟨rfl, ⟨nd, rfl⟩⟩; refine ⟨_, rfl, ?_⟩; (try (rw [drewN_self wr]; generalize hq_ : World.drewN wr _ = wr; have n0_ : Aside0 (Kd.R (Kd.int .u64) 23 wr w.heap.size (fun _ => True) (.slice (some ad318) x7_3.length co50) x7_3) := ⟨by rw [← hq_]; exact (by (with_reducible repeat (first | apply Kd.R_alloc | apply Kd.R_drewN | apply Kd.R_drew)); exact HO_7.out)⟩; have n1_ : Aside0 (Below w.heap.size w wr) := ⟨by rw [← hq_]; exact (by repeat (first | (with_reducible first | exact HB.out | apply below_alloc | apply pw_below_drewN | apply below_drew1) | exact HB.out))⟩; clear HO_7 HB hq_; have HO_7 := n0_; have HB := n1_; clear n0_ n1_)); have p49 : 0 ≤ (x8_2 : Int) := of_decide_eq_true (by first | (with_reducible assumption) | assumption); have q49 : (x8_2 : Int) < ((x7_3.length : Int) : Int) := of_decide_eq_true (by first | (with_reducible assumption) | assumption); obtain ⟨go49, co49, eo49, gb49, gl49, cl49, HG49⟩ := Kd.R_form HO_7.out (by omega); (first | cases eo49 | (injection eo49 with ea_ en_ ec_; (first | subst ea_ | (injection ea_ with ea_; subst ea_)); subst ec_; clear en_)); have GB49 := Aside0.mk gb49; have GG49 := Aside0.mk HG49; clear gb49 gl49 HG49; (first | simp only [add_plain] at hx318_0 | skip); obtain ⟨hx49_0, hf49_0⟩ := Kd.R_celln 0 HO_7.out (x8_2 : Int) p49 q49; replace p49 := eq_true p49; replace q49 := eq_true q49; obtain ⟨hy51_, hz51_⟩ := Kd.R_celln 0 HO_7.out (x8_2 : Int) (of_decide_eq_true (by first | (with_reducible assumption) | assumption)) (of_decide_eq_true (by first | (with_reducible assumption) | assumption)); have HP51 := Kd.R_putg HO_7.out (x8_2 : Int) t319) | ((with_reducible refine gate_store (t := 23) (p := 87) rfl ?_); refine store_event (t := 23) (p := 87) (v := ?vo_w52) (w1 := (wr.setCell ⟨go49, (x8_2 : Int).toNat, none⟩ (.int .u64 t319))) ?hg ?ho ?hn ?hr ?_; (case ho => rfl); (case hg => rfl); (case hn => rfl); (case hr => first | (go_simp; done) | (go_simp; rfl)); intro w52 hw; have hg : wr.grownBy w52 (some go49) := (by rw [hw]; exact HP51.2); have hp_ : Kd.R (Kd.int .u64) 23 w52 w.heap.size (fun _ => True) (.slice (some ⟨go49, 0, none⟩) x7_3.length co50) y320 := (by rw [hw, Ny320.out]; exact HP51.1); clear HP51; have n0_ := Aside0.mk (hp_); have n1_ := Aside0.mk ((by rw [hw]; exact below_set (HB.out) GB49.out : Below w.heap.size w w52)); clear HO_7; clear HB; have HO_7 := n0_; have HB := n1_; clear n0_ n1_; clear hg hw hp_))
                                    go_roundg k3
                                    case measure => have := HJ3.out; have := HK2.out; have := HK3.out; omega
                                    case rel => exact ⟨(y320), (wrap64 (x9_3 + 1)), (by first | rfl | (simp; done) | (simp [*]; done)), H', ⟨by have := HJ3.out; have := HK2.out; have := HK3.out; omega⟩, ⟨by (with_reducible repeat (first | apply Kd.R_alloc | apply Kd.R_drewN | apply Kd.R_drew)); exact HO_7.out⟩, ⟨by repeat (first | (with_reducible first | exact HB.out | apply below_alloc | apply pw_below_drewN | apply below_drew1) | exact HB.out)⟩⟩
                                  · rw [if_neg c47] at H
                                    exact absurd H (by simp)
                                · rw [if_neg c46] at H
                                  exact absurd H (by simp)
                              · replace c45 := Bool.eq_false_iff.mpr c45
                                subst c45
                                have H1 : (if a2 = 2 then (witheref1_Two.l1 k3 l0 l1 a2 x7_3 x8_2 (wrap64 (x9_3 + 1))) else (witheref1_Two.l1 k3 l0 l1 a2 x7_3 x8_2 (wrap64 (x9_3 + 1)))) = some r := by rw [if_neg (show ¬ (false = true) by decide)] at H; exact H
                                clear H
                                have H := H1
                                clear H1
                                by_cases c53 : a2 = 2
                                · rw [if_pos c53] at H
                                  have c53b0 : (a2 == 2) = true := beq_iff_eq.mpr c53
                                  have c53b1 : (a2 != 2) = false := bne_eq_false_iff_eq.mpr c53
                                  clear c53
                                  have H' := Aside0.mk H
                                  clear H
                                  go_wp2_with (first | ((with_reducible refine gate_callee (f := 10) rfl ?_); refine goesL_ (some 45) rfl rfl Tryd.func10 (by kernel_rfl) rfl #[.slice A0 l0.length c0, .int .i64 x8_2, .int .i64 x9_3] rfl (by (try simp only [List.map_toArray, List.map_cons, List.map_nil]); first | done | rfl | (simp only [List.length_drop, List.length_take]; rfl)) ?_; (with_reducible refine (witheref1_At.calls _ _ l0 x8_2 x9_3 false _ ?side1 ?side2 A16.out).mono ?_); (case side1 => repeat (first | exact (Kd.C_below HR0.out HB.out) | (with_reducible refine Kd.C_alloc ?_ _) | (with_reducible refine Kd.C_drewN ?_ _) | (with_reducible refine Kd.C_drew ?_))); (case side2 => exact HC0.out); rintro e w' ⟨rfl, ⟨nd, rfl⟩⟩; refine ⟨_, rfl, ?_⟩) | ((with_reducible refine gate_callee (f := 10) rfl ?_); refine goesL_ (some 49) rfl rfl Tryd.func10 (by kernel_rfl) rfl #[.slice A1 l1.length c1, .int .i64 x8_2, .int .i64 x9_3] rfl (by (try simp only [List.map_toArray, List.map_cons, List.map_nil]); first | done | rfl | (simp only [List.length_drop, List.length_take]; rfl)) ?_; (with_reducible refine (witheref1_At.calls _ _ l1 x8_2 x9_3 false _ ?side1 ?side2 A17.out).mono ?_); (case side1 => repeat (first | exact (Kd.C_below HR1.out (by repeat (first | (with_reducible first | exact HB.out | apply below_alloc | apply pw_below_drewN | apply below_drew1) | exact HB.out))) | (with_reducible refine Kd.C_alloc ?_ _) | (with_reducible refine Kd.C_drewN ?_ _) | (with_reducible refine Kd.C_drew ?_))); (case side2 => exact HC1.out); rintro e w' ⟨rfl, ⟨nd, rfl⟩⟩; refine ⟨_, rfl, ?_⟩))
                                  go_roundg k3
                                  case measure => have := HJ3.out; have := HK2.out; have := HK3.out; omega
                                  case rel => exact ⟨(x7_3), (wrap64 (x9_3 + 1)), (by first | rfl | (simp; done) | (simp [*]; done)), H', ⟨by have := HJ3.out; have := HK2.out; have := HK3.out; omega⟩, ⟨by (with_reducible repeat (first | apply Kd.R_alloc | apply Kd.R_drewN | apply Kd.R_drew)); exact HO_7.out⟩, ⟨by repeat (first | (with_reducible first | exact HB.out | apply below_alloc | apply pw_below_drewN | apply below_drew1) | exact HB.out)⟩⟩
                                · rw [if_neg c53] at H
                                  have c53b0 : (a2 == 2) = false := beq_eq_false_iff_ne.mpr c53
                                  have c53b1 : (a2 != 2) = true := bne_iff_ne.mpr c53
                                  have H' := Aside0.mk H
                                  clear H
                                  go_wp2_with (first | ((with_reducible refine gate_callee (f := 10) rfl ?_); refine goesL_ (some 45) rfl rfl Tryd.func10 (by kernel_rfl) rfl #[.slice A0 l0.length c0, .int .i64 x8_2, .int .i64 x9_3] rfl (by (try simp only [List.map_toArray, List.map_cons, List.map_nil]); first | done | rfl | (simp only [List.length_drop, List.length_take]; rfl)) ?_; (with_reducible refine (witheref1_At.calls _ _ l0 x8_2 x9_3 false _ ?side1 ?side2 A16.out).mono ?_); (case side1 => repeat (first | exact (Kd.C_below HR0.out HB.out) | (with_reducible refine Kd.C_alloc ?_ _) | (with_reducible refine Kd.C_drewN ?_ _) | (with_reducible refine Kd.C_drew ?_))); (case side2 => exact HC0.out); rintro e w' ⟨rfl, ⟨nd, rfl⟩⟩; refine ⟨_, rfl, ?_⟩) | ((with_reducible refine gate_callee (f := 10) rfl ?_); refine goesL_ (some 49) rfl rfl Tryd.func10 (by kernel_rfl) rfl #[.slice A1 l1.length c1, .int .i64 x8_2, .int .i64 x9_3] rfl (by (try simp only [List.map_toArray, List.map_cons, List.map_nil]); first | done | rfl | (simp only [List.length_drop, List.length_take]; rfl)) ?_; (with_reducible refine (witheref1_At.calls _ _ l1 x8_2 x9_3 false _ ?side1 ?side2 A17.out).mono ?_); (case side1 => repeat (first | exact (Kd.C_below HR1.out (by repeat (first | (with_reducible first | exact HB.out | apply below_alloc | apply pw_below_drewN | apply below_drew1) | exact HB.out))) | (with_reducible refine Kd.C_alloc ?_ _) | (with_reducible refine Kd.C_drewN ?_ _) | (with_reducible refine Kd.C_drew ?_))); (case side2 => exact HC1.out); rintro e w' ⟨rfl, ⟨nd, rfl⟩⟩; refine ⟨_, rfl, ?_⟩))
                                  go_roundg k3
                                  case measure => have := HJ3.out; have := HK2.out; have := HK3.out; omega
                                  case rel => exact ⟨(x7_3), (wrap64 (x9_3 + 1)), (by first | rfl | (simp; done) | (simp [*]; done)), H', ⟨by have := HJ3.out; have := HK2.out; have := HK3.out; omega⟩, ⟨by (with_reducible repeat (first | apply Kd.R_alloc | apply Kd.R_drewN | apply Kd.R_drew)); exact HO_7.out⟩, ⟨by repeat (first | (with_reducible first | exact HB.out | apply below_alloc | apply pw_below_drewN | apply below_drew1) | exact HB.out)⟩⟩
                            · rw [if_neg c44] at H
                              have c44b0 : (a2 == 1) = false := beq_eq_false_iff_ne.mpr c44
                              have c44b1 : (a2 != 1) = true := bne_iff_ne.mpr c44
                              by_cases c54 : a2 = 2
                              · rw [if_pos c54] at H
                                have c54b0 : (a2 == 2) = true := beq_iff_eq.mpr c54
                                have c54b1 : (a2 != 2) = false := bne_eq_false_iff_eq.mpr c54
                                clear c54
                                have H' := Aside0.mk H
                                clear H
                                go_wp2_with (first | ((with_reducible refine gate_callee (f := 10) rfl ?_); refine goesL_ (some 45) rfl rfl Tryd.func10 (by kernel_rfl) rfl #[.slice A0 l0.length c0, .int .i64 x8_2, .int .i64 x9_3] rfl (by (try simp only [List.map_toArray, List.map_cons, List.map_nil]); first | done | rfl | (simp only [List.length_drop, List.length_take]; rfl)) ?_; (with_reducible refine (witheref1_At.calls _ _ l0 x8_2 x9_3 false _ ?side1 ?side2 A16.out).mono ?_); (case side1 => repeat (first | exact (Kd.C_below HR0.out HB.out) | (with_reducible refine Kd.C_alloc ?_ _) | (with_reducible refine Kd.C_drewN ?_ _) | (with_reducible refine Kd.C_drew ?_))); (case side2 => exact HC0.out); rintro e w' ⟨rfl, ⟨nd, rfl⟩⟩; refine ⟨_, rfl, ?_⟩) | ((with_reducible refine gate_callee (f := 10) rfl ?_); refine goesL_ (some 49) rfl rfl Tryd.func10 (by kernel_rfl) rfl #[.slice A1 l1.length c1, .int .i64 x8_2, .int .i64 x9_3] rfl (by (try simp only [List.map_toArray, List.map_cons, List.map_nil]); first | done | rfl | (simp only [List.length_drop, List.length_take]; rfl)) ?_; (with_reducible refine (witheref1_At.calls _ _ l1 x8_2 x9_3 t308 _ ?side1 ?side2 A17.out).mono ?_); (case side1 => repeat (first | exact (Kd.C_below HR1.out (by repeat (first | (with_reducible first | exact HB.out | apply below_alloc | apply pw_below_drewN | apply below_drew1) | exact HB.out))) | (with_reducible refine Kd.C_alloc ?_ _) | (with_reducible refine Kd.C_drewN ?_ _) | (with_reducible refine Kd.C_drew ?_))); (case side2 => exact HC1.out); rintro e w' ⟨rfl, ⟨nd, rfl⟩⟩; refine ⟨_, rfl, ?_⟩))
                                go_roundg k3
                                case measure => have := HJ3.out; have := HK2.out; have := HK3.out; omega
                                case rel => exact ⟨(x7_3), (wrap64 (x9_3 + 1)), (by first | rfl | (simp; done) | (simp [*]; done)), H', ⟨by have := HJ3.out; have := HK2.out; have := HK3.out; omega⟩, ⟨by (with_reducible repeat (first | apply Kd.R_alloc | apply Kd.R_drewN | apply Kd.R_drew)); exact HO_7.out⟩, ⟨by repeat (first | (with_reducible first | exact HB.out | apply below_alloc | apply pw_below_drewN | apply below_drew1) | exact HB.out)⟩⟩
                              · rw [if_neg c54] at H
                                have c54b0 : (a2 == 2) = false := beq_eq_false_iff_ne.mpr c54
                                have c54b1 : (a2 != 2) = true := bne_iff_ne.mpr c54
                                have H' := Aside0.mk H
                                clear H
                                go_wp2_with (first | ((with_reducible refine gate_callee (f := 10) rfl ?_); refine goesL_ (some 45) rfl rfl Tryd.func10 (by kernel_rfl) rfl #[.slice A0 l0.length c0, .int .i64 x8_2, .int .i64 x9_3] rfl (by (try simp only [List.map_toArray, List.map_cons, List.map_nil]); first | done | rfl | (simp only [List.length_drop, List.length_take]; rfl)) ?_; (with_reducible refine (witheref1_At.calls _ _ l0 x8_2 x9_3 false _ ?side1 ?side2 A16.out).mono ?_); (case side1 => repeat (first | exact (Kd.C_below HR0.out HB.out) | (with_reducible refine Kd.C_alloc ?_ _) | (with_reducible refine Kd.C_drewN ?_ _) | (with_reducible refine Kd.C_drew ?_))); (case side2 => exact HC0.out); rintro e w' ⟨rfl, ⟨nd, rfl⟩⟩; refine ⟨_, rfl, ?_⟩) | ((with_reducible refine gate_callee (f := 10) rfl ?_); refine goesL_ (some 49) rfl rfl Tryd.func10 (by kernel_rfl) rfl #[.slice A1 l1.length c1, .int .i64 x8_2, .int .i64 x9_3] rfl (by (try simp only [List.map_toArray, List.map_cons, List.map_nil]); first | done | rfl | (simp only [List.length_drop, List.length_take]; rfl)) ?_; (with_reducible refine (witheref1_At.calls _ _ l1 x8_2 x9_3 t308 _ ?side1 ?side2 A17.out).mono ?_); (case side1 => repeat (first | exact (Kd.C_below HR1.out (by repeat (first | (with_reducible first | exact HB.out | apply below_alloc | apply pw_below_drewN | apply below_drew1) | exact HB.out))) | (with_reducible refine Kd.C_alloc ?_ _) | (with_reducible refine Kd.C_drewN ?_ _) | (with_reducible refine Kd.C_drew ?_))); (case side2 => exact HC1.out); rintro e w' ⟨rfl, ⟨nd, rfl⟩⟩; refine ⟨_, rfl, ?_⟩))
                                go_roundg k3
                                case measure => have := HJ3.out; have := HK2.out; have := HK3.out; omega
                                case rel => exact ⟨(x7_3), (wrap64 (x9_3 + 1)), (by first | rfl | (simp; done) | (simp [*]; done)), H', ⟨by have := HJ3.out; have := HK2.out; have := HK3.out; omega⟩, ⟨by (with_reducible repeat (first | apply Kd.R_alloc | apply Kd.R_drewN | apply Kd.R_drew)); exact HO_7.out⟩, ⟨by repeat (first | (with_reducible first | exact HB.out | apply below_alloc | apply pw_below_drewN | apply below_drew1) | exact HB.out)⟩⟩
                        · rw [if_neg c18] at H
                          have c18b0 : (a2 == 0) = false := beq_eq_false_iff_ne.mpr c18
                          have c18b1 : (a2 != 0) = true := bne_iff_ne.mpr c18
                          by_cases c55 : a2 = 1
                          · rw [if_pos c55] at H
                            have c55b0 : (a2 == 1) = true := beq_iff_eq.mpr c55
                            have c55b1 : (a2 != 1) = false := bne_eq_false_iff_eq.mpr c55
                            clear c55
                            by_cases c56 : t307 = true
                            · subst c56
                              have H1 : (if 0 ≤ x8_2 then (if x8_2 < (x7_3.length : Int) then ((witheref1_Put.f k3 (rd x7_3 x8_2) x9_3).bind fun t322 => (witheref1_Two.l1 k3 l0 l1 a2 (x7_3.set (x8_2 : Int).toNat t322) x8_2 (wrap64 (x9_3 + 1)))) else (none)) else (none)) = some r := by rw [if_pos rfl] at H; exact H
                              clear H
                              have H := H1
                              clear H1
                              by_cases c57 : 0 ≤ x8_2
                              · rw [if_pos c57] at H
                                have c57b0 : decide (0 ≤ x8_2) = true := decide_eq_true c57
                                clear c57
                                by_cases c58 : x8_2 < (x7_3.length : Int)
                                · rw [if_pos c58] at H
                                  have c58b0 : decide (x8_2 < (x7_3.length : Int)) = true := decide_eq_true c58
                                  clear c58
                                  replace H := Option.bind_eq_some_iff.mp H
                                  obtain ⟨t322, A590, H⟩ := H
                                  replace H : (witheref1_Two.l1 k3 l0 l1 a2 (x7_3.set (x8_2 : Int).toNat t322) x8_2 (wrap64 (x9_3 + 1))) = some r := H
                                  have A59 := Aside0.mk A590
                                  clear A590
                                  obtain ⟨y323, hy323⟩ : ∃ y_ : List Int, y_ = (x7_3.set (x8_2 : Int).toNat t322) := ⟨_, rfl⟩
                                  replace H : (witheref1_Two.l1 k3 l0 l1 a2 y323 x8_2 (wrap64 (x9_3 + 1))) = some r := by first | (rw [hy323]; with_reducible exact H) | (have H2_ := (Option.bind_some _ _).symm.trans H; rw [hy323]; with_reducible exact H2_) | (have H2_ := (Option.bind_some _ _).symm.trans H; with_reducible exact H2_) | with_reducible exact H | (rw [hy323]; exact H) | exact H
                                  have Ny323 := Aside0.mk hy323
                                  clear hy323
                                  have H' := Aside0.mk H
                                  clear H
                                  go_wp2_with (first | ((with_reducible refine gate_callee (f := 10) rfl ?_); refine goesL_ (some 45) rfl rfl Tryd.func10 (by kernel_rfl) rfl #[.slice A0 l0.length c0, .int .i64 x8_2, .int .i64 x9_3] rfl (by (try simp only [List.map_toArray, List.map_cons, List.map_nil]); first | done | rfl | (simp only [List.length_drop, List.length_take]; rfl)) ?_; (with_reducible refine (witheref1_At.calls _ _ l0 x8_2 x9_3 true _ ?side1 ?side2 A16.out).mono ?_); (case side1 => repeat (first | exact (Kd.C_below HR0.out HB.out) | (with_reducible refine Kd.C_alloc ?_ _) | (with_reducible refine Kd.C_drewN ?_ _) | (with_reducible refine Kd.C_drew ?_))); (case side2 => exact HC0.out); rintro e w' ⟨rfl, ⟨nd, rfl⟩⟩; refine ⟨_, rfl, ?_⟩; (try (rw [drewN_self wr]; generalize hq_ : World.drewN wr _ = wr; have n0_ : Aside0 (Kd.R (Kd.int .u64) 23 wr w.heap.size (fun _ => True) v305 x7_3) := ⟨by rw [← hq_]; exact (by (with_reducible repeat (first | apply Kd.R_alloc | apply Kd.R_drewN | apply Kd.R_drew)); exact HO_7.out)⟩; have n1_ : Aside0 (Below w.heap.size w wr) := ⟨by rw [← hq_]; exact (by repeat (first | (with_reducible first | exact HB.out | apply below_alloc | apply pw_below_drewN | apply below_drew1) | exact HB.out))⟩; clear HO_7 HB hq_; have HO_7 := n0_; have HB := n1_; clear n0_ n1_))) | ((with_reducible refine gate_callee (f := 10) rfl ?_); refine goesL_ (some 49) rfl rfl Tryd.func10 (by kernel_rfl) rfl #[.slice A1 l1.length c1, .int .i64 x8_2, .int .i64 x9_3] rfl (by (try simp only [List.map_toArray, List.map_cons, List.map_nil]); first | done | rfl | (simp only [List.length_drop, List.length_take]; rfl)) ?_; (with_reducible refine (witheref1_At.calls _ _ l1 x8_2 x9_3 t308 _ ?side1 ?side2 A17.out).mono ?_); (case side1 => repeat (first | exact (Kd.C_below HR1.out HB.out) | (with_reducible refine Kd.C_alloc ?_ _) | (with_reducible refine Kd.C_drewN ?_ _) | (with_reducible refine Kd.C_drew ?_))); (case side2 => exact HC1.out); rintro e w' ⟨rfl, ⟨nd, rfl⟩⟩; refine ⟨_, rfl, ?_⟩; (try (rw [drewN_self wr]; generalize hq_ : World.drewN wr _ = wr; have n0_ : Aside0 (Kd.R (Kd.int .u64) 23 wr w.heap.size (fun _ => True) v305 x7_3) := ⟨by rw [← hq_]; exact (by (with_reducible repeat (first | apply Kd.R_alloc | apply Kd.R_drewN | apply Kd.R_drew)); exact HO_7.out)⟩; have n1_ : Aside0 (Below w.heap.size w wr) := ⟨by rw [← hq_]; exact (by repeat (first | (with_reducible first | exact HB.out | apply below_alloc | apply pw_below_drewN | apply below_drew1) | exact HB.out))⟩; clear HO_7 HB hq_; have HO_7 := n0_; have HB := n1_; clear n0_ n1_)); obtain ⟨Ao61, co61, eo61⟩ := Kd.R_slice HO_7.out; subst eo61; have p321 : 0 ≤ (x8_2 : Int) := of_decide_eq_true (by first | (with_reducible assumption) | assumption); have q321 : x8_2 < (x7_3.length : Int) := of_decide_eq_true (by first | (with_reducible assumption) | assumption); obtain ⟨ad321, e321, hx321_0⟩ := Kd.at_int (Kd.R_reads' HO_7.out).2.2 x8_2 p321 q321; cases e321; replace p321 := eq_true p321; replace q321 := eq_true q321) | ((with_reducible refine gate_callee (f := 12) rfl ?_); refine goesL_ (some 86) rfl rfl Tryd.func12 (by kernel_rfl) rfl #[.int .u64 (rd x7_3 x8_2), .int .i64 x9_3] rfl (by (try simp only [List.map_toArray, List.map_cons, List.map_nil]); first | done | rfl | (simp only [List.length_drop, List.length_take]; rfl)) ?_; (with_reducible refine (witheref1_Put.calls k3 (rd x7_3 x8_2) x9_3 t322 _ A59.out).mono ?_); rintro e w' ⟨rfl, ⟨nd, rfl⟩⟩; refine ⟨_, rfl, ?_⟩; (try (rw [drewN_self wr]; generalize hq_ : World.drewN wr _ = wr; have n0_ : Aside0 (Kd.R (Kd.int .u64) 23 wr w.heap.size (fun _ => True) (.slice (some ad321) x7_3.length co61) x7_3) := ⟨by rw [← hq_]; exact (by (with_reducible repeat (first | apply Kd.R_alloc | apply Kd.R_drewN | apply Kd.R_drew)); exact HO_7.out)⟩; have n1_ : Aside0 (Below w.heap.size w wr) := ⟨by rw [← hq_]; exact (by repeat (first | (with_reducible first | exact HB.out | apply below_alloc | apply pw_below_drewN | apply below_drew1) | exact HB.out))⟩; clear HO_7 HB hq_; have HO_7 := n0_; have HB := n1_; clear n0_ n1_)); have p60 : 0 ≤ (x8_2 : Int) := of_decide_eq_true (by first | (with_reducible assumption) | assumption); have q60 : (x8_2 : Int) < ((x7_3.length : Int) : Int) := of_decide_eq_true (by first | (with_reducible assumption) | assumption); obtain ⟨go60, co60, eo60, gb60, gl60, cl60, HG60⟩ := Kd.R_form HO_7.out (by omega); (first | cases eo60 | (injection eo60 with ea_ en_ ec_; (first | subst ea_ | (injection ea_ with ea_; subst ea_)); subst ec_; clear en_)); have GB60 := Aside0.mk gb60; have GG60 := Aside0.mk HG60; clear gb60 gl60 HG60; (first | simp only [add_plain] at hx321_0 | skip); obtain ⟨hx60_0, hf60_0⟩ := Kd.R_celln 0 HO_7.out (x8_2 : Int) p60 q60; replace p60 := eq_true p60; replace q60 := eq_true q60; obtain ⟨hy62_, hz62_⟩ := Kd.R_celln 0 HO_7.out (x8_2 : Int) (of_decide_eq_true (by first | (with_reducible assumption) | assumption)) (of_decide_eq_true (by first | (with_reducible assumption) | assumption)); have HP62 := Kd.R_putg HO_7.out (x8_2 : Int) t322) | ((with_reducible refine gate_store (t := 23) (p := 87) rfl ?_); refine store_event (t := 23) (p := 87) (v := ?vo_w63) (w1 := (wr.setCell ⟨go60, (x8_2 : Int).toNat, none⟩ (.int .u64 t322))) ?hg ?ho ?hn ?hr ?_; (case ho => rfl); (case hg => rfl); (case hn => rfl); (case hr => first | (go_simp; done) | (go_simp; rfl)); intro w63 hw; have hg : wr.grownBy w63 (some go60) := (by rw [hw]; exact HP62.2); have hp_ : Kd.R (Kd.int .u64) 23 w63 w.heap.size (fun _ => True) (.slice (some ⟨go60, 0, none⟩) x7_3.length co61) y323 := (by rw [hw, Ny323.out]; exact HP62.1); clear HP62; have n0_ := Aside0.mk (hp_); have n1_ := Aside0.mk ((by rw [hw]; exact below_set (HB.out) GB60.out : Below w.heap.size w w63)); clear HO_7; clear HB; have HO_7 := n0_; have HB := n1_; clear n0_ n1_; clear hg hw hp_))
                                  go_roundg k3
                                  case measure => have := HJ3.out; have := HK2.out; have := HK3.out; omega
                                  case rel => exact ⟨(y323), (wrap64 (x9_3 + 1)), (by first | rfl | (simp; done) | (simp [*]; done)), H', ⟨by have := HJ3.out; have := HK2.out; have := HK3.out; omega⟩, ⟨by (with_reducible repeat (first | apply Kd.R_alloc | apply Kd.R_drewN | apply Kd.R_drew)); exact HO_7.out⟩, ⟨by repeat (first | (with_reducible first | exact HB.out | apply below_alloc | apply pw_below_drewN | apply below_drew1) | exact HB.out)⟩⟩
                                · rw [if_neg c58] at H
                                  exact absurd H (by simp)
                              · rw [if_neg c57] at H
                                exact absurd H (by simp)
                            · replace c56 := Bool.eq_false_iff.mpr c56
                              subst c56
                              have H1 : (if t308 = true then (if 0 ≤ x8_2 then (if x8_2 < (x7_3.length : Int) then ((witheref1_Put.f k3 (rd x7_3 x8_2) x9_3).bind fun t325 => (witheref1_Two.l1 k3 l0 l1 a2 (x7_3.set (x8_2 : Int).toNat t325) x8_2 (wrap64 (x9_3 + 1)))) else (none)) else (none)) else (if a2 = 2 then (witheref1_Two.l1 k3 l0 l1 a2 x7_3 x8_2 (wrap64 (x9_3 + 1))) else (witheref1_Two.l1 k3 l0 l1 a2 x7_3 x8_2 (wrap64 (x9_3 + 1))))) = some r := by rw [if_neg (show ¬ (false = true) by decide)] at H; exact H
                              clear H
                              have H := H1
                              clear H1
                              by_cases c64 : t308 = true
                              · subst c64
                                have H1 : (if 0 ≤ x8_2 then (if x8_2 < (x7_3.length : Int) then ((witheref1_Put.f k3 (rd x7_3 x8_2) x9_3).bind fun t325 => (witheref1_Two.l1 k3 l0 l1 a2 (x7_3.set (x8_2 : Int).toNat t325) x8_2 (wrap64 (x9_3 + 1)))) else (none)) else (none)) = some r := by rw [if_pos rfl] at H; exact H
                                clear H
                                have H := H1
                                clear H1
                                by_cases c65 : 0 ≤ x8_2
                                · rw [if_pos c65] at H
                                  have c65b0 : decide (0 ≤ x8_2) = true := decide_eq_true c65
                                  clear c65
                                  by_cases c66 : x8_2 < (x7_3.length : Int)
                                  · rw [if_pos c66] at H
                                    have c66b0 : decide (x8_2 < (x7_3.length : Int)) = true := decide_eq_true c66
                                    clear c66
                                    replace H := Option.bind_eq_some_iff.mp H
                                    obtain ⟨t325, A670, H⟩ := H
                                    replace H : (witheref1_Two.l1 k3 l0 l1 a2 (x7_3.set (x8_2 : Int).toNat t325) x8_2 (wrap64 (x9_3 + 1))) = some r := H
                                    have A67 := Aside0.mk A670
                                    clear A670
                                    obtain ⟨y326, hy326⟩ : ∃ y_ : List Int, y_ = (x7_3.set (x8_2 : Int).toNat t325) := ⟨_, rfl⟩
                                    replace H : (witheref1_Two.l1 k3 l0 l1 a2 y326 x8_2 (wrap64 (x9_3 + 1))) = some r := by first | (rw [hy326]; with_reducible exact H) | (have H2_ := (Option.bind_some _ _).symm.trans H; rw [hy326]; with_reducible exact H2_) | (have H2_ := (Option.bind_some _ _).symm.trans H; with_reducible exact H2_) | with_reducible exact H | (rw [hy326]; exact H) | exact H
                                    have Ny326 := Aside0.mk hy326
                                    clear hy326
                                    have H' := Aside0.mk H
                                    clear H
                                    go_wp2_with (first | ((with_reducible refine gate_callee (f := 10) rfl ?_); refine goesL_ (some 45) rfl rfl Tryd.func10 (by kernel_rfl) rfl #[.slice A0 l0.length c0, .int .i64 x8_2, .int .i64 x9_3] rfl (by (try simp only [List.map_toArray, List.map_cons, List.map_nil]); first | done | rfl | (simp only [List.length_drop, List.length_take]; rfl)) ?_; (with_reducible refine (witheref1_At.calls _ _ l0 x8_2 x9_3 false _ ?side1 ?side2 A16.out).mono ?_); (case side1 => repeat (first | exact (Kd.C_below HR0.out HB.out) | (with_reducible refine Kd.C_alloc ?_ _) | (with_reducible refine Kd.C_drewN ?_ _) | (with_reducible refine Kd.C_drew ?_))); (case side2 => exact HC0.out); rintro e w' ⟨rfl, ⟨nd, rfl⟩⟩; refine ⟨_, rfl, ?_⟩; (try (rw [drewN_self wr]; generalize hq_ : World.drewN wr _ = wr; have n0_ : Aside0 (Kd.R (Kd.int .u64) 23 wr w.heap.size (fun _ => True) v305 x7_3) := ⟨by rw [← hq_]; exact (by (with_reducible repeat (first | apply Kd.R_alloc | apply Kd.R_drewN | apply Kd.R_drew)); exact HO_7.out)⟩; have n1_ : Aside0 (Below w.heap.size w wr) := ⟨by rw [← hq_]; exact (by repeat (first | (with_reducible first | exact HB.out | apply below_alloc | apply pw_below_drewN | apply below_drew1) | exact HB.out))⟩; clear HO_7 HB hq_; have HO_7 := n0_; have HB := n1_; clear n0_ n1_))) | ((with_reducible refine gate_callee (f := 10) rfl ?_); refine goesL_ (some 49) rfl rfl Tryd.func10 (by kernel_rfl) rfl #[.slice A1 l1.length c1, .int .i64 x8_2, .int .i64 x9_3] rfl (by (try simp only [List.map_toArray, List.map_cons, List.map_nil]); first | done | rfl | (simp only [List.length_drop, List.length_take]; rfl)) ?_; (with_reducible refine (witheref1_At.calls _ _ l1 x8_2 x9_3 true _ ?side1 ?side2 A17.out).mono ?_); (case side1 => repeat (first | exact (Kd.C_below HR1.out HB.out) | (with_reducible refine Kd.C_alloc ?_ _) | (with_reducible refine Kd.C_drewN ?_ _) | (with_reducible refine Kd.C_drew ?_))); (case side2 => exact HC1.out); rintro e w' ⟨rfl, ⟨nd, rfl⟩⟩; refine ⟨_, rfl, ?_⟩; (try (rw [drewN_self wr]; generalize hq_ : World.drewN wr _ = wr; have n0_ : Aside0 (Kd.R (Kd.int .u64) 23 wr w.heap.size (fun _ => True) v305 x7_3) := ⟨by rw [← hq_]; exact (by (with_reducible repeat (first | apply Kd.R_alloc | apply Kd.R_drewN | apply Kd.R_drew)); exact HO_7.out)⟩; have n1_ : Aside0 (Below w.heap.size w wr) := ⟨by rw [← hq_]; exact (by repeat (first | (with_reducible first | exact HB.out | apply below_alloc | apply pw_below_drewN | apply below_drew1) | exact HB.out))⟩; clear HO_7 HB hq_; have HO_7 := n0_; have HB := n1_; clear n0_ n1_)); obtain ⟨Ao69, co69, eo69⟩ := Kd.R_slice HO_7.out; subst eo69; have p324 : 0 ≤ (x8_2 : Int) := of_decide_eq_true (by first | (with_reducible assumption) | assumption); have q324 : x8_2 < (x7_3.length : Int) := of_decide_eq_true (by first | (with_reducible assumption) | assumption); obtain ⟨ad324, e324, hx324_0⟩ := Kd.at_int (Kd.R_reads' HO_7.out).2.2 x8_2 p324 q324; cases e324; replace p324 := eq_true p324; replace q324 := eq_true q324) | ((with_reducible refine gate_callee (f := 12) rfl ?_); refine goesL_ (some 86) rfl rfl Tryd.func12 (by kernel_rfl) rfl #[.int .u64 (rd x7_3 x8_2), .int .i64 x9_3] rfl (by (try simp only [List.map_toArray, List.map_cons, List.map_nil]); first | done | rfl | (simp only [List.length_drop, List.length_take]; rfl)) ?_; (with_reducible refine (witheref1_Put.calls k3 (rd x7_3 x8_2) x9_3 t325 _ A67.out).mono ?_); rintro e w' ⟨rfl, ⟨nd, rfl⟩⟩; refine ⟨_, rfl, ?_⟩; (try (rw [drewN_self wr]; generalize hq_ : World.drewN wr _ = wr; have n0_ : Aside0 (Kd.R (Kd.int .u64) 23 wr w.heap.size (fun _ => True) (.slice (some ad324) x7_3.length co69) x7_3) := ⟨by rw [← hq_]; exact (by (with_reducible repeat (first | apply Kd.R_alloc | apply Kd.R_drewN | apply Kd.R_drew)); exact HO_7.out)⟩; have n1_ : Aside0 (Below w.heap.size w wr) := ⟨by rw [← hq_]; exact (by repeat (first | (with_reducible first | exact HB.out | apply below_alloc | apply pw_below_drewN | apply below_drew1) | exact HB.out))⟩; clear HO_7 HB hq_; have HO_7 := n0_; have HB := n1_; clear n0_ n1_)); have p68 : 0 ≤ (x8_2 : Int) := of_decide_eq_true (by first | (with_reducible assumption) | assumption); have q68 : (x8_2 : Int) < ((x7_3.length : Int) : Int) := of_decide_eq_true (by first | (with_reducible assumption) | assumption); obtain ⟨go68, co68, eo68, gb68, gl68, cl68, HG68⟩ := Kd.R_form HO_7.out (by omega); (first | cases eo68 | (injection eo68 with ea_ en_ ec_; (first | subst ea_ | (injection ea_ with ea_; subst ea_)); subst ec_; clear en_)); have GB68 := Aside0.mk gb68; have GG68 := Aside0.mk HG68; clear gb68 gl68 HG68; (first | simp only [add_plain] at hx324_0 | skip); obtain ⟨hx68_0, hf68_0⟩ := Kd.R_celln 0 HO_7.out (x8_2 : Int) p68 q68; replace p68 := eq_true p68; replace q68 := eq_true q68; obtain ⟨hy70_, hz70_⟩ := Kd.R_celln 0 HO_7.out (x8_2 : Int) (of_decide_eq_true (by first | (with_reducible assumption) | assumption)) (of_decide_eq_true (by first | (with_reducible assumption) | assumption)); have HP70 := Kd.R_putg HO_7.out (x8_2 : Int) t325) | ((with_reducible refine gate_store (t := 23) (p := 87) rfl ?_); refine store_event (t := 23) (p := 87) (v := ?vo_w71) (w1 := (wr.setCell ⟨go68, (x8_2 : Int).toNat, none⟩ (.int .u64 t325))) ?hg ?ho ?hn ?hr ?_; (case ho => rfl); (case hg => rfl); (case hn => rfl); (case hr => first | (go_simp; done) | (go_simp; rfl)); intro w71 hw; have hg : wr.grownBy w71 (some go68) := (by rw [hw]; exact HP70.2); have hp_ : Kd.R (Kd.int .u64) 23 w71 w.heap.size (fun _ => True) (.slice (some ⟨go68, 0, none⟩) x7_3.length co69) y326 := (by rw [hw, Ny326.out]; exact HP70.1); clear HP70; have n0_ := Aside0.mk (hp_); have n1_ := Aside0.mk ((by rw [hw]; exact below_set (HB.out) GB68.out : Below w.heap.size w w71)); clear HO_7; clear HB; have HO_7 := n0_; have HB := n1_; clear n0_ n1_; clear hg hw hp_))
                                    go_roundg k3
                                    case measure => have := HJ3.out; have := HK2.out; have := HK3.out; omega
                                    case rel => exact ⟨(y326), (wrap64 (x9_3 + 1)), (by first | rfl | (simp; done) | (simp [*]; done)), H', ⟨by have := HJ3.out; have := HK2.out; have := HK3.out; omega⟩, ⟨by (with_reducible repeat (first | apply Kd.R_alloc | apply Kd.R_drewN | apply Kd.R_drew)); exact HO_7.out⟩, ⟨by repeat (first | (with_reducible first | exact HB.out | apply below_alloc | apply pw_below_drewN | apply below_drew1) | exact HB.out)⟩⟩
                                  · rw [if_neg c66] at H
                                    exact absurd H (by simp)
                                · rw [if_neg c65] at H
                                  exact absurd H (by simp)
                              · replace c64 := Bool.eq_false_iff.mpr c64
                                subst c64
                                have H1 : (if a2 = 2 then (witheref1_Two.l1 k3 l0 l1 a2 x7_3 x8_2 (wrap64 (x9_3 + 1))) else (witheref1_Two.l1 k3 l0 l1 a2 x7_3 x8_2 (wrap64 (x9_3 + 1)))) = some r := by rw [if_neg (show ¬ (false = true) by decide)] at H; exact H
                                clear H
                                have H := H1
                                clear H1
                                by_cases c72 : a2 = 2
                                · rw [if_pos c72] at H
                                  have c72b0 : (a2 == 2) = true := beq_iff_eq.mpr c72
                                  have c72b1 : (a2 != 2) = false := bne_eq_false_iff_eq.mpr c72
                                  clear c72
                                  have H' := Aside0.mk H
                                  clear H
                                  go_wp2_with (first | ((with_reducible refine gate_callee (f := 10) rfl ?_); refine goesL_ (some 45) rfl rfl Tryd.func10 (by kernel_rfl) rfl #[.slice A0 l0.length c0, .int .i64 x8_2, .int .i64 x9_3] rfl (by (try simp only [List.map_toArray, List.map_cons, List.map_nil]); first | done | rfl | (simp only [List.length_drop, List.length_take]; rfl)) ?_; (with_reducible refine (witheref1_At.calls _ _ l0 x8_2 x9_3 false _ ?side1 ?side2 A16.out).mono ?_); (case side1 => repeat (first | exact (Kd.C_below HR0.out HB.out) | (with_reducible refine Kd.C_alloc ?_ _) | (with_reducible refine Kd.C_drewN ?_ _) | (with_reducible refine Kd.C_drew ?_))); (case side2 => exact HC0.out); rintro e w' ⟨rfl, ⟨nd, rfl⟩⟩; refine ⟨_, rfl, ?_⟩) | ((with_reducible refine gate_callee (f := 10) rfl ?_); refine goesL_ (some 49) rfl rfl Tryd.func10 (by kernel_rfl) rfl #[.slice A1 l1.length c1, .int .i64 x8_2, .int .i64 x9_3] rfl (by (try simp only [List.map_toArray, List.map_cons, List.map_nil]); first | done | rfl | (simp only [List.length_drop, List.length_take]; rfl)) ?_; (with_reducible refine (witheref1_At.calls _ _ l1 x8_2 x9_3 false _ ?side1 ?side2 A17.out).mono ?_); (case side1 => repeat (first | exact (Kd.C_below HR1.out (by repeat (first | (with_reducible first | exact HB.out | apply below_alloc | apply pw_below_drewN | apply below_drew1) | exact HB.out))) | (with_reducible refine Kd.C_alloc ?_ _) | (with_reducible refine Kd.C_drewN ?_ _) | (with_reducible refine Kd.C_drew ?_))); (case side2 => exact HC1.out); rintro e w' ⟨rfl, ⟨nd, rfl⟩⟩; refine ⟨_, rfl, ?_⟩))
                                  go_roundg k3
                                  case measure => have := HJ3.out; have := HK2.out; have := HK3.out; omega
                                  case rel => exact ⟨(x7_3), (wrap64 (x9_3 + 1)), (by first | rfl | (simp; done) | (simp [*]; done)), H', ⟨by have := HJ3.out; have := HK2.out; have := HK3.out; omega⟩, ⟨by (with_reducible repeat (first | apply Kd.R_alloc | apply Kd.R_drewN | apply Kd.R_drew)); exact HO_7.out⟩, ⟨by repeat (first | (with_reducible first | exact HB.out | apply below_alloc | apply pw_below_drewN | apply below_drew1) | exact HB.out)⟩⟩
                                · rw [if_neg c72] at H
                                  have c72b0 : (a2 == 2) = false := beq_eq_false_iff_ne.mpr c72
                                  have c72b1 : (a2 != 2) = true := bne_iff_ne.mpr c72
                                  have H' := Aside0.mk H
                                  clear H
                                  go_wp2_with (first | ((with_reducible refine gate_callee (f := 10) rfl ?_); refine goesL_ (some 45) rfl rfl Tryd.func10 (by kernel_rfl) rfl #[.slice A0 l0.length c0, .int .i64 x8_2, .int .i64 x9_3] rfl (by (try simp only [List.map_toArray, List.map_cons, List.map_nil]); first | done | rfl | (simp only [List.length_drop, List.length_take]; rfl)) ?_; (with_reducible refine (witheref1_At.calls _ _ l0 x8_2 x9_3 false _ ?side1 ?side2 A16.out).mono ?_); (case side1 => repeat (first | exact (Kd.C_below HR0.out HB.out) | (with_reducible refine Kd.C_alloc ?_ _) | (with_reducible refine Kd.C_drewN ?_ _) | (with_reducible refine Kd.C_drew ?_))); (case side2 => exact HC0.out); rintro e w' ⟨rfl, ⟨nd, rfl⟩⟩; refine ⟨_, rfl, ?_⟩) | ((with_reducible refine gate_callee (f := 10) rfl ?_); refine goesL_ (some 49) rfl rfl Tryd.func10 (by kernel_rfl) rfl #[.slice A1 l1.length c1, .int .i64 x8_2, .int .i64 x9_3] rfl (by (try simp only [List.map_toArray, List.map_cons, List.map_nil]); first | done | rfl | (simp only [List.length_drop, List.length_take]; rfl)) ?_; (with_reducible refine (witheref1_At.calls _ _ l1 x8_2 x9_3 false _ ?side1 ?side2 A17.out).mono ?_); (case side1 => repeat (first | exact (Kd.C_below HR1.out (by repeat (first | (with_reducible first | exact HB.out | apply below_alloc | apply pw_below_drewN | apply below_drew1) | exact HB.out))) | (with_reducible refine Kd.C_alloc ?_ _) | (with_reducible refine Kd.C_drewN ?_ _) | (with_reducible refine Kd.C_drew ?_))); (case side2 => exact HC1.out); rintro e w' ⟨rfl, ⟨nd, rfl⟩⟩; refine ⟨_, rfl, ?_⟩))
                                  go_roundg k3
                                  case measure => have := HJ3.out; have := HK2.out; have := HK3.out; omega
                                  case rel => exact ⟨(x7_3), (wrap64 (x9_3 + 1)), (by first | rfl | (simp; done) | (simp [*]; done)), H', ⟨by have := HJ3.out; have := HK2.out; have := HK3.out; omega⟩, ⟨by (with_reducible repeat (first | apply Kd.R_alloc | apply Kd.R_drewN | apply Kd.R_drew)); exact HO_7.out⟩, ⟨by repeat (first | (with_reducible first | exact HB.out | apply below_alloc | apply pw_below_drewN | apply below_drew1) | exact HB.out)⟩⟩
                          · rw [if_neg c55] at H
                            have c55b0 : (a2 == 1) = false := beq_eq_false_iff_ne.mpr c55
                            have c55b1 : (a2 != 1) = true := bne_iff_ne.mpr c55
                            by_cases c73 : a2 = 2
                            · rw [if_pos c73] at H
                              have c73b0 : (a2 == 2) = true := beq_iff_eq.mpr c73
                              have c73b1 : (a2 != 2) = false := bne_eq_false_iff_eq.mpr c73
                              clear c73
                              by_cases c74 : t307 = true
                              · subst c74
                                have H1 : (if t308 = true then (witheref1_Two.l1 k3 l0 l1 a2 x7_3 x8_2 (wrap64 (x9_3 + 1))) else (if 0 ≤ x8_2 then (if x8_2 < (x7_3.length : Int) then ((witheref1_Put.f k3 (rd x7_3 x8_2) x9_3).bind fun t328 => (witheref1_Two.l1 k3 l0 l1 a2 (x7_3.set (x8_2 : Int).toNat t328) x8_2 (wrap64 (x9_3 + 1)))) else (none)) else (none))) = some r := by rw [if_pos rfl] at H; exact H
                                clear H
                                have H := H1
                                clear H1
                                by_cases c75 : t308 = true
                                · subst c75
                                  have H1 : (witheref1_Two.l1 k3 l0 l1 a2 x7_3 x8_2 (wrap64 (x9_3 + 1))) = some r := by rw [if_pos rfl] at H; exact H
                                  clear H
                                  have H := H1
                                  clear H1
                                  have H' := Aside0.mk H
                                  clear H
                                  go_wp2_with (first | ((with_reducible refine gate_callee (f := 10) rfl ?_); refine goesL_ (some 45) rfl rfl Tryd.func10 (by kernel_rfl) rfl #[.slice A0 l0.length c0, .int .i64 x8_2, .int .i64 x9_3] rfl (by (try simp only [List.map_toArray, List.map_cons, List.map_nil]); first | done | rfl | (simp only [List.length_drop, List.length_take]; rfl)) ?_; (with_reducible refine (witheref1_At.calls _ _ l0 x8_2 x9_3 true _ ?side1 ?side2 A16.out).mono ?_); (case side1 => repeat (first | exact (Kd.C_below HR0.out HB.out) | (with_reducible refine Kd.C_alloc ?_ _) | (with_reducible refine Kd.C_drewN ?_ _) | (with_reducible refine Kd.C_drew ?_))); (case side2 => exact HC0.out); rintro e w' ⟨rfl, ⟨nd, rfl⟩⟩; refine ⟨_, rfl, ?_⟩) | ((with_reducible refine gate_callee (f := 10) rfl ?_); refine goesL_ (some 49) rfl rfl Tryd.func10 (by kernel_rfl) rfl #[.slice A1 l1.length c1, .int .i64 x8_2, .int .i64 x9_3] rfl (by (try simp only [List.map_toArray, List.map_cons, List.map_nil]); first | done | rfl | (simp only [List.length_drop, List.length_take]; rfl)) ?_; (with_reducible refine (witheref1_At.calls _ _ l1 x8_2 x9_3 true _ ?side1 ?side2 A17.out).mono ?_); (case side1 => repeat (first | exact (Kd.C_below HR1.out (by repeat (first | (with_reducible first | exact HB.out | apply below_alloc | apply pw_below_drewN | apply below_drew1) | exact HB.out))) | (with_reducible refine Kd.C_alloc ?_ _) | (with_reducible refine Kd.C_drewN ?_ _) | (with_reducible refine Kd.C_drew ?_))); (case side2 => exact HC1.out); rintro e w' ⟨rfl, ⟨nd, rfl⟩⟩; refine ⟨_, rfl, ?_⟩))
                                  go_roundg k3
                                  case measure => have := HJ3.out; have := HK2.out; have := HK3.out; omega
                                  case rel => exact ⟨(x7_3), (wrap64 (x9_3 + 1)), (by first | rfl | (simp; done) | (simp [*]; done)), H', ⟨by have := HJ3.out; have := HK2.out; have := HK3.out; omega⟩, ⟨by (with_reducible repeat (first | apply Kd.R_alloc | apply Kd.R_drewN | apply Kd.R_drew)); exact HO_7.out⟩, ⟨by repeat (first | (with_reducible first | exact HB.out | apply below_alloc | apply pw_below_drewN | apply below_drew1) | exact HB.out)⟩⟩
                                · replace c75 := Bool.eq_false_iff.mpr c75
                                  subst c75
                                  have H1 : (if 0 ≤ x8_2 then (if x8_2 < (x7_3.length : Int) then ((witheref1_Put.f k3 (rd x7_3 x8_2) x9_3).bind fun t328 => (witheref1_Two.l1 k3 l0 l1 a2 (x7_3.set (x8_2 : Int).toNat t328) x8_2 (wrap64 (x9_3 + 1)))) else (none)) else (none)) = some r := by rw [if_neg (show ¬ (false = true) by decide)] at H; exact H
                                  clear H
                                  have H := H1
                                  clear H1
                                  by_cases c76 : 0 ≤ x8_2
                                  · rw [if_pos c76] at H
                                    have c76b0 : decide (0 ≤ x8_2) = true := decide_eq_true c76
                                    clear c76
                                    by_cases c77 : x8_2 < (x7_3.length : Int)
                                    · rw [if_pos c77] at H
                                      have c77b0 : decide (x8_2 < (x7_3.length : Int)) = true := decide_eq_true c77
                                      clear c77
                                      replace H := Option.bind_eq_some_iff.mp H
                                      obtain ⟨t328, A780, H⟩ := H
                                      replace H : (witheref1_Two.l1 k3 l0 l1 a2 (x7_3.set (x8_2 : Int).toNat t328) x8_2 (wrap64 (x9_3 + 1))) = some r := H
                                      have A78 := Aside0.mk A780
                                      clear A780
                                      obtain ⟨y329, hy329⟩ : ∃ y_ : List Int, y_ = (x7_3.set (x8_2 : Int).toNat t328) := ⟨_, rfl⟩
                                      replace H : (witheref1_Two.l1 k3 l0 l1 a2 y329 x8_2 (wrap64 (x9_3 + 1))) = some r := by first | (rw [hy329]; with_reducible exact H) | (have H2_ := (Option.bind_some _ _).symm.trans H; rw [hy329]; with_reducible exact H2_) | (have H2_ := (Option.bind_some _ _).symm.trans H; with_reducible exact H2_) | with_reducible exact H | (rw [hy329]; exact H) | exact H
                                      have Ny329 := Aside0.mk hy329
                                      clear hy329
                                      have H' := Aside0.mk H
                                      clear H
                                      go_wp2_with (first | ((with_reducible refine gate_callee (f := 10) rfl ?_); refine goesL_ (some 45) rfl rfl Tryd.func10 (by kernel_rfl) rfl #[.slice A0 l0.length c0, .int .i64 x8_2, .int .i64 x9_3] rfl (by (try simp only [List.map_toArray, List.map_cons, List.map_nil]); first | done | rfl | (simp only [List.length_drop, List.length_take]; rfl)) ?_; (with_reducible refine (witheref1_At.calls _ _ l0 x8_2 x9_3 true _ ?side1 ?side2 A16.out).mono ?_); (case side1 => repeat (first | exact (Kd.C_below HR0.out HB.out) | (with_reducible refine Kd.C_alloc ?_ _) | (with_reducible refine Kd.C_drewN ?_ _) | (with_reducible refine Kd.C_drew ?_))); (case side2 => exact HC0.out); rintro e w' ⟨rfl, ⟨nd, rfl⟩⟩; refine ⟨_, rfl, ?_⟩; (try (rw [drewN_self wr]; generalize hq_ : World.drewN wr _ = wr; have n0_ : Aside0 (Kd.R (Kd.int .u64) 23 wr w.heap.size (fun _ => True) v305 x7_3) := ⟨by rw [← hq_]; exact (by (with_reducible repeat (first | apply Kd.R_alloc | apply Kd.R_drewN | apply Kd.R_drew)); exact HO_7.out)⟩; have n1_ : Aside0 (Below w.heap.size w wr) := ⟨by rw [← hq_]; exact (by repeat (first | (with_reducible first | exact HB.out | apply below_alloc | apply pw_below_drewN | apply below_drew1) | exact HB.out))⟩; clear HO_7 HB hq_; have HO_7 := n0_; have HB := n1_; clear n0_ n1_))) | ((with_reducible refine gate_callee (f := 10) rfl ?_); refine goesL_ (some 49) rfl rfl Tryd.func10 (by kernel_rfl) rfl #[.slice A1 l1.length c1, .int .i64 x8_2, .int .i64 x9_3] rfl (by (try simp only [List.map_toArray, List.map_cons, List.map_nil]); first | done | rfl | (simp only [List.length_drop, List.length_take]; rfl)) ?_; (with_reducible refine (witheref1_At.calls _ _ l1 x8_2 x9_3 false _ ?side1 ?side2 A17.out).mono ?_); (case side1 => repeat (first | exact (Kd.C_below HR1.out HB.out) | (with_reducible refine Kd.C_alloc ?_ _) | (with_reducible refine Kd.C_drewN ?_ _) | (with_reducible refine Kd.C_drew ?_))); (case side2 => exact HC1.out); rintro e w' ⟨rfl, ⟨nd, rfl⟩⟩; refine ⟨_, rfl, ?_⟩; (try (rw [drewN_self wr]; generalize hq_ : World.drewN wr _ = wr; have n0_ : Aside0 (Kd.R (Kd.int .u64) 23 wr w.heap.size (fun _ => True) v305 x7_3) := ⟨by rw [← hq_]; exact (by (with_reducible repeat (first | apply Kd.R_alloc | apply Kd.R_drewN | apply Kd.R_drew)); exact HO_7.out)⟩; have n1_ : Aside0 (Below w.heap.size w wr) := ⟨by rw [← hq_]; exact (by repeat (first | (with_reducible first | exact HB.out | apply below_alloc | apply pw_below_drewN | apply below_drew1) | exact HB.out))⟩; clear HO_7 HB hq_; have HO_7 := n0_; have HB := n1_; clear n0_ n1_)); obtain ⟨Ao80, co80, eo80⟩ := Kd.R_slice HO_7.out; subst eo80; have p327 : 0 ≤ (x8_2 : Int) := of_decide_eq_true (by first | (with_reducible assumption) | assumption); have q327 : x8_2 < (x7_3.length : Int) := of_decide_eq_true (by first | (with_reducible assumption) | assumption); obtain ⟨ad327, e327, hx327_0⟩ := Kd.at_int (Kd.R_reads' HO_7.out).2.2 x8_2 p327 q327; cases e327; replace p327 := eq_true p327; replace q327 := eq_true q327) | ((with_reducible refine gate_callee (f := 12) rfl ?_); refine goesL_ (some 86) rfl rfl Tryd.func12 (by kernel_rfl) rfl #[.int .u64 (rd x7_3 x8_2), .int .i64 x9_3] rfl (by (try simp only [List.map_toArray, List.map_cons, List.map_nil]); first | done | rfl | (simp only [List.length_drop, List.length_take]; rfl)) ?_; (with_reducible refine (witheref1_Put.calls k3 (rd x7_3 x8_2) x9_3 t328 _ A78.out).mono ?_); rintro e w' ⟨rfl, ⟨nd, rfl⟩⟩; refine ⟨_, rfl, ?_⟩; (try (rw [drewN_self wr]; generalize hq_ : World.drewN wr _ = wr; have n0_ : Aside0 (Kd.R (Kd.int .u64) 23 wr w.heap.size (fun _ => True) (.slice (some ad327) x7_3.length co80) x7_3) := ⟨by rw [← hq_]; exact (by (with_reducible repeat (first | apply Kd.R_alloc | apply Kd.R_drewN | apply Kd.R_drew)); exact HO_7.out)⟩; have n1_ : Aside0 (Below w.heap.size w wr) := ⟨by rw [← hq_]; exact (by repeat (first | (with_reducible first | exact HB.out | apply below_alloc | apply pw_below_drewN | apply below_drew1) | exact HB.out))⟩; clear HO_7 HB hq_; have HO_7 := n0_; have HB := n1_; clear n0_ n1_)); have p79 : 0 ≤ (x8_2 : Int) := of_decide_eq_true (by first | (with_reducible assumption) | assumption); have q79 : (x8_2 : Int) < ((x7_3.length : Int) : Int) := of_decide_eq_true (by first | (with_reducible assumption) | assumption); obtain ⟨go79, co79, eo79, gb79, gl79, cl79, HG79⟩ := Kd.R_form HO_7.out (by omega); (first | cases eo79 | (injection eo79 with ea_ en_ ec_; (first | subst ea_ | (injection ea_ with ea_; subst ea_)); subst ec_; clear en_)); have GB79 := Aside0.mk gb79; have GG79 := Aside0.mk HG79; clear gb79 gl79 HG79; (first | simp only [add_plain] at hx327_0 | skip); obtain ⟨hx79_0, hf79_0⟩ := Kd.R_celln 0 HO_7.out (x8_2 : Int) p79 q79; replace p79 := eq_true p79; replace q79 := eq_true q79; obtain ⟨hy81_, hz81_⟩ := Kd.R_celln 0 HO_7.out (x8_2 : Int) (of_decide_eq_true (by first | (with_reducible assumption) | assumption)) (of_decide_eq_true (by first | (with_reducible assumption) | assumption)); have HP81 := Kd.R_putg HO_7.out (x8_2 : Int) t328) | ((with_reducible refine gate_store (t := 23) (p := 87) rfl ?_); refine store_event (t := 23) (p := 87) (v := ?vo_w82) (w1 := (wr.setCell ⟨go79, (x8_2 : Int).toNat, none⟩ (.int .u64 t328))) ?hg ?ho ?hn ?hr ?_; (case ho => rfl); (case hg => rfl); (case hn => rfl); (case hr => first | (go_simp; done) | (go_simp; rfl)); intro w82 hw; have hg : wr.grownBy w82 (some go79) := (by rw [hw]; exact HP81.2); have hp_ : Kd.R (Kd.int .u64) 23 w82 w.heap.size (fun _ => True) (.slice (some ⟨go79, 0, none⟩) x7_3.length co80) y329 := (by rw [hw, Ny329.out]; exact HP81.1); clear HP81; have n0_ := Aside0.mk (hp_); have n1_ := Aside0.mk ((by rw [hw]; exact below_set (HB.out) GB79.out : Below w.heap.size w w82)); clear HO_7; clear HB; have HO_7 := n0_; have HB := n1_; clear n0_ n1_; clear hg hw hp_))
                                      go_roundg k3
                                      case measure => have := HJ3.out; have := HK2.out; have := HK3.out; omega
                                      case rel => exact ⟨(y329), (wrap64 (x9_3 + 1)), (by first | rfl | (simp; done) | (simp [*]; done)), H', ⟨by have := HJ3.out; have := HK2.out; have := HK3.out; omega⟩, ⟨by (with_reducible repeat (first | apply Kd.R_alloc | apply Kd.R_drewN | apply Kd.R_drew)); exact HO_7.out⟩, ⟨by repeat (first | (with_reducible first | exact HB.out | apply below_alloc | apply pw_below_drewN | apply below_drew1) | exact HB.out)⟩⟩
                                    · rw [if_neg c77] at H
                                      exact absurd H (by simp)
                                  · rw [if_neg c76] at H
                                    exact absurd H (by simp)
                              · replace c74 := Bool.eq_false_iff.mpr c74
                                subst c74
                                have H1 : (witheref1_Two.l1 k3 l0 l1 a2 x7_3 x8_2 (wrap64 (x9_3 + 1))) = some r := by rw [if_neg (show ¬ (false = true) by decide)] at H; exact H
                                clear H
                                have H := H1
                                clear H1
                                have H' := Aside0.mk H
                                clear H
                                go_wp2_with (first | ((with_reducible refine gate_callee (f := 10) rfl ?_); refine goesL_ (some 45) rfl rfl Tryd.func10 (by kernel_rfl) rfl #[.slice A0 l0.length c0, .int .i64 x8_2, .int .i64 x9_3] rfl (by (try simp only [List.map_toArray, List.map_cons, List.map_nil]); first | done | rfl | (simp only [List.length_drop, List.length_take]; rfl)) ?_; (with_reducible refine (witheref1_At.calls _ _ l0 x8_2 x9_3 false _ ?side1 ?side2 A16.out).mono ?_); (case side1 => repeat (first | exact (Kd.C_below HR0.out HB.out) | (with_reducible refine Kd.C_alloc ?_ _) | (with_reducible refine Kd.C_drewN ?_ _) | (with_reducible refine Kd.C_drew ?_))); (case side2 => exact HC0.out); rintro e w' ⟨rfl, ⟨nd, rfl⟩⟩; refine ⟨_, rfl, ?_⟩) | ((with_reducible refine gate_callee (f := 10) rfl ?_); refine goesL_ (some 49) rfl rfl Tryd.func10 (by kernel_rfl) rfl #[.slice A1 l1.length c1, .int .i64 x8_2, .int .i64 x9_3] rfl (by (try simp only [List.map_toArray, List.map_cons, List.map_nil]); first | done | rfl | (simp only [List.length_drop, List.length_take]; rfl)) ?_; (with_reducible refine (witheref1_At.calls _ _ l1 x8_2 x9_3 t308 _ ?side1 ?side2 A17.out).mono ?_); (case side1 => repeat (first | exact (Kd.C_below HR1.out (by repeat (first | (with_reducible first | exact HB.out | apply below_alloc | apply pw_below_drewN | apply below_drew1) | exact HB.out))) | (with_reducible refine Kd.C_alloc ?_ _) | (with_reducible refine Kd.C_drewN ?_ _) | (with_reducible refine Kd.C_drew ?_))); (case side2 => exact HC1.out); rintro e w' ⟨rfl, ⟨nd, rfl⟩⟩; refine ⟨_, rfl, ?_⟩))
                                go_roundg k3
                                case measure => have := HJ3.out; have := HK2.out; have := HK3.out; omega
                                case rel => exact ⟨(x7_3), (wrap64 (x9_3 + 1)), (by first | rfl | (simp; done) | (simp [*]; done)), H', ⟨by have := HJ3.out; have := HK2.out; have := HK3.out; omega⟩, ⟨by (with_reducible repeat (first | apply Kd.R_alloc | apply Kd.R_drewN | apply Kd.R_drew)); exact HO_7.out⟩, ⟨by repeat (first | (with_reducible first | exact HB.out | apply below_alloc | apply pw_below_drewN | apply below_drew1) | exact HB.out)⟩⟩
                            · rw [if_neg c73] at H
                              have c73b0 : (a2 == 2) = false := beq_eq_false_iff_ne.mpr c73
                              have c73b1 : (a2 != 2) = true := bne_iff_ne.mpr c73
                              have H' := Aside0.mk H
                              clear H
                              go_wp2_with (first | ((with_reducible refine gate_callee (f := 10) rfl ?_); refine goesL_ (some 45) rfl rfl Tryd.func10 (by kernel_rfl) rfl #[.slice A0 l0.length c0, .int .i64 x8_2, .int .i64 x9_3] rfl (by (try simp only [List.map_toArray, List.map_cons, List.map_nil]); first | done | rfl | (simp only [List.length_drop, List.length_take]; rfl)) ?_; (with_reducible refine (witheref1_At.calls _ _ l0 x8_2 x9_3 t307 _ ?side1 ?side2 A16.out).mono ?_); (case side1 => repeat (first | exact (Kd.C_below HR0.out HB.out) | (with_reducible refine Kd.C_alloc ?_ _) | (with_reducible refine Kd.C_drewN ?_ _) | (with_reducible refine Kd.C_drew ?_))); (case side2 => exact HC0.out); rintro e w' ⟨rfl, ⟨nd, rfl⟩⟩; refine ⟨_, rfl, ?_⟩) | ((with_reducible refine gate_callee (f := 10) rfl ?_); refine goesL_ (some 49) rfl rfl Tryd.func10 (by kernel_rfl) rfl #[.slice A1 l1.length c1, .int .i64 x8_2, .int .i64 x9_3] rfl (by (try simp only [List.map_toArray, List.map_cons, List.map_nil]); first | done | rfl | (simp only [List.length_drop, List.length_take]; rfl)) ?_; (with_reducible refine (witheref1_At.calls _ _ l1 x8_2 x9_3 t308 _ ?side1 ?side2 A17.out).mono ?_); (case side1 => repeat (first | exact (Kd.C_below HR1.out (by repeat (first | (with_reducible first | exact HB.out | apply below_alloc | apply pw_below_drewN | apply below_drew1) | exact HB.out))) | (with_reducible refine Kd.C_alloc ?_ _) | (with_reducible refine Kd.C_drewN ?_ _) | (with_reducible refine Kd.C_drew ?_))); (case side2 => exact HC1.out); rintro e w' ⟨rfl, ⟨nd, rfl⟩⟩; refine ⟨_, rfl, ?_⟩))
                              go_roundg k3
                              case measure => have := HJ3.out; have := HK2.out; have := HK3.out; omega
                              case rel => exact ⟨(x7_3), (wrap64 (x9_3 + 1)), (by first | rfl | (simp; done) | (simp [*]; done)), H', ⟨by have := HJ3.out; have := HK2.out; have := HK3.out; omega⟩, ⟨by (with_reducible repeat (first | apply Kd.R_alloc | apply Kd.R_drewN | apply Kd.R_drew)); exact HO_7.out⟩, ⟨by repeat (first | (with_reducible first | exact HB.out | apply below_alloc | apply pw_below_drewN | apply below_drew1) | exact HB.out)⟩⟩
                      · rw [if_neg c15] at H
                        have c15b0 : decide (x9_3 < (l0.length : Int)) = false := decide_eq_false c15
                        clear c15
                        have H' := Aside0.mk H
                        clear H
                        go_wp2
                        go_roundg k3
                        case measure => have := HJ3.out; have := HK2.out; have := HK3.out; omega
                        case rel => exact ⟨(x7_3), (wrap64 (x8_2 + 1)), (by first | rfl | (simp; done) | (simp [*]; done)), H', ⟨by have := HJ3.out; have := HK2.out; have := HK3.out; omega⟩, ⟨by (with_reducible repeat (first | apply Kd.R_alloc | apply Kd.R_drewN | apply Kd.R_drew)); exact HO_7.out⟩, ⟨by repeat (first | (with_reducible first | exact HB.out | apply below_alloc | apply pw_below_drewN | apply below_drew1) | exact HB.out)⟩⟩
                · rw [if_neg c14] at H
                  have c14b0 : decide (x8_2 < (l0.length : Int)) = false := decide_eq_false c14
                  clear c14
                  obtain rfl := Option.some.inj H
                  go_wp2
                  go_ret
                  exact ⟨_, by first | rfl | (simp [errW_none, errW_some] <;> rfl) | (simp [*, errW_none, errW_some] <;> rfl), by (with_reducible repeat (first | apply Kd.R_alloc | apply Kd.R_drewN | apply Kd.R_drew)); exact HO_7.out, by repeat (first | (with_reducible first | exact HB.out | apply below_alloc | apply pw_below_drewN | apply below_drew1) | exact HB.out)⟩
          · rw [if_neg c11] at H
            exact absurd H (by simp)
        · rw [if_neg c10] at H
          exact absurd H (by simp)

end Go.Proofs.YtcehnbneiabaaaaDoor.PR
