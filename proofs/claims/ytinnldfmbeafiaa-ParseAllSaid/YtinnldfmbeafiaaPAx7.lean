-- made by fvprint.py over the kit's print
import Derived.Test.YtinnldfmbeafiaaPAx0
namespace Go.Proofs.Ytinnldfmbeafiaa.PA
open Go.RowKit Go.Proofs.YtinnldfmbeafiaaW.PrintWords Go.Proofs.YtinnldfmbeafiaaW.PrintLast Go.Proofs.YtinnldfmbeafiaaW.PrintMore
attribute [local go_sem] max2_int min2_int max_two min_two max_three min_three max_four min_four   -- for this text's walks alone
set_option linter.unusedVariables false
set_option linter.unusedSimpArgs false

attribute [local go_sem] cell_set_some
theorem w7q1 {p : Prop} (h : p := by first | (with_reducible assumption) | assumption) : p := h
theorem w7q2 {p : Prop} (h : p := by repeat (first | exact Drawn0.refl _ | apply Drawn0.step)) : p := h
theorem w7q3 {p : Prop} (h : p := by first | rfl | (simp; done) | (simp [*]; done)) : p := h
/-! ### witheref6_number: function 30 -/
def witheref6_number.l0 : Nat → ByteArray → Int → Int → Option (Int × Bool)
 | 0, _, _, _ => none
 | k + 1, x0, x4, x5 => if x5 < (x0.size : Int) then (if 0 ≤ x5 then (if x4 > ((4611686018427387904 - (((bt x0 x5) - 48) % 256)) / 10) then (some (0, false)) else (witheref6_number.l0 k x0 (wrap64 ((wrap64 (10 * x4)) + (((bt x0 x5) - 48) % 256))) (wrap64 (x5 + 1)))) else (none)) else (some (x4, true))
def witheref6_number.f (k : Nat) (a0 : ByteArray) : Option (Int × Bool) := witheref6_number.l0 k a0 0 0
theorem witheref6_number.mono_l : ∀ k, (∀ y0 y1 y2, LeO (witheref6_number.l0 k y0 y1 y2) (witheref6_number.l0 (k + 1) y0 y1 y2))
 | 0 => fun _ _ _ r h => by simp [witheref6_number.l0] at h
 | k + 1 => by
  have ih0 := witheref6_number.mono_l k
  ·intro y0 y1 y2
   unfold witheref6_number.l0
   repeat' first
   | (with_reducible exact ih0 _ _ _)
   | (with_reducible exact LeO.refl _)
   | (with_reducible exact LeO.none _)
   | (with_reducible refine LeO.ite ?_ ?_)
   | (with_reducible refine LeO.bind ?_ (fun _ => ?_))
   | exact ih0 _ _ _
   | exact LeO.none _
   | refine LeO.ite ?_ ?_
   | refine LeO.bind ?_ (fun _ => ?_)
theorem witheref6_number.mono : ∀ a0 k, LeO (witheref6_number.f k a0) (witheref6_number.f (k + 1) a0) := by
 intro a0 k
 have ih0 := witheref6_number.mono_l k
 unfold witheref6_number.f
 repeat' first
  | (with_reducible exact ih0 _ _ _)
  | (with_reducible exact LeO.refl _)
  | (with_reducible exact LeO.none _)
  | (with_reducible refine LeO.ite ?_ ?_)
  | (with_reducible refine LeO.bind ?_ (fun _ => ?_))
  | exact ih0 _ _ _
  | exact LeO.none _
  | refine LeO.ite ?_ ?_
  | refine LeO.bind ?_ (fun _ => ?_)
set_option maxHeartbeats 8000000 in
set_option maxRecDepth 100000 in
theorem witheref6_number.calls (k : Nat) (a0 : ByteArray) (r1 : Int) (r2 : Bool) (w : World) (h : witheref6_number.f k a0 = some (r1, r2)) :
 Calls Try.prog 30 #[.string a0] w fun e w' => e = .returned (.tuple #[.int .i64 r1, .bool r2]) ∧ Drawn0 w w' := by
 have H : (witheref6_number.l0 k a0 0 0) = some (r1, r2) := h
 clear h
 have H' := Aside0.mk H
 clear H
 go_enter Try.func30, Try.ntmps30
 go_wp2
 try go_simp
 go_loopg [4, 5] k (fun kq v4 v5 w' => ∃ (x4_1 : Int) (x5_1 : Int), v4 = .int .i64 x4_1 ∧ v5 = .int .i64 x5_1 ∧ Aside0 (witheref6_number.l0 kq a0 x4_1 x5_1 = some (r1, r2)) ∧ Aside0 (kq ≤ k) ∧ Drawn0 w w')
 case atStart => exact ⟨(0), (0), (w7q3), (w7q3), H', ⟨Nat.le_refl _⟩, w7q2⟩
 case round =>
  clear H'
  obtain ⟨x4_1, x5_1, rfl, rfl, HA, HK1, ⟨m1, rfl⟩⟩ := hrel
  cases gk with
  | zero => exact absurd HA.out (by simp [witheref6_number.l0])
  | succ k1 =>
   have H := HA.out
   clear HA
   simp only [witheref6_number.l0] at H
   by_cases c2 : x5_1 < (a0.size : Int)
   ·rw [if_pos c2] at H
    have c2b0 : decide (x5_1 < (a0.size : Int)) = true := decide_eq_true c2
    clear c2
    by_cases c3 : 0 ≤ x5_1
    ·rw [if_pos c3] at H
     have c3b0 : decide (0 ≤ x5_1) = true := decide_eq_true c3
     clear c3
     by_cases c5 : x4_1 > ((4611686018427387904 - (((bt a0 x5_1) - 48) % 256)) / 10)
     ·rw [if_pos c5] at H
      have c5b0 : decide (((4611686018427387904 - (((bt a0 x5_1) - 48) % 256)) / 10) < x4_1) = true := decide_eq_true c5
      clear c5
      simp only [Option.some.injEq, Prod.mk.injEq] at H
      obtain ⟨rfl, rfl⟩ := H
      have p4 : 0 ≤ (x5_1 : Int) := of_decide_eq_true (w7q1)
      have q4 : x5_1 < (a0.size : Int) := of_decide_eq_true (w7q1)
      have hx4 := bt_at a0 x5_1
      replace p4 := eq_true p4
      replace q4 := eq_true q4
      go_wp2
      go_ret2
      exact ⟨w7q3, w7q2⟩
     ·rw [if_neg c5] at H
      have c5b0 : decide (((4611686018427387904 - (((bt a0 x5_1) - 48) % 256)) / 10) < x4_1) = false := decide_eq_false c5
      clear c5
      have H' := Aside0.mk H
      clear H
      have p4 : 0 ≤ (x5_1 : Int) := of_decide_eq_true (w7q1)
      have q4 : x5_1 < (a0.size : Int) := of_decide_eq_true (w7q1)
      have hx4 := bt_at a0 x5_1
      replace p4 := eq_true p4
      replace q4 := eq_true q4
      go_wp2
      go_roundg k1
      case measure => have := HK1.out; omega
      case rel => exact ⟨(wrap64 ((wrap64 (10 * x4_1)) + (((bt a0 x5_1) - 48) % 256))), (wrap64 (x5_1 + 1)), (w7q3), (w7q3), H', ⟨by have := HK1.out; omega⟩, w7q2⟩
    ·rw [if_neg c3] at H
     exact absurd H (by simp)
   ·rw [if_neg c2] at H
    have c2b0 : decide (x5_1 < (a0.size : Int)) = false := decide_eq_false c2
    clear c2
    simp only [Option.some.injEq, Prod.mk.injEq] at H
    obtain ⟨rfl, rfl⟩ := H
    go_wp2
    go_ret2
    exact ⟨w7q3, w7q2⟩

/-! ### witheref6_sign: function 31 -/
def witheref6_sign.l0 : Nat → ByteArray → Int → ByteArray → Int → Option (Int)
 | 0, _, _, _, _ => none
 | k + 1, x0, x1, x5, x6 => if x6 < (x5.size : Int) then (if 0 ≤ x6 then (if 0 ≤ x1 then (if x1 < (x0.size : Int) then (if (bt x5 x6) = (bt x0 x1) then (some 1) else (witheref6_sign.l0 k x0 x1 x5 (wrap64 (x6 + 1)))) else (none)) else (none)) else (none)) else (some 0)
def witheref6_sign.f (k : Nat) (a0 : ByteArray) (a1 : Int) : Option (Int) := if 0 ≤ a1 then (if a1 < (a0.size : Int) then (if (bt a0 a1) = 61 then (if (wrap64 ((a0.size : Int) - a1)) > 1 then (if 0 ≤ (wrap64 (a1 + 1)) then (if (wrap64 (a1 + 1)) < (a0.size : Int) then (if (bt a0 (wrap64 (a1 + 1))) = 61 then (some 2) else (some 1)) else (none)) else (none)) else (some 1)) else (witheref6_sign.l0 k a0 a1 (⟨#[123, 125, 40, 41, 59, 44, 58, 60, 43, 45]⟩ : ByteArray) 0)) else (none)) else (none)
theorem witheref6_sign.mono_l : ∀ k, (∀ y0 y1 y2 y3, LeO (witheref6_sign.l0 k y0 y1 y2 y3) (witheref6_sign.l0 (k + 1) y0 y1 y2 y3))
 | 0 => fun _ _ _ _ r h => by simp [witheref6_sign.l0] at h
 | k + 1 => by
  have ih0 := witheref6_sign.mono_l k
  ·intro y0 y1 y2 y3
   unfold witheref6_sign.l0
   repeat' first
   | (with_reducible exact ih0 _ _ _ _)
   | (with_reducible exact LeO.refl _)
   | (with_reducible exact LeO.none _)
   | (with_reducible refine LeO.ite ?_ ?_)
   | (with_reducible refine LeO.bind ?_ (fun _ => ?_))
   | exact ih0 _ _ _ _
   | exact LeO.none _
   | refine LeO.ite ?_ ?_
   | refine LeO.bind ?_ (fun _ => ?_)
theorem witheref6_sign.mono : ∀ a0 a1 k, LeO (witheref6_sign.f k a0 a1) (witheref6_sign.f (k + 1) a0 a1) := by
 intro a0 a1 k
 have ih0 := witheref6_sign.mono_l k
 unfold witheref6_sign.f
 repeat' first
  | (with_reducible exact ih0 _ _ _ _)
  | (with_reducible exact LeO.refl _)
  | (with_reducible exact LeO.none _)
  | (with_reducible refine LeO.ite ?_ ?_)
  | (with_reducible refine LeO.bind ?_ (fun _ => ?_))
  | exact ih0 _ _ _ _
  | exact LeO.none _
  | refine LeO.ite ?_ ?_
  | refine LeO.bind ?_ (fun _ => ?_)
set_option maxHeartbeats 8000000 in
set_option maxRecDepth 100000 in
theorem witheref6_sign.calls (k : Nat) (a0 : ByteArray) (a1 : Int) (r : Int) (w : World) (h : witheref6_sign.f k a0 a1 = some r) :
 Calls Try.prog 31 #[.string a0, .int .i64 a1] w fun e w' => e = .returned (.int .i64 r) ∧ Drawn0 w w' := by
 have H : (if 0 ≤ a1 then (if a1 < (a0.size : Int) then (if (bt a0 a1) = 61 then (if (wrap64 ((a0.size : Int) - a1)) > 1 then (if 0 ≤ (wrap64 (a1 + 1)) then (if (wrap64 (a1 + 1)) < (a0.size : Int) then (if (bt a0 (wrap64 (a1 + 1))) = 61 then (some 2) else (some 1)) else (none)) else (none)) else (some 1)) else (witheref6_sign.l0 k a0 a1 (⟨#[123, 125, 40, 41, 59, 44, 58, 60, 43, 45]⟩ : ByteArray) 0)) else (none)) else (none)) = some r := h
 clear h
 by_cases c3 : 0 ≤ a1
 ·rw [if_pos c3] at H
  have c3b0 : decide (0 ≤ a1) = true := decide_eq_true c3
  clear c3
  by_cases c4 : a1 < (a0.size : Int)
  ·rw [if_pos c4] at H
   have c4b0 : decide (a1 < (a0.size : Int)) = true := decide_eq_true c4
   clear c4
   by_cases c6 : (bt a0 a1) = 61
   ·rw [if_pos c6] at H
    have c6b0 : ((bt a0 a1) == 61) = true := beq_iff_eq.mpr c6
    have c6b1 : ((bt a0 a1) != 61) = false := bne_eq_false_iff_eq.mpr c6
    clear c6
    by_cases c7 : (wrap64 ((a0.size : Int) - a1)) > 1
    ·rw [if_pos c7] at H
     have c7b0 : decide (1 < (wrap64 ((a0.size : Int) - a1))) = true := decide_eq_true c7
     clear c7
     obtain ⟨ji8, hji8⟩ : ∃ j_ : Int, (wrap64 (a1 + 1)) = j_ := ⟨_, rfl⟩
     replace H : (if 0 ≤ (ji8) then (if (ji8) < (a0.size : Int) then (if (bt a0 (ji8)) = 61 then (some 2) else (some 1)) else (none)) else (none)) = some r := by first | (rw [hji8] at H; exact H) | (simp only [hji8] at H ⊢; exact H)
     have hji8w : (IntKind.i64.wrap (a1 + 1)) = ji8 := (i64_w _).trans hji8
     by_cases c9 : 0 ≤ (ji8)
     ·rw [if_pos c9] at H
      have c9b0 : decide (0 ≤ (ji8)) = true := decide_eq_true c9
      clear c9
      by_cases c10 : (ji8) < (a0.size : Int)
      ·rw [if_pos c10] at H
       have c10b0 : decide ((ji8) < (a0.size : Int)) = true := decide_eq_true c10
       clear c10
       by_cases c12 : (bt a0 (ji8)) = 61
       ·rw [if_pos c12] at H
        have c12b0 : ((bt a0 (ji8)) == 61) = true := beq_iff_eq.mpr c12
        have c12b1 : ((bt a0 (ji8)) != 61) = false := bne_eq_false_iff_eq.mpr c12
        clear c12
        obtain rfl := Option.some.inj H
        have p5 : 0 ≤ (a1 : Int) := of_decide_eq_true (w7q1)
        have q5 : a1 < (a0.size : Int) := of_decide_eq_true (w7q1)
        have hx5 := bt_at a0 a1
        replace p5 := eq_true p5
        replace q5 := eq_true q5
        have p11 : 0 ≤ ((ji8) : Int) := of_decide_eq_true (w7q1)
        have q11 : (ji8) < (a0.size : Int) := of_decide_eq_true (w7q1)
        have hx11 := bt_at a0 (ji8)
        replace p11 := eq_true p11
        replace q11 := eq_true q11
        go_enter Try.func31, Try.ntmps31
        go_wp2
        repeat (go_quiet (fail); try go_wp2)
        go_ret
        exact ⟨by first | rfl | (simp; done) | (simp only [← hji8] <;> (first | rfl | simp)) | (simp [*]; done), w7q2⟩
       ·rw [if_neg c12] at H
        have c12b0 : ((bt a0 (ji8)) == 61) = false := beq_eq_false_iff_ne.mpr c12
        have c12b1 : ((bt a0 (ji8)) != 61) = true := bne_iff_ne.mpr c12
        obtain rfl := Option.some.inj H
        have p5 : 0 ≤ (a1 : Int) := of_decide_eq_true (w7q1)
        have q5 : a1 < (a0.size : Int) := of_decide_eq_true (w7q1)
        have hx5 := bt_at a0 a1
        replace p5 := eq_true p5
        replace q5 := eq_true q5
        have p11 : 0 ≤ ((ji8) : Int) := of_decide_eq_true (w7q1)
        have q11 : (ji8) < (a0.size : Int) := of_decide_eq_true (w7q1)
        have hx11 := bt_at a0 (ji8)
        replace p11 := eq_true p11
        replace q11 := eq_true q11
        go_enter Try.func31, Try.ntmps31
        go_wp2
        repeat (go_quiet (fail); try go_wp2)
        go_ret
        exact ⟨by first | rfl | (simp; done) | (simp only [← hji8] <;> (first | rfl | simp)) | (simp [*]; done), w7q2⟩
      ·rw [if_neg c10] at H
       exact absurd H (by simp)
     ·rw [if_neg c9] at H
      exact absurd H (by simp)
    ·rw [if_neg c7] at H
     have c7b0 : decide (1 < (wrap64 ((a0.size : Int) - a1))) = false := decide_eq_false c7
     clear c7
     obtain rfl := Option.some.inj H
     have p5 : 0 ≤ (a1 : Int) := of_decide_eq_true (w7q1)
     have q5 : a1 < (a0.size : Int) := of_decide_eq_true (w7q1)
     have hx5 := bt_at a0 a1
     replace p5 := eq_true p5
     replace q5 := eq_true q5
     go_enter Try.func31, Try.ntmps31
     go_wp2
     repeat (go_quiet (fail); try go_wp2)
     go_ret
     exact ⟨w7q3, w7q2⟩
   ·rw [if_neg c6] at H
    have c6b0 : ((bt a0 a1) == 61) = false := beq_eq_false_iff_ne.mpr c6
    have c6b1 : ((bt a0 a1) != 61) = true := bne_iff_ne.mpr c6
    have H' := Aside0.mk H
    clear H
    have p5 : 0 ≤ (a1 : Int) := of_decide_eq_true (w7q1)
    have q5 : a1 < (a0.size : Int) := of_decide_eq_true (w7q1)
    have hx5 := bt_at a0 a1
    replace p5 := eq_true p5
    replace q5 := eq_true q5
    go_enter Try.func31, Try.ntmps31
    go_wp2
    repeat (go_quiet (fail); try go_wp2)
    try go_simp
    go_loopg [6] k (fun kq v6 w' => ∃ (x6_1 : Int), v6 = .int .i64 x6_1 ∧ Aside0 (witheref6_sign.l0 kq a0 a1 (⟨#[123, 125, 40, 41, 59, 44, 58, 60, 43, 45]⟩ : ByteArray) x6_1 = some r) ∧ Aside0 (kq ≤ k) ∧ Drawn0 w w')
    case atStart => exact ⟨(0), (w7q3), H', ⟨Nat.le_refl _⟩, w7q2⟩
    case round =>
     clear H'
     try clear c1
     try clear p1
     try clear q1
     try clear hx1
     try clear p2
     try clear c3
     try clear c3b0
     try clear c4
     try clear c4b0
     try clear p5
     try clear q5
     try clear hx5
     try clear c6
     try clear c6b0
     try clear c6b1
     try clear p6
     try clear c7
     try clear c7b0
     try clear c9
     try clear c9b0
     try clear c10
     try clear c10b0
     try clear p11
     try clear q11
     try clear hx11
     try clear c12
     try clear c12b0
     try clear c12b1
     try clear p11
     try clear p5
     try clear q11
     try clear q5
     obtain ⟨x6_1, rfl, HA, HK1, ⟨m1, rfl⟩⟩ := hrel
     cases gk with
     | zero => exact absurd HA.out (by simp [witheref6_sign.l0])
     | succ k1 =>
      have H := HA.out
      clear HA
      simp only [witheref6_sign.l0] at H
      by_cases c13 : x6_1 < ((⟨#[123, 125, 40, 41, 59, 44, 58, 60, 43, 45]⟩ : ByteArray).size : Int)
      ·rw [if_pos c13] at H
       have c13b0 : decide (x6_1 < ((⟨#[123, 125, 40, 41, 59, 44, 58, 60, 43, 45]⟩ : ByteArray).size : Int)) = true := decide_eq_true c13
       have c13b0z : decide (x6_1 < 10) = true := decide_eq_true c13
       clear c13
       by_cases c14 : 0 ≤ x6_1
       ·rw [if_pos c14] at H
        have c14b0 : decide (0 ≤ x6_1) = true := decide_eq_true c14
        clear c14
        by_cases c16 : 0 ≤ a1
        ·rw [if_pos c16] at H
         have c16b0 : decide (0 ≤ a1) = true := decide_eq_true c16
         clear c16
         by_cases c17 : a1 < (a0.size : Int)
         ·rw [if_pos c17] at H
          have c17b0 : decide (a1 < (a0.size : Int)) = true := decide_eq_true c17
          clear c17
          by_cases c19 : (bt (⟨#[123, 125, 40, 41, 59, 44, 58, 60, 43, 45]⟩ : ByteArray) x6_1) = (bt a0 a1)
          ·rw [if_pos c19] at H
           have c19b0 : ((bt (⟨#[123, 125, 40, 41, 59, 44, 58, 60, 43, 45]⟩ : ByteArray) x6_1) == (bt a0 a1)) = true := beq_iff_eq.mpr c19
           have c19b1 : ((bt (⟨#[123, 125, 40, 41, 59, 44, 58, 60, 43, 45]⟩ : ByteArray) x6_1) != (bt a0 a1)) = false := bne_eq_false_iff_eq.mpr c19
           clear c19
           obtain rfl := Option.some.inj H
           have p15 : 0 ≤ (x6_1 : Int) := of_decide_eq_true (w7q1)
           have q15 : x6_1 < (10 : Int) := of_decide_eq_true (w7q1)
           have hx15 := bt_at (⟨#[123, 125, 40, 41, 59, 44, 58, 60, 43, 45]⟩ : ByteArray) x6_1
           replace p15 := eq_true p15
           replace q15 := eq_true q15
           have p18 : 0 ≤ (a1 : Int) := of_decide_eq_true (w7q1)
           have q18 : a1 < (a0.size : Int) := of_decide_eq_true (w7q1)
           have hx18 := bt_at a0 a1
           replace p18 := eq_true p18
           replace q18 := eq_true q18
           go_wp2
           repeat (go_quiet (fail); try go_wp2)
           go_ret
           exact ⟨w7q3, w7q2⟩
          ·rw [if_neg c19] at H
           have c19b0 : ((bt (⟨#[123, 125, 40, 41, 59, 44, 58, 60, 43, 45]⟩ : ByteArray) x6_1) == (bt a0 a1)) = false := beq_eq_false_iff_ne.mpr c19
           have c19b1 : ((bt (⟨#[123, 125, 40, 41, 59, 44, 58, 60, 43, 45]⟩ : ByteArray) x6_1) != (bt a0 a1)) = true := bne_iff_ne.mpr c19
           have H' := Aside0.mk H
           clear H
           have p15 : 0 ≤ (x6_1 : Int) := of_decide_eq_true (w7q1)
           have q15 : x6_1 < (10 : Int) := of_decide_eq_true (w7q1)
           have hx15 := bt_at (⟨#[123, 125, 40, 41, 59, 44, 58, 60, 43, 45]⟩ : ByteArray) x6_1
           replace p15 := eq_true p15
           replace q15 := eq_true q15
           have p18 : 0 ≤ (a1 : Int) := of_decide_eq_true (w7q1)
           have q18 : a1 < (a0.size : Int) := of_decide_eq_true (w7q1)
           have hx18 := bt_at a0 a1
           replace p18 := eq_true p18
           replace q18 := eq_true q18
           go_wp2
           repeat (go_quiet (fail); try go_wp2)
           go_roundg k1
           case measure => have := HK1.out; omega
           case rel => exact ⟨(wrap64 (x6_1 + 1)), (w7q3), H', ⟨by have := HK1.out; omega⟩, w7q2⟩
         ·rw [if_neg c17] at H
          exact absurd H (by simp)
        ·rw [if_neg c16] at H
         exact absurd H (by simp)
       ·rw [if_neg c14] at H
        exact absurd H (by simp)
      ·rw [if_neg c13] at H
       have c13b0 : decide (x6_1 < ((⟨#[123, 125, 40, 41, 59, 44, 58, 60, 43, 45]⟩ : ByteArray).size : Int)) = false := decide_eq_false c13
       have c13b0z : decide (x6_1 < 10) = false := decide_eq_false c13
       clear c13
       obtain rfl := Option.some.inj H
       go_wp2
       repeat (go_quiet (fail); try go_wp2)
       go_ret
       exact ⟨w7q3, w7q2⟩
  ·rw [if_neg c4] at H
   exact absurd H (by simp)
 ·rw [if_neg c3] at H
  exact absurd H (by simp)

end Go.Proofs.Ytinnldfmbeafiaa.PA
