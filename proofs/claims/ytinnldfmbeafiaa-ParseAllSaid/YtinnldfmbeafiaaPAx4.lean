-- made by fvprint.py over the kit's print
import Derived.Test.YtinnldfmbeafiaaPAx0
import Derived.Test.YtinnldfmbeafiaaPAx2
import Derived.Test.YtinnldfmbeafiaaPAx3
namespace Go.Proofs.Ytinnldfmbeafiaa.PA
open Go.RowKit Go.Proofs.YtinnldfmbeafiaaW.PrintWords Go.Proofs.YtinnldfmbeafiaaW.PrintLast Go.Proofs.YtinnldfmbeafiaaW.PrintMore
attribute [local go_sem] max2_int min2_int max_two min_two max_three min_three max_four min_four   -- for this text's walks alone
set_option linter.unusedVariables false
set_option linter.unusedSimpArgs false

attribute [local go_sem] cell_set_some
theorem w4q1 {p : Prop} (h : p := by (try simp only [List.map_toArray, List.map_cons, List.map_nil]); first | done | rfl | (simp only [List.length_drop, List.length_take]; rfl)) : p := h
theorem w4q2 {p : Prop} (h : p := by first | (with_reducible assumption) | assumption) : p := h
theorem w4q3 {p : Prop} (h : p := by repeat (first | exact Drawn0.refl _ | apply Drawn0.step)) : p := h
theorem w4q4 {p : Prop} (h : p := by first | rfl | (simp; done) | (simp [*]; done)) : p := h
/-! ### lex_sign: function 79 -/
def lex_sign.f (a0 : ByteArray) (a1 : Int) : Option (ByteArray) := if 0 ≤ a1 then (if a1 ≤ (a0.size : Int) then ((strings_HasPrefix.f (a0.extract (a1 : Int).toNat a0.size) (⟨#[61, 61]⟩ : ByteArray)).bind fun t110 => (if t110 = true then (some (⟨#[61, 61]⟩ : ByteArray)) else (if a1 < (a0.size : Int) then ((strings_IndexByte.f (⟨#[123, 125, 40, 41, 59, 44, 58, 61, 60, 43, 45]⟩ : ByteArray) (bt a0 a1)).bind fun t111 => (if t111 < 0 then (some (⟨#[]⟩ : ByteArray)) else (if a1 ≤ (wrap64 (a1 + 1)) then (if (wrap64 (a1 + 1)) ≤ (a0.size : Int) then (some (a0.extract (a1 : Int).toNat ((wrap64 (a1 + 1)) : Int).toNat)) else (none)) else (none)))) else (none)))) else (none)) else (none)
set_option maxHeartbeats 8000000 in
set_option maxRecDepth 100000 in
theorem lex_sign.calls (a0 : ByteArray) (a1 : Int) (r : ByteArray) (w : World) (h : lex_sign.f a0 a1 = some r) :
 Calls Try.prog 79 #[.string a0, .int .i64 a1] w fun e w' => e = .returned (.string r) ∧ Drawn0 w w' := by
 have H : (if 0 ≤ a1 then (if a1 ≤ (a0.size : Int) then ((strings_HasPrefix.f (a0.extract (a1 : Int).toNat a0.size) (⟨#[61, 61]⟩ : ByteArray)).bind fun t110 => (if t110 = true then (some (⟨#[61, 61]⟩ : ByteArray)) else (if a1 < (a0.size : Int) then ((strings_IndexByte.f (⟨#[123, 125, 40, 41, 59, 44, 58, 61, 60, 43, 45]⟩ : ByteArray) (bt a0 a1)).bind fun t111 => (if t111 < 0 then (some (⟨#[]⟩ : ByteArray)) else (if a1 ≤ (wrap64 (a1 + 1)) then (if (wrap64 (a1 + 1)) ≤ (a0.size : Int) then (some (a0.extract (a1 : Int).toNat ((wrap64 (a1 + 1)) : Int).toNat)) else (none)) else (none)))) else (none)))) else (none)) else (none)) = some r := h
 clear h
 by_cases c3 : 0 ≤ a1
 ·rw [if_pos c3] at H
  have c3b0 := eq_true c3
  have c3b1 : decide (0 ≤ a1) = true := decide_eq_true c3
  clear c3
  by_cases c4 : a1 ≤ (a0.size : Int)
  ·rw [if_pos c4] at H
   have c4b0 := eq_true c4
   have c4b1 : decide (a1 ≤ (a0.size : Int)) = true := decide_eq_true c4
   clear c4
   replace H := Option.bind_eq_some_iff.mp H
   obtain ⟨t110, A50, H⟩ := H
   replace H : (if t110 = true then (some (⟨#[61, 61]⟩ : ByteArray)) else (if a1 < (a0.size : Int) then ((strings_IndexByte.f (⟨#[123, 125, 40, 41, 59, 44, 58, 61, 60, 43, 45]⟩ : ByteArray) (bt a0 a1)).bind fun t111 => (if t111 < 0 then (some (⟨#[]⟩ : ByteArray)) else (if a1 ≤ (wrap64 (a1 + 1)) then (if (wrap64 (a1 + 1)) ≤ (a0.size : Int) then (some (a0.extract (a1 : Int).toNat ((wrap64 (a1 + 1)) : Int).toNat)) else (none)) else (none)))) else (none))) = some r := H
   have A5 := Aside0.mk A50
   clear A50
   by_cases c6 : t110 = true
   ·subst c6
    have H1 : (some (⟨#[61, 61]⟩ : ByteArray)) = some r := by rw [if_pos rfl] at H; exact H
    clear H
    have H := H1
    clear H1
    obtain rfl := Option.some.inj H
    go_enter Try.func79, Try.ntmps79
    go_wp2_with (first | ((with_reducible refine gate_callee (f := 73) rfl ?_); refine goesL_ (some 8) rfl rfl Try.func73 (by kernel_rfl) rfl #[.string (a0.extract (a1 : Int).toNat a0.size), .string (⟨#[61, 61]⟩ : ByteArray)] rfl (w4q1) ?_; (with_reducible refine (strings_HasPrefix.calls (a0.extract (a1 : Int).toNat a0.size) (⟨#[61, 61]⟩ : ByteArray) true _ A5.out).mono ?_); rintro e w' ⟨rfl, ⟨nd, rfl⟩⟩; refine ⟨_, rfl, ?_⟩))
    go_ret
    exact ⟨w4q4, w4q3⟩
   ·replace c6 := Bool.eq_false_iff.mpr c6
    subst c6
    have H1 : (if a1 < (a0.size : Int) then ((strings_IndexByte.f (⟨#[123, 125, 40, 41, 59, 44, 58, 61, 60, 43, 45]⟩ : ByteArray) (bt a0 a1)).bind fun t111 => (if t111 < 0 then (some (⟨#[]⟩ : ByteArray)) else (if a1 ≤ (wrap64 (a1 + 1)) then (if (wrap64 (a1 + 1)) ≤ (a0.size : Int) then (some (a0.extract (a1 : Int).toNat ((wrap64 (a1 + 1)) : Int).toNat)) else (none)) else (none)))) else (none)) = some r := by rw [if_neg (show ¬ (false = true) by decide)] at H; exact H
    clear H
    have H := H1
    clear H1
    by_cases c7 : a1 < (a0.size : Int)
    ·rw [if_pos c7] at H
     have c7b0 : decide (a1 < (a0.size : Int)) = true := decide_eq_true c7
     clear c7
     replace H := Option.bind_eq_some_iff.mp H
     obtain ⟨t111, A90, H⟩ := H
     replace H : (if t111 < 0 then (some (⟨#[]⟩ : ByteArray)) else (if a1 ≤ (wrap64 (a1 + 1)) then (if (wrap64 (a1 + 1)) ≤ (a0.size : Int) then (some (a0.extract (a1 : Int).toNat ((wrap64 (a1 + 1)) : Int).toNat)) else (none)) else (none))) = some r := H
     have A9 := Aside0.mk A90
     clear A90
     by_cases c10 : t111 < 0
     ·rw [if_pos c10] at H
      have c10b0 : decide (t111 < 0) = true := decide_eq_true c10
      clear c10
      obtain rfl := Option.some.inj H
      go_enter Try.func79, Try.ntmps79
      go_wp2_with (first | ((with_reducible refine gate_callee (f := 73) rfl ?_); refine goesL_ (some 8) rfl rfl Try.func73 (by kernel_rfl) rfl #[.string (a0.extract (a1 : Int).toNat a0.size), .string (⟨#[61, 61]⟩ : ByteArray)] rfl (w4q1) ?_; (with_reducible refine (strings_HasPrefix.calls (a0.extract (a1 : Int).toNat a0.size) (⟨#[61, 61]⟩ : ByteArray) false _ A5.out).mono ?_); rintro e w' ⟨rfl, ⟨nd, rfl⟩⟩; refine ⟨_, rfl, ?_⟩; have p8 : 0 ≤ (a1 : Int) := of_decide_eq_true (w4q2); have q8 : a1 < (a0.size : Int) := of_decide_eq_true (w4q2); have hx8 := bt_at a0 a1; replace p8 := eq_true p8; replace q8 := eq_true q8) | ((with_reducible refine gate_callee (f := 93) rfl ?_); refine goesL_ (some 12) rfl rfl Try.func93 (by kernel_rfl) rfl #[.string (⟨#[123, 125, 40, 41, 59, 44, 58, 61, 60, 43, 45]⟩ : ByteArray), .int .u8 (bt a0 a1)] rfl (w4q1) ?_; (with_reducible refine (strings_IndexByte.calls (⟨#[123, 125, 40, 41, 59, 44, 58, 61, 60, 43, 45]⟩ : ByteArray) (bt a0 a1) t111 _ A9.out).mono ?_); rintro e w' ⟨rfl, ⟨nd, rfl⟩⟩; refine ⟨_, rfl, ?_⟩))
      go_ret
      exact ⟨w4q4, w4q3⟩
     ·rw [if_neg c10] at H
      have c10b0 : decide (t111 < 0) = false := decide_eq_false c10
      clear c10
      have c11b0 := eq_true (of_decide_eq_true (w4q2) : 0 ≤ a1)
      by_cases c12 : a1 ≤ (wrap64 (a1 + 1))
      ·rw [if_pos c12] at H
       have c12b0 := eq_true c12
       have c12b1 : decide (a1 ≤ (wrap64 (a1 + 1))) = true := decide_eq_true c12
       by_cases c13 : (wrap64 (a1 + 1)) ≤ (a0.size : Int)
       ·rw [if_pos c13] at H
        have c13b0 := eq_true c13
        have c13b1 : decide ((wrap64 (a1 + 1)) ≤ (a0.size : Int)) = true := decide_eq_true c13
        obtain rfl := Option.some.inj H
        go_enter Try.func79, Try.ntmps79
        go_wp2_with (first | ((with_reducible refine gate_callee (f := 73) rfl ?_); refine goesL_ (some 8) rfl rfl Try.func73 (by kernel_rfl) rfl #[.string (a0.extract (a1 : Int).toNat a0.size), .string (⟨#[61, 61]⟩ : ByteArray)] rfl (w4q1) ?_; (with_reducible refine (strings_HasPrefix.calls (a0.extract (a1 : Int).toNat a0.size) (⟨#[61, 61]⟩ : ByteArray) false _ A5.out).mono ?_); rintro e w' ⟨rfl, ⟨nd, rfl⟩⟩; refine ⟨_, rfl, ?_⟩; have p8 : 0 ≤ (a1 : Int) := of_decide_eq_true (w4q2); have q8 : a1 < (a0.size : Int) := of_decide_eq_true (w4q2); have hx8 := bt_at a0 a1; replace p8 := eq_true p8; replace q8 := eq_true q8) | ((with_reducible refine gate_callee (f := 93) rfl ?_); refine goesL_ (some 12) rfl rfl Try.func93 (by kernel_rfl) rfl #[.string (⟨#[123, 125, 40, 41, 59, 44, 58, 61, 60, 43, 45]⟩ : ByteArray), .int .u8 (bt a0 a1)] rfl (w4q1) ?_; (with_reducible refine (strings_IndexByte.calls (⟨#[123, 125, 40, 41, 59, 44, 58, 61, 60, 43, 45]⟩ : ByteArray) (bt a0 a1) t111 _ A9.out).mono ?_); rintro e w' ⟨rfl, ⟨nd, rfl⟩⟩; refine ⟨_, rfl, ?_⟩))
        go_ret
        exact ⟨w4q4, w4q3⟩
       ·rw [if_neg c13] at H
        exact absurd H (by simp)
      ·rw [if_neg c12] at H
       exact absurd H (by simp)
    ·rw [if_neg c7] at H
     exact absurd H (by simp)
  ·rw [if_neg c4] at H
   exact absurd H (by simp)
 ·rw [if_neg c3] at H
  exact absurd H (by simp)

/-! ### lex_run_at_lex_char_tail: function 71 -/
def lex_run_at_lex_char_tail.l0 : Nat → ByteArray → Int → Int → Option (Int)
 | 0, _, _, _ => none
 | k + 1, x0, x1, x7 => if (wrap64 (x1 + x7)) < (x0.size : Int) then (if 0 ≤ (wrap64 (x1 + x7)) then ((lex_char_tail.f (bt x0 (wrap64 (x1 + x7)))).bind fun t112 => (if t112 = true then (lex_run_at_lex_char_tail.l0 k x0 x1 (wrap64 (x7 + 1))) else (some x7))) else (none)) else (some x7)
def lex_run_at_lex_char_tail.f (k : Nat) (a0 : ByteArray) (a1 : Int)  : Option (Int) := lex_run_at_lex_char_tail.l0 k a0 a1 0
theorem lex_run_at_lex_char_tail.mono_l : ∀ k, (∀ y0 y1 y2, LeO (lex_run_at_lex_char_tail.l0 k y0 y1 y2) (lex_run_at_lex_char_tail.l0 (k + 1) y0 y1 y2))
 | 0 => fun _ _ _ r h => by simp [lex_run_at_lex_char_tail.l0] at h
 | k + 1 => by
  have ih0 := lex_run_at_lex_char_tail.mono_l k
  ·intro y0 y1 y2
   unfold lex_run_at_lex_char_tail.l0
   repeat' first
   | (with_reducible exact ih0 _ _ _)
   | (with_reducible exact LeO.refl _)
   | (with_reducible exact LeO.none _)
   | (with_reducible refine LeO.ite ?_ ?_)
   | (with_reducible refine LeO.bind ?_ (fun _ => ?_))
   | exact ih0 _ _ _
   | exact LeO.none _
   | refine LeO.ite ?_ ?_
   | refine LeO.bind ?_ (fun _ => ?_)
theorem lex_run_at_lex_char_tail.mono : ∀ a0 a1 k, LeO (lex_run_at_lex_char_tail.f k a0 a1) (lex_run_at_lex_char_tail.f (k + 1) a0 a1) := by
 intro a0 a1 k
 have ih0 := lex_run_at_lex_char_tail.mono_l k
 unfold lex_run_at_lex_char_tail.f
 repeat' first
  | (with_reducible exact ih0 _ _ _)
  | (with_reducible exact LeO.refl _)
  | (with_reducible exact LeO.none _)
  | (with_reducible refine LeO.ite ?_ ?_)
  | (with_reducible refine LeO.bind ?_ (fun _ => ?_))
  | exact ih0 _ _ _
  | exact LeO.none _
  | refine LeO.ite ?_ ?_
  | refine LeO.bind ?_ (fun _ => ?_)
set_option maxHeartbeats 8000000 in
set_option maxRecDepth 100000 in
theorem lex_run_at_lex_char_tail.calls (k : Nat) (a0 : ByteArray) (a1 : Int)  (r : Int) (w : World) (h : lex_run_at_lex_char_tail.f k a0 a1 = some r) :
 Calls Try.prog 71 #[.string a0, .int .i64 a1, .func (.func 76) #[] #[]] w fun e w' => e = .returned (.int .i64 r) ∧ Drawn0 w w' := by
 have H : (lex_run_at_lex_char_tail.l0 k a0 a1 0) = some r := h
 clear h
 have H' := Aside0.mk H
 clear H
 go_enter Try.func71, Try.ntmps71
 go_wp2
 try go_simp
 go_loopg [7] k (fun kq v7 w' => ∃ (x7_1 : Int), v7 = .int .i64 x7_1 ∧ Aside0 (lex_run_at_lex_char_tail.l0 kq a0 a1 x7_1 = some r) ∧ Aside0 (kq ≤ k) ∧ Drawn0 w w')
 case atStart => exact ⟨(0), (w4q4), H', ⟨Nat.le_refl _⟩, w4q3⟩
 case round =>
  clear H'
  try clear p2
  obtain ⟨x7_1, rfl, HA, HK1, ⟨m1, rfl⟩⟩ := hrel
  cases gk with
  | zero => exact absurd HA.out (by simp [lex_run_at_lex_char_tail.l0])
  | succ k1 =>
   have H := HA.out
   clear HA
   simp only [lex_run_at_lex_char_tail.l0] at H
   by_cases c4 : (wrap64 (a1 + x7_1)) < (a0.size : Int)
   ·rw [if_pos c4] at H
    have c4b0 : decide ((wrap64 (a1 + x7_1)) < (a0.size : Int)) = true := decide_eq_true c4
    clear c4
    obtain ⟨ji5, hji5⟩ : ∃ j_ : Int, (wrap64 (a1 + x7_1)) = j_ := ⟨_, rfl⟩
    replace H : (if 0 ≤ (ji5) then ((lex_char_tail.f (bt a0 (ji5))).bind fun t112 => (if t112 = true then (lex_run_at_lex_char_tail.l0 k1 a0 a1 (wrap64 (x7_1 + 1))) else (some x7_1))) else (none)) = some r := by first | (rw [hji5] at H; exact H) | (simp only [hji5] at H ⊢; exact H)
    (try rw [hji5] at c4b0)
    have hji5w : (IntKind.i64.wrap (a1 + x7_1)) = ji5 := (i64_w _).trans hji5
    by_cases c6 : 0 ≤ (ji5)
    ·rw [if_pos c6] at H
     have c6b0 : decide (0 ≤ (ji5)) = true := decide_eq_true c6
     clear c6
     replace H := Option.bind_eq_some_iff.mp H
     obtain ⟨t112, A80, H⟩ := H
     replace H : (if t112 = true then (lex_run_at_lex_char_tail.l0 k1 a0 a1 (wrap64 (x7_1 + 1))) else (some x7_1)) = some r := H
     have A8 := Aside0.mk A80
     clear A80
     by_cases c9 : t112 = true
     ·subst c9
      have H1 : (lex_run_at_lex_char_tail.l0 k1 a0 a1 (wrap64 (x7_1 + 1))) = some r := by rw [if_pos rfl] at H; exact H
      clear H
      have H := H1
      clear H1
      have H' := Aside0.mk H
      clear H
      have p7 : 0 ≤ ((ji5) : Int) := of_decide_eq_true (w4q2)
      have q7 : (ji5) < (a0.size : Int) := of_decide_eq_true (w4q2)
      have hx7 := bt_at a0 (ji5)
      replace p7 := eq_true p7
      replace q7 := eq_true q7
      go_wp2_with (first | (go_at_call 76; (with_reducible refine (lex_char_tail.calls (bt a0 (ji5)) true _ A8.out).mono ?_); rintro e w' ⟨rfl, ⟨nd, rfl⟩⟩))
      go_roundg k1
      case measure => have := HK1.out; omega
      case rel => exact ⟨(wrap64 (x7_1 + 1)), (w4q4), H', ⟨by have := HK1.out; omega⟩, w4q3⟩
     ·replace c9 := Bool.eq_false_iff.mpr c9
      subst c9
      have H1 : (some x7_1) = some r := by rw [if_neg (show ¬ (false = true) by decide)] at H; exact H
      clear H
      have H := H1
      clear H1
      obtain rfl := Option.some.inj H
      have p7 : 0 ≤ ((ji5) : Int) := of_decide_eq_true (w4q2)
      have q7 : (ji5) < (a0.size : Int) := of_decide_eq_true (w4q2)
      have hx7 := bt_at a0 (ji5)
      replace p7 := eq_true p7
      replace q7 := eq_true q7
      go_wp2_with (first | (go_at_call 76; (with_reducible refine (lex_char_tail.calls (bt a0 (ji5)) false _ A8.out).mono ?_); rintro e w' ⟨rfl, ⟨nd, rfl⟩⟩))
      go_ret
      exact ⟨by first | rfl | (simp; done) | (simp only [← hji5] <;> (first | rfl | simp)) | (simp [*]; done), w4q3⟩
    ·rw [if_neg c6] at H
     exact absurd H (by simp)
   ·rw [if_neg c4] at H
    have c4b0 : decide ((wrap64 (a1 + x7_1)) < (a0.size : Int)) = false := decide_eq_false c4
    clear c4
    obtain rfl := Option.some.inj H
    go_wp2
    go_ret
    exact ⟨w4q4, w4q3⟩

/-! ### lex_run_at_lex_char_digit: function 71 -/
def lex_run_at_lex_char_digit.l0 : Nat → ByteArray → Int → Int → Option (Int)
 | 0, _, _, _ => none
 | k + 1, x0, x1, x7 => if (wrap64 (x1 + x7)) < (x0.size : Int) then (if 0 ≤ (wrap64 (x1 + x7)) then ((lex_char_digit.f (bt x0 (wrap64 (x1 + x7)))).bind fun t113 => (if t113 = true then (lex_run_at_lex_char_digit.l0 k x0 x1 (wrap64 (x7 + 1))) else (some x7))) else (none)) else (some x7)
def lex_run_at_lex_char_digit.f (k : Nat) (a0 : ByteArray) (a1 : Int)  : Option (Int) := lex_run_at_lex_char_digit.l0 k a0 a1 0
theorem lex_run_at_lex_char_digit.mono_l : ∀ k, (∀ y0 y1 y2, LeO (lex_run_at_lex_char_digit.l0 k y0 y1 y2) (lex_run_at_lex_char_digit.l0 (k + 1) y0 y1 y2))
 | 0 => fun _ _ _ r h => by simp [lex_run_at_lex_char_digit.l0] at h
 | k + 1 => by
  have ih0 := lex_run_at_lex_char_digit.mono_l k
  ·intro y0 y1 y2
   unfold lex_run_at_lex_char_digit.l0
   repeat' first
   | (with_reducible exact ih0 _ _ _)
   | (with_reducible exact LeO.refl _)
   | (with_reducible exact LeO.none _)
   | (with_reducible refine LeO.ite ?_ ?_)
   | (with_reducible refine LeO.bind ?_ (fun _ => ?_))
   | exact ih0 _ _ _
   | exact LeO.none _
   | refine LeO.ite ?_ ?_
   | refine LeO.bind ?_ (fun _ => ?_)
theorem lex_run_at_lex_char_digit.mono : ∀ a0 a1 k, LeO (lex_run_at_lex_char_digit.f k a0 a1) (lex_run_at_lex_char_digit.f (k + 1) a0 a1) := by
 intro a0 a1 k
 have ih0 := lex_run_at_lex_char_digit.mono_l k
 unfold lex_run_at_lex_char_digit.f
 repeat' first
  | (with_reducible exact ih0 _ _ _)
  | (with_reducible exact LeO.refl _)
  | (with_reducible exact LeO.none _)
  | (with_reducible refine LeO.ite ?_ ?_)
  | (with_reducible refine LeO.bind ?_ (fun _ => ?_))
  | exact ih0 _ _ _
  | exact LeO.none _
  | refine LeO.ite ?_ ?_
  | refine LeO.bind ?_ (fun _ => ?_)
set_option maxHeartbeats 8000000 in
set_option maxRecDepth 100000 in
theorem lex_run_at_lex_char_digit.calls (k : Nat) (a0 : ByteArray) (a1 : Int)  (r : Int) (w : World) (h : lex_run_at_lex_char_digit.f k a0 a1 = some r) :
 Calls Try.prog 71 #[.string a0, .int .i64 a1, .func (.func 77) #[] #[]] w fun e w' => e = .returned (.int .i64 r) ∧ Drawn0 w w' := by
 have H : (lex_run_at_lex_char_digit.l0 k a0 a1 0) = some r := h
 clear h
 have H' := Aside0.mk H
 clear H
 go_enter Try.func71, Try.ntmps71
 go_wp2
 try go_simp
 go_loopg [7] k (fun kq v7 w' => ∃ (x7_1 : Int), v7 = .int .i64 x7_1 ∧ Aside0 (lex_run_at_lex_char_digit.l0 kq a0 a1 x7_1 = some r) ∧ Aside0 (kq ≤ k) ∧ Drawn0 w w')
 case atStart => exact ⟨(0), (w4q4), H', ⟨Nat.le_refl _⟩, w4q3⟩
 case round =>
  clear H'
  try clear p2
  obtain ⟨x7_1, rfl, HA, HK1, ⟨m1, rfl⟩⟩ := hrel
  cases gk with
  | zero => exact absurd HA.out (by simp [lex_run_at_lex_char_digit.l0])
  | succ k1 =>
   have H := HA.out
   clear HA
   simp only [lex_run_at_lex_char_digit.l0] at H
   by_cases c4 : (wrap64 (a1 + x7_1)) < (a0.size : Int)
   ·rw [if_pos c4] at H
    have c4b0 : decide ((wrap64 (a1 + x7_1)) < (a0.size : Int)) = true := decide_eq_true c4
    clear c4
    obtain ⟨ji5, hji5⟩ : ∃ j_ : Int, (wrap64 (a1 + x7_1)) = j_ := ⟨_, rfl⟩
    replace H : (if 0 ≤ (ji5) then ((lex_char_digit.f (bt a0 (ji5))).bind fun t113 => (if t113 = true then (lex_run_at_lex_char_digit.l0 k1 a0 a1 (wrap64 (x7_1 + 1))) else (some x7_1))) else (none)) = some r := by first | (rw [hji5] at H; exact H) | (simp only [hji5] at H ⊢; exact H)
    (try rw [hji5] at c4b0)
    have hji5w : (IntKind.i64.wrap (a1 + x7_1)) = ji5 := (i64_w _).trans hji5
    by_cases c6 : 0 ≤ (ji5)
    ·rw [if_pos c6] at H
     have c6b0 : decide (0 ≤ (ji5)) = true := decide_eq_true c6
     clear c6
     replace H := Option.bind_eq_some_iff.mp H
     obtain ⟨t113, A80, H⟩ := H
     replace H : (if t113 = true then (lex_run_at_lex_char_digit.l0 k1 a0 a1 (wrap64 (x7_1 + 1))) else (some x7_1)) = some r := H
     have A8 := Aside0.mk A80
     clear A80
     by_cases c9 : t113 = true
     ·subst c9
      have H1 : (lex_run_at_lex_char_digit.l0 k1 a0 a1 (wrap64 (x7_1 + 1))) = some r := by rw [if_pos rfl] at H; exact H
      clear H
      have H := H1
      clear H1
      have H' := Aside0.mk H
      clear H
      have p7 : 0 ≤ ((ji5) : Int) := of_decide_eq_true (w4q2)
      have q7 : (ji5) < (a0.size : Int) := of_decide_eq_true (w4q2)
      have hx7 := bt_at a0 (ji5)
      replace p7 := eq_true p7
      replace q7 := eq_true q7
      go_wp2_with (first | (go_at_call 77; (with_reducible refine (lex_char_digit.calls (bt a0 (ji5)) true _ A8.out).mono ?_); rintro e w' ⟨rfl, ⟨nd, rfl⟩⟩))
      go_roundg k1
      case measure => have := HK1.out; omega
      case rel => exact ⟨(wrap64 (x7_1 + 1)), (w4q4), H', ⟨by have := HK1.out; omega⟩, w4q3⟩
     ·replace c9 := Bool.eq_false_iff.mpr c9
      subst c9
      have H1 : (some x7_1) = some r := by rw [if_neg (show ¬ (false = true) by decide)] at H; exact H
      clear H
      have H := H1
      clear H1
      obtain rfl := Option.some.inj H
      have p7 : 0 ≤ ((ji5) : Int) := of_decide_eq_true (w4q2)
      have q7 : (ji5) < (a0.size : Int) := of_decide_eq_true (w4q2)
      have hx7 := bt_at a0 (ji5)
      replace p7 := eq_true p7
      replace q7 := eq_true q7
      go_wp2_with (first | (go_at_call 77; (with_reducible refine (lex_char_digit.calls (bt a0 (ji5)) false _ A8.out).mono ?_); rintro e w' ⟨rfl, ⟨nd, rfl⟩⟩))
      go_ret
      exact ⟨by first | rfl | (simp; done) | (simp only [← hji5] <;> (first | rfl | simp)) | (simp [*]; done), w4q3⟩
    ·rw [if_neg c6] at H
     exact absurd H (by simp)
   ·rw [if_neg c4] at H
    have c4b0 : decide ((wrap64 (a1 + x7_1)) < (a0.size : Int)) = false := decide_eq_false c4
    clear c4
    obtain rfl := Option.some.inj H
    go_wp2
    go_ret
    exact ⟨w4q4, w4q3⟩

end Go.Proofs.Ytinnldfmbeafiaa.PA
