-- made by fvprint.py over the kit's print
import Derived.Test.YtinnldfmbeafiaaPAx0
import Derived.Test.YtinnldfmbeafiaaPAx2
namespace Go.Proofs.Ytinnldfmbeafiaa.PA
open Go.RowKit Go.Proofs.YtinnldfmbeafiaaW.PrintWords Go.Proofs.YtinnldfmbeafiaaW.PrintLast Go.Proofs.YtinnldfmbeafiaaW.PrintMore
attribute [local go_sem] max2_int min2_int max_two min_two max_three min_three max_four min_four   -- for this text's walks alone
set_option linter.unusedVariables false
set_option linter.unusedSimpArgs false

attribute [local go_sem] cell_set_some
theorem w3q1 {p : Prop} (h : p := by repeat (first | exact Drawn0.refl _ | apply Drawn0.step)) : p := h
theorem w3q2 {p : Prop} (h : p := by (try simp only [List.map_toArray, List.map_cons, List.map_nil]); first | done | rfl | (simp only [List.length_drop, List.length_take]; rfl)) : p := h
theorem w3q3 {p : Prop} (h : p := by first | rfl | (simp; done) | (simp [*]; done)) : p := h
theorem w3q4 {p : Prop} (h : p := by (try simp only [List.map_toArray, List.map_cons, List.map_nil]); first | done | (simp only [hji4]; rfl) | rfl | (simp only [List.length_drop, List.length_take]; rfl)) : p := h
/-! ### lex_gap: function 50 -/
def lex_gap.l0 : Nat → ByteArray → Int → Int → Option (Int)
  | 0, _, _, _ => none
  | k + 1, x0, x1, x5 => (lex_run_at_lex_char_blank.f k x0 x5).bind fun t104 => (if 0 ≤ (wrap64 (x5 + t104)) then (if (wrap64 (x5 + t104)) ≤ (x0.size : Int) then ((strings_HasPrefix.f (x0.extract ((wrap64 (x5 + t104)) : Int).toNat x0.size) (⟨#[47, 47]⟩ : ByteArray)).bind fun t105 => (if t105 = true then ((lex_run_at_lex_char_inner.f k x0 (wrap64 (x5 + t104))).bind fun t106 => (lex_gap.l0 k x0 x1 (wrap64 ((wrap64 (x5 + t104)) + t106)))) else (some (wrap64 ((wrap64 (x5 + t104)) - x1))))) else (none)) else (none))
def lex_gap.f (k : Nat) (a0 : ByteArray) (a1 : Int) : Option (Int) := lex_gap.l0 k a0 a1 a1
theorem lex_gap.mono_l : ∀ k, (∀ y0 y1 y2, LeO (lex_gap.l0 k y0 y1 y2) (lex_gap.l0 (k + 1) y0 y1 y2))
  | 0 => fun _ _ _ r h => by simp [lex_gap.l0] at h
  | k + 1 => by
    have ih0 := lex_gap.mono_l k
    · intro y0 y1 y2
      unfold lex_gap.l0
      repeat' first
      | (with_reducible exact ih0 _ _ _)
      | (with_reducible exact lex_run_at_lex_char_blank.mono _ _ _)
      | (with_reducible exact lex_run_at_lex_char_inner.mono _ _ _)
      | (with_reducible exact LeO.refl _)
      | (with_reducible exact LeO.none _)
      | (with_reducible refine LeO.ite ?_ ?_)
      | (with_reducible refine LeO.bind ?_ (fun _ => ?_))
      | exact ih0 _ _ _
      | exact lex_run_at_lex_char_blank.mono _ _ _
      | exact lex_run_at_lex_char_inner.mono _ _ _
      | exact LeO.none _
      | refine LeO.ite ?_ ?_
      | refine LeO.bind ?_ (fun _ => ?_)
theorem lex_gap.mono : ∀ a0 a1 k, LeO (lex_gap.f k a0 a1) (lex_gap.f (k + 1) a0 a1) := by
  intro a0 a1 k
  have ih0 := lex_gap.mono_l k
  unfold lex_gap.f
  repeat' first
      | (with_reducible exact ih0 _ _ _)
      | (with_reducible exact lex_run_at_lex_char_blank.mono _ _ _)
      | (with_reducible exact lex_run_at_lex_char_inner.mono _ _ _)
      | (with_reducible exact LeO.refl _)
      | (with_reducible exact LeO.none _)
      | (with_reducible refine LeO.ite ?_ ?_)
      | (with_reducible refine LeO.bind ?_ (fun _ => ?_))
      | exact ih0 _ _ _
      | exact lex_run_at_lex_char_blank.mono _ _ _
      | exact lex_run_at_lex_char_inner.mono _ _ _
      | exact LeO.none _
      | refine LeO.ite ?_ ?_
      | refine LeO.bind ?_ (fun _ => ?_)
set_option maxHeartbeats 8000000 in
set_option maxRecDepth 100000 in
theorem lex_gap.calls (k : Nat) (a0 : ByteArray) (a1 : Int) (r : Int) (w : World) (h : lex_gap.f k a0 a1 = some r) :
    Calls Try.prog 50 #[.string a0, .int .i64 a1] w fun e w' => e = .returned (.int .i64 r) ∧ Drawn0 w w' := by
  have H : (lex_gap.l0 k a0 a1 a1) = some r := h
  clear h
  have H' := Aside0.mk H
  clear H
  go_enter Try.func50, Try.ntmps50
  go_wp2
  try go_simp
  go_loopg [5] k (fun kq v5 w' => ∃ (x5_1 : Int), v5 = .int .i64 x5_1 ∧ Aside0 (lex_gap.l0 kq a0 a1 x5_1 = some r) ∧ Aside0 (kq ≤ k) ∧ Drawn0 w w')
  case atStart => exact ⟨(a1), (w3q3), H', ⟨Nat.le_refl _⟩, w3q1⟩
  case round =>
    clear H'
    try clear p2
    obtain ⟨x5_1, rfl, HA, HK1, ⟨m1, rfl⟩⟩ := hrel
    cases gk with
    | zero => exact absurd HA.out (by simp [lex_gap.l0])
    | succ k1 =>
      have H := HA.out
      clear HA
      simp only [lex_gap.l0] at H
      replace H := Option.bind_eq_some_iff.mp H
      obtain ⟨t104, A30, H⟩ := H
      replace H : (if 0 ≤ (wrap64 (x5_1 + t104)) then (if (wrap64 (x5_1 + t104)) ≤ (a0.size : Int) then ((strings_HasPrefix.f (a0.extract ((wrap64 (x5_1 + t104)) : Int).toNat a0.size) (⟨#[47, 47]⟩ : ByteArray)).bind fun t105 => (if t105 = true then ((lex_run_at_lex_char_inner.f k1 a0 (wrap64 (x5_1 + t104))).bind fun t106 => (lex_gap.l0 k1 a0 a1 (wrap64 ((wrap64 (x5_1 + t104)) + t106)))) else (some (wrap64 ((wrap64 (x5_1 + t104)) - a1))))) else (none)) else (none)) = some r := H
      have A3 := Aside0.mk A30
      clear A30
      obtain ⟨ji4, hji4⟩ : ∃ j_ : Int, (wrap64 (x5_1 + t104)) = j_ := ⟨_, rfl⟩
      replace H : (if 0 ≤ (ji4) then (if (ji4) ≤ (a0.size : Int) then ((strings_HasPrefix.f (a0.extract ((ji4) : Int).toNat a0.size) (⟨#[47, 47]⟩ : ByteArray)).bind fun t105 => (if t105 = true then ((lex_run_at_lex_char_inner.f k1 a0 (ji4)).bind fun t106 => (lex_gap.l0 k1 a0 a1 (wrap64 ((ji4) + t106)))) else (some (wrap64 ((ji4) - a1))))) else (none)) else (none)) = some r := by first | (rw [hji4] at H; exact H) | (simp only [hji4] at H ⊢; exact H)
      (try rw [hji4] at A3)
      have hji4w : (IntKind.i64.wrap (x5_1 + t104)) = ji4 := (i64_w _).trans hji4
      by_cases c5 : 0 ≤ (ji4)
      · rw [if_pos c5] at H
        have c5b0 := eq_true c5
        have c5b1 : decide (0 ≤ (ji4)) = true := decide_eq_true c5
        clear c5
        by_cases c6 : (ji4) ≤ (a0.size : Int)
        · rw [if_pos c6] at H
          have c6b0 := eq_true c6
          have c6b1 : decide ((ji4) ≤ (a0.size : Int)) = true := decide_eq_true c6
          clear c6
          replace H := Option.bind_eq_some_iff.mp H
          obtain ⟨t105, A70, H⟩ := H
          replace H : (if t105 = true then ((lex_run_at_lex_char_inner.f k1 a0 (ji4)).bind fun t106 => (lex_gap.l0 k1 a0 a1 (wrap64 ((ji4) + t106)))) else (some (wrap64 ((ji4) - a1)))) = some r := H
          have A7 := Aside0.mk A70
          clear A70
          by_cases c8 : t105 = true
          · subst c8
            have H1 : ((lex_run_at_lex_char_inner.f k1 a0 (ji4)).bind fun t106 => (lex_gap.l0 k1 a0 a1 (wrap64 ((ji4) + t106)))) = some r := by rw [if_pos rfl] at H; exact H
            clear H
            have H := H1
            clear H1
            replace H := Option.bind_eq_some_iff.mp H
            obtain ⟨t106, A90, H⟩ := H
            replace H : (lex_gap.l0 k1 a0 a1 (wrap64 ((ji4) + t106))) = some r := H
            have A9 := Aside0.mk A90
            clear A90
            have H' := Aside0.mk H
            clear H
            go_wp2_with (first | ((with_reducible refine gate_callee (f := 71) rfl ?_); refine goesL_ (some 10) rfl rfl Try.func71 (by kernel_rfl) rfl #[.string a0, .int .i64 x5_1, .func (.func 72) #[] #[]] rfl (w3q2) ?_; (with_reducible refine (lex_run_at_lex_char_blank.calls k1 a0 x5_1  t104 _ A3.out).mono ?_); rintro e w' ⟨rfl, ⟨nd, rfl⟩⟩; refine ⟨_, rfl, ?_⟩) | ((with_reducible refine gate_callee (f := 73) rfl ?_); refine goesL_ (some 15) rfl rfl Try.func73 (by kernel_rfl) rfl #[.string (a0.extract ((ji4) : Int).toNat a0.size), .string (⟨#[47, 47]⟩ : ByteArray)] rfl (w3q4) ?_; (with_reducible refine (strings_HasPrefix.calls (a0.extract ((ji4) : Int).toNat a0.size) (⟨#[47, 47]⟩ : ByteArray) true _ A7.out).mono ?_); rintro e w' ⟨rfl, ⟨nd, rfl⟩⟩; refine ⟨_, rfl, ?_⟩) | ((with_reducible refine gate_callee (f := 71) rfl ?_); refine goesL_ (some 23) rfl rfl Try.func71 (by kernel_rfl) rfl #[.string a0, .int .i64 ji4, .func (.func 74) #[] #[]] rfl (w3q4) ?_; (with_reducible refine (lex_run_at_lex_char_inner.calls k1 a0 ji4  t106 _ A9.out).mono ?_); rintro e w' ⟨rfl, ⟨nd, rfl⟩⟩; refine ⟨_, rfl, ?_⟩))
            go_roundg k1
            case measure => have := HK1.out; omega
            case rel => exact ⟨(wrap64 ((ji4) + t106)), (by first | rfl | (simp; done) | (simp only [← hji4] <;> (first | rfl | simp)) | (simp [*]; done)), H', ⟨by have := HK1.out; omega⟩, w3q1⟩
          · replace c8 := Bool.eq_false_iff.mpr c8
            subst c8
            have H1 : (some (wrap64 ((ji4) - a1))) = some r := by rw [if_neg (show ¬ (false = true) by decide)] at H; exact H
            clear H
            have H := H1
            clear H1
            obtain rfl := Option.some.inj H
            go_wp2_with (first | ((with_reducible refine gate_callee (f := 71) rfl ?_); refine goesL_ (some 10) rfl rfl Try.func71 (by kernel_rfl) rfl #[.string a0, .int .i64 x5_1, .func (.func 72) #[] #[]] rfl (w3q2) ?_; (with_reducible refine (lex_run_at_lex_char_blank.calls k1 a0 x5_1  t104 _ A3.out).mono ?_); rintro e w' ⟨rfl, ⟨nd, rfl⟩⟩; refine ⟨_, rfl, ?_⟩) | ((with_reducible refine gate_callee (f := 73) rfl ?_); refine goesL_ (some 15) rfl rfl Try.func73 (by kernel_rfl) rfl #[.string (a0.extract ((ji4) : Int).toNat a0.size), .string (⟨#[47, 47]⟩ : ByteArray)] rfl (w3q4) ?_; (with_reducible refine (strings_HasPrefix.calls (a0.extract ((ji4) : Int).toNat a0.size) (⟨#[47, 47]⟩ : ByteArray) false _ A7.out).mono ?_); rintro e w' ⟨rfl, ⟨nd, rfl⟩⟩; refine ⟨_, rfl, ?_⟩))
            go_ret
            exact ⟨by first | rfl | (simp; done) | (simp only [← hji4] <;> (first | rfl | simp)) | (simp [*]; done), w3q1⟩
        · rw [if_neg c6] at H
          exact absurd H (by simp)
      · rw [if_neg c5] at H
        exact absurd H (by simp)

/-! ### lex_char_letter: function 75 -/
def lex_char_letter.f (a0 : Int) : Option (Bool) := if a0 ≥ 65 then (if a0 ≤ 90 then (some true) else (if a0 ≥ 97 then (some (decide (a0 ≤ 122))) else (some false))) else (if a0 ≥ 97 then (some (decide (a0 ≤ 122))) else (some false))
set_option maxHeartbeats 8000000 in
set_option maxRecDepth 100000 in
theorem lex_char_letter.calls (a0 : Int) (r : Bool) (w : World) (h : lex_char_letter.f a0 = some r) :
    Calls Try.prog 75 #[.int .u8 a0] w fun e w' => e = .returned (.bool r) ∧ Drawn0 w w' := by
  have H : (if a0 ≥ 65 then (if a0 ≤ 90 then (some true) else (if a0 ≥ 97 then (some (decide (a0 ≤ 122))) else (some false))) else (if a0 ≥ 97 then (some (decide (a0 ≤ 122))) else (some false))) = some r := h
  clear h
  by_cases c2 : a0 ≥ 65
  · rw [if_pos c2] at H
    have c2b0 : decide (65 ≤ a0) = true := decide_eq_true c2
    clear c2
    by_cases c3 : a0 ≤ 90
    · rw [if_pos c3] at H
      have c3b0 : decide (a0 ≤ 90) = true := decide_eq_true c3
      clear c3
      obtain rfl := Option.some.inj H
      go_enter Try.func75, Try.ntmps75
      go_wp2
      go_ret
      exact ⟨w3q3, w3q1⟩
    · rw [if_neg c3] at H
      have c3b0 : decide (a0 ≤ 90) = false := decide_eq_false c3
      clear c3
      by_cases c4 : a0 ≥ 97
      · rw [if_pos c4] at H
        have c4b0 : decide (97 ≤ a0) = true := decide_eq_true c4
        clear c4
        obtain rfl := Option.some.inj H
        go_enter Try.func75, Try.ntmps75
        go_wp2
        go_ret
        exact ⟨w3q3, w3q1⟩
      · rw [if_neg c4] at H
        have c4b0 : decide (97 ≤ a0) = false := decide_eq_false c4
        clear c4
        obtain rfl := Option.some.inj H
        go_enter Try.func75, Try.ntmps75
        go_wp2
        go_ret
        exact ⟨w3q3, w3q1⟩
  · rw [if_neg c2] at H
    have c2b0 : decide (65 ≤ a0) = false := decide_eq_false c2
    clear c2
    by_cases c5 : a0 ≥ 97
    · rw [if_pos c5] at H
      have c5b0 : decide (97 ≤ a0) = true := decide_eq_true c5
      clear c5
      obtain rfl := Option.some.inj H
      go_enter Try.func75, Try.ntmps75
      go_wp2
      go_ret
      exact ⟨w3q3, w3q1⟩
    · rw [if_neg c5] at H
      have c5b0 : decide (97 ≤ a0) = false := decide_eq_false c5
      clear c5
      obtain rfl := Option.some.inj H
      go_enter Try.func75, Try.ntmps75
      go_wp2
      go_ret
      exact ⟨w3q3, w3q1⟩

/-! ### lex_char_digit: function 77 -/
def lex_char_digit.f (a0 : Int) : Option (Bool) := if a0 ≥ 48 then (some (decide (a0 ≤ 57))) else (some false)
set_option maxHeartbeats 8000000 in
set_option maxRecDepth 100000 in
theorem lex_char_digit.calls (a0 : Int) (r : Bool) (w : World) (h : lex_char_digit.f a0 = some r) :
    Calls Try.prog 77 #[.int .u8 a0] w fun e w' => e = .returned (.bool r) ∧ Drawn0 w w' := by
  have H : (if a0 ≥ 48 then (some (decide (a0 ≤ 57))) else (some false)) = some r := h
  clear h
  by_cases c2 : a0 ≥ 48
  · rw [if_pos c2] at H
    have c2b0 : decide (48 ≤ a0) = true := decide_eq_true c2
    clear c2
    obtain rfl := Option.some.inj H
    go_enter Try.func77, Try.ntmps77
    go_wp2
    go_ret
    exact ⟨w3q3, w3q1⟩
  · rw [if_neg c2] at H
    have c2b0 : decide (48 ≤ a0) = false := decide_eq_false c2
    clear c2
    obtain rfl := Option.some.inj H
    go_enter Try.func77, Try.ntmps77
    go_wp2
    go_ret
    exact ⟨w3q3, w3q1⟩

/-! ### lex_char_tail: function 76 -/
def lex_char_tail.f (a0 : Int) : Option (Bool) := (lex_char_letter.f a0).bind fun t107 => (if t107 = true then (some true) else ((lex_char_digit.f a0).bind fun t108 => (some t108)))
set_option maxHeartbeats 8000000 in
set_option maxRecDepth 100000 in
theorem lex_char_tail.calls (a0 : Int) (r : Bool) (w : World) (h : lex_char_tail.f a0 = some r) :
    Calls Try.prog 76 #[.int .u8 a0] w fun e w' => e = .returned (.bool r) ∧ Drawn0 w w' := by
  have H : ((lex_char_letter.f a0).bind fun t107 => (if t107 = true then (some true) else ((lex_char_digit.f a0).bind fun t108 => (some t108)))) = some r := h
  clear h
  replace H := Option.bind_eq_some_iff.mp H
  obtain ⟨t107, A20, H⟩ := H
  replace H : (if t107 = true then (some true) else ((lex_char_digit.f a0).bind fun t108 => (some t108))) = some r := H
  have A2 := Aside0.mk A20
  clear A20
  by_cases c3 : t107 = true
  · subst c3
    have H1 : (some true) = some r := by rw [if_pos rfl] at H; exact H
    clear H
    have H := H1
    clear H1
    obtain rfl := Option.some.inj H
    go_enter Try.func76, Try.ntmps76
    go_wp2_with (first | ((with_reducible refine gate_callee (f := 75) rfl ?_); refine goesL_ (some 4) rfl rfl Try.func75 (by kernel_rfl) rfl #[.int .u8 a0] rfl (w3q2) ?_; (with_reducible refine (lex_char_letter.calls a0 true _ A2.out).mono ?_); rintro e w' ⟨rfl, ⟨nd, rfl⟩⟩; refine ⟨_, rfl, ?_⟩))
    go_ret
    exact ⟨w3q3, w3q1⟩
  · replace c3 := Bool.eq_false_iff.mpr c3
    subst c3
    have H1 : ((lex_char_digit.f a0).bind fun t108 => (some t108)) = some r := by rw [if_neg (show ¬ (false = true) by decide)] at H; exact H
    clear H
    have H := H1
    clear H1
    replace H := Option.bind_eq_some_iff.mp H
    obtain ⟨t108, A40, H⟩ := H
    replace H : (some t108) = some r := H
    have A4 := Aside0.mk A40
    clear A40
    obtain rfl := Option.some.inj H
    go_enter Try.func76, Try.ntmps76
    go_wp2_with (first | ((with_reducible refine gate_callee (f := 75) rfl ?_); refine goesL_ (some 4) rfl rfl Try.func75 (by kernel_rfl) rfl #[.int .u8 a0] rfl (w3q2) ?_; (with_reducible refine (lex_char_letter.calls a0 false _ A2.out).mono ?_); rintro e w' ⟨rfl, ⟨nd, rfl⟩⟩; refine ⟨_, rfl, ?_⟩) | (go_at_call 77; (with_reducible refine (lex_char_digit.calls a0 t108 _ A4.out).mono ?_); rintro e w' ⟨rfl, ⟨nd, rfl⟩⟩))
    go_ret
    exact ⟨w3q3, w3q1⟩

/-! ### lex_worth: function 78 -/
def worthStep (s : Int × Bool) (b : UInt8) : Int × Bool := if s.2 = true then (if (4611686018427387904 - ((b.toNat : Int) - 48) % 256) / 10 < s.1 then (0, false) else (10 * s.1 + (((b.toNat : Int) - 48) % 256), true)) else s
def worthAll (l : List UInt8) : Int × Bool := l.foldl worthStep (0, true)
def lex_worth.f (a0 : ByteArray) : Option (Int × Bool) := if a0.data.toList.all (fun b => decide (b.toNat < 128)) = true then some (worthAll a0.data.toList) else none
theorem worthStep_stop (l : List UInt8) (n : Int) : l.foldl worthStep (n, false) = (n, false) := by
  induction l with
  | nil => rfl
  | cons b l ih => simpa [worthStep] using ih
theorem worthStep_le (s : Int × Bool) (b : UInt8) (h : 0 ≤ s.1 ∧ s.1 ≤ 4611686018427388200) : 0 ≤ (worthStep s b).1 ∧ (worthStep s b).1 ≤ 4611686018427388200 := by
  unfold worthStep
  have h1 := Int.emod_nonneg ((b.toNat : Int) - 48) (by decide : (256 : Int) ≠ 0)
  have h2 := Int.emod_lt_of_pos ((b.toNat : Int) - 48) (by decide : (0 : Int) < 256)
  generalize ((b.toNat : Int) - 48) % 256 = d at *
  split
  · split
    · exact ⟨by decide, by decide⟩
    · simp only []
      omega
  · exact h
theorem worthAll_le : ∀ (l : List UInt8) (s : Int × Bool), 0 ≤ s.1 ∧ s.1 ≤ 4611686018427388200 → 0 ≤ (l.foldl worthStep s).1 ∧ (l.foldl worthStep s).1 ≤ 4611686018427388200
  | [], _, h => h
  | b :: l, s, h => worthAll_le l _ (worthStep_le s b h)
theorem worth_take (s : ByteArray) (k : Nat) (h : k < s.size) : s.data.toList.take (k + 1) = s.data.toList.take k ++ [s[k]] := by
  rw [List.take_succ_eq_append_getElem (by simpa using h)]; rfl
set_option maxHeartbeats 1000000 in
set_option maxRecDepth 100000 in
theorem lex_worth.calls (a0 : ByteArray) (r1 : Int) (r2 : Bool) (w : World) (h : lex_worth.f a0 = some (r1, r2)) :
    Calls Try.prog 78 #[.string a0] w fun e w' => e = .returned (.tuple #[.int .i64 r1, .bool r2]) ∧ Below w.heap.size w w' := by
  unfold lex_worth.f at h
  by_cases ha : a0.data.toList.all (fun b => decide (b.toNat < 128)) = true
  · rw [if_pos ha] at h
    have hr := Option.some.inj h
    have Hr := Lib.hid hr
    clear h hr
    have Ha := Lib.hid ha
    clear ha
    go_enter Try.func78, Try.ntmps78
    go_wp2
    go_loopw [4] (fun n w' => ∃ (pos : Nat) (m : Int), w' = w.iter a0 pos ∧ n = .int .i64 m ∧ pos ≤ a0.size ∧ Hid (worthAll (a0.data.toList.take pos) = (m, true))) (fun _ w' => a0.size - w'.iterPos w.heap.size)
    case atStart => exact ⟨0, 0, rfl, rfl, by omega, Lib.hid (by simp [worthAll])⟩
    case round =>
      obtain ⟨pos, m, rfl, rfl, hp, Hm⟩ := hrel
      have hb : 0 ≤ m ∧ m ≤ 4611686018427388200 := by
        have := worthAll_le (a0.data.toList.take pos) (0, true) (by decide)
        have h2 : (a0.data.toList.take pos).foldl worthStep (0, true) = (m, true) := Hm.out
        rw [h2] at this
        exact this
      by_cases hlt : pos < a0.size
      · have hasc : (a0[pos]'hlt).toNat < 128 := by
          have := List.all_eq_true.mp Ha.out (a0.data.toList[pos]'(by simpa using hlt)) (List.getElem_mem _)
          have h2 : a0.data.toList[pos]'(by simpa using hlt) = a0[pos]'hlt := rfl
          rw [h2] at this
          simpa using this
        have hnx : ∀ ty, (Instr.next (.pointer (some ⟨w.heap.size, 0, none⟩)) true ty).run Try.prog (w.iter a0 pos) = _ := fun ty => run_next_ascii w a0 pos ty hlt hasc
        have hts := Lib.hid (worth_take a0 pos hlt)
        have Hstep := Lib.hid (show worthAll (a0.data.toList.take (pos + 1)) = worthStep (m, true) a0[pos] by rw [hts.out, worthAll, List.foldl_append]; show worthStep (worthAll _) _ = _; rw [Hm.out])
        go_wp2
        · rename_i hbig
          go_ret2
          have hfin : worthAll a0.data.toList = (0, false) := by
            rw [← List.take_append_drop (pos + 1) a0.data.toList, worthAll, List.foldl_append]
            show List.foldl worthStep (worthAll _) _ = _
            rw [Hstep.out, worthStep, if_pos rfl, if_pos hbig, worthStep_stop]
          have h3 := Hr.out
          rw [hfin] at h3
          obtain ⟨rfl, rfl⟩ := Prod.mk.inj h3
          exact ⟨rfl, (Below.refl _ _).alloc (Nat.le_refl _) _⟩
        · rename_i hbig
          have h1 := Int.emod_nonneg (((a0[pos]'hlt).toNat : Int) - 48) (by decide : (256 : Int) ≠ 0)
          have h2 := Int.emod_lt_of_pos (((a0[pos]'hlt).toNat : Int) - 48) (by decide : (0 : Int) < 256)
          have hw : wrap64 (wrap64 (10 * m) + (((a0[pos]'hlt).toNat : Int) - 48) % 256) = 10 * m + (((a0[pos]'hlt).toNat : Int) - 48) % 256 := by
            generalize (((a0[pos]'hlt).toNat : Int) - 48) % 256 = d at *
            unfold wrap64
            omega
          go_roundw
          case rel =>
            refine ⟨pos + 1, 10 * m + (((a0[pos]'hlt).toNat : Int) - 48) % 256, rfl, by first | rfl | rw [hw], by omega, Lib.hid ?_⟩
            rw [Hstep.out, worthStep, if_pos rfl, if_neg (by simpa using hbig)]
          case measure =>
            simp
            omega
      · have hnx : ∀ ty, (Instr.next (.pointer (some ⟨w.heap.size, 0, none⟩)) true ty).run Try.prog (w.iter a0 pos) = _ := fun ty => run_next_end w a0 pos ty hlt
        go_wp2
        go_ret2
        have h3 := Hr.out
        have h4 := Hm.out
        rw [List.take_of_length_le (by simp; omega), h3] at h4
        obtain ⟨rfl, rfl⟩ := Prod.mk.inj h4
        exact ⟨rfl, (Below.refl _ _).alloc (Nat.le_refl _) _⟩
  · rw [if_neg ha] at h
    exact absurd h (by simp)

-- NOT PRINTED: function 107 (bytealg_IndexByteString)

/-! ### stringslite_IndexByte: function 102 -/
def stringslite_IndexByte.f (a0 : ByteArray) (a1 : Int) : Option Int := some (Go.Lib.indexByte a0.data.toList a1.toNat.toUInt8)
set_option maxHeartbeats 1000000 in
set_option maxRecDepth 100000 in
theorem stringslite_IndexByte.calls (a0 : ByteArray) (a1 : Int) (r : Int) (w : World) (h : stringslite_IndexByte.f a0 a1 = some r) :
    Calls Try.prog 102 #[.string a0, .int .u8 a1] w fun e w' => e = .returned (.int .i64 r) ∧ Drawn0 w w' := by
  obtain rfl := Option.some.inj h
  go_enter Try.func102, Try.ntmps102
  go_wp2
  rw [run_callFunc_extern Try.func107 (by kernel_rfl) (by kernel_rfl) (by kernel_rfl) (e := Extern.BytealgIndexByte.indexByte) (by kernel_rfl), Go.Lib.run_indexByteString]
  simp only [Result.andThen]
  rw [Oper.upon_value]
  go_wp2
  go_ret
  exact ⟨rfl, Drawn0.refl _⟩

/-! ### strings_IndexByte: function 93 -/
def strings_IndexByte.f (a0 : ByteArray) (a1 : Int) : Option (Int) := (stringslite_IndexByte.f a0 a1).bind fun t109 => (some t109)
set_option maxHeartbeats 8000000 in
set_option maxRecDepth 100000 in
theorem strings_IndexByte.calls (a0 : ByteArray) (a1 : Int) (r : Int) (w : World) (h : strings_IndexByte.f a0 a1 = some r) :
    Calls Try.prog 93 #[.string a0, .int .u8 a1] w fun e w' => e = .returned (.int .i64 r) ∧ Drawn0 w w' := by
  have H : ((stringslite_IndexByte.f a0 a1).bind fun t109 => (some t109)) = some r := h
  clear h
  replace H := Option.bind_eq_some_iff.mp H
  obtain ⟨t109, A30, H⟩ := H
  replace H : (some t109) = some r := H
  have A3 := Aside0.mk A30
  clear A30
  obtain rfl := Option.some.inj H
  go_enter Try.func93, Try.ntmps93
  go_wp2_with (first | ((with_reducible refine gate_callee (f := 102) rfl ?_); refine goesL_ (some 7) rfl rfl Try.func102 (by kernel_rfl) rfl #[.string a0, .int .u8 a1] rfl (w3q2) ?_; (with_reducible refine (stringslite_IndexByte.calls a0 a1 t109 _ A3.out).mono ?_); rintro e w' ⟨rfl, ⟨nd, rfl⟩⟩; refine ⟨_, rfl, ?_⟩))
  go_ret
  exact ⟨w3q3, w3q1⟩

end Go.Proofs.Ytinnldfmbeafiaa.PA
