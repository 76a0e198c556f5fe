-- made by fvprint.py over the kit's print
import Derived.Test.YtmifncmnchnioaaPLx0
import Derived.Test.YtmifncmnchnioaaPLx2
namespace Go.Proofs.Ytmifncmnchnioaa.PL
open Go.RowKit Go.Proofs.YtmifncmnchnioaaW.PrintWords Go.Proofs.YtmifncmnchnioaaW.PrintLast Go.Proofs.YtmifncmnchnioaaW.PrintMore
attribute [local go_sem] max2_int min2_int max_two min_two max_three min_three max_four min_four   -- for this text's walks alone
set_option linter.unusedVariables false
set_option linter.unusedSimpArgs false

attribute [local go_sem high] eqA37
attribute [local go_sem] cell_set_some
/-! ### witheref6_SameTokens: function 11 -/
def witheref6_SameTokens.l0 : Nat → List (S37) → List (S37) → Int → Option (Bool)
  | 0, _, _, _ => none
  | k + 1, x0, x1, x5 => if x5 < (x0.length : Int) then (if 0 ≤ x5 then (if x5 < (x1.length : Int) then (if (!(((rd_T37 x0 x5).f0) == ((rd_T37 x1 x5).f0)) || (!((((rd_T37 x0 x5).f1).toList) == (((rd_T37 x1 x5).f1).toList)) || (!(((rd_T37 x0 x5).f2) == ((rd_T37 x1 x5).f2)) || (!(((rd_T37 x0 x5).f3) == ((rd_T37 x1 x5).f3)))))) = true then (some false) else (witheref6_SameTokens.l0 k x0 x1 (wrap64 (x5 + 1)))) else (none)) else (none)) else (some true)
def witheref6_SameTokens.f (k : Nat) (l0 : List (S37)) (l1 : List (S37)) : Option (Bool) := if (l0.length : Int) = (l1.length : Int) then (witheref6_SameTokens.l0 k l0 l1 0) else (some false)
theorem witheref6_SameTokens.mono_l : ∀ k, (∀ y0 y1 y2, LeO (witheref6_SameTokens.l0 k y0 y1 y2) (witheref6_SameTokens.l0 (k + 1) y0 y1 y2))
  | 0 => fun _ _ _ r h => by simp [witheref6_SameTokens.l0] at h
  | k + 1 => by
    have ih0 := witheref6_SameTokens.mono_l k
    · intro y0 y1 y2
      unfold witheref6_SameTokens.l0
      repeat' first
      | (with_reducible exact ih0 _ _ _)
      | (with_reducible exact LeO.refl _)
      | (with_reducible exact LeO.none _)
      | (with_reducible refine LeO.ite ?_ ?_)
      | (with_reducible refine LeO.bind ?_ (fun _ => ?_))
      | exact ih0 _ _ _
      | exact LeO.none _
      | refine LeO.ite ?_ ?_
      | refine LeO.bind ?_ (fun _ => ?_)
theorem witheref6_SameTokens.mono : ∀ a0 a1 k, LeO (witheref6_SameTokens.f k a0 a1) (witheref6_SameTokens.f (k + 1) a0 a1) := by
  intro a0 a1 k
  have ih0 := witheref6_SameTokens.mono_l k
  unfold witheref6_SameTokens.f
  repeat' first
      | (with_reducible exact ih0 _ _ _)
      | (with_reducible exact LeO.refl _)
      | (with_reducible exact LeO.none _)
      | (with_reducible refine LeO.ite ?_ ?_)
      | (with_reducible refine LeO.bind ?_ (fun _ => ?_))
      | exact ih0 _ _ _
      | exact LeO.none _
      | refine LeO.ite ?_ ?_
      | refine LeO.bind ?_ (fun _ => ?_)
set_option maxHeartbeats 8000000 in
set_option maxRecDepth 100000 in
theorem witheref6_SameTokens.calls (k : Nat) (A0 : Option Addr) (c0 : Nat) (l0 : List (S37)) (A1 : Option Addr) (c1 : Nat) (l1 : List (S37)) (r : Bool) (w : World) (hr0 : Kd.C k37 w A0 l0.length l0) (hc0 : l0.length ≤ c0) (hr1 : Kd.C k37 w A1 l1.length l1) (hc1 : l1.length ≤ c1) (h : witheref6_SameTokens.f k l0 l1 = some r) :
    Calls Try.prog 11 #[.slice A0 l0.length c0, .slice A1 l1.length c1] w fun e w' => e = .returned (.bool r) ∧ Drawn0 w w' := by
  have hu37 := Try.underlying37
  have HR0 := Aside0.mk hr0
  have HC0 := Aside0.mk hc0
  clear hr0 hc0
  have HR1 := Aside0.mk hr1
  have HC1 := Aside0.mk hc1
  clear hr1 hc1
  have H : (if (l0.length : Int) = (l1.length : Int) then (witheref6_SameTokens.l0 k l0 l1 0) else (some false)) = some r := h
  clear h
  by_cases c3 : (l0.length : Int) = (l1.length : Int)
  · rw [if_pos c3] at H
    have c3b0 : ((l0.length : Int) == (l1.length : Int)) = true := beq_iff_eq.mpr c3
    have c3b1 : ((l0.length : Int) != (l1.length : Int)) = false := bne_eq_false_iff_eq.mpr c3
    have c3b2 : (l0.length == l1.length) = true := by first | simpa using c3 | (simp at c3 ⊢; omega)
    clear c3
    have H' := Aside0.mk H
    clear H
    go_enter Try.func11, Try.ntmps11
    go_wp2
    repeat (go_quiet (fail); try go_wp2)
    try go_simp
    go_loopg [5] k (fun kq v5 w' => ∃ (x5_1 : Int), v5 = .int .i64 x5_1 ∧ Aside0 (witheref6_SameTokens.l0 kq l0 l1 x5_1 = some r) ∧ Aside0 (kq ≤ k) ∧ Drawn0 w w')
    case atStart => exact ⟨(0), (by first | rfl | (simp; done) | (simp [*]; done)), H', ⟨Nat.le_refl _⟩, by repeat (first | exact Drawn0.refl _ | apply Drawn0.step)⟩
    case round =>
      clear H'
      try clear c1
      try clear p2
      try clear c3
      try clear c3b0
      try clear c3b1
      try clear c3b2
      obtain ⟨x5_1, rfl, HA, HK1, ⟨m1, rfl⟩⟩ := hrel
      cases gk with
      | zero => exact absurd HA.out (by simp [witheref6_SameTokens.l0])
      | succ k1 =>
        have H := HA.out
        clear HA
        simp only [witheref6_SameTokens.l0] at H
        by_cases c4 : x5_1 < (l0.length : Int)
        · rw [if_pos c4] at H
          have c4b0 : decide (x5_1 < (l0.length : Int)) = true := decide_eq_true c4
          clear c4
          by_cases c5 : 0 ≤ x5_1
          · rw [if_pos c5] at H
            have c5b0 : decide (0 ≤ x5_1) = true := decide_eq_true c5
            clear c5
            by_cases c6 : x5_1 < (l1.length : Int)
            · rw [if_pos c6] at H
              have c6b0 : decide (x5_1 < (l1.length : Int)) = true := decide_eq_true c6
              clear c6
              by_cases c7 : (!(((rd_T37 l0 x5_1).f0) == ((rd_T37 l1 x5_1).f0)) || (!((((rd_T37 l0 x5_1).f1).toList) == (((rd_T37 l1 x5_1).f1).toList)) || (!(((rd_T37 l0 x5_1).f2) == ((rd_T37 l1 x5_1).f2)) || (!(((rd_T37 l0 x5_1).f3) == ((rd_T37 l1 x5_1).f3)))))) = true
              · rw [if_pos c7] at H
                have c7b0 : (!(((rd_T37 l0 x5_1).f0) == ((rd_T37 l1 x5_1).f0)) || (!((((rd_T37 l0 x5_1).f1).toList) == (((rd_T37 l1 x5_1).f1).toList)) || (!(((rd_T37 l0 x5_1).f2) == ((rd_T37 l1 x5_1).f2)) || (!(((rd_T37 l0 x5_1).f3) == ((rd_T37 l1 x5_1).f3)))))) = true := c7
                clear c7
                obtain rfl := Option.some.inj H
                have p197 : 0 ≤ (x5_1 : Int) := of_decide_eq_true (by first | (with_reducible assumption) | assumption)
                have q197 : x5_1 < (l0.length : Int) := of_decide_eq_true (by first | (with_reducible assumption) | assumption)
                obtain ⟨ad197, e197, hx197_0, hx197_1, hx197_2, hx197_3⟩ := at_T37 HR0.out x5_1 p197 q197
                cases e197
                replace p197 := eq_true p197
                replace q197 := eq_true q197
                have p198 : 0 ≤ (x5_1 : Int) := of_decide_eq_true (by first | (with_reducible assumption) | assumption)
                have q198 : x5_1 < (l1.length : Int) := of_decide_eq_true (by first | (with_reducible assumption) | assumption)
                obtain ⟨ad198, e198, hx198_0, hx198_1, hx198_2, hx198_3⟩ := at_T37 HR1.out x5_1 p198 q198
                cases e198
                replace p198 := eq_true p198
                replace q198 := eq_true q198
                go_wp2
                repeat (go_quiet (fail); try go_wp2)
                go_ret
                exact ⟨by first | rfl | (simp; done) | (simp [*]; done), by repeat (first | exact Drawn0.refl _ | apply Drawn0.step)⟩
              · rw [if_neg c7] at H
                have c7b0 : (!(((rd_T37 l0 x5_1).f0) == ((rd_T37 l1 x5_1).f0)) || (!((((rd_T37 l0 x5_1).f1).toList) == (((rd_T37 l1 x5_1).f1).toList)) || (!(((rd_T37 l0 x5_1).f2) == ((rd_T37 l1 x5_1).f2)) || (!(((rd_T37 l0 x5_1).f3) == ((rd_T37 l1 x5_1).f3)))))) = false := by simpa using c7
                clear c7
                have H' := Aside0.mk H
                clear H
                have p197 : 0 ≤ (x5_1 : Int) := of_decide_eq_true (by first | (with_reducible assumption) | assumption)
                have q197 : x5_1 < (l0.length : Int) := of_decide_eq_true (by first | (with_reducible assumption) | assumption)
                obtain ⟨ad197, e197, hx197_0, hx197_1, hx197_2, hx197_3⟩ := at_T37 HR0.out x5_1 p197 q197
                cases e197
                replace p197 := eq_true p197
                replace q197 := eq_true q197
                have p198 : 0 ≤ (x5_1 : Int) := of_decide_eq_true (by first | (with_reducible assumption) | assumption)
                have q198 : x5_1 < (l1.length : Int) := of_decide_eq_true (by first | (with_reducible assumption) | assumption)
                obtain ⟨ad198, e198, hx198_0, hx198_1, hx198_2, hx198_3⟩ := at_T37 HR1.out x5_1 p198 q198
                cases e198
                replace p198 := eq_true p198
                replace q198 := eq_true q198
                go_wp2
                repeat (go_quiet (fail); try go_wp2)
                go_roundg k1
                case measure => have := HK1.out; omega
                case rel => exact ⟨(wrap64 (x5_1 + 1)), (by first | rfl | (simp; done) | (simp [*]; done)), H', ⟨by have := HK1.out; omega⟩, by repeat (first | exact Drawn0.refl _ | apply Drawn0.step)⟩
            · rw [if_neg c6] at H
              exact absurd H (by simp)
          · rw [if_neg c5] at H
            exact absurd H (by simp)
        · rw [if_neg c4] at H
          have c4b0 : decide (x5_1 < (l0.length : Int)) = false := decide_eq_false c4
          clear c4
          obtain rfl := Option.some.inj H
          go_wp2
          repeat (go_quiet (fail); try go_wp2)
          go_ret
          exact ⟨by first | rfl | (simp; done) | (simp [*]; done), by repeat (first | exact Drawn0.refl _ | apply Drawn0.step)⟩
  · rw [if_neg c3] at H
    have c3b0 : ((l0.length : Int) == (l1.length : Int)) = false := beq_eq_false_iff_ne.mpr c3
    have c3b1 : ((l0.length : Int) != (l1.length : Int)) = true := bne_iff_ne.mpr c3
    have c3b2 : (l0.length == l1.length) = false := by first | simpa using c3 | (simp at c3 ⊢; omega)
    obtain rfl := Option.some.inj H
    go_enter Try.func11, Try.ntmps11
    go_wp2
    repeat (go_quiet (fail); try go_wp2)
    go_ret
    exact ⟨by first | rfl | (simp; done) | (simp [*]; done), by repeat (first | exact Drawn0.refl _ | apply Drawn0.step)⟩

/-! ### witheref6_words: function 26 -/
def witheref6_words.f  : Option (List ByteArray) := some (([(⟨#[108, 105, 116, 109, 117, 115]⟩ : ByteArray), (⟨#[118, 97, 108, 117, 101, 115]⟩ : ByteArray), (⟨#[105, 110, 105, 116]⟩ : ByteArray), (⟨#[116, 104, 114, 101, 97, 100]⟩ : ByteArray), (⟨#[108, 111, 97, 100]⟩ : ByteArray), (⟨#[97, 100, 100]⟩ : ByteArray), (⟨#[99, 97, 115]⟩ : ByteArray), (⟨#[115, 116, 111, 114, 101]⟩ : ByteArray), (⟨#[102, 101, 110, 99, 101]⟩ : ByteArray), (⟨#[105, 102]⟩ : ByteArray), (⟨#[101, 108, 115, 101]⟩ : ByteArray), (⟨#[101, 120, 105, 115, 116, 115]⟩ : ByteArray), (⟨#[102, 111, 114, 97, 108, 108]⟩ : ByteArray), (⟨#[97, 110, 100]⟩ : ByteArray), (⟨#[111, 114]⟩ : ByteArray), (⟨#[110, 111, 116]⟩ : ByteArray), (⟨#[114, 108, 120]⟩ : ByteArray), (⟨#[97, 99, 113]⟩ : ByteArray), (⟨#[114, 101, 108]⟩ : ByteArray), (⟨#[97, 99, 113, 114, 101, 108]⟩ : ByteArray), (⟨#[115, 99]⟩ : ByteArray)] : List ByteArray))
set_option maxHeartbeats 8000000 in
set_option maxRecDepth 100000 in
theorem witheref6_words.calls  (r : List ByteArray) (w : World) (h : witheref6_words.f  = some r) :
    Calls Try.prog 26 #[] w fun e w' => ∃ v0_ : Value, e = .returned (v0_) ∧ Kd.R Kd.string 9 w' w.heap.size (fun _ => True) v0_ r ∧ Below w.heap.size w w' := by
  have HB := Aside0.mk (Below.refl w.heap.size w)
  have H : (some (([(⟨#[108, 105, 116, 109, 117, 115]⟩ : ByteArray), (⟨#[118, 97, 108, 117, 101, 115]⟩ : ByteArray), (⟨#[105, 110, 105, 116]⟩ : ByteArray), (⟨#[116, 104, 114, 101, 97, 100]⟩ : ByteArray), (⟨#[108, 111, 97, 100]⟩ : ByteArray), (⟨#[97, 100, 100]⟩ : ByteArray), (⟨#[99, 97, 115]⟩ : ByteArray), (⟨#[115, 116, 111, 114, 101]⟩ : ByteArray), (⟨#[102, 101, 110, 99, 101]⟩ : ByteArray), (⟨#[105, 102]⟩ : ByteArray), (⟨#[101, 108, 115, 101]⟩ : ByteArray), (⟨#[101, 120, 105, 115, 116, 115]⟩ : ByteArray), (⟨#[102, 111, 114, 97, 108, 108]⟩ : ByteArray), (⟨#[97, 110, 100]⟩ : ByteArray), (⟨#[111, 114]⟩ : ByteArray), (⟨#[110, 111, 116]⟩ : ByteArray), (⟨#[114, 108, 120]⟩ : ByteArray), (⟨#[97, 99, 113]⟩ : ByteArray), (⟨#[114, 101, 108]⟩ : ByteArray), (⟨#[97, 99, 113, 114, 101, 108]⟩ : ByteArray), (⟨#[115, 99]⟩ : ByteArray)] : List ByteArray))) = some r := h
  clear h
  obtain ⟨y199, hy199⟩ : ∃ y_ : List ByteArray, y_ = (([(⟨#[108, 105, 116, 109, 117, 115]⟩ : ByteArray), (⟨#[118, 97, 108, 117, 101, 115]⟩ : ByteArray), (⟨#[105, 110, 105, 116]⟩ : ByteArray), (⟨#[116, 104, 114, 101, 97, 100]⟩ : ByteArray), (⟨#[108, 111, 97, 100]⟩ : ByteArray), (⟨#[97, 100, 100]⟩ : ByteArray), (⟨#[99, 97, 115]⟩ : ByteArray), (⟨#[115, 116, 111, 114, 101]⟩ : ByteArray), (⟨#[102, 101, 110, 99, 101]⟩ : ByteArray), (⟨#[105, 102]⟩ : ByteArray), (⟨#[101, 108, 115, 101]⟩ : ByteArray), (⟨#[101, 120, 105, 115, 116, 115]⟩ : ByteArray), (⟨#[102, 111, 114, 97, 108, 108]⟩ : ByteArray), (⟨#[97, 110, 100]⟩ : ByteArray), (⟨#[111, 114]⟩ : ByteArray), (⟨#[110, 111, 116]⟩ : ByteArray), (⟨#[114, 108, 120]⟩ : ByteArray), (⟨#[97, 99, 113]⟩ : ByteArray), (⟨#[114, 101, 108]⟩ : ByteArray), (⟨#[97, 99, 113, 114, 101, 108]⟩ : ByteArray), (⟨#[115, 99]⟩ : ByteArray)] : List ByteArray)) := ⟨_, rfl⟩
  replace H : (some y199) = some r := by first | (rw [hy199]; with_reducible exact H) | (have H2_ := (Option.bind_some _ _).symm.trans H; rw [hy199]; with_reducible exact H2_) | (have H2_ := (Option.bind_some _ _).symm.trans H; with_reducible exact H2_) | with_reducible exact H | (rw [hy199]; exact H) | exact H
  have Ny199 := Aside0.mk hy199
  clear hy199
  obtain rfl := Option.some.inj H
  go_enter Try.func26, Try.ntmps26
  go_wp2_with (first | ((with_reducible refine gate_dst (N := 1) rfl ?_); refine Kd.R_lit Kd.string _ 9 ?hg (N := 1) ?hd (xs := ([(⟨#[108, 105, 116, 109, 117, 115]⟩ : ByteArray), (⟨#[118, 97, 108, 117, 101, 115]⟩ : ByteArray), (⟨#[105, 110, 105, 116]⟩ : ByteArray), (⟨#[116, 104, 114, 101, 97, 100]⟩ : ByteArray), (⟨#[108, 111, 97, 100]⟩ : ByteArray), (⟨#[97, 100, 100]⟩ : ByteArray), (⟨#[99, 97, 115]⟩ : ByteArray), (⟨#[115, 116, 111, 114, 101]⟩ : ByteArray), (⟨#[102, 101, 110, 99, 101]⟩ : ByteArray), (⟨#[105, 102]⟩ : ByteArray), (⟨#[101, 108, 115, 101]⟩ : ByteArray), (⟨#[101, 120, 105, 115, 116, 115]⟩ : ByteArray), (⟨#[102, 111, 114, 97, 108, 108]⟩ : ByteArray), (⟨#[97, 110, 100]⟩ : ByteArray), (⟨#[111, 114]⟩ : ByteArray), (⟨#[110, 111, 116]⟩ : ByteArray), (⟨#[114, 108, 120]⟩ : ByteArray), (⟨#[97, 99, 113]⟩ : ByteArray), (⟨#[114, 101, 108]⟩ : ByteArray), (⟨#[97, 99, 113, 114, 101, 108]⟩ : ByteArray), (⟨#[115, 99]⟩ : ByteArray)] : List ByteArray)) (inner := [.string (⟨#[108, 105, 116, 109, 117, 115]⟩ : ByteArray), .string (⟨#[118, 97, 108, 117, 101, 115]⟩ : ByteArray), .string (⟨#[105, 110, 105, 116]⟩ : ByteArray), .string (⟨#[116, 104, 114, 101, 97, 100]⟩ : ByteArray), .string (⟨#[108, 111, 97, 100]⟩ : ByteArray), .string (⟨#[97, 100, 100]⟩ : ByteArray), .string (⟨#[99, 97, 115]⟩ : ByteArray), .string (⟨#[115, 116, 111, 114, 101]⟩ : ByteArray), .string (⟨#[102, 101, 110, 99, 101]⟩ : ByteArray), .string (⟨#[105, 102]⟩ : ByteArray), .string (⟨#[101, 108, 115, 101]⟩ : ByteArray), .string (⟨#[101, 120, 105, 115, 116, 115]⟩ : ByteArray), .string (⟨#[102, 111, 114, 97, 108, 108]⟩ : ByteArray), .string (⟨#[97, 110, 100]⟩ : ByteArray), .string (⟨#[111, 114]⟩ : ByteArray), .string (⟨#[110, 111, 116]⟩ : ByteArray), .string (⟨#[114, 108, 120]⟩ : ByteArray), .string (⟨#[97, 99, 113]⟩ : ByteArray), .string (⟨#[114, 101, 108]⟩ : ByteArray), .string (⟨#[97, 99, 113, 114, 101, 108]⟩ : ByteArray), .string (⟨#[115, 99]⟩ : ByteArray)]) (ok := fun _ => True) (okp := fun _ => True) ?hr ?hp (fun _ hk => hk) trivial (Below.refl _ _) (Nat.le_refl _) (by simp) ?_; (case hd => rfl); (case hg => rfl); (case hr => first | (go_simp; done) | (go_simp; rfl)); (case hp => exact (Reps.one (show Kd.M Kd.string _ _ _ (⟨#[108, 105, 116, 109, 117, 115]⟩ : ByteArray) [.string (⟨#[108, 105, 116, 109, 117, 115]⟩ : ByteArray)] from rfl) (Reps.one (show Kd.M Kd.string _ _ _ (⟨#[118, 97, 108, 117, 101, 115]⟩ : ByteArray) [.string (⟨#[118, 97, 108, 117, 101, 115]⟩ : ByteArray)] from rfl) (Reps.one (show Kd.M Kd.string _ _ _ (⟨#[105, 110, 105, 116]⟩ : ByteArray) [.string (⟨#[105, 110, 105, 116]⟩ : ByteArray)] from rfl) (Reps.one (show Kd.M Kd.string _ _ _ (⟨#[116, 104, 114, 101, 97, 100]⟩ : ByteArray) [.string (⟨#[116, 104, 114, 101, 97, 100]⟩ : ByteArray)] from rfl) (Reps.one (show Kd.M Kd.string _ _ _ (⟨#[108, 111, 97, 100]⟩ : ByteArray) [.string (⟨#[108, 111, 97, 100]⟩ : ByteArray)] from rfl) (Reps.one (show Kd.M Kd.string _ _ _ (⟨#[97, 100, 100]⟩ : ByteArray) [.string (⟨#[97, 100, 100]⟩ : ByteArray)] from rfl) (Reps.one (show Kd.M Kd.string _ _ _ (⟨#[99, 97, 115]⟩ : ByteArray) [.string (⟨#[99, 97, 115]⟩ : ByteArray)] from rfl) (Reps.one (show Kd.M Kd.string _ _ _ (⟨#[115, 116, 111, 114, 101]⟩ : ByteArray) [.string (⟨#[115, 116, 111, 114, 101]⟩ : ByteArray)] from rfl) (Reps.one (show Kd.M Kd.string _ _ _ (⟨#[102, 101, 110, 99, 101]⟩ : ByteArray) [.string (⟨#[102, 101, 110, 99, 101]⟩ : ByteArray)] from rfl) (Reps.one (show Kd.M Kd.string _ _ _ (⟨#[105, 102]⟩ : ByteArray) [.string (⟨#[105, 102]⟩ : ByteArray)] from rfl) (Reps.one (show Kd.M Kd.string _ _ _ (⟨#[101, 108, 115, 101]⟩ : ByteArray) [.string (⟨#[101, 108, 115, 101]⟩ : ByteArray)] from rfl) (Reps.one (show Kd.M Kd.string _ _ _ (⟨#[101, 120, 105, 115, 116, 115]⟩ : ByteArray) [.string (⟨#[101, 120, 105, 115, 116, 115]⟩ : ByteArray)] from rfl) (Reps.one (show Kd.M Kd.string _ _ _ (⟨#[102, 111, 114, 97, 108, 108]⟩ : ByteArray) [.string (⟨#[102, 111, 114, 97, 108, 108]⟩ : ByteArray)] from rfl) (Reps.one (show Kd.M Kd.string _ _ _ (⟨#[97, 110, 100]⟩ : ByteArray) [.string (⟨#[97, 110, 100]⟩ : ByteArray)] from rfl) (Reps.one (show Kd.M Kd.string _ _ _ (⟨#[111, 114]⟩ : ByteArray) [.string (⟨#[111, 114]⟩ : ByteArray)] from rfl) (Reps.one (show Kd.M Kd.string _ _ _ (⟨#[110, 111, 116]⟩ : ByteArray) [.string (⟨#[110, 111, 116]⟩ : ByteArray)] from rfl) (Reps.one (show Kd.M Kd.string _ _ _ (⟨#[114, 108, 120]⟩ : ByteArray) [.string (⟨#[114, 108, 120]⟩ : ByteArray)] from rfl) (Reps.one (show Kd.M Kd.string _ _ _ (⟨#[97, 99, 113]⟩ : ByteArray) [.string (⟨#[97, 99, 113]⟩ : ByteArray)] from rfl) (Reps.one (show Kd.M Kd.string _ _ _ (⟨#[114, 101, 108]⟩ : ByteArray) [.string (⟨#[114, 101, 108]⟩ : ByteArray)] from rfl) (Reps.one (show Kd.M Kd.string _ _ _ (⟨#[97, 99, 113, 114, 101, 108]⟩ : ByteArray) [.string (⟨#[97, 99, 113, 114, 101, 108]⟩ : ByteArray)] from rfl) (Reps.one (show Kd.M Kd.string _ _ _ (⟨#[115, 99]⟩ : ByteArray) [.string (⟨#[115, 99]⟩ : ByteArray)] from rfl) (Reps.none _ _))))))))))))))))))))))); intro v200 w1 ho2 hb hg_ hnew_; clear hg_ hnew_; (first | rw [← Ny199.out] at ho2 | (simp only [Int.reduceToNat] at ho2; rw [← Ny199.out] at ho2)); have n0_ := Aside0.mk (Kd.R_lower ho2 (below_size (by repeat (first | (with_reducible first | exact HB.out | apply below_alloc | apply pw_below_drewN | apply below_drew1) | exact HB.out)))); have n1_ := Aside0.mk (below_step (by repeat (first | (with_reducible first | exact HB.out | apply below_alloc | apply pw_below_drewN | apply below_drew1) | exact HB.out)) hb); clear HB; have HO201 := n0_; have HB := n1_; clear n0_ n1_; clear hb ho2))
  go_ret
  exact ⟨_, by first | rfl | (simp [errW_none, errW_some] <;> rfl) | (simp [*, errW_none, errW_some] <;> rfl), by (with_reducible repeat (first | apply Kd.R_alloc | apply Kd.R_drewN | apply Kd.R_drew)); exact HO201.out, by repeat (first | (with_reducible first | exact HB.out | apply below_alloc | apply pw_below_drewN | apply below_drew1) | exact HB.out)⟩

/-! ### witheref6_Keyword: function 13 -/
def witheref6_Keyword.l0 : Nat → ByteArray → List ByteArray → Int → Option (Bool)
  | 0, _, _, _ => none
  | k + 1, x0, x3, x4 => if x4 < (x3.length : Int) then (if 0 ≤ x4 then (if (rdOf ByteArray.empty x3 x4).toList = x0.toList then (some true) else (witheref6_Keyword.l0 k x0 x3 (wrap64 (x4 + 1)))) else (none)) else (some false)
def witheref6_Keyword.f (k : Nat) (a0 : ByteArray) : Option (Bool) := (witheref6_words.f).bind fun t202 => (witheref6_Keyword.l0 k a0 t202 0)
theorem witheref6_Keyword.mono_l : ∀ k, (∀ y0 y1 y2, LeO (witheref6_Keyword.l0 k y0 y1 y2) (witheref6_Keyword.l0 (k + 1) y0 y1 y2))
  | 0 => fun _ _ _ r h => by simp [witheref6_Keyword.l0] at h
  | k + 1 => by
    have ih0 := witheref6_Keyword.mono_l k
    · intro y0 y1 y2
      unfold witheref6_Keyword.l0
      repeat' first
      | (with_reducible exact ih0 _ _ _)
      | (with_reducible exact LeO.refl _)
      | (with_reducible exact LeO.none _)
      | (with_reducible refine LeO.ite ?_ ?_)
      | (with_reducible refine LeO.bind ?_ (fun _ => ?_))
      | exact ih0 _ _ _
      | exact LeO.none _
      | refine LeO.ite ?_ ?_
      | refine LeO.bind ?_ (fun _ => ?_)
theorem witheref6_Keyword.mono : ∀ a0 k, LeO (witheref6_Keyword.f k a0) (witheref6_Keyword.f (k + 1) a0) := by
  intro a0 k
  have ih0 := witheref6_Keyword.mono_l k
  unfold witheref6_Keyword.f
  repeat' first
      | (with_reducible exact ih0 _ _ _)
      | (with_reducible exact LeO.refl _)
      | (with_reducible exact LeO.none _)
      | (with_reducible refine LeO.ite ?_ ?_)
      | (with_reducible refine LeO.bind ?_ (fun _ => ?_))
      | exact ih0 _ _ _
      | exact LeO.none _
      | refine LeO.ite ?_ ?_
      | refine LeO.bind ?_ (fun _ => ?_)
set_option maxHeartbeats 8000000 in
set_option maxRecDepth 100000 in
theorem witheref6_Keyword.calls (k : Nat) (a0 : ByteArray) (r : Bool) (w : World) (h : witheref6_Keyword.f k a0 = some r) :
    Calls Try.prog 13 #[.string a0] w fun e w' => e = .returned (.bool r) ∧ Below w.heap.size w w' := by
  have HB := Aside0.mk (Below.refl w.heap.size w)
  have H : ((witheref6_words.f).bind fun t202 => (witheref6_Keyword.l0 k a0 t202 0)) = some r := h
  clear h
  replace H := Option.bind_eq_some_iff.mp H
  obtain ⟨t202, A20, H⟩ := H
  replace H : (witheref6_Keyword.l0 k a0 t202 0) = some r := H
  have A2 := Aside0.mk A20
  clear A20
  have H' := Aside0.mk H
  clear H
  go_enter Try.func13, Try.ntmps13
  go_wp2_with (first | ((with_reducible refine gate_callee (f := 26) rfl ?_); refine goesL_ (some 5) rfl rfl Try.func26 (by kernel_rfl) rfl #[] rfl (by (try simp only [List.map_toArray, List.map_cons, List.map_nil]); first | done | rfl | (simp only [List.length_drop, List.length_take]; rfl)) ?_; (with_reducible refine (witheref6_words.calls  t202 _ A2.out).mono ?_); rintro e w3 ⟨v203, rfl, ho0, hb⟩; refine ⟨_, rfl, ?_⟩; have n0_ := Aside0.mk (Kd.R_lower ho0 (below_size (by repeat (first | (with_reducible first | exact HB.out | apply below_alloc | apply pw_below_drewN | apply below_drew1) | exact HB.out)))); have n1_ := Aside0.mk (below_step (by repeat (first | (with_reducible first | exact HB.out | apply below_alloc | apply pw_below_drewN | apply below_drew1) | exact HB.out)) hb); clear HB; have HO204 := n0_; have HB := n1_; clear n0_ n1_; (try clear hb); (try clear hb2); (try clear hk); (try clear hi); (try clear ho0)))
  try go_simp
  go_loopg [4] k (fun kq v4 w' => ∃ (x4_1 : Int), v4 = .int .i64 x4_1 ∧ Aside0 (witheref6_Keyword.l0 kq a0 t202 x4_1 = some r) ∧ Aside0 (kq ≤ k) ∧ Aside0 (Kd.R Kd.string 9 w' w.heap.size (fun _ => True) v203 t202) ∧ Aside0 (Below w.heap.size w w'))
  case atStart => exact ⟨(0), (by first | rfl | (simp; done) | (simp [*]; done)), H', ⟨Nat.le_refl _⟩, ⟨by (with_reducible repeat (first | apply Kd.R_alloc | apply Kd.R_drewN | apply Kd.R_drew)); exact HO204.out⟩, ⟨by repeat (first | (with_reducible first | exact HB.out | apply below_alloc | apply pw_below_drewN | apply below_drew1) | exact HB.out)⟩⟩
  case round =>
    clear H'
    try clear c1
    try clear c2
    try clear p2
    obtain ⟨x4_1, rfl, HA, HK1, HO_3, HB⟩ := hrel
    cases gk with
    | zero => exact absurd HA.out (by simp [witheref6_Keyword.l0])
    | succ k1 =>
      have H := HA.out
      clear HA
      simp only [witheref6_Keyword.l0] at H
      by_cases c4 : x4_1 < (t202.length : Int)
      · rw [if_pos c4] at H
        have c4b0 : decide (x4_1 < (t202.length : Int)) = true := decide_eq_true c4
        clear c4
        by_cases c5 : 0 ≤ x4_1
        · rw [if_pos c5] at H
          have c5b0 : decide (0 ≤ x4_1) = true := decide_eq_true c5
          clear c5
          by_cases c6 : (rdOf ByteArray.empty t202 x4_1).toList = a0.toList
          · rw [if_pos c6] at H
            have c6b0 : ((rdOf ByteArray.empty t202 x4_1).toList == a0.toList) = true := beq_iff_eq.mpr c6
            have c6b1 : ((rdOf ByteArray.empty t202 x4_1).toList != a0.toList) = false := bne_eq_false_iff_eq.mpr c6
            clear c6
            obtain rfl := Option.some.inj H
            obtain ⟨Ao7, co7, eo7⟩ := Kd.R_slice HO_3.out
            subst eo7
            have p205 : 0 ≤ (x4_1 : Int) := of_decide_eq_true (by first | (with_reducible assumption) | assumption)
            have q205 : x4_1 < (t202.length : Int) := of_decide_eq_true (by first | (with_reducible assumption) | assumption)
            obtain ⟨ad205, e205, hx205_0⟩ := Kd.at_string (Kd.R_reads' HO_3.out).2.2 x4_1 p205 q205
            cases e205
            replace p205 := eq_true p205
            replace q205 := eq_true q205
            go_wp2
            go_ret
            exact ⟨by first | rfl | (simp [errW_none, errW_some] <;> rfl) | (simp [*, errW_none, errW_some] <;> rfl), by repeat (first | (with_reducible first | exact HB.out | apply below_alloc | apply pw_below_drewN | apply below_drew1) | exact HB.out)⟩
          · rw [if_neg c6] at H
            have c6b0 : ((rdOf ByteArray.empty t202 x4_1).toList == a0.toList) = false := beq_eq_false_iff_ne.mpr c6
            have c6b1 : ((rdOf ByteArray.empty t202 x4_1).toList != a0.toList) = true := bne_iff_ne.mpr c6
            have H' := Aside0.mk H
            clear H
            obtain ⟨Ao8, co8, eo8⟩ := Kd.R_slice HO_3.out
            subst eo8
            have p205 : 0 ≤ (x4_1 : Int) := of_decide_eq_true (by first | (with_reducible assumption) | assumption)
            have q205 : x4_1 < (t202.length : Int) := of_decide_eq_true (by first | (with_reducible assumption) | assumption)
            obtain ⟨ad205, e205, hx205_0⟩ := Kd.at_string (Kd.R_reads' HO_3.out).2.2 x4_1 p205 q205
            cases e205
            replace p205 := eq_true p205
            replace q205 := eq_true q205
            go_wp2
            go_roundg k1
            case measure => have := HK1.out; omega
            case rel => exact ⟨(wrap64 (x4_1 + 1)), (by first | rfl | (simp; done) | (simp [*]; done)), H', ⟨by have := HK1.out; omega⟩, ⟨by (with_reducible repeat (first | apply Kd.R_alloc | apply Kd.R_drewN | apply Kd.R_drew)); exact HO_3.out⟩, ⟨by repeat (first | (with_reducible first | exact HB.out | apply below_alloc | apply pw_below_drewN | apply below_drew1) | exact HB.out)⟩⟩
        · rw [if_neg c5] at H
          exact absurd H (by simp)
      · rw [if_neg c4] at H
        have c4b0 : decide (x4_1 < (t202.length : Int)) = false := decide_eq_false c4
        clear c4
        obtain rfl := Option.some.inj H
        obtain ⟨Ao9, co9, eo9⟩ := Kd.R_slice HO_3.out
        subst eo9
        go_wp2
        go_ret
        exact ⟨by first | rfl | (simp [errW_none, errW_some] <;> rfl) | (simp [*, errW_none, errW_some] <;> rfl), by repeat (first | (with_reducible first | exact HB.out | apply below_alloc | apply pw_below_drewN | apply below_drew1) | exact HB.out)⟩

end Go.Proofs.Ytmifncmnchnioaa.PL
