-- made by fvprint.py over the kit's print
import Derived.Test.YtpldhihdlgghlaaDoorPSx0
import Derived.Test.YtpldhihdlgghlaaDoorPSx8
namespace Go.Proofs.YtpldhihdlgghlaaDoor.PS
open Go.RowKit Go.Proofs.YtpldhihdlgghlaaDoorW.PrintWords Go.Proofs.YtpldhihdlgghlaaDoorW.PrintLast Go.Proofs.YtpldhihdlgghlaaDoorW.PrintMore
attribute [local go_sem] max2_int min2_int max_two min_two max_three min_three max_four min_four   -- for this text's walks alone
set_option linter.unusedVariables false
set_option linter.unusedSimpArgs false

attribute [local go_sem] cell_set_some
/-! ### witheref6_Cond: function 13 -/
def witheref6_side.b (F_ : Int → Int → ByteArray → Int → List (S26) → Option (ByteArray)) (l0 : List (S26)) (a1 : Int) : Option (ByteArray) := if a1 ≥ (l0.length : Int) then (some (⟨#[]⟩ : ByteArray)) else (if 0 ≤ a1 then (if a1 < (l0.length : Int) then ((F_ ((rd_T26 l0 a1).f0) ((rd_T26 l0 a1).f1) ((rd_T26 l0 a1).f2) ((rd_T26 l0 a1).f3) ((rd_T26 l0 a1).f4)).bind fun t186 => (some t186)) else (none)) else (none))
def witheref6_Cond.f : Nat → Int → Int → ByteArray → Int → List (S26) → Option (ByteArray)
 | 0, _, _, _, _, _ => none
 | k + 1, a0_0, a0_1, a0_2, a0_3, l0_4 => if a0_0 = 1 then (if a0_2.size + 4 ≤ 9223372036854775807 then ((witheref6_Digits.f k a0_3).bind fun t188 => (if (a0_2 ++ (⟨#[32, 61, 61, 32]⟩ : ByteArray)).size + t188.size ≤ 9223372036854775807 then (some ((a0_2 ++ (⟨#[32, 61, 61, 32]⟩ : ByteArray)) ++ t188)) else (none))) else (none)) else (if a0_0 = 2 then ((witheref6_Digits.f k a0_1).bind fun t189 => (if t189.size + 1 ≤ 9223372036854775807 then (if (t189 ++ (⟨#[58]⟩ : ByteArray)).size + a0_2.size ≤ 9223372036854775807 then (if ((t189 ++ (⟨#[58]⟩ : ByteArray)) ++ a0_2).size + 4 ≤ 9223372036854775807 then ((witheref6_Digits.f k a0_3).bind fun t190 => (if (((t189 ++ (⟨#[58]⟩ : ByteArray)) ++ a0_2) ++ (⟨#[32, 61, 61, 32]⟩ : ByteArray)).size + t190.size ≤ 9223372036854775807 then (some ((((t189 ++ (⟨#[58]⟩ : ByteArray)) ++ a0_2) ++ (⟨#[32, 61, 61, 32]⟩ : ByteArray)) ++ t190)) else (none))) else (none)) else (none)) else (none))) else (if a0_0 = 3 then ((witheref6_side.b (witheref6_Cond.f k) l0_4 0).bind fun t191 => (if 4 + t191.size ≤ 9223372036854775807 then (some ((⟨#[110, 111, 116, 32]⟩ : ByteArray) ++ t191)) else (none))) else (if a0_0 = 4 then ((witheref6_side.b (witheref6_Cond.f k) l0_4 0).bind fun t192 => (if 1 + t192.size ≤ 9223372036854775807 then (if ((⟨#[40]⟩ : ByteArray) ++ t192).size + 5 ≤ 9223372036854775807 then ((witheref6_side.b (witheref6_Cond.f k) l0_4 1).bind fun t193 => (if (((⟨#[40]⟩ : ByteArray) ++ t192) ++ (⟨#[32, 97, 110, 100, 32]⟩ : ByteArray)).size + t193.size ≤ 9223372036854775807 then (if ((((⟨#[40]⟩ : ByteArray) ++ t192) ++ (⟨#[32, 97, 110, 100, 32]⟩ : ByteArray)) ++ t193).size + 1 ≤ 9223372036854775807 then (some (((((⟨#[40]⟩ : ByteArray) ++ t192) ++ (⟨#[32, 97, 110, 100, 32]⟩ : ByteArray)) ++ t193) ++ (⟨#[41]⟩ : ByteArray))) else (none)) else (none))) else (none)) else (none))) else (if a0_0 = 5 then ((witheref6_side.b (witheref6_Cond.f k) l0_4 0).bind fun t194 => (if 1 + t194.size ≤ 9223372036854775807 then (if ((⟨#[40]⟩ : ByteArray) ++ t194).size + 4 ≤ 9223372036854775807 then ((witheref6_side.b (witheref6_Cond.f k) l0_4 1).bind fun t195 => (if (((⟨#[40]⟩ : ByteArray) ++ t194) ++ (⟨#[32, 111, 114, 32]⟩ : ByteArray)).size + t195.size ≤ 9223372036854775807 then (if ((((⟨#[40]⟩ : ByteArray) ++ t194) ++ (⟨#[32, 111, 114, 32]⟩ : ByteArray)) ++ t195).size + 1 ≤ 9223372036854775807 then (some (((((⟨#[40]⟩ : ByteArray) ++ t194) ++ (⟨#[32, 111, 114, 32]⟩ : ByteArray)) ++ t195) ++ (⟨#[41]⟩ : ByteArray))) else (none)) else (none))) else (none)) else (none))) else (some (⟨#[]⟩ : ByteArray))))))
def witheref6_side.f (k : Nat) (l0 : List (S26)) (a1 : Int) : Option (ByteArray) := witheref6_side.b (witheref6_Cond.f k) l0 a1
theorem witheref6_side.mono_of (k : Nat) (IH_ : ∀ y0 y1 y2 y3 y4, LeO (witheref6_Cond.f k y0 y1 y2 y3 y4) (witheref6_Cond.f (k + 1) y0 y1 y2 y3 y4)) : ∀ l0 a1, LeO (witheref6_side.f k l0 a1) (witheref6_side.f (k + 1) l0 a1) := by
 intro l0 a1
 unfold witheref6_side.f witheref6_side.b
 repeat' first
  | (with_reducible exact IH_ _ _ _ _ _)
  | (with_reducible exact LeO.refl _)
  | (with_reducible exact LeO.none _)
  | (with_reducible refine LeO.ite ?_ ?_)
  | (with_reducible refine LeO.bind ?_ (fun _ => ?_))
  | exact IH_ _ _ _ _ _
  | exact LeO.none _
  | refine LeO.ite ?_ ?_
  | refine LeO.bind ?_ (fun _ => ?_)
theorem witheref6_Cond.mono_l : ∀ k, (∀ y0 y1 y2 y3 y4, LeO (witheref6_Cond.f k y0 y1 y2 y3 y4) (witheref6_Cond.f (k + 1) y0 y1 y2 y3 y4))
 | 0 => fun _ _ _ _ _ r h => by simp [witheref6_Cond.f] at h
 | k + 1 => by
  have ih0 := witheref6_Cond.mono_l k
  ·intro y0 y1 y2 y3 y4
   unfold witheref6_Cond.f
   repeat' first
   | (with_reducible exact ih0 _ _ _ _ _)
   | (with_reducible exact witheref6_Digits.mono _ _)
   | (with_reducible exact witheref6_side.mono_of k ih0 _ _)
   | (with_reducible exact LeO.refl _)
   | (with_reducible exact LeO.none _)
   | (with_reducible refine LeO.ite ?_ ?_)
   | (with_reducible refine LeO.bind ?_ (fun _ => ?_))
   | exact ih0 _ _ _ _ _
   | exact witheref6_Digits.mono _ _
   | exact witheref6_side.mono_of k ih0 _ _
   | exact LeO.none _
   | refine LeO.ite ?_ ?_
   | refine LeO.bind ?_ (fun _ => ?_)
theorem witheref6_Cond.mono : ∀ a0 a1 a2 a3 a4 k, LeO (witheref6_Cond.f k a0 a1 a2 a3 a4) (witheref6_Cond.f (k + 1) a0 a1 a2 a3 a4) := by
 intro a0 a1 a2 a3 a4 k
 have ih0 := witheref6_Cond.mono_l k
 exact ih0 a0 a1 a2 a3 a4
def witheref6_Cond.T3 : Bool × List (List Nat × List Nat) := (true, [([], []), ([0], [0]), ([1], [1]), ([], []), ([3], [3]), ([4], [4]), ([2, 5], [2, 5]), ([6, 5, 0, 1, 2, 3, 4, 5, 6], [6])])
def witheref6_Cond.B3 : List Nat := [0, 1, 3, 0, 8, 24, 63, 127]
theorem witheref6_Cond.tab3 : rtab .any (opsOf Tryd.f13 3) = witheref6_Cond.T3 := by kernel_rfl
theorem witheref6_Cond.bits3 : waitsOk witheref6_Cond.T3.2 witheref6_Cond.B3 = true := by kernel_rfl
def witheref6_Cond.T5 : Bool × List (List Nat × List Nat) := (true, [([], []), ([0], [0]), ([1], [1]), ([2], [2]), ([], []), ([4], [4]), ([3, 5], [3, 5]), ([6], [6]), ([], []), ([8], [8]), ([9, 2], [9]), ([7, 10], [7, 10]), ([11, 10, 0, 1, 2, 3, 4, 5, 6, 7, 8, 9, 10, 11], [11])])
def witheref6_Cond.B5 : List Nat := [0, 1, 3, 7, 0, 16, 63, 127, 0, 256, 775, 2047, 4095]
theorem witheref6_Cond.tab5 : rtab .any (opsOf Tryd.f13 5) = witheref6_Cond.T5 := by kernel_rfl
theorem witheref6_Cond.bits5 : waitsOk witheref6_Cond.T5.2 witheref6_Cond.B5 = true := by kernel_rfl
def witheref6_Cond.T9 : Bool × List (List Nat × List Nat) := (true, [([], []), ([0], [0]), ([1], [1]), ([2], [2]), ([3], [3]), ([], []), ([5], [5]), ([6, 2], [6]), ([4, 7], [4, 7]), ([8], [8]), ([9, 7, 0, 1, 2, 3, 4, 5, 6, 7, 8, 9], [9])])
def witheref6_Cond.B9 : List Nat := [0, 1, 3, 7, 15, 0, 32, 103, 255, 511, 1023]
theorem witheref6_Cond.tab9 : rtab .any (opsOf Tryd.f13 9) = witheref6_Cond.T9 := by kernel_rfl
theorem witheref6_Cond.bits9 : waitsOk witheref6_Cond.T9.2 witheref6_Cond.B9 = true := by kernel_rfl
def witheref6_Cond.T11 : Bool × List (List Nat × List Nat) := (true, [([], []), ([0], [0]), ([1], [1]), ([2], [2]), ([3], [3]), ([], []), ([5], [5]), ([6, 2], [6]), ([4, 7], [4, 7]), ([8], [8]), ([9, 7, 0, 1, 2, 3, 4, 5, 6, 7, 8, 9], [9])])
def witheref6_Cond.B11 : List Nat := [0, 1, 3, 7, 15, 0, 32, 103, 255, 511, 1023]
theorem witheref6_Cond.tab11 : rtab .any (opsOf Tryd.f13 11) = witheref6_Cond.T11 := by kernel_rfl
theorem witheref6_Cond.bits11 : waitsOk witheref6_Cond.T11.2 witheref6_Cond.B11 = true := by kernel_rfl
theorem witheref6_side.mono : ∀ l0 a1 k, LeO (witheref6_side.f k l0 a1) (witheref6_side.f (k + 1) l0 a1) := fun l0 a1 k => witheref6_side.mono_of k (fun y0 y1 y2 y3 y4 => witheref6_Cond.mono y0 y1 y2 y3 y4 k) l0 a1
abbrev witheref6_Cond.At (k : Nat) : Prop := ∀ (a0_0 : Int) (a0_1 : Int) (a0_2 : ByteArray) (a0_3 : Int) (A0_4 : Option Addr) (c0_4 : Nat) (l0_4 : List (S26)) (r : ByteArray) (w : World) (hr0_4 : Kd.C k26 w A0_4 l0_4.length l0_4) (hc0_4 : l0_4.length ≤ c0_4) (h : witheref6_Cond.f k a0_0 a0_1 a0_2 a0_3 l0_4 = some r), Calls Tryd.prog 13 #[.agg #[.int .i64 a0_0, .int .i64 a0_1, .string a0_2, .int .i64 a0_3, .slice A0_4 l0_4.length c0_4]] w fun e w' => e = .returned (.string r) ∧ Below w.heap.size w w'
set_option maxHeartbeats 8000000 in
set_option maxRecDepth 100000 in
theorem witheref6_side.calls_of (k : Nat) (IH : witheref6_Cond.At k) (A0 : Option Addr) (c0 : Nat) (l0 : List (S26)) (a1 : Int) (r : ByteArray) (w : World) (hr0 : Kd.C k26 w A0 l0.length l0) (hc0 : l0.length ≤ c0) (h : witheref6_side.f k l0 a1 = some r) :
 Calls Tryd.prog 28 #[.slice A0 l0.length c0, .int .i64 a1] w fun e w' => e = .returned (.string r) ∧ Below w.heap.size w w' := by
 have hu26 := Tryd.underlying26
 have HR0 := Aside0.mk hr0
 have HC0 := Aside0.mk hc0
 clear hr0 hc0
 have HB := Aside0.mk (Below.refl w.heap.size w)
 have H : (if a1 ≥ (l0.length : Int) then (some (⟨#[]⟩ : ByteArray)) else (if 0 ≤ a1 then (if a1 < (l0.length : Int) then ((witheref6_Cond.f k ((rd_T26 l0 a1).f0) ((rd_T26 l0 a1).f1) ((rd_T26 l0 a1).f2) ((rd_T26 l0 a1).f3) ((rd_T26 l0 a1).f4)).bind fun t186 => (some t186)) else (none)) else (none))) = some r := h
 clear h
 by_cases c3 : a1 ≥ (l0.length : Int)
 ·rw [if_pos c3] at H
  have c3b0 : decide ((l0.length : Int) ≤ a1) = true := decide_eq_true c3
  clear c3
  obtain rfl := Option.some.inj H
  go_enter Tryd.func28, Tryd.ntmps28
  go_wp2
  go_ret
  exact ⟨by first | rfl | (simp [errW_none, errW_some] <;> rfl) | (simp [*, errW_none, errW_some] <;> rfl), by repeat (first | (with_reducible first | exact HB.out | apply below_alloc | apply pw_below_drewN | apply below_drew1) | exact HB.out)⟩
 ·rw [if_neg c3] at H
  have c3b0 : decide ((l0.length : Int) ≤ a1) = false := decide_eq_false c3
  clear c3
  by_cases c4 : 0 ≤ a1
  ·rw [if_pos c4] at H
   have c4b0 : decide (0 ≤ a1) = true := decide_eq_true c4
   clear c4
   by_cases c5 : a1 < (l0.length : Int)
   ·rw [if_pos c5] at H
    have c5b0 : decide (a1 < (l0.length : Int)) = true := decide_eq_true c5
    clear c5
    replace H := Option.bind_eq_some_iff.mp H
    obtain ⟨t186, A60, H⟩ := H
    replace H : (some t186) = some r := H
    have A6 := Aside0.mk A60
    clear A60
    obtain rfl := Option.some.inj H
    have p185 : 0 ≤ (a1 : Int) := of_decide_eq_true (by first | (with_reducible assumption) | assumption)
    have q185 : a1 < (l0.length : Int) := of_decide_eq_true (by first | (with_reducible assumption) | assumption)
    obtain ⟨ad185, A185_4, c185_4, e185, hx185_0, hx185_1, hx185_2, hx185_3, hx185_4, hl185_4, hi185_4⟩ := at_T26 HR0.out a1 p185 q185
    cases e185
    have HR185_4 := Aside0.mk hi185_4
    have HC185_4 := Aside0.mk hl185_4
    clear hi185_4 hl185_4
    replace p185 := eq_true p185
    replace q185 := eq_true q185
    go_enter Tryd.func28, Tryd.ntmps28
    go_wp2_with (first | ((with_reducible refine gate_callee (f := 13) rfl ?_); refine goesL_ (some 13) rfl rfl Tryd.func13 (by kernel_rfl) rfl #[.agg #[.int .i64 ((rd_T26 l0 a1).f0), .int .i64 ((rd_T26 l0 a1).f1), .string ((rd_T26 l0 a1).f2), .int .i64 ((rd_T26 l0 a1).f3), .slice A185_4 ((rd_T26 l0 a1).f4).length c185_4]] rfl (by (try simp only [List.map_toArray, List.map_cons, List.map_nil]); first | done | rfl | (simp only [List.length_drop, List.length_take]; rfl)) ?_; (with_reducible refine (IH ((rd_T26 l0 a1).f0) ((rd_T26 l0 a1).f1) ((rd_T26 l0 a1).f2) ((rd_T26 l0 a1).f3) _ _ ((rd_T26 l0 a1).f4) t186 _ ?side1 ?side2 A6.out).mono ?_); (case side1 => repeat (first | exact HR185_4.out | (with_reducible refine Kd.C_alloc ?_ _) | (with_reducible refine Kd.C_drewN ?_ _) | (with_reducible refine Kd.C_drew ?_))); (case side2 => exact HC185_4.out); rintro e w7 ⟨rfl, hb⟩; refine ⟨_, rfl, ?_⟩; have n0_ := Aside0.mk (below_step (by repeat (first | (with_reducible first | exact HB.out | apply below_alloc | apply pw_below_drewN | apply below_drew1) | exact HB.out)) hb); clear HB; have HB := n0_; clear n0_; (try clear hb); (try clear hb2); (try clear hk); (try clear hi)))
    go_ret
    exact ⟨by first | rfl | (simp [errW_none, errW_some] <;> rfl) | (simp [*, errW_none, errW_some] <;> rfl), by repeat (first | (with_reducible first | exact HB.out | apply below_alloc | apply pw_below_drewN | apply below_drew1) | exact HB.out)⟩
   ·rw [if_neg c5] at H
    exact absurd H (by simp)
  ·rw [if_neg c4] at H
   exact absurd H (by simp)

set_option maxHeartbeats 8000000 in
set_option maxRecDepth 100000 in
theorem witheref6_Cond.calls (k : Nat) : ∀ (a0_0 : Int) (a0_1 : Int) (a0_2 : ByteArray) (a0_3 : Int) (A0_4 : Option Addr) (c0_4 : Nat) (l0_4 : List (S26)) (r : ByteArray) (w : World) (hr0_4 : Kd.C k26 w A0_4 l0_4.length l0_4) (hc0_4 : l0_4.length ≤ c0_4) (h : witheref6_Cond.f k a0_0 a0_1 a0_2 a0_3 l0_4 = some r),
 Calls Tryd.prog 13 #[.agg #[.int .i64 a0_0, .int .i64 a0_1, .string a0_2, .int .i64 a0_3, .slice A0_4 l0_4.length c0_4]] w fun e w' => e = .returned (.string r) ∧ Below w.heap.size w w' := by
 induction k using Nat.strongRecOn with
 | _ k ih =>
 intro a0_0 a0_1 a0_2 a0_3 A0_4 c0_4 l0_4 r w hr0_4 hc0_4 h
 cases k with
 | zero => exact absurd h (by simp [witheref6_Cond.f])
 | succ k =>
 simp only [witheref6_Cond.f] at h
 have hu26 := Tryd.underlying26
 have HR0_4 := Aside0.mk hr0_4
 have HC0_4 := Aside0.mk hc0_4
 clear hr0_4 hc0_4
 have HB := Aside0.mk (Below.refl w.heap.size w)
 have H : (if a0_0 = 1 then (if a0_2.size + 4 ≤ 9223372036854775807 then ((witheref6_Digits.f k a0_3).bind fun t188 => (if (a0_2 ++ (⟨#[32, 61, 61, 32]⟩ : ByteArray)).size + t188.size ≤ 9223372036854775807 then (some ((a0_2 ++ (⟨#[32, 61, 61, 32]⟩ : ByteArray)) ++ t188)) else (none))) else (none)) else (if a0_0 = 2 then ((witheref6_Digits.f k a0_1).bind fun t189 => (if t189.size + 1 ≤ 9223372036854775807 then (if (t189 ++ (⟨#[58]⟩ : ByteArray)).size + a0_2.size ≤ 9223372036854775807 then (if ((t189 ++ (⟨#[58]⟩ : ByteArray)) ++ a0_2).size + 4 ≤ 9223372036854775807 then ((witheref6_Digits.f k a0_3).bind fun t190 => (if (((t189 ++ (⟨#[58]⟩ : ByteArray)) ++ a0_2) ++ (⟨#[32, 61, 61, 32]⟩ : ByteArray)).size + t190.size ≤ 9223372036854775807 then (some ((((t189 ++ (⟨#[58]⟩ : ByteArray)) ++ a0_2) ++ (⟨#[32, 61, 61, 32]⟩ : ByteArray)) ++ t190)) else (none))) else (none)) else (none)) else (none))) else (if a0_0 = 3 then ((witheref6_side.f k l0_4 0).bind fun t191 => (if 4 + t191.size ≤ 9223372036854775807 then (some ((⟨#[110, 111, 116, 32]⟩ : ByteArray) ++ t191)) else (none))) else (if a0_0 = 4 then ((witheref6_side.f k l0_4 0).bind fun t192 => (if 1 + t192.size ≤ 9223372036854775807 then (if ((⟨#[40]⟩ : ByteArray) ++ t192).size + 5 ≤ 9223372036854775807 then ((witheref6_side.f k l0_4 1).bind fun t193 => (if (((⟨#[40]⟩ : ByteArray) ++ t192) ++ (⟨#[32, 97, 110, 100, 32]⟩ : ByteArray)).size + t193.size ≤ 9223372036854775807 then (if ((((⟨#[40]⟩ : ByteArray) ++ t192) ++ (⟨#[32, 97, 110, 100, 32]⟩ : ByteArray)) ++ t193).size + 1 ≤ 9223372036854775807 then (some (((((⟨#[40]⟩ : ByteArray) ++ t192) ++ (⟨#[32, 97, 110, 100, 32]⟩ : ByteArray)) ++ t193) ++ (⟨#[41]⟩ : ByteArray))) else (none)) else (none))) else (none)) else (none))) else (if a0_0 = 5 then ((witheref6_side.f k l0_4 0).bind fun t194 => (if 1 + t194.size ≤ 9223372036854775807 then (if ((⟨#[40]⟩ : ByteArray) ++ t194).size + 4 ≤ 9223372036854775807 then ((witheref6_side.f k l0_4 1).bind fun t195 => (if (((⟨#[40]⟩ : ByteArray) ++ t194) ++ (⟨#[32, 111, 114, 32]⟩ : ByteArray)).size + t195.size ≤ 9223372036854775807 then (if ((((⟨#[40]⟩ : ByteArray) ++ t194) ++ (⟨#[32, 111, 114, 32]⟩ : ByteArray)) ++ t195).size + 1 ≤ 9223372036854775807 then (some (((((⟨#[40]⟩ : ByteArray) ++ t194) ++ (⟨#[32, 111, 114, 32]⟩ : ByteArray)) ++ t195) ++ (⟨#[41]⟩ : ByteArray))) else (none)) else (none))) else (none)) else (none))) else (some (⟨#[]⟩ : ByteArray))))))) = some r := h
 clear h
 by_cases c2 : a0_0 = 1
 ·rw [if_pos c2] at H
  have c2b0 : (a0_0 == 1) = true := beq_iff_eq.mpr c2
  have c2b1 : (a0_0 != 1) = false := bne_eq_false_iff_eq.mpr c2
  clear c2
  by_cases c3 : a0_2.size + 4 ≤ 9223372036854775807
  ·rw [if_pos c3] at H
   have c3b0 := eq_true c3
   have c3b1 : decide (a0_2.size + 4 ≤ 9223372036854775807) = true := decide_eq_true c3
   try have c3b2 : (9223372036854775807 < a0_2.size + 4) = False := eq_false (Nat.not_lt.2 c3)
   replace H := Option.bind_eq_some_iff.mp H
   obtain ⟨t188, A40, H⟩ := H
   replace H : (if (a0_2 ++ (⟨#[32, 61, 61, 32]⟩ : ByteArray)).size + t188.size ≤ 9223372036854775807 then (some ((a0_2 ++ (⟨#[32, 61, 61, 32]⟩ : ByteArray)) ++ t188)) else (none)) = some r := H
   have A4 := Aside0.mk A40
   clear A40
   by_cases c5 : (a0_2 ++ (⟨#[32, 61, 61, 32]⟩ : ByteArray)).size + t188.size ≤ 9223372036854775807
   ·rw [if_pos c5] at H
    have c5b0 := eq_true c5
    have c5b1 : decide ((a0_2 ++ (⟨#[32, 61, 61, 32]⟩ : ByteArray)).size + t188.size ≤ 9223372036854775807) = true := decide_eq_true c5
    try (have c5b1s := c5b1; simp only [ByteArray.size_append, show (⟨#[32, 61, 61, 32]⟩ : ByteArray).size = 4 from rfl] at c5b1s)
    try have c5b2 : (9223372036854775807 < (a0_2 ++ (⟨#[32, 61, 61, 32]⟩ : ByteArray)).size + t188.size) = False := eq_false (Nat.not_lt.2 c5)
    try (have c5b2s := c5b2; simp only [ByteArray.size_append, show (⟨#[32, 61, 61, 32]⟩ : ByteArray).size = 4 from rfl] at c5b2s)
    obtain rfl := Option.some.inj H
    go_enter Tryd.func13, Tryd.ntmps13
    try go_wp2_with (first | ((with_reducible refine gate_dst (N := 1) rfl ?_); refine box_event ?hg (N := 1) ?hd (cs := #[.int .i64 a0_0, .int .i64 a0_1, .string a0_2, .int .i64 a0_3, .slice A0_4 l0_4.length c0_4]) (t := 26) ?hr ?_; (case hd => rfl); (case hg => rfl); (case hr => first | (go_simp; done) | (go_simp; rfl)); intro gb187 hg w6 hbox hb; have n0_ := Aside0.mk (below_step (by repeat (first | (with_reducible first | exact HB.out | apply below_alloc | apply pw_below_drewN | apply below_drew1) | exact HB.out)) hb); have n1_ := Aside0.mk (hbox); have n2_ := Aside0.mk ((by rw [hg]; exact (below_size (by repeat (first | (with_reducible first | exact HB.out | apply below_alloc | apply pw_below_drewN | apply below_drew1) | exact HB.out))) : w.heap.size ≤ gb187)); have n3_ := Aside0.mk ((by rw [hg]; exact (below_size (by repeat (first | (with_reducible first | exact HB.out | apply below_alloc | apply pw_below_drewN | apply below_drew1) | exact HB.out))) : w.heap.size ≤ gb187)); clear HB; have HB := n0_; have BK187 := n1_; have GW187 := n2_; have GE187 := n3_; clear n0_ n1_ n2_ n3_; clear hb hbox hg; have hcz7_0 : w6.cell? ⟨gb187, 0, none⟩ = some (.int .i64 a0_0) := (blk_cell BK187.out 0).trans rfl; have hcz7_1 : w6.cell? ⟨gb187, 1, none⟩ = some (.int .i64 a0_1) := (blk_cell BK187.out 1).trans rfl; have hcz7_2 : w6.cell? ⟨gb187, 2, none⟩ = some (.string a0_2) := (blk_cell BK187.out 2).trans rfl; have hcz7_3 : w6.cell? ⟨gb187, 3, none⟩ = some (.int .i64 a0_3) := (blk_cell BK187.out 3).trans rfl; have hcz7_4 : w6.cell? ⟨gb187, 4, none⟩ = some (.slice A0_4 l0_4.length c0_4) := (blk_cell BK187.out 4).trans rfl; have hfz7_0 := blk_frozen BK187.out 0; have hfz7_1 := blk_frozen BK187.out 1; have hfz7_2 := blk_frozen BK187.out 2; have hfz7_3 := blk_frozen BK187.out 3; have hfz7_4 := blk_frozen BK187.out 4))
    have n0_ := Aside0.mk (blk_drew BK187.out)
    have n1_ := Aside0.mk (below_drew1 HB.out)
    clear BK187
    clear HB
    have BK187 := n0_
    have HB := n1_
    clear n0_ n1_
    refine start_ (n := 8) (S := fun w' => w'.cell? ⟨gb187, 0, none⟩ = some (.int .i64 a0_0) ∧ w'.cell? ⟨gb187, 1, none⟩ = some (.int .i64 a0_1) ∧ w'.cell? ⟨gb187, 2, none⟩ = some (.string a0_2) ∧ w'.cell? ⟨gb187, 3, none⟩ = some (.int .i64 a0_3) ∧ w'.cell? ⟨gb187, 4, none⟩ = some (.slice A0_4 l0_4.length c0_4)) (ds := []) #[false, false, false, false, false, false, false, false] (by kernel_rfl) rfl rfl ⟨(blk_cell BK187.out 0).trans rfl, (blk_cell BK187.out 1).trans rfl, (blk_cell BK187.out 2).trans rfl, (blk_cell BK187.out 3).trans rfl, (blk_cell BK187.out 4).trans rfl⟩ (fun hHeld => ?_); refine with_tabW witheref6_Cond.tab3 witheref6_Cond.bits3 (fun HT_ HW_ => ?_)
    generalize w6.drew = w8 at BK187 HB hHeld ⊢
    refine pure_ (i := 0) (N := some 7) (v := ?_) (a' := ?_) #[true, false, false, false, false, false, false, false] rfl rfl (any_of HT_.out (by kernel_rfl)) (fun _ _ _ h => h) (Or.inl ⟨by rfl, ?_⟩) ?_ ?_
    rotate_left
    ·intro w'
     go_simp
     with_reducible rfl
    rotate_left
    ·simp only [Act.put, List.setIfInBounds_toArray, List.set_cons_zero, List.set_cons_succ, i64_w, i32_w]
     rfl
    refine pure_ (i := 3) (N := some 10) (v := ?_) (a' := ?_) #[true, false, false, true, false, false, false, false] rfl rfl (any_of HT_.out (by kernel_rfl)) (fun _ _ _ h => h) (Or.inl ⟨by rfl, ?_⟩) ?_ ?_
    rotate_left
    ·intro w'
     go_simp
     with_reducible rfl
    rotate_left
    ·simp only [Act.put, List.setIfInBounds_toArray, List.set_cons_zero, List.set_cons_succ, i64_w, i32_w]
     rfl
    refine take_ (i := 1) (N := some 8) (v := ?_) (a' := ?_) #[true, true, false, true, false, false, false, false] rfl rfl (take_ofW HT_.out HW_.out (by kernel_rfl)) (fun _ _ _ h => h) (Or.inl ⟨by rfl, ?_⟩) hHeld ?_ ?_
    rotate_left
    ·rintro w' ⟨s0, s1, s2, s3, s4⟩
     go_simp
     with_reducible rfl
    rotate_left
    ·simp only [Act.put, List.setIfInBounds_toArray, List.set_cons_zero, List.set_cons_succ, i64_w, i32_w]
     rfl
    refine pure_ (i := 2) (N := some 9) (v := ?_) (a' := ?_) #[true, true, true, true, false, false, false, false] rfl rfl (any_of HT_.out (by kernel_rfl)) (fun _ _ _ h => h) (Or.inl ⟨by rfl, ?_⟩) ?_ ?_
    rotate_left
    ·intro w'
     go_simp
     with_reducible rfl
    rotate_left
    ·simp only [Act.put, List.setIfInBounds_toArray, List.set_cons_zero, List.set_cons_succ, i64_w, i32_w]
     rfl
    refine take_ (i := 4) (N := some 11) (v := ?_) (a' := ?_) #[true, true, true, true, true, false, false, false] rfl rfl (take_ofW HT_.out HW_.out (by kernel_rfl)) (fun _ _ _ h => h) (Or.inl ⟨by rfl, ?_⟩) hHeld ?_ ?_
    rotate_left
    ·rintro w' ⟨s0, s1, s2, s3, s4⟩
     go_simp
     with_reducible rfl
    rotate_left
    ·simp only [Act.put, List.setIfInBounds_toArray, List.set_cons_zero, List.set_cons_succ, i64_w, i32_w]
     rfl
    refine one_ (i := 5) (N := some 12) #[true, true, true, true, true, true, false, false] rfl rfl (one_of HT_.out (by kernel_rfl)) (by decide) (fun K hK => ?_)
    refine goes_ Tryd.func21 (by kernel_rfl) rfl #[.int .i64 a0_3] (by rfl) rfl rfl (by (try simp only [List.map_toArray, List.map_cons, List.map_nil]); first | done | rfl | (simp only [List.length_drop, List.length_take]; rfl)) ?_
    with_reducible refine (witheref6_Digits.calls k a0_3 t188 _ A4.out).mono ?_
    rintro e w9 ⟨rfl, hb⟩
    refine ⟨_, rfl, ?_⟩
    have n0_ := Aside0.mk (blk_below (g := gb187) (o := .cells #[.int .i64 a0_0, .int .i64 a0_1, .string a0_2, .int .i64 a0_3, .slice A0_4 l0_4.length c0_4] 26 (0, 0)) (by (with_reducible repeat (first | refine blk_drewN ?_ _ | refine blk_drew ?_ | refine blk_alloc ?_ _)); exact BK187.out) hb)
    have n1_ := Aside0.mk (below_step (by repeat (first | (with_reducible first | exact HB.out | apply below_alloc | apply pw_below_drewN | apply below_drew1 | refine below_set ?_ GE187.out) | exact HB.out)) hb)
    clear BK187
    clear HB
    have BK187 := n0_
    have HB := n1_
    clear n0_ n1_
    (try clear hb)
    (try clear hb2)
    (try clear hk)
    (try clear hi)
    refine hK.out _ _ ⟨(blk_cell BK187.out 0).trans rfl, (blk_cell BK187.out 1).trans rfl, (blk_cell BK187.out 2).trans rfl, (blk_cell BK187.out 3).trans rfl, (blk_cell BK187.out 4).trans rfl⟩ (fun hHeld => ?_)
    clear hK K
    refine norm_ (a' := ?_) ?_ ?_
    rotate_left
    ·show Act.put _ (some 12) _ = _
     simp only [Act.put, List.setIfInBounds_toArray, List.set_cons_zero, List.set_cons_succ, i64_w, i32_w]
     rfl
    refine pure_ (i := 6) (N := some 13) (v := ?_) (a' := ?_) #[true, true, true, true, true, true, true, false] rfl rfl (any_of HT_.out (by kernel_rfl)) (fun _ _ _ h => h) (Or.inl ⟨by rfl, ?_⟩) ?_ ?_
    rotate_left
    ·intro w'
     go_simp
     with_reducible rfl
    rotate_left
    ·simp only [Act.put, List.setIfInBounds_toArray, List.set_cons_zero, List.set_cons_succ, i64_w, i32_w]
     rfl
    refine pure_ (i := 7) (N := some 2) (v := ?_) (a' := ?_) #[true, true, true, true, true, true, true, true] rfl rfl (any_of HT_.out (by kernel_rfl)) (fun _ _ _ h => h) (Or.inl ⟨by rfl, ?_⟩) ?_ ?_
    rotate_left
    ·intro w'
     go_simp
     with_reducible rfl
    rotate_left
    ·simp only [Act.put, List.setIfInBounds_toArray, List.set_cons_zero, List.set_cons_succ, i64_w, i32_w]
     rfl
    refine done_ (done_of HT_.out (by kernel_rfl)) ?_
    try go_wp2
    go_ret
    exact ⟨by first | rfl | (simp [errW_none, errW_some] <;> rfl) | (simp [*, errW_none, errW_some] <;> rfl), by repeat (first | (with_reducible first | exact HB.out | apply below_alloc | apply pw_below_drewN | apply below_drew1 | refine below_set ?_ GE187.out) | exact HB.out)⟩
   ·rw [if_neg c5] at H
    exact absurd H (by simp)
  ·rw [if_neg c3] at H
   exact absurd H (by simp)
 ·rw [if_neg c2] at H
  have c2b0 : (a0_0 == 1) = false := beq_eq_false_iff_ne.mpr c2
  have c2b1 : (a0_0 != 1) = true := bne_iff_ne.mpr c2
  by_cases c10 : a0_0 = 2
  ·rw [if_pos c10] at H
   have c10b0 : (a0_0 == 2) = true := beq_iff_eq.mpr c10
   have c10b1 : (a0_0 != 2) = false := bne_eq_false_iff_eq.mpr c10
   clear c10
   replace H := Option.bind_eq_some_iff.mp H
   obtain ⟨t189, A110, H⟩ := H
   replace H : (if t189.size + 1 ≤ 9223372036854775807 then (if (t189 ++ (⟨#[58]⟩ : ByteArray)).size + a0_2.size ≤ 9223372036854775807 then (if ((t189 ++ (⟨#[58]⟩ : ByteArray)) ++ a0_2).size + 4 ≤ 9223372036854775807 then ((witheref6_Digits.f k a0_3).bind fun t190 => (if (((t189 ++ (⟨#[58]⟩ : ByteArray)) ++ a0_2) ++ (⟨#[32, 61, 61, 32]⟩ : ByteArray)).size + t190.size ≤ 9223372036854775807 then (some ((((t189 ++ (⟨#[58]⟩ : ByteArray)) ++ a0_2) ++ (⟨#[32, 61, 61, 32]⟩ : ByteArray)) ++ t190)) else (none))) else (none)) else (none)) else (none)) = some r := H
   have A11 := Aside0.mk A110
   clear A110
   by_cases c12 : t189.size + 1 ≤ 9223372036854775807
   ·rw [if_pos c12] at H
    have c12b0 := eq_true c12
    have c12b1 : decide (t189.size + 1 ≤ 9223372036854775807) = true := decide_eq_true c12
    try have c12b2 : (9223372036854775807 < t189.size + 1) = False := eq_false (Nat.not_lt.2 c12)
    by_cases c13 : (t189 ++ (⟨#[58]⟩ : ByteArray)).size + a0_2.size ≤ 9223372036854775807
    ·rw [if_pos c13] at H
     have c13b0 := eq_true c13
     have c13b1 : decide ((t189 ++ (⟨#[58]⟩ : ByteArray)).size + a0_2.size ≤ 9223372036854775807) = true := decide_eq_true c13
     try (have c13b1s := c13b1; simp only [ByteArray.size_append, show (⟨#[58]⟩ : ByteArray).size = 1 from rfl] at c13b1s)
     try have c13b2 : (9223372036854775807 < (t189 ++ (⟨#[58]⟩ : ByteArray)).size + a0_2.size) = False := eq_false (Nat.not_lt.2 c13)
     try (have c13b2s := c13b2; simp only [ByteArray.size_append, show (⟨#[58]⟩ : ByteArray).size = 1 from rfl] at c13b2s)
     by_cases c14 : ((t189 ++ (⟨#[58]⟩ : ByteArray)) ++ a0_2).size + 4 ≤ 9223372036854775807
     ·rw [if_pos c14] at H
      have c14b0 := eq_true c14
      have c14b1 : decide (((t189 ++ (⟨#[58]⟩ : ByteArray)) ++ a0_2).size + 4 ≤ 9223372036854775807) = true := decide_eq_true c14
      try (have c14b1s := c14b1; simp only [ByteArray.size_append, show (⟨#[58]⟩ : ByteArray).size = 1 from rfl] at c14b1s)
      try have c14b2 : (9223372036854775807 < ((t189 ++ (⟨#[58]⟩ : ByteArray)) ++ a0_2).size + 4) = False := eq_false (Nat.not_lt.2 c14)
      try (have c14b2s := c14b2; simp only [ByteArray.size_append, show (⟨#[58]⟩ : ByteArray).size = 1 from rfl] at c14b2s)
      replace H := Option.bind_eq_some_iff.mp H
      obtain ⟨t190, A150, H⟩ := H
      replace H : (if (((t189 ++ (⟨#[58]⟩ : ByteArray)) ++ a0_2) ++ (⟨#[32, 61, 61, 32]⟩ : ByteArray)).size + t190.size ≤ 9223372036854775807 then (some ((((t189 ++ (⟨#[58]⟩ : ByteArray)) ++ a0_2) ++ (⟨#[32, 61, 61, 32]⟩ : ByteArray)) ++ t190)) else (none)) = some r := H
      have A15 := Aside0.mk A150
      clear A150
      by_cases c16 : (((t189 ++ (⟨#[58]⟩ : ByteArray)) ++ a0_2) ++ (⟨#[32, 61, 61, 32]⟩ : ByteArray)).size + t190.size ≤ 9223372036854775807
      ·rw [if_pos c16] at H
       have c16b0 := eq_true c16
       have c16b1 : decide ((((t189 ++ (⟨#[58]⟩ : ByteArray)) ++ a0_2) ++ (⟨#[32, 61, 61, 32]⟩ : ByteArray)).size + t190.size ≤ 9223372036854775807) = true := decide_eq_true c16
       try (have c16b1s := c16b1; simp only [ByteArray.size_append, show (⟨#[32, 61, 61, 32]⟩ : ByteArray).size = 4 from rfl, show (⟨#[58]⟩ : ByteArray).size = 1 from rfl] at c16b1s)
       try have c16b2 : (9223372036854775807 < (((t189 ++ (⟨#[58]⟩ : ByteArray)) ++ a0_2) ++ (⟨#[32, 61, 61, 32]⟩ : ByteArray)).size + t190.size) = False := eq_false (Nat.not_lt.2 c16)
       try (have c16b2s := c16b2; simp only [ByteArray.size_append, show (⟨#[32, 61, 61, 32]⟩ : ByteArray).size = 4 from rfl, show (⟨#[58]⟩ : ByteArray).size = 1 from rfl] at c16b2s)
       obtain rfl := Option.some.inj H
       go_enter Tryd.func13, Tryd.ntmps13
       try go_wp2_with (first | ((with_reducible refine gate_dst (N := 1) rfl ?_); refine box_event ?hg (N := 1) ?hd (cs := #[.int .i64 a0_0, .int .i64 a0_1, .string a0_2, .int .i64 a0_3, .slice A0_4 l0_4.length c0_4]) (t := 26) ?hr ?_; (case hd => rfl); (case hg => rfl); (case hr => first | (go_simp; done) | (go_simp; rfl)); intro gb187 hg w17 hbox hb; have n0_ := Aside0.mk (below_step (by repeat (first | (with_reducible first | exact HB.out | apply below_alloc | apply pw_below_drewN | apply below_drew1) | exact HB.out)) hb); have n1_ := Aside0.mk (hbox); have n2_ := Aside0.mk ((by rw [hg]; exact (below_size (by repeat (first | (with_reducible first | exact HB.out | apply below_alloc | apply pw_below_drewN | apply below_drew1) | exact HB.out))) : w.heap.size ≤ gb187)); have n3_ := Aside0.mk ((by rw [hg]; exact (below_size (by repeat (first | (with_reducible first | exact HB.out | apply below_alloc | apply pw_below_drewN | apply below_drew1) | exact HB.out))) : w.heap.size ≤ gb187)); clear HB; have HB := n0_; have BK187 := n1_; have GW187 := n2_; have GE187 := n3_; clear n0_ n1_ n2_ n3_; clear hb hbox hg; have hcz18_0 : w17.cell? ⟨gb187, 0, none⟩ = some (.int .i64 a0_0) := (blk_cell BK187.out 0).trans rfl; have hcz18_1 : w17.cell? ⟨gb187, 1, none⟩ = some (.int .i64 a0_1) := (blk_cell BK187.out 1).trans rfl; have hcz18_2 : w17.cell? ⟨gb187, 2, none⟩ = some (.string a0_2) := (blk_cell BK187.out 2).trans rfl; have hcz18_3 : w17.cell? ⟨gb187, 3, none⟩ = some (.int .i64 a0_3) := (blk_cell BK187.out 3).trans rfl; have hcz18_4 : w17.cell? ⟨gb187, 4, none⟩ = some (.slice A0_4 l0_4.length c0_4) := (blk_cell BK187.out 4).trans rfl; have hfz18_0 := blk_frozen BK187.out 0; have hfz18_1 := blk_frozen BK187.out 1; have hfz18_2 := blk_frozen BK187.out 2; have hfz18_3 := blk_frozen BK187.out 3; have hfz18_4 := blk_frozen BK187.out 4))
       have n0_ := Aside0.mk (blk_drew BK187.out)
       have n1_ := Aside0.mk (below_drew1 HB.out)
       clear BK187
       clear HB
       have BK187 := n0_
       have HB := n1_
       clear n0_ n1_
       refine start_ (n := 13) (S := fun w' => w'.cell? ⟨gb187, 0, none⟩ = some (.int .i64 a0_0) ∧ w'.cell? ⟨gb187, 1, none⟩ = some (.int .i64 a0_1) ∧ w'.cell? ⟨gb187, 2, none⟩ = some (.string a0_2) ∧ w'.cell? ⟨gb187, 3, none⟩ = some (.int .i64 a0_3) ∧ w'.cell? ⟨gb187, 4, none⟩ = some (.slice A0_4 l0_4.length c0_4)) (ds := []) #[false, false, false, false, false, false, false, false, false, false, false, false, false] (by kernel_rfl) rfl rfl ⟨(blk_cell BK187.out 0).trans rfl, (blk_cell BK187.out 1).trans rfl, (blk_cell BK187.out 2).trans rfl, (blk_cell BK187.out 3).trans rfl, (blk_cell BK187.out 4).trans rfl⟩ (fun hHeld => ?_); refine with_tabW witheref6_Cond.tab5 witheref6_Cond.bits5 (fun HT_ HW_ => ?_)
       generalize w17.drew = w19 at BK187 HB hHeld ⊢
       refine pure_ (i := 0) (N := some 16) (v := ?_) (a' := ?_) #[true, false, false, false, false, false, false, false, false, false, false, false, false] rfl rfl (any_of HT_.out (by kernel_rfl)) (fun _ _ _ h => h) (Or.inl ⟨by rfl, ?_⟩) ?_ ?_
       rotate_left
       ·intro w'
        go_simp
        with_reducible rfl
       rotate_left
       ·simp only [Act.put, List.setIfInBounds_toArray, List.set_cons_zero, List.set_cons_succ, i64_w, i32_w]
        rfl
       refine pure_ (i := 4) (N := some 20) (v := ?_) (a' := ?_) #[true, false, false, false, true, false, false, false, false, false, false, false, false] rfl rfl (any_of HT_.out (by kernel_rfl)) (fun _ _ _ h => h) (Or.inl ⟨by rfl, ?_⟩) ?_ ?_
       rotate_left
       ·intro w'
        go_simp
        with_reducible rfl
       rotate_left
       ·simp only [Act.put, List.setIfInBounds_toArray, List.set_cons_zero, List.set_cons_succ, i64_w, i32_w]
        rfl
       refine pure_ (i := 8) (N := some 24) (v := ?_) (a' := ?_) #[true, false, false, false, true, false, false, false, true, false, false, false, false] rfl rfl (any_of HT_.out (by kernel_rfl)) (fun _ _ _ h => h) (Or.inl ⟨by rfl, ?_⟩) ?_ ?_
       rotate_left
       ·intro w'
        go_simp
        with_reducible rfl
       rotate_left
       ·simp only [Act.put, List.setIfInBounds_toArray, List.set_cons_zero, List.set_cons_succ, i64_w, i32_w]
        rfl
       refine take_ (i := 1) (N := some 17) (v := ?_) (a' := ?_) #[true, true, false, false, true, false, false, false, true, false, false, false, false] rfl rfl (take_ofW HT_.out HW_.out (by kernel_rfl)) (fun _ _ _ h => h) (Or.inl ⟨by rfl, ?_⟩) hHeld ?_ ?_
       rotate_left
       ·rintro w' ⟨s0, s1, s2, s3, s4⟩
        go_simp
        with_reducible rfl
       rotate_left
       ·simp only [Act.put, List.setIfInBounds_toArray, List.set_cons_zero, List.set_cons_succ, i64_w, i32_w]
        rfl
       refine take_ (i := 5) (N := some 21) (v := ?_) (a' := ?_) #[true, true, false, false, true, true, false, false, true, false, false, false, false] rfl rfl (take_ofW HT_.out HW_.out (by kernel_rfl)) (fun _ _ _ h => h) (Or.inl ⟨by rfl, ?_⟩) hHeld ?_ ?_
       rotate_left
       ·rintro w' ⟨s0, s1, s2, s3, s4⟩
        go_simp
        with_reducible rfl
       rotate_left
       ·simp only [Act.put, List.setIfInBounds_toArray, List.set_cons_zero, List.set_cons_succ, i64_w, i32_w]
        rfl
       refine take_ (i := 9) (N := some 25) (v := ?_) (a' := ?_) #[true, true, false, false, true, true, false, false, true, true, false, false, false] rfl rfl (take_ofW HT_.out HW_.out (by kernel_rfl)) (fun _ _ _ h => h) (Or.inl ⟨by rfl, ?_⟩) hHeld ?_ ?_
       rotate_left
       ·rintro w' ⟨s0, s1, s2, s3, s4⟩
        go_simp
        with_reducible rfl
       rotate_left
       ·simp only [Act.put, List.setIfInBounds_toArray, List.set_cons_zero, List.set_cons_succ, i64_w, i32_w]
        rfl
       refine one_ (i := 2) (N := some 18) #[true, true, true, false, true, true, false, false, true, true, false, false, false] rfl rfl (one_of HT_.out (by kernel_rfl)) (by decide) (fun K hK => ?_)
       refine goes_ Tryd.func21 (by kernel_rfl) rfl #[.int .i64 a0_1] (by rfl) rfl rfl (by (try simp only [List.map_toArray, List.map_cons, List.map_nil]); first | done | rfl | (simp only [List.length_drop, List.length_take]; rfl)) ?_
       with_reducible refine (witheref6_Digits.calls k a0_1 t189 _ A11.out).mono ?_
       rintro e w20 ⟨rfl, hb⟩
       refine ⟨_, rfl, ?_⟩
       have n0_ := Aside0.mk (blk_below (g := gb187) (o := .cells #[.int .i64 a0_0, .int .i64 a0_1, .string a0_2, .int .i64 a0_3, .slice A0_4 l0_4.length c0_4] 26 (0, 0)) (by (with_reducible repeat (first | refine blk_drewN ?_ _ | refine blk_drew ?_ | refine blk_alloc ?_ _)); exact BK187.out) hb)
       have n1_ := Aside0.mk (below_step (by repeat (first | (with_reducible first | exact HB.out | apply below_alloc | apply pw_below_drewN | apply below_drew1 | refine below_set ?_ GE187.out) | exact HB.out)) hb)
       clear BK187
       clear HB
       have BK187 := n0_
       have HB := n1_
       clear n0_ n1_
       (try clear hb)
       (try clear hb2)
       (try clear hk)
       (try clear hi)
       refine hK.out _ _ ⟨(blk_cell BK187.out 0).trans rfl, (blk_cell BK187.out 1).trans rfl, (blk_cell BK187.out 2).trans rfl, (blk_cell BK187.out 3).trans rfl, (blk_cell BK187.out 4).trans rfl⟩ (fun hHeld => ?_)
       clear hK K
       refine norm_ (a' := ?_) ?_ ?_
       rotate_left
       ·show Act.put _ (some 18) _ = _
        simp only [Act.put, List.setIfInBounds_toArray, List.set_cons_zero, List.set_cons_succ, i64_w, i32_w]
        rfl
       refine pure_ (i := 3) (N := some 19) (v := ?_) (a' := ?_) #[true, true, true, true, true, true, false, false, true, true, false, false, false] rfl rfl (any_of HT_.out (by kernel_rfl)) (fun _ _ _ h => h) (Or.inl ⟨by rfl, ?_⟩) ?_ ?_
       rotate_left
       ·intro w'
        go_simp
        with_reducible rfl
       rotate_left
       ·simp only [Act.put, List.setIfInBounds_toArray, List.set_cons_zero, List.set_cons_succ, i64_w, i32_w]
        rfl
       refine pure_ (i := 6) (N := some 22) (v := ?_) (a' := ?_) #[true, true, true, true, true, true, true, false, true, true, false, false, false] rfl rfl (any_of HT_.out (by kernel_rfl)) (fun _ _ _ h => h) (Or.inl ⟨by rfl, ?_⟩) ?_ ?_
       rotate_left
       ·intro w'
        go_simp
        with_reducible rfl
       rotate_left
       ·simp only [Act.put, List.setIfInBounds_toArray, List.set_cons_zero, List.set_cons_succ, i64_w, i32_w]
        rfl
       refine pure_ (i := 7) (N := some 23) (v := ?_) (a' := ?_) #[true, true, true, true, true, true, true, true, true, true, false, false, false] rfl rfl (any_of HT_.out (by kernel_rfl)) (fun _ _ _ h => h) (Or.inl ⟨by rfl, ?_⟩) ?_ ?_
       rotate_left
       ·intro w'
        go_simp
        with_reducible rfl
       rotate_left
       ·simp only [Act.put, List.setIfInBounds_toArray, List.set_cons_zero, List.set_cons_succ, i64_w, i32_w]
        rfl
       refine one_ (i := 10) (N := some 26) #[true, true, true, true, true, true, true, true, true, true, true, false, false] rfl rfl (one_of HT_.out (by kernel_rfl)) (by decide) (fun K hK => ?_)
       refine goes_ Tryd.func21 (by kernel_rfl) rfl #[.int .i64 a0_3] (by rfl) rfl rfl (by (try simp only [List.map_toArray, List.map_cons, List.map_nil]); first | done | rfl | (simp only [List.length_drop, List.length_take]; rfl)) ?_
       with_reducible refine (witheref6_Digits.calls k a0_3 t190 _ A15.out).mono ?_
       rintro e w21 ⟨rfl, hb⟩
       refine ⟨_, rfl, ?_⟩
       have n0_ := Aside0.mk (blk_below (g := gb187) (o := .cells #[.int .i64 a0_0, .int .i64 a0_1, .string a0_2, .int .i64 a0_3, .slice A0_4 l0_4.length c0_4] 26 (0, 0)) (by (with_reducible repeat (first | refine blk_drewN ?_ _ | refine blk_drew ?_ | refine blk_alloc ?_ _)); exact BK187.out) hb)
       have n1_ := Aside0.mk (below_step (by repeat (first | (with_reducible first | exact HB.out | apply below_alloc | apply pw_below_drewN | apply below_drew1 | refine below_set ?_ GE187.out) | exact HB.out)) hb)
       clear BK187
       clear HB
       have BK187 := n0_
       have HB := n1_
       clear n0_ n1_
       (try clear hb)
       (try clear hb2)
       (try clear hk)
       (try clear hi)
       refine hK.out _ _ ⟨(blk_cell BK187.out 0).trans rfl, (blk_cell BK187.out 1).trans rfl, (blk_cell BK187.out 2).trans rfl, (blk_cell BK187.out 3).trans rfl, (blk_cell BK187.out 4).trans rfl⟩ (fun hHeld => ?_)
       clear hK K
       refine norm_ (a' := ?_) ?_ ?_
       rotate_left
       ·show Act.put _ (some 26) _ = _
        simp only [Act.put, List.setIfInBounds_toArray, List.set_cons_zero, List.set_cons_succ, i64_w, i32_w]
        rfl
       refine pure_ (i := 11) (N := some 27) (v := ?_) (a' := ?_) #[true, true, true, true, true, true, true, true, true, true, true, true, false] rfl rfl (any_of HT_.out (by kernel_rfl)) (fun _ _ _ h => h) (Or.inl ⟨by rfl, ?_⟩) ?_ ?_
       rotate_left
       ·intro w'
        go_simp
        with_reducible rfl
       rotate_left
       ·simp only [Act.put, List.setIfInBounds_toArray, List.set_cons_zero, List.set_cons_succ, i64_w, i32_w]
        rfl
       refine pure_ (i := 12) (N := some 2) (v := ?_) (a' := ?_) #[true, true, true, true, true, true, true, true, true, true, true, true, true] rfl rfl (any_of HT_.out (by kernel_rfl)) (fun _ _ _ h => h) (Or.inl ⟨by rfl, ?_⟩) ?_ ?_
       rotate_left
       ·intro w'
        go_simp
        with_reducible rfl
       rotate_left
       ·simp only [Act.put, List.setIfInBounds_toArray, List.set_cons_zero, List.set_cons_succ, i64_w, i32_w]
        rfl
       refine done_ (done_of HT_.out (by kernel_rfl)) ?_
       try go_wp2
       go_ret
       exact ⟨by first | rfl | (simp [errW_none, errW_some] <;> rfl) | (simp [*, errW_none, errW_some] <;> rfl), by repeat (first | (with_reducible first | exact HB.out | apply below_alloc | apply pw_below_drewN | apply below_drew1 | refine below_set ?_ GE187.out) | exact HB.out)⟩
      ·rw [if_neg c16] at H
       exact absurd H (by simp)
     ·rw [if_neg c14] at H
      exact absurd H (by simp)
    ·rw [if_neg c13] at H
     exact absurd H (by simp)
   ·rw [if_neg c12] at H
    exact absurd H (by simp)
  ·rw [if_neg c10] at H
   have c10b0 : (a0_0 == 2) = false := beq_eq_false_iff_ne.mpr c10
   have c10b1 : (a0_0 != 2) = true := bne_iff_ne.mpr c10
   by_cases c22 : a0_0 = 3
   ·rw [if_pos c22] at H
    have c22b0 : (a0_0 == 3) = true := beq_iff_eq.mpr c22
    have c22b1 : (a0_0 != 3) = false := bne_eq_false_iff_eq.mpr c22
    clear c22
    replace H := Option.bind_eq_some_iff.mp H
    obtain ⟨t191, A230, H⟩ := H
    replace H : (if 4 + t191.size ≤ 9223372036854775807 then (some ((⟨#[110, 111, 116, 32]⟩ : ByteArray) ++ t191)) else (none)) = some r := H
    have A23 := Aside0.mk A230
    clear A230
    by_cases c24 : 4 + t191.size ≤ 9223372036854775807
    ·rw [if_pos c24] at H
     have c24b0 := eq_true c24
     have c24b1 : decide (4 + t191.size ≤ 9223372036854775807) = true := decide_eq_true c24
     try have c24b2 : (9223372036854775807 < 4 + t191.size) = False := eq_false (Nat.not_lt.2 c24)
     obtain rfl := Option.some.inj H
     go_enter Tryd.func13, Tryd.ntmps13
     go_wp2_with (first | ((with_reducible refine gate_dst (N := 1) rfl ?_); refine box_event ?hg (N := 1) ?hd (cs := #[.int .i64 a0_0, .int .i64 a0_1, .string a0_2, .int .i64 a0_3, .slice A0_4 l0_4.length c0_4]) (t := 26) ?hr ?_; (case hd => rfl); (case hg => rfl); (case hr => first | (go_simp; done) | (go_simp; rfl)); intro gb187 hg w25 hbox hb; have n0_ := Aside0.mk (below_step (by repeat (first | (with_reducible first | exact HB.out | apply below_alloc | apply pw_below_drewN | apply below_drew1) | exact HB.out)) hb); have n1_ := Aside0.mk (hbox); have n2_ := Aside0.mk ((by rw [hg]; exact (below_size (by repeat (first | (with_reducible first | exact HB.out | apply below_alloc | apply pw_below_drewN | apply below_drew1) | exact HB.out))) : w.heap.size ≤ gb187)); have n3_ := Aside0.mk ((by rw [hg]; exact (below_size (by repeat (first | (with_reducible first | exact HB.out | apply below_alloc | apply pw_below_drewN | apply below_drew1) | exact HB.out))) : w.heap.size ≤ gb187)); clear HB; have HB := n0_; have BK187 := n1_; have GW187 := n2_; have GE187 := n3_; clear n0_ n1_ n2_ n3_; clear hb hbox hg; have hcz26_0 : w25.cell? ⟨gb187, 0, none⟩ = some (.int .i64 a0_0) := (blk_cell BK187.out 0).trans rfl; have hcz26_1 : w25.cell? ⟨gb187, 1, none⟩ = some (.int .i64 a0_1) := (blk_cell BK187.out 1).trans rfl; have hcz26_2 : w25.cell? ⟨gb187, 2, none⟩ = some (.string a0_2) := (blk_cell BK187.out 2).trans rfl; have hcz26_3 : w25.cell? ⟨gb187, 3, none⟩ = some (.int .i64 a0_3) := (blk_cell BK187.out 3).trans rfl; have hcz26_4 : w25.cell? ⟨gb187, 4, none⟩ = some (.slice A0_4 l0_4.length c0_4) := (blk_cell BK187.out 4).trans rfl; have hfz26_0 := blk_frozen BK187.out 0; have hfz26_1 := blk_frozen BK187.out 1; have hfz26_2 := blk_frozen BK187.out 2; have hfz26_3 := blk_frozen BK187.out 3; have hfz26_4 := blk_frozen BK187.out 4) | ((with_reducible refine gate_callee (f := 28) rfl ?_); refine goesL_ (some 32) rfl rfl Tryd.func28 (by kernel_rfl) rfl #[.slice A0_4 l0_4.length c0_4, .int .i64 0] rfl (by (try simp only [List.map_toArray, List.map_cons, List.map_nil]); first | done | rfl | (simp only [List.length_drop, List.length_take]; rfl)) ?_; (with_reducible refine (witheref6_side.calls_of k (fun a0_0 a0_1 a0_2 a0_3 A0_4 c0_4 l0_4 r w hr0_4 hc0_4 h => ih k (Nat.lt_succ_self k) a0_0 a0_1 a0_2 a0_3 A0_4 c0_4 l0_4 r w hr0_4 hc0_4 h) _ _ l0_4 0 t191 _ ?side1 ?side2 A23.out).mono ?_); (case side1 => repeat (first | exact (Kd.C_below HR0_4.out HB.out) | (with_reducible refine Kd.C_alloc ?_ _) | (with_reducible refine Kd.C_drewN ?_ _) | (with_reducible refine Kd.C_drew ?_))); (case side2 => exact HC0_4.out); rintro e w27 ⟨rfl, hb⟩; refine ⟨_, rfl, ?_⟩; have n0_ := Aside0.mk (blk_below (g := gb187) (o := .cells #[.int .i64 a0_0, .int .i64 a0_1, .string a0_2, .int .i64 a0_3, .slice A0_4 l0_4.length c0_4] 26 (0, 0)) (by (with_reducible repeat (first | refine blk_drewN ?_ _ | refine blk_drew ?_ | refine blk_alloc ?_ _)); exact BK187.out) hb); have n1_ := Aside0.mk (below_step (by repeat (first | (with_reducible first | exact HB.out | apply below_alloc | apply pw_below_drewN | apply below_drew1 | refine below_set ?_ GE187.out) | exact HB.out)) hb); clear BK187; clear HB; have BK187 := n0_; have HB := n1_; clear n0_ n1_; (try clear hb); (try clear hb2); (try clear hk); (try clear hi)))
     go_ret
     exact ⟨by first | rfl | (simp [errW_none, errW_some] <;> rfl) | (simp [*, errW_none, errW_some] <;> rfl), by repeat (first | (with_reducible first | exact HB.out | apply below_alloc | apply pw_below_drewN | apply below_drew1 | refine below_set ?_ GE187.out) | exact HB.out)⟩
    ·rw [if_neg c24] at H
     exact absurd H (by simp)
   ·rw [if_neg c22] at H
    have c22b0 : (a0_0 == 3) = false := beq_eq_false_iff_ne.mpr c22
    have c22b1 : (a0_0 != 3) = true := bne_iff_ne.mpr c22
    by_cases c28 : a0_0 = 4
    ·rw [if_pos c28] at H
     have c28b0 : (a0_0 == 4) = true := beq_iff_eq.mpr c28
     have c28b1 : (a0_0 != 4) = false := bne_eq_false_iff_eq.mpr c28
     clear c28
     replace H := Option.bind_eq_some_iff.mp H
     obtain ⟨t192, A290, H⟩ := H
     replace H : (if 1 + t192.size ≤ 9223372036854775807 then (if ((⟨#[40]⟩ : ByteArray) ++ t192).size + 5 ≤ 9223372036854775807 then ((witheref6_side.f k l0_4 1).bind fun t193 => (if (((⟨#[40]⟩ : ByteArray) ++ t192) ++ (⟨#[32, 97, 110, 100, 32]⟩ : ByteArray)).size + t193.size ≤ 9223372036854775807 then (if ((((⟨#[40]⟩ : ByteArray) ++ t192) ++ (⟨#[32, 97, 110, 100, 32]⟩ : ByteArray)) ++ t193).size + 1 ≤ 9223372036854775807 then (some (((((⟨#[40]⟩ : ByteArray) ++ t192) ++ (⟨#[32, 97, 110, 100, 32]⟩ : ByteArray)) ++ t193) ++ (⟨#[41]⟩ : ByteArray))) else (none)) else (none))) else (none)) else (none)) = some r := H
     have A29 := Aside0.mk A290
     clear A290
     by_cases c30 : 1 + t192.size ≤ 9223372036854775807
     ·rw [if_pos c30] at H
      have c30b0 := eq_true c30
      have c30b1 : decide (1 + t192.size ≤ 9223372036854775807) = true := decide_eq_true c30
      try have c30b2 : (9223372036854775807 < 1 + t192.size) = False := eq_false (Nat.not_lt.2 c30)
      by_cases c31 : ((⟨#[40]⟩ : ByteArray) ++ t192).size + 5 ≤ 9223372036854775807
      ·rw [if_pos c31] at H
       have c31b0 := eq_true c31
       have c31b1 : decide (((⟨#[40]⟩ : ByteArray) ++ t192).size + 5 ≤ 9223372036854775807) = true := decide_eq_true c31
       try (have c31b1s := c31b1; simp only [ByteArray.size_append, show (⟨#[40]⟩ : ByteArray).size = 1 from rfl] at c31b1s)
       try have c31b2 : (9223372036854775807 < ((⟨#[40]⟩ : ByteArray) ++ t192).size + 5) = False := eq_false (Nat.not_lt.2 c31)
       try (have c31b2s := c31b2; simp only [ByteArray.size_append, show (⟨#[40]⟩ : ByteArray).size = 1 from rfl] at c31b2s)
       replace H := Option.bind_eq_some_iff.mp H
       obtain ⟨t193, A320, H⟩ := H
       replace H : (if (((⟨#[40]⟩ : ByteArray) ++ t192) ++ (⟨#[32, 97, 110, 100, 32]⟩ : ByteArray)).size + t193.size ≤ 9223372036854775807 then (if ((((⟨#[40]⟩ : ByteArray) ++ t192) ++ (⟨#[32, 97, 110, 100, 32]⟩ : ByteArray)) ++ t193).size + 1 ≤ 9223372036854775807 then (some (((((⟨#[40]⟩ : ByteArray) ++ t192) ++ (⟨#[32, 97, 110, 100, 32]⟩ : ByteArray)) ++ t193) ++ (⟨#[41]⟩ : ByteArray))) else (none)) else (none)) = some r := H
       have A32 := Aside0.mk A320
       clear A320
       by_cases c33 : (((⟨#[40]⟩ : ByteArray) ++ t192) ++ (⟨#[32, 97, 110, 100, 32]⟩ : ByteArray)).size + t193.size ≤ 9223372036854775807
       ·rw [if_pos c33] at H
        have c33b0 := eq_true c33
        have c33b1 : decide ((((⟨#[40]⟩ : ByteArray) ++ t192) ++ (⟨#[32, 97, 110, 100, 32]⟩ : ByteArray)).size + t193.size ≤ 9223372036854775807) = true := decide_eq_true c33
        try (have c33b1s := c33b1; simp only [ByteArray.size_append, show (⟨#[32, 97, 110, 100, 32]⟩ : ByteArray).size = 5 from rfl, show (⟨#[40]⟩ : ByteArray).size = 1 from rfl] at c33b1s)
        try have c33b2 : (9223372036854775807 < (((⟨#[40]⟩ : ByteArray) ++ t192) ++ (⟨#[32, 97, 110, 100, 32]⟩ : ByteArray)).size + t193.size) = False := eq_false (Nat.not_lt.2 c33)
        try (have c33b2s := c33b2; simp only [ByteArray.size_append, show (⟨#[32, 97, 110, 100, 32]⟩ : ByteArray).size = 5 from rfl, show (⟨#[40]⟩ : ByteArray).size = 1 from rfl] at c33b2s)
        by_cases c34 : ((((⟨#[40]⟩ : ByteArray) ++ t192) ++ (⟨#[32, 97, 110, 100, 32]⟩ : ByteArray)) ++ t193).size + 1 ≤ 9223372036854775807
        ·rw [if_pos c34] at H
         have c34b0 := eq_true c34
         have c34b1 : decide (((((⟨#[40]⟩ : ByteArray) ++ t192) ++ (⟨#[32, 97, 110, 100, 32]⟩ : ByteArray)) ++ t193).size + 1 ≤ 9223372036854775807) = true := decide_eq_true c34
         try (have c34b1s := c34b1; simp only [ByteArray.size_append, show (⟨#[32, 97, 110, 100, 32]⟩ : ByteArray).size = 5 from rfl, show (⟨#[40]⟩ : ByteArray).size = 1 from rfl] at c34b1s)
         try have c34b2 : (9223372036854775807 < ((((⟨#[40]⟩ : ByteArray) ++ t192) ++ (⟨#[32, 97, 110, 100, 32]⟩ : ByteArray)) ++ t193).size + 1) = False := eq_false (Nat.not_lt.2 c34)
         try (have c34b2s := c34b2; simp only [ByteArray.size_append, show (⟨#[32, 97, 110, 100, 32]⟩ : ByteArray).size = 5 from rfl, show (⟨#[40]⟩ : ByteArray).size = 1 from rfl] at c34b2s)
         obtain rfl := Option.some.inj H
         go_enter Tryd.func13, Tryd.ntmps13
         try go_wp2_with (first | ((with_reducible refine gate_dst (N := 1) rfl ?_); refine box_event ?hg (N := 1) ?hd (cs := #[.int .i64 a0_0, .int .i64 a0_1, .string a0_2, .int .i64 a0_3, .slice A0_4 l0_4.length c0_4]) (t := 26) ?hr ?_; (case hd => rfl); (case hg => rfl); (case hr => first | (go_simp; done) | (go_simp; rfl)); intro gb187 hg w35 hbox hb; have n0_ := Aside0.mk (below_step (by repeat (first | (with_reducible first | exact HB.out | apply below_alloc | apply pw_below_drewN | apply below_drew1) | exact HB.out)) hb); have n1_ := Aside0.mk (hbox); have n2_ := Aside0.mk ((by rw [hg]; exact (below_size (by repeat (first | (with_reducible first | exact HB.out | apply below_alloc | apply pw_below_drewN | apply below_drew1) | exact HB.out))) : w.heap.size ≤ gb187)); have n3_ := Aside0.mk ((by rw [hg]; exact (below_size (by repeat (first | (with_reducible first | exact HB.out | apply below_alloc | apply pw_below_drewN | apply below_drew1) | exact HB.out))) : w.heap.size ≤ gb187)); clear HB; have HB := n0_; have BK187 := n1_; have GW187 := n2_; have GE187 := n3_; clear n0_ n1_ n2_ n3_; clear hb hbox hg; have hcz36_0 : w35.cell? ⟨gb187, 0, none⟩ = some (.int .i64 a0_0) := (blk_cell BK187.out 0).trans rfl; have hcz36_1 : w35.cell? ⟨gb187, 1, none⟩ = some (.int .i64 a0_1) := (blk_cell BK187.out 1).trans rfl; have hcz36_2 : w35.cell? ⟨gb187, 2, none⟩ = some (.string a0_2) := (blk_cell BK187.out 2).trans rfl; have hcz36_3 : w35.cell? ⟨gb187, 3, none⟩ = some (.int .i64 a0_3) := (blk_cell BK187.out 3).trans rfl; have hcz36_4 : w35.cell? ⟨gb187, 4, none⟩ = some (.slice A0_4 l0_4.length c0_4) := (blk_cell BK187.out 4).trans rfl; have hfz36_0 := blk_frozen BK187.out 0; have hfz36_1 := blk_frozen BK187.out 1; have hfz36_2 := blk_frozen BK187.out 2; have hfz36_3 := blk_frozen BK187.out 3; have hfz36_4 := blk_frozen BK187.out 4))
         have n0_ := Aside0.mk (blk_drew BK187.out)
         have n1_ := Aside0.mk (below_drew1 HB.out)
         clear BK187
         clear HB
         have BK187 := n0_
         have HB := n1_
         clear n0_ n1_
         refine start_ (n := 11) (S := fun w' => w'.cell? ⟨gb187, 0, none⟩ = some (.int .i64 a0_0) ∧ w'.cell? ⟨gb187, 1, none⟩ = some (.int .i64 a0_1) ∧ w'.cell? ⟨gb187, 2, none⟩ = some (.string a0_2) ∧ w'.cell? ⟨gb187, 3, none⟩ = some (.int .i64 a0_3) ∧ w'.cell? ⟨gb187, 4, none⟩ = some (.slice A0_4 l0_4.length c0_4)) (ds := []) #[false, false, false, false, false, false, false, false, false, false, false] (by kernel_rfl) rfl rfl ⟨(blk_cell BK187.out 0).trans rfl, (blk_cell BK187.out 1).trans rfl, (blk_cell BK187.out 2).trans rfl, (blk_cell BK187.out 3).trans rfl, (blk_cell BK187.out 4).trans rfl⟩ (fun hHeld => ?_); refine with_tabW witheref6_Cond.tab9 witheref6_Cond.bits9 (fun HT_ HW_ => ?_)
         generalize w35.drew = w37 at BK187 HB hHeld ⊢
         refine pure_ (i := 0) (N := some 36) (v := ?_) (a' := ?_) #[true, false, false, false, false, false, false, false, false, false, false] rfl rfl (any_of HT_.out (by kernel_rfl)) (fun _ _ _ h => h) (Or.inl ⟨by rfl, ?_⟩) ?_ ?_
         rotate_left
         ·intro w'
          go_simp
          with_reducible rfl
         rotate_left
         ·simp only [Act.put, List.setIfInBounds_toArray, List.set_cons_zero, List.set_cons_succ, i64_w, i32_w]
          rfl
         refine pure_ (i := 5) (N := some 41) (v := ?_) (a' := ?_) #[true, false, false, false, false, true, false, false, false, false, false] rfl rfl (any_of HT_.out (by kernel_rfl)) (fun _ _ _ h => h) (Or.inl ⟨by rfl, ?_⟩) ?_ ?_
         rotate_left
         ·intro w'
          go_simp
          with_reducible rfl
         rotate_left
         ·simp only [Act.put, List.setIfInBounds_toArray, List.set_cons_zero, List.set_cons_succ, i64_w, i32_w]
          rfl
         refine take_ (i := 1) (N := some 37) (v := ?_) (a' := ?_) #[true, true, false, false, false, true, false, false, false, false, false] rfl rfl (take_ofW HT_.out HW_.out (by kernel_rfl)) (fun _ _ _ h => h) (Or.inl ⟨by rfl, ?_⟩) hHeld ?_ ?_
         rotate_left
         ·rintro w' ⟨s0, s1, s2, s3, s4⟩
          go_simp
          with_reducible rfl
         rotate_left
         ·simp only [Act.put, List.setIfInBounds_toArray, List.set_cons_zero, List.set_cons_succ, i64_w, i32_w]
          rfl
         refine take_ (i := 6) (N := some 42) (v := ?_) (a' := ?_) #[true, true, false, false, false, true, true, false, false, false, false] rfl rfl (take_ofW HT_.out HW_.out (by kernel_rfl)) (fun _ _ _ h => h) (Or.inl ⟨by rfl, ?_⟩) hHeld ?_ ?_
         rotate_left
         ·rintro w' ⟨s0, s1, s2, s3, s4⟩
          go_simp
          with_reducible rfl
         rotate_left
         ·simp only [Act.put, List.setIfInBounds_toArray, List.set_cons_zero, List.set_cons_succ, i64_w, i32_w]
          rfl
         refine one_ (i := 2) (N := some 38) #[true, true, true, false, false, true, true, false, false, false, false] rfl rfl (one_of HT_.out (by kernel_rfl)) (by decide) (fun K hK => ?_)
         refine goes_ Tryd.func28 (by kernel_rfl) rfl #[.slice A0_4 l0_4.length c0_4, .int .i64 0] (by rfl) rfl rfl (by (try simp only [List.map_toArray, List.map_cons, List.map_nil]); first | done | rfl | (simp only [List.length_drop, List.length_take]; rfl)) ?_
         with_reducible refine (witheref6_side.calls_of k (fun a0_0 a0_1 a0_2 a0_3 A0_4 c0_4 l0_4 r w hr0_4 hc0_4 h => ih k (Nat.lt_succ_self k) a0_0 a0_1 a0_2 a0_3 A0_4 c0_4 l0_4 r w hr0_4 hc0_4 h) _ _ l0_4 0 t192 _ ?side1 ?side2 A29.out).mono ?_
         (case side1 => repeat (first | exact (Kd.C_below HR0_4.out HB.out) | (with_reducible refine Kd.C_alloc ?_ _) | (with_reducible refine Kd.C_drewN ?_ _) | (with_reducible refine Kd.C_drew ?_)))
         (case side2 => exact HC0_4.out)
         rintro e w38 ⟨rfl, hb⟩
         refine ⟨_, rfl, ?_⟩
         have n0_ := Aside0.mk (blk_below (g := gb187) (o := .cells #[.int .i64 a0_0, .int .i64 a0_1, .string a0_2, .int .i64 a0_3, .slice A0_4 l0_4.length c0_4] 26 (0, 0)) (by (with_reducible repeat (first | refine blk_drewN ?_ _ | refine blk_drew ?_ | refine blk_alloc ?_ _)); exact BK187.out) hb)
         have n1_ := Aside0.mk (below_step (by repeat (first | (with_reducible first | exact HB.out | apply below_alloc | apply pw_below_drewN | apply below_drew1 | refine below_set ?_ GE187.out) | exact HB.out)) hb)
         clear BK187
         clear HB
         have BK187 := n0_
         have HB := n1_
         clear n0_ n1_
         (try clear hb)
         (try clear hb2)
         (try clear hk)
         (try clear hi)
         refine hK.out _ _ ⟨(blk_cell BK187.out 0).trans rfl, (blk_cell BK187.out 1).trans rfl, (blk_cell BK187.out 2).trans rfl, (blk_cell BK187.out 3).trans rfl, (blk_cell BK187.out 4).trans rfl⟩ (fun hHeld => ?_)
         clear hK K
         refine norm_ (a' := ?_) ?_ ?_
         rotate_left
         ·show Act.put _ (some 38) _ = _
          simp only [Act.put, List.setIfInBounds_toArray, List.set_cons_zero, List.set_cons_succ, i64_w, i32_w]
          rfl
         refine pure_ (i := 3) (N := some 39) (v := ?_) (a' := ?_) #[true, true, true, true, false, true, true, false, false, false, false] rfl rfl (any_of HT_.out (by kernel_rfl)) (fun _ _ _ h => h) (Or.inl ⟨by rfl, ?_⟩) ?_ ?_
         rotate_left
         ·intro w'
          go_simp
          with_reducible rfl
         rotate_left
         ·simp only [Act.put, List.setIfInBounds_toArray, List.set_cons_zero, List.set_cons_succ, i64_w, i32_w]
          rfl
         refine pure_ (i := 4) (N := some 40) (v := ?_) (a' := ?_) #[true, true, true, true, true, true, true, false, false, false, false] rfl rfl (any_of HT_.out (by kernel_rfl)) (fun _ _ _ h => h) (Or.inl ⟨by rfl, ?_⟩) ?_ ?_
         rotate_left
         ·intro w'
          go_simp
          with_reducible rfl
         rotate_left
         ·simp only [Act.put, List.setIfInBounds_toArray, List.set_cons_zero, List.set_cons_succ, i64_w, i32_w]
          rfl
         refine one_ (i := 7) (N := some 43) #[true, true, true, true, true, true, true, true, false, false, false] rfl rfl (one_of HT_.out (by kernel_rfl)) (by decide) (fun K hK => ?_)
         refine goes_ Tryd.func28 (by kernel_rfl) rfl #[.slice A0_4 l0_4.length c0_4, .int .i64 1] (by rfl) rfl rfl (by (try simp only [List.map_toArray, List.map_cons, List.map_nil]); first | done | rfl | (simp only [List.length_drop, List.length_take]; rfl)) ?_
         with_reducible refine (witheref6_side.calls_of k (fun a0_0 a0_1 a0_2 a0_3 A0_4 c0_4 l0_4 r w hr0_4 hc0_4 h => ih k (Nat.lt_succ_self k) a0_0 a0_1 a0_2 a0_3 A0_4 c0_4 l0_4 r w hr0_4 hc0_4 h) _ _ l0_4 1 t193 _ ?side1 ?side2 A32.out).mono ?_
         (case side1 => repeat (first | exact (Kd.C_below HR0_4.out HB.out) | (with_reducible refine Kd.C_alloc ?_ _) | (with_reducible refine Kd.C_drewN ?_ _) | (with_reducible refine Kd.C_drew ?_)))
         (case side2 => exact HC0_4.out)
         rintro e w39 ⟨rfl, hb⟩
         refine ⟨_, rfl, ?_⟩
         have n0_ := Aside0.mk (blk_below (g := gb187) (o := .cells #[.int .i64 a0_0, .int .i64 a0_1, .string a0_2, .int .i64 a0_3, .slice A0_4 l0_4.length c0_4] 26 (0, 0)) (by (with_reducible repeat (first | refine blk_drewN ?_ _ | refine blk_drew ?_ | refine blk_alloc ?_ _)); exact BK187.out) hb)
         have n1_ := Aside0.mk (below_step (by repeat (first | (with_reducible first | exact HB.out | apply below_alloc | apply pw_below_drewN | apply below_drew1 | refine below_set ?_ GE187.out) | exact HB.out)) hb)
         clear BK187
         clear HB
         have BK187 := n0_
         have HB := n1_
         clear n0_ n1_
         (try clear hb)
         (try clear hb2)
         (try clear hk)
         (try clear hi)
         refine hK.out _ _ ⟨(blk_cell BK187.out 0).trans rfl, (blk_cell BK187.out 1).trans rfl, (blk_cell BK187.out 2).trans rfl, (blk_cell BK187.out 3).trans rfl, (blk_cell BK187.out 4).trans rfl⟩ (fun hHeld => ?_)
         clear hK K
         refine norm_ (a' := ?_) ?_ ?_
         rotate_left
         ·show Act.put _ (some 43) _ = _
          simp only [Act.put, List.setIfInBounds_toArray, List.set_cons_zero, List.set_cons_succ, i64_w, i32_w]
          rfl
         refine pure_ (i := 8) (N := some 44) (v := ?_) (a' := ?_) #[true, true, true, true, true, true, true, true, true, false, false] rfl rfl (any_of HT_.out (by kernel_rfl)) (fun _ _ _ h => h) (Or.inl ⟨by rfl, ?_⟩) ?_ ?_
         rotate_left
         ·intro w'
          go_simp
          with_reducible rfl
         rotate_left
         ·simp only [Act.put, List.setIfInBounds_toArray, List.set_cons_zero, List.set_cons_succ, i64_w, i32_w]
          rfl
         refine pure_ (i := 9) (N := some 45) (v := ?_) (a' := ?_) #[true, true, true, true, true, true, true, true, true, true, false] rfl rfl (any_of HT_.out (by kernel_rfl)) (fun _ _ _ h => h) (Or.inl ⟨by rfl, ?_⟩) ?_ ?_
         rotate_left
         ·intro w'
          go_simp
          with_reducible rfl
         rotate_left
         ·simp only [Act.put, List.setIfInBounds_toArray, List.set_cons_zero, List.set_cons_succ, i64_w, i32_w]
          rfl
         refine pure_ (i := 10) (N := some 2) (v := ?_) (a' := ?_) #[true, true, true, true, true, true, true, true, true, true, true] rfl rfl (any_of HT_.out (by kernel_rfl)) (fun _ _ _ h => h) (Or.inl ⟨by rfl, ?_⟩) ?_ ?_
         rotate_left
         ·intro w'
          go_simp
          with_reducible rfl
         rotate_left
         ·simp only [Act.put, List.setIfInBounds_toArray, List.set_cons_zero, List.set_cons_succ, i64_w, i32_w]
          rfl
         refine done_ (done_of HT_.out (by kernel_rfl)) ?_
         try go_wp2
         go_ret
         exact ⟨by first | rfl | (simp [errW_none, errW_some] <;> rfl) | (simp [*, errW_none, errW_some] <;> rfl), by repeat (first | (with_reducible first | exact HB.out | apply below_alloc | apply pw_below_drewN | apply below_drew1 | refine below_set ?_ GE187.out) | exact HB.out)⟩
        ·rw [if_neg c34] at H
         exact absurd H (by simp)
       ·rw [if_neg c33] at H
        exact absurd H (by simp)
      ·rw [if_neg c31] at H
       exact absurd H (by simp)
     ·rw [if_neg c30] at H
      exact absurd H (by simp)
    ·rw [if_neg c28] at H
     have c28b0 : (a0_0 == 4) = false := beq_eq_false_iff_ne.mpr c28
     have c28b1 : (a0_0 != 4) = true := bne_iff_ne.mpr c28
     by_cases c40 : a0_0 = 5
     ·rw [if_pos c40] at H
      have c40b0 : (a0_0 == 5) = true := beq_iff_eq.mpr c40
      have c40b1 : (a0_0 != 5) = false := bne_eq_false_iff_eq.mpr c40
      clear c40
      replace H := Option.bind_eq_some_iff.mp H
      obtain ⟨t194, A410, H⟩ := H
      replace H : (if 1 + t194.size ≤ 9223372036854775807 then (if ((⟨#[40]⟩ : ByteArray) ++ t194).size + 4 ≤ 9223372036854775807 then ((witheref6_side.f k l0_4 1).bind fun t195 => (if (((⟨#[40]⟩ : ByteArray) ++ t194) ++ (⟨#[32, 111, 114, 32]⟩ : ByteArray)).size + t195.size ≤ 9223372036854775807 then (if ((((⟨#[40]⟩ : ByteArray) ++ t194) ++ (⟨#[32, 111, 114, 32]⟩ : ByteArray)) ++ t195).size + 1 ≤ 9223372036854775807 then (some (((((⟨#[40]⟩ : ByteArray) ++ t194) ++ (⟨#[32, 111, 114, 32]⟩ : ByteArray)) ++ t195) ++ (⟨#[41]⟩ : ByteArray))) else (none)) else (none))) else (none)) else (none)) = some r := H
      have A41 := Aside0.mk A410
      clear A410
      by_cases c42 : 1 + t194.size ≤ 9223372036854775807
      ·rw [if_pos c42] at H
       have c42b0 := eq_true c42
       have c42b1 : decide (1 + t194.size ≤ 9223372036854775807) = true := decide_eq_true c42
       try have c42b2 : (9223372036854775807 < 1 + t194.size) = False := eq_false (Nat.not_lt.2 c42)
       by_cases c43 : ((⟨#[40]⟩ : ByteArray) ++ t194).size + 4 ≤ 9223372036854775807
       ·rw [if_pos c43] at H
        have c43b0 := eq_true c43
        have c43b1 : decide (((⟨#[40]⟩ : ByteArray) ++ t194).size + 4 ≤ 9223372036854775807) = true := decide_eq_true c43
        try (have c43b1s := c43b1; simp only [ByteArray.size_append, show (⟨#[40]⟩ : ByteArray).size = 1 from rfl] at c43b1s)
        try have c43b2 : (9223372036854775807 < ((⟨#[40]⟩ : ByteArray) ++ t194).size + 4) = False := eq_false (Nat.not_lt.2 c43)
        try (have c43b2s := c43b2; simp only [ByteArray.size_append, show (⟨#[40]⟩ : ByteArray).size = 1 from rfl] at c43b2s)
        replace H := Option.bind_eq_some_iff.mp H
        obtain ⟨t195, A440, H⟩ := H
        replace H : (if (((⟨#[40]⟩ : ByteArray) ++ t194) ++ (⟨#[32, 111, 114, 32]⟩ : ByteArray)).size + t195.size ≤ 9223372036854775807 then (if ((((⟨#[40]⟩ : ByteArray) ++ t194) ++ (⟨#[32, 111, 114, 32]⟩ : ByteArray)) ++ t195).size + 1 ≤ 9223372036854775807 then (some (((((⟨#[40]⟩ : ByteArray) ++ t194) ++ (⟨#[32, 111, 114, 32]⟩ : ByteArray)) ++ t195) ++ (⟨#[41]⟩ : ByteArray))) else (none)) else (none)) = some r := H
        have A44 := Aside0.mk A440
        clear A440
        by_cases c45 : (((⟨#[40]⟩ : ByteArray) ++ t194) ++ (⟨#[32, 111, 114, 32]⟩ : ByteArray)).size + t195.size ≤ 9223372036854775807
        ·rw [if_pos c45] at H
         have c45b0 := eq_true c45
         have c45b1 : decide ((((⟨#[40]⟩ : ByteArray) ++ t194) ++ (⟨#[32, 111, 114, 32]⟩ : ByteArray)).size + t195.size ≤ 9223372036854775807) = true := decide_eq_true c45
         try (have c45b1s := c45b1; simp only [ByteArray.size_append, show (⟨#[32, 111, 114, 32]⟩ : ByteArray).size = 4 from rfl, show (⟨#[40]⟩ : ByteArray).size = 1 from rfl] at c45b1s)
         try have c45b2 : (9223372036854775807 < (((⟨#[40]⟩ : ByteArray) ++ t194) ++ (⟨#[32, 111, 114, 32]⟩ : ByteArray)).size + t195.size) = False := eq_false (Nat.not_lt.2 c45)
         try (have c45b2s := c45b2; simp only [ByteArray.size_append, show (⟨#[32, 111, 114, 32]⟩ : ByteArray).size = 4 from rfl, show (⟨#[40]⟩ : ByteArray).size = 1 from rfl] at c45b2s)
         by_cases c46 : ((((⟨#[40]⟩ : ByteArray) ++ t194) ++ (⟨#[32, 111, 114, 32]⟩ : ByteArray)) ++ t195).size + 1 ≤ 9223372036854775807
         ·rw [if_pos c46] at H
          have c46b0 := eq_true c46
          have c46b1 : decide (((((⟨#[40]⟩ : ByteArray) ++ t194) ++ (⟨#[32, 111, 114, 32]⟩ : ByteArray)) ++ t195).size + 1 ≤ 9223372036854775807) = true := decide_eq_true c46
          try (have c46b1s := c46b1; simp only [ByteArray.size_append, show (⟨#[32, 111, 114, 32]⟩ : ByteArray).size = 4 from rfl, show (⟨#[40]⟩ : ByteArray).size = 1 from rfl] at c46b1s)
          try have c46b2 : (9223372036854775807 < ((((⟨#[40]⟩ : ByteArray) ++ t194) ++ (⟨#[32, 111, 114, 32]⟩ : ByteArray)) ++ t195).size + 1) = False := eq_false (Nat.not_lt.2 c46)
          try (have c46b2s := c46b2; simp only [ByteArray.size_append, show (⟨#[32, 111, 114, 32]⟩ : ByteArray).size = 4 from rfl, show (⟨#[40]⟩ : ByteArray).size = 1 from rfl] at c46b2s)
          obtain rfl := Option.some.inj H
          go_enter Tryd.func13, Tryd.ntmps13
          try go_wp2_with (first | ((with_reducible refine gate_dst (N := 1) rfl ?_); refine box_event ?hg (N := 1) ?hd (cs := #[.int .i64 a0_0, .int .i64 a0_1, .string a0_2, .int .i64 a0_3, .slice A0_4 l0_4.length c0_4]) (t := 26) ?hr ?_; (case hd => rfl); (case hg => rfl); (case hr => first | (go_simp; done) | (go_simp; rfl)); intro gb187 hg w47 hbox hb; have n0_ := Aside0.mk (below_step (by repeat (first | (with_reducible first | exact HB.out | apply below_alloc | apply pw_below_drewN | apply below_drew1) | exact HB.out)) hb); have n1_ := Aside0.mk (hbox); have n2_ := Aside0.mk ((by rw [hg]; exact (below_size (by repeat (first | (with_reducible first | exact HB.out | apply below_alloc | apply pw_below_drewN | apply below_drew1) | exact HB.out))) : w.heap.size ≤ gb187)); have n3_ := Aside0.mk ((by rw [hg]; exact (below_size (by repeat (first | (with_reducible first | exact HB.out | apply below_alloc | apply pw_below_drewN | apply below_drew1) | exact HB.out))) : w.heap.size ≤ gb187)); clear HB; have HB := n0_; have BK187 := n1_; have GW187 := n2_; have GE187 := n3_; clear n0_ n1_ n2_ n3_; clear hb hbox hg; have hcz48_0 : w47.cell? ⟨gb187, 0, none⟩ = some (.int .i64 a0_0) := (blk_cell BK187.out 0).trans rfl; have hcz48_1 : w47.cell? ⟨gb187, 1, none⟩ = some (.int .i64 a0_1) := (blk_cell BK187.out 1).trans rfl; have hcz48_2 : w47.cell? ⟨gb187, 2, none⟩ = some (.string a0_2) := (blk_cell BK187.out 2).trans rfl; have hcz48_3 : w47.cell? ⟨gb187, 3, none⟩ = some (.int .i64 a0_3) := (blk_cell BK187.out 3).trans rfl; have hcz48_4 : w47.cell? ⟨gb187, 4, none⟩ = some (.slice A0_4 l0_4.length c0_4) := (blk_cell BK187.out 4).trans rfl; have hfz48_0 := blk_frozen BK187.out 0; have hfz48_1 := blk_frozen BK187.out 1; have hfz48_2 := blk_frozen BK187.out 2; have hfz48_3 := blk_frozen BK187.out 3; have hfz48_4 := blk_frozen BK187.out 4))
          have n0_ := Aside0.mk (blk_drew BK187.out)
          have n1_ := Aside0.mk (below_drew1 HB.out)
          clear BK187
          clear HB
          have BK187 := n0_
          have HB := n1_
          clear n0_ n1_
          refine start_ (n := 11) (S := fun w' => w'.cell? ⟨gb187, 0, none⟩ = some (.int .i64 a0_0) ∧ w'.cell? ⟨gb187, 1, none⟩ = some (.int .i64 a0_1) ∧ w'.cell? ⟨gb187, 2, none⟩ = some (.string a0_2) ∧ w'.cell? ⟨gb187, 3, none⟩ = some (.int .i64 a0_3) ∧ w'.cell? ⟨gb187, 4, none⟩ = some (.slice A0_4 l0_4.length c0_4)) (ds := []) #[false, false, false, false, false, false, false, false, false, false, false] (by kernel_rfl) rfl rfl ⟨(blk_cell BK187.out 0).trans rfl, (blk_cell BK187.out 1).trans rfl, (blk_cell BK187.out 2).trans rfl, (blk_cell BK187.out 3).trans rfl, (blk_cell BK187.out 4).trans rfl⟩ (fun hHeld => ?_); refine with_tabW witheref6_Cond.tab11 witheref6_Cond.bits11 (fun HT_ HW_ => ?_)
          generalize w47.drew = w49 at BK187 HB hHeld ⊢
          refine pure_ (i := 0) (N := some 48) (v := ?_) (a' := ?_) #[true, false, false, false, false, false, false, false, false, false, false] rfl rfl (any_of HT_.out (by kernel_rfl)) (fun _ _ _ h => h) (Or.inl ⟨by rfl, ?_⟩) ?_ ?_
          rotate_left
          ·intro w'
           go_simp
           with_reducible rfl
          rotate_left
          ·simp only [Act.put, List.setIfInBounds_toArray, List.set_cons_zero, List.set_cons_succ, i64_w, i32_w]
           rfl
          refine pure_ (i := 5) (N := some 53) (v := ?_) (a' := ?_) #[true, false, false, false, false, true, false, false, false, false, false] rfl rfl (any_of HT_.out (by kernel_rfl)) (fun _ _ _ h => h) (Or.inl ⟨by rfl, ?_⟩) ?_ ?_
          rotate_left
          ·intro w'
           go_simp
           with_reducible rfl
          rotate_left
          ·simp only [Act.put, List.setIfInBounds_toArray, List.set_cons_zero, List.set_cons_succ, i64_w, i32_w]
           rfl
          refine take_ (i := 1) (N := some 49) (v := ?_) (a' := ?_) #[true, true, false, false, false, true, false, false, false, false, false] rfl rfl (take_ofW HT_.out HW_.out (by kernel_rfl)) (fun _ _ _ h => h) (Or.inl ⟨by rfl, ?_⟩) hHeld ?_ ?_
          rotate_left
          ·rintro w' ⟨s0, s1, s2, s3, s4⟩
           go_simp
           with_reducible rfl
          rotate_left
          ·simp only [Act.put, List.setIfInBounds_toArray, List.set_cons_zero, List.set_cons_succ, i64_w, i32_w]
           rfl
          refine take_ (i := 6) (N := some 54) (v := ?_) (a' := ?_) #[true, true, false, false, false, true, true, false, false, false, false] rfl rfl (take_ofW HT_.out HW_.out (by kernel_rfl)) (fun _ _ _ h => h) (Or.inl ⟨by rfl, ?_⟩) hHeld ?_ ?_
          rotate_left
          ·rintro w' ⟨s0, s1, s2, s3, s4⟩
           go_simp
           with_reducible rfl
          rotate_left
          ·simp only [Act.put, List.setIfInBounds_toArray, List.set_cons_zero, List.set_cons_succ, i64_w, i32_w]
           rfl
          refine one_ (i := 2) (N := some 50) #[true, true, true, false, false, true, true, false, false, false, false] rfl rfl (one_of HT_.out (by kernel_rfl)) (by decide) (fun K hK => ?_)
          refine goes_ Tryd.func28 (by kernel_rfl) rfl #[.slice A0_4 l0_4.length c0_4, .int .i64 0] (by rfl) rfl rfl (by (try simp only [List.map_toArray, List.map_cons, List.map_nil]); first | done | rfl | (simp only [List.length_drop, List.length_take]; rfl)) ?_
          with_reducible refine (witheref6_side.calls_of k (fun a0_0 a0_1 a0_2 a0_3 A0_4 c0_4 l0_4 r w hr0_4 hc0_4 h => ih k (Nat.lt_succ_self k) a0_0 a0_1 a0_2 a0_3 A0_4 c0_4 l0_4 r w hr0_4 hc0_4 h) _ _ l0_4 0 t194 _ ?side1 ?side2 A41.out).mono ?_
          (case side1 => repeat (first | exact (Kd.C_below HR0_4.out HB.out) | (with_reducible refine Kd.C_alloc ?_ _) | (with_reducible refine Kd.C_drewN ?_ _) | (with_reducible refine Kd.C_drew ?_)))
          (case side2 => exact HC0_4.out)
          rintro e w50 ⟨rfl, hb⟩
          refine ⟨_, rfl, ?_⟩
          have n0_ := Aside0.mk (blk_below (g := gb187) (o := .cells #[.int .i64 a0_0, .int .i64 a0_1, .string a0_2, .int .i64 a0_3, .slice A0_4 l0_4.length c0_4] 26 (0, 0)) (by (with_reducible repeat (first | refine blk_drewN ?_ _ | refine blk_drew ?_ | refine blk_alloc ?_ _)); exact BK187.out) hb)
          have n1_ := Aside0.mk (below_step (by repeat (first | (with_reducible first | exact HB.out | apply below_alloc | apply pw_below_drewN | apply below_drew1 | refine below_set ?_ GE187.out) | exact HB.out)) hb)
          clear BK187
          clear HB
          have BK187 := n0_
          have HB := n1_
          clear n0_ n1_
          (try clear hb)
          (try clear hb2)
          (try clear hk)
          (try clear hi)
          refine hK.out _ _ ⟨(blk_cell BK187.out 0).trans rfl, (blk_cell BK187.out 1).trans rfl, (blk_cell BK187.out 2).trans rfl, (blk_cell BK187.out 3).trans rfl, (blk_cell BK187.out 4).trans rfl⟩ (fun hHeld => ?_)
          clear hK K
          refine norm_ (a' := ?_) ?_ ?_
          rotate_left
          ·show Act.put _ (some 50) _ = _
           simp only [Act.put, List.setIfInBounds_toArray, List.set_cons_zero, List.set_cons_succ, i64_w, i32_w]
           rfl
          refine pure_ (i := 3) (N := some 51) (v := ?_) (a' := ?_) #[true, true, true, true, false, true, true, false, false, false, false] rfl rfl (any_of HT_.out (by kernel_rfl)) (fun _ _ _ h => h) (Or.inl ⟨by rfl, ?_⟩) ?_ ?_
          rotate_left
          ·intro w'
           go_simp
           with_reducible rfl
          rotate_left
          ·simp only [Act.put, List.setIfInBounds_toArray, List.set_cons_zero, List.set_cons_succ, i64_w, i32_w]
           rfl
          refine pure_ (i := 4) (N := some 52) (v := ?_) (a' := ?_) #[true, true, true, true, true, true, true, false, false, false, false] rfl rfl (any_of HT_.out (by kernel_rfl)) (fun _ _ _ h => h) (Or.inl ⟨by rfl, ?_⟩) ?_ ?_
          rotate_left
          ·intro w'
           go_simp
           with_reducible rfl
          rotate_left
          ·simp only [Act.put, List.setIfInBounds_toArray, List.set_cons_zero, List.set_cons_succ, i64_w, i32_w]
           rfl
          refine one_ (i := 7) (N := some 55) #[true, true, true, true, true, true, true, true, false, false, false] rfl rfl (one_of HT_.out (by kernel_rfl)) (by decide) (fun K hK => ?_)
          refine goes_ Tryd.func28 (by kernel_rfl) rfl #[.slice A0_4 l0_4.length c0_4, .int .i64 1] (by rfl) rfl rfl (by (try simp only [List.map_toArray, List.map_cons, List.map_nil]); first | done | rfl | (simp only [List.length_drop, List.length_take]; rfl)) ?_
          with_reducible refine (witheref6_side.calls_of k (fun a0_0 a0_1 a0_2 a0_3 A0_4 c0_4 l0_4 r w hr0_4 hc0_4 h => ih k (Nat.lt_succ_self k) a0_0 a0_1 a0_2 a0_3 A0_4 c0_4 l0_4 r w hr0_4 hc0_4 h) _ _ l0_4 1 t195 _ ?side1 ?side2 A44.out).mono ?_
          (case side1 => repeat (first | exact (Kd.C_below HR0_4.out HB.out) | (with_reducible refine Kd.C_alloc ?_ _) | (with_reducible refine Kd.C_drewN ?_ _) | (with_reducible refine Kd.C_drew ?_)))
          (case side2 => exact HC0_4.out)
          rintro e w51 ⟨rfl, hb⟩
          refine ⟨_, rfl, ?_⟩
          have n0_ := Aside0.mk (blk_below (g := gb187) (o := .cells #[.int .i64 a0_0, .int .i64 a0_1, .string a0_2, .int .i64 a0_3, .slice A0_4 l0_4.length c0_4] 26 (0, 0)) (by (with_reducible repeat (first | refine blk_drewN ?_ _ | refine blk_drew ?_ | refine blk_alloc ?_ _)); exact BK187.out) hb)
          have n1_ := Aside0.mk (below_step (by repeat (first | (with_reducible first | exact HB.out | apply below_alloc | apply pw_below_drewN | apply below_drew1 | refine below_set ?_ GE187.out) | exact HB.out)) hb)
          clear BK187
          clear HB
          have BK187 := n0_
          have HB := n1_
          clear n0_ n1_
          (try clear hb)
          (try clear hb2)
          (try clear hk)
          (try clear hi)
          refine hK.out _ _ ⟨(blk_cell BK187.out 0).trans rfl, (blk_cell BK187.out 1).trans rfl, (blk_cell BK187.out 2).trans rfl, (blk_cell BK187.out 3).trans rfl, (blk_cell BK187.out 4).trans rfl⟩ (fun hHeld => ?_)
          clear hK K
          refine norm_ (a' := ?_) ?_ ?_
          rotate_left
          ·show Act.put _ (some 55) _ = _
           simp only [Act.put, List.setIfInBounds_toArray, List.set_cons_zero, List.set_cons_succ, i64_w, i32_w]
           rfl
          refine pure_ (i := 8) (N := some 56) (v := ?_) (a' := ?_) #[true, true, true, true, true, true, true, true, true, false, false] rfl rfl (any_of HT_.out (by kernel_rfl)) (fun _ _ _ h => h) (Or.inl ⟨by rfl, ?_⟩) ?_ ?_
          rotate_left
          ·intro w'
           go_simp
           with_reducible rfl
          rotate_left
          ·simp only [Act.put, List.setIfInBounds_toArray, List.set_cons_zero, List.set_cons_succ, i64_w, i32_w]
           rfl
          refine pure_ (i := 9) (N := some 57) (v := ?_) (a' := ?_) #[true, true, true, true, true, true, true, true, true, true, false] rfl rfl (any_of HT_.out (by kernel_rfl)) (fun _ _ _ h => h) (Or.inl ⟨by rfl, ?_⟩) ?_ ?_
          rotate_left
          ·intro w'
           go_simp
           with_reducible rfl
          rotate_left
          ·simp only [Act.put, List.setIfInBounds_toArray, List.set_cons_zero, List.set_cons_succ, i64_w, i32_w]
           rfl
          refine pure_ (i := 10) (N := some 2) (v := ?_) (a' := ?_) #[true, true, true, true, true, true, true, true, true, true, true] rfl rfl (any_of HT_.out (by kernel_rfl)) (fun _ _ _ h => h) (Or.inl ⟨by rfl, ?_⟩) ?_ ?_
          rotate_left
          ·intro w'
           go_simp
           with_reducible rfl
          rotate_left
          ·simp only [Act.put, List.setIfInBounds_toArray, List.set_cons_zero, List.set_cons_succ, i64_w, i32_w]
           rfl
          refine done_ (done_of HT_.out (by kernel_rfl)) ?_
          try go_wp2
          go_ret
          exact ⟨by first | rfl | (simp [errW_none, errW_some] <;> rfl) | (simp [*, errW_none, errW_some] <;> rfl), by repeat (first | (with_reducible first | exact HB.out | apply below_alloc | apply pw_below_drewN | apply below_drew1 | refine below_set ?_ GE187.out) | exact HB.out)⟩
         ·rw [if_neg c46] at H
          exact absurd H (by simp)
        ·rw [if_neg c45] at H
         exact absurd H (by simp)
       ·rw [if_neg c43] at H
        exact absurd H (by simp)
      ·rw [if_neg c42] at H
       exact absurd H (by simp)
     ·rw [if_neg c40] at H
      have c40b0 : (a0_0 == 5) = false := beq_eq_false_iff_ne.mpr c40
      have c40b1 : (a0_0 != 5) = true := bne_iff_ne.mpr c40
      obtain rfl := Option.some.inj H
      go_enter Tryd.func13, Tryd.ntmps13
      go_wp2_with (first | ((with_reducible refine gate_dst (N := 1) rfl ?_); refine box_event ?hg (N := 1) ?hd (cs := #[.int .i64 a0_0, .int .i64 a0_1, .string a0_2, .int .i64 a0_3, .slice A0_4 l0_4.length c0_4]) (t := 26) ?hr ?_; (case hd => rfl); (case hg => rfl); (case hr => first | (go_simp; done) | (go_simp; rfl)); intro gb187 hg w52 hbox hb; have n0_ := Aside0.mk (below_step (by repeat (first | (with_reducible first | exact HB.out | apply below_alloc | apply pw_below_drewN | apply below_drew1) | exact HB.out)) hb); have n1_ := Aside0.mk (hbox); have n2_ := Aside0.mk ((by rw [hg]; exact (below_size (by repeat (first | (with_reducible first | exact HB.out | apply below_alloc | apply pw_below_drewN | apply below_drew1) | exact HB.out))) : w.heap.size ≤ gb187)); have n3_ := Aside0.mk ((by rw [hg]; exact (below_size (by repeat (first | (with_reducible first | exact HB.out | apply below_alloc | apply pw_below_drewN | apply below_drew1) | exact HB.out))) : w.heap.size ≤ gb187)); clear HB; have HB := n0_; have BK187 := n1_; have GW187 := n2_; have GE187 := n3_; clear n0_ n1_ n2_ n3_; clear hb hbox hg; have hcz53_0 : w52.cell? ⟨gb187, 0, none⟩ = some (.int .i64 a0_0) := (blk_cell BK187.out 0).trans rfl; have hcz53_1 : w52.cell? ⟨gb187, 1, none⟩ = some (.int .i64 a0_1) := (blk_cell BK187.out 1).trans rfl; have hcz53_2 : w52.cell? ⟨gb187, 2, none⟩ = some (.string a0_2) := (blk_cell BK187.out 2).trans rfl; have hcz53_3 : w52.cell? ⟨gb187, 3, none⟩ = some (.int .i64 a0_3) := (blk_cell BK187.out 3).trans rfl; have hcz53_4 : w52.cell? ⟨gb187, 4, none⟩ = some (.slice A0_4 l0_4.length c0_4) := (blk_cell BK187.out 4).trans rfl; have hfz53_0 := blk_frozen BK187.out 0; have hfz53_1 := blk_frozen BK187.out 1; have hfz53_2 := blk_frozen BK187.out 2; have hfz53_3 := blk_frozen BK187.out 3; have hfz53_4 := blk_frozen BK187.out 4))
      go_ret
      exact ⟨by first | rfl | (simp [errW_none, errW_some] <;> rfl) | (simp [*, errW_none, errW_some] <;> rfl), by repeat (first | (with_reducible first | exact HB.out | apply below_alloc | apply pw_below_drewN | apply below_drew1 | refine below_set ?_ GE187.out) | exact HB.out)⟩

theorem witheref6_side.calls (k : Nat) (A0 : Option Addr) (c0 : Nat) (l0 : List (S26)) (a1 : Int) (r : ByteArray) (w : World) (hr0 : Kd.C k26 w A0 l0.length l0) (hc0 : l0.length ≤ c0) (h : witheref6_side.f k l0 a1 = some r) :
 Calls Tryd.prog 28 #[.slice A0 l0.length c0, .int .i64 a1] w fun e w' => e = .returned (.string r) ∧ Below w.heap.size w w' := witheref6_side.calls_of k (fun a0_0 a0_1 a0_2 a0_3 A0_4 c0_4 l0_4 r w hr0_4 hc0_4 h => witheref6_Cond.calls k a0_0 a0_1 a0_2 a0_3 A0_4 c0_4 l0_4 r w hr0_4 hc0_4 h) A0 c0 l0 a1 r w hr0 hc0 h
end Go.Proofs.YtpldhihdlgghlaaDoor.PS
