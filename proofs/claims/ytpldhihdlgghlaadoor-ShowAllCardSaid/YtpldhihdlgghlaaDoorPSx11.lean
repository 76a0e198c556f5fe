-- made by fvprint.py over the kit's print
import Derived.Test.YtpldhihdlgghlaaDoorPSx0
import Derived.Test.YtpldhihdlgghlaaDoorPSx8
namespace Go.Proofs.YtpldhihdlgghlaaDoor.PS
open Go.RowKit Go.Proofs.YtpldhihdlgghlaaDoorW.PrintWords Go.Proofs.YtpldhihdlgghlaaDoorW.PrintLast Go.Proofs.YtpldhihdlgghlaaDoorW.PrintMore
attribute [local go_sem] max2_int min2_int max_two min_two max_three min_three max_four min_four   -- for this text's walks alone
set_option linter.unusedVariables false
set_option linter.unusedSimpArgs false

attribute [local go_sem] cell_set_some
/-! ### witheref6_Expr: function 11 -/
def witheref6_kid.b (F_ : Int → Int → ByteArray → List (S31) → Option (ByteArray)) (l0 : List (S31)) (a1 : Int) : Option (ByteArray) := if a1 ≥ (l0.length : Int) then (some (⟨#[]⟩ : ByteArray)) else (if 0 ≤ a1 then (if a1 < (l0.length : Int) then ((F_ ((rd_T31 l0 a1).f0) ((rd_T31 l0 a1).f1) ((rd_T31 l0 a1).f2) ((rd_T31 l0 a1).f3)).bind fun t197 => (some t197)) else (none)) else (none))
def witheref6_Expr.f : Nat → Int → Int → ByteArray → List (S31) → Option (ByteArray)
 | 0, _, _, _, _ => none
 | k + 1, a0_0, a0_1, a0_2, l0_3 => if a0_0 = 1 then ((witheref6_Digits.f k a0_1).bind fun t199 => (some t199)) else (if a0_0 = 2 then (some a0_2) else (if a0_0 = 3 then ((witheref6_kid.b (witheref6_Expr.f k) l0_3 0).bind fun t200 => (if 1 + t200.size ≤ 9223372036854775807 then (if ((⟨#[40]⟩ : ByteArray) ++ t200).size + 3 ≤ 9223372036854775807 then ((witheref6_kid.b (witheref6_Expr.f k) l0_3 1).bind fun t201 => (if (((⟨#[40]⟩ : ByteArray) ++ t200) ++ (⟨#[32, 43, 32]⟩ : ByteArray)).size + t201.size ≤ 9223372036854775807 then (if ((((⟨#[40]⟩ : ByteArray) ++ t200) ++ (⟨#[32, 43, 32]⟩ : ByteArray)) ++ t201).size + 1 ≤ 9223372036854775807 then (some (((((⟨#[40]⟩ : ByteArray) ++ t200) ++ (⟨#[32, 43, 32]⟩ : ByteArray)) ++ t201) ++ (⟨#[41]⟩ : ByteArray))) else (none)) else (none))) else (none)) else (none))) else (if a0_0 = 4 then ((witheref6_kid.b (witheref6_Expr.f k) l0_3 0).bind fun t202 => (if 1 + t202.size ≤ 9223372036854775807 then (if ((⟨#[40]⟩ : ByteArray) ++ t202).size + 3 ≤ 9223372036854775807 then ((witheref6_kid.b (witheref6_Expr.f k) l0_3 1).bind fun t203 => (if (((⟨#[40]⟩ : ByteArray) ++ t202) ++ (⟨#[32, 45, 32]⟩ : ByteArray)).size + t203.size ≤ 9223372036854775807 then (if ((((⟨#[40]⟩ : ByteArray) ++ t202) ++ (⟨#[32, 45, 32]⟩ : ByteArray)) ++ t203).size + 1 ≤ 9223372036854775807 then (some (((((⟨#[40]⟩ : ByteArray) ++ t202) ++ (⟨#[32, 45, 32]⟩ : ByteArray)) ++ t203) ++ (⟨#[41]⟩ : ByteArray))) else (none)) else (none))) else (none)) else (none))) else (if a0_0 = 5 then ((witheref6_kid.b (witheref6_Expr.f k) l0_3 0).bind fun t204 => (if 1 + t204.size ≤ 9223372036854775807 then (if ((⟨#[40]⟩ : ByteArray) ++ t204).size + 4 ≤ 9223372036854775807 then ((witheref6_kid.b (witheref6_Expr.f k) l0_3 1).bind fun t205 => (if (((⟨#[40]⟩ : ByteArray) ++ t204) ++ (⟨#[32, 61, 61, 32]⟩ : ByteArray)).size + t205.size ≤ 9223372036854775807 then (if ((((⟨#[40]⟩ : ByteArray) ++ t204) ++ (⟨#[32, 61, 61, 32]⟩ : ByteArray)) ++ t205).size + 1 ≤ 9223372036854775807 then (some (((((⟨#[40]⟩ : ByteArray) ++ t204) ++ (⟨#[32, 61, 61, 32]⟩ : ByteArray)) ++ t205) ++ (⟨#[41]⟩ : ByteArray))) else (none)) else (none))) else (none)) else (none))) else (if a0_0 = 6 then ((witheref6_kid.b (witheref6_Expr.f k) l0_3 0).bind fun t206 => (if 1 + t206.size ≤ 9223372036854775807 then (if ((⟨#[40]⟩ : ByteArray) ++ t206).size + 3 ≤ 9223372036854775807 then ((witheref6_kid.b (witheref6_Expr.f k) l0_3 1).bind fun t207 => (if (((⟨#[40]⟩ : ByteArray) ++ t206) ++ (⟨#[32, 60, 32]⟩ : ByteArray)).size + t207.size ≤ 9223372036854775807 then (if ((((⟨#[40]⟩ : ByteArray) ++ t206) ++ (⟨#[32, 60, 32]⟩ : ByteArray)) ++ t207).size + 1 ≤ 9223372036854775807 then (some (((((⟨#[40]⟩ : ByteArray) ++ t206) ++ (⟨#[32, 60, 32]⟩ : ByteArray)) ++ t207) ++ (⟨#[41]⟩ : ByteArray))) else (none)) else (none))) else (none)) else (none))) else (some (⟨#[]⟩ : ByteArray)))))))
def witheref6_kid.f (k : Nat) (l0 : List (S31)) (a1 : Int) : Option (ByteArray) := witheref6_kid.b (witheref6_Expr.f k) l0 a1
theorem witheref6_kid.mono_of (k : Nat) (IH_ : ∀ y0 y1 y2 y3, LeO (witheref6_Expr.f k y0 y1 y2 y3) (witheref6_Expr.f (k + 1) y0 y1 y2 y3)) : ∀ l0 a1, LeO (witheref6_kid.f k l0 a1) (witheref6_kid.f (k + 1) l0 a1) := by
 intro l0 a1
 unfold witheref6_kid.f witheref6_kid.b
 repeat' first
  | (with_reducible exact IH_ _ _ _ _)
  | (with_reducible exact LeO.refl _)
  | (with_reducible exact LeO.none _)
  | (with_reducible refine LeO.ite ?_ ?_)
  | (with_reducible refine LeO.bind ?_ (fun _ => ?_))
  | exact IH_ _ _ _ _
  | exact LeO.none _
  | refine LeO.ite ?_ ?_
  | refine LeO.bind ?_ (fun _ => ?_)
theorem witheref6_Expr.mono_l : ∀ k, (∀ y0 y1 y2 y3, LeO (witheref6_Expr.f k y0 y1 y2 y3) (witheref6_Expr.f (k + 1) y0 y1 y2 y3))
 | 0 => fun _ _ _ _ r h => by simp [witheref6_Expr.f] at h
 | k + 1 => by
  have ih0 := witheref6_Expr.mono_l k
  ·intro y0 y1 y2 y3
   unfold witheref6_Expr.f
   repeat' first
   | (with_reducible exact ih0 _ _ _ _)
   | (with_reducible exact witheref6_Digits.mono _ _)
   | (with_reducible exact witheref6_kid.mono_of k ih0 _ _)
   | (with_reducible exact LeO.refl _)
   | (with_reducible exact LeO.none _)
   | (with_reducible refine LeO.ite ?_ ?_)
   | (with_reducible refine LeO.bind ?_ (fun _ => ?_))
   | exact ih0 _ _ _ _
   | exact witheref6_Digits.mono _ _
   | exact witheref6_kid.mono_of k ih0 _ _
   | exact LeO.none _
   | refine LeO.ite ?_ ?_
   | refine LeO.bind ?_ (fun _ => ?_)
theorem witheref6_Expr.mono : ∀ a0 a1 a2 a3 k, LeO (witheref6_Expr.f k a0 a1 a2 a3) (witheref6_Expr.f (k + 1) a0 a1 a2 a3) := by
 intro a0 a1 a2 a3 k
 have ih0 := witheref6_Expr.mono_l k
 exact ih0 a0 a1 a2 a3
def witheref6_Expr.T16 : Bool × List (List Nat × List Nat) := (true, [([], []), ([0], [0]), ([1], [1]), ([2], [2]), ([], []), ([3, 4], [3, 4]), ([], []), ([6], [6]), ([7, 2], [7]), ([5, 8], [5, 8]), ([9], [9]), ([10, 8, 0, 1, 2, 3, 4, 5, 6, 7, 8, 9, 10], [10])])
def witheref6_Expr.B16 : List Nat := [0, 1, 3, 7, 0, 31, 0, 64, 199, 511, 1023, 2047]
theorem witheref6_Expr.tab16 : rtab .any (opsOf Tryd.f11 16) = witheref6_Expr.T16 := by kernel_rfl
theorem witheref6_Expr.bits16 : waitsOk witheref6_Expr.T16.2 witheref6_Expr.B16 = true := by kernel_rfl
theorem witheref6_kid.mono : ∀ l0 a1 k, LeO (witheref6_kid.f k l0 a1) (witheref6_kid.f (k + 1) l0 a1) := fun l0 a1 k => witheref6_kid.mono_of k (fun y0 y1 y2 y3 => witheref6_Expr.mono y0 y1 y2 y3 k) l0 a1
abbrev witheref6_Expr.At (k : Nat) : Prop := ∀ (a0_0 : Int) (a0_1 : Int) (a0_2 : ByteArray) (A0_3 : Option Addr) (c0_3 : Nat) (l0_3 : List (S31)) (r : ByteArray) (w : World) (hr0_3 : Kd.C k31 w A0_3 l0_3.length l0_3) (hc0_3 : l0_3.length ≤ c0_3) (h : witheref6_Expr.f k a0_0 a0_1 a0_2 l0_3 = some r), Calls Tryd.prog 11 #[.agg #[.int .i64 a0_0, .int .i64 a0_1, .string a0_2, .slice A0_3 l0_3.length c0_3]] w fun e w' => e = .returned (.string r) ∧ Below w.heap.size w w'
set_option maxHeartbeats 8000000 in
set_option maxRecDepth 100000 in
theorem witheref6_kid.calls_of (k : Nat) (IH : witheref6_Expr.At k) (A0 : Option Addr) (c0 : Nat) (l0 : List (S31)) (a1 : Int) (r : ByteArray) (w : World) (hr0 : Kd.C k31 w A0 l0.length l0) (hc0 : l0.length ≤ c0) (h : witheref6_kid.f k l0 a1 = some r) :
 Calls Tryd.prog 25 #[.slice A0 l0.length c0, .int .i64 a1] w fun e w' => e = .returned (.string r) ∧ Below w.heap.size w w' := by
 have hu31 := Tryd.underlying31
 have HR0 := Aside0.mk hr0
 have HC0 := Aside0.mk hc0
 clear hr0 hc0
 have HB := Aside0.mk (Below.refl w.heap.size w)
 have H : (if a1 ≥ (l0.length : Int) then (some (⟨#[]⟩ : ByteArray)) else (if 0 ≤ a1 then (if a1 < (l0.length : Int) then ((witheref6_Expr.f k ((rd_T31 l0 a1).f0) ((rd_T31 l0 a1).f1) ((rd_T31 l0 a1).f2) ((rd_T31 l0 a1).f3)).bind fun t197 => (some t197)) else (none)) else (none))) = some r := h
 clear h
 by_cases c3 : a1 ≥ (l0.length : Int)
 ·rw [if_pos c3] at H
  have c3b0 : decide ((l0.length : Int) ≤ a1) = true := decide_eq_true c3
  clear c3
  obtain rfl := Option.some.inj H
  go_enter Tryd.func25, Tryd.ntmps25
  go_wp2
  go_ret
  exact ⟨by first | rfl | (simp [errW_none, errW_some] <;> rfl) | (simp [*, errW_none, errW_some] <;> rfl), by repeat (first | (with_reducible first | exact HB.out | apply below_alloc | apply pw_below_drewN | apply below_drew1) | exact HB.out)⟩
 ·rw [if_neg c3] at H
  have c3b0 : decide ((l0.length : Int) ≤ a1) = false := decide_eq_false c3
  clear c3
  by_cases c4 : 0 ≤ a1
  ·rw [if_pos c4] at H
   have c4b0 : decide (0 ≤ a1) = true := decide_eq_true c4
   clear c4
   by_cases c5 : a1 < (l0.length : Int)
   ·rw [if_pos c5] at H
    have c5b0 : decide (a1 < (l0.length : Int)) = true := decide_eq_true c5
    clear c5
    replace H := Option.bind_eq_some_iff.mp H
    obtain ⟨t197, A60, H⟩ := H
    replace H : (some t197) = some r := H
    have A6 := Aside0.mk A60
    clear A60
    obtain rfl := Option.some.inj H
    have p196 : 0 ≤ (a1 : Int) := of_decide_eq_true (by first | (with_reducible assumption) | assumption)
    have q196 : a1 < (l0.length : Int) := of_decide_eq_true (by first | (with_reducible assumption) | assumption)
    obtain ⟨ad196, A196_3, c196_3, e196, hx196_0, hx196_1, hx196_2, hx196_3, hl196_3, hi196_3⟩ := at_T31 HR0.out a1 p196 q196
    cases e196
    have HR196_3 := Aside0.mk hi196_3
    have HC196_3 := Aside0.mk hl196_3
    clear hi196_3 hl196_3
    replace p196 := eq_true p196
    replace q196 := eq_true q196
    go_enter Tryd.func25, Tryd.ntmps25
    go_wp2_with (first | ((with_reducible refine gate_callee (f := 11) rfl ?_); refine goesL_ (some 13) rfl rfl Tryd.func11 (by kernel_rfl) rfl #[.agg #[.int .i64 ((rd_T31 l0 a1).f0), .int .i64 ((rd_T31 l0 a1).f1), .string ((rd_T31 l0 a1).f2), .slice A196_3 ((rd_T31 l0 a1).f3).length c196_3]] rfl (by (try simp only [List.map_toArray, List.map_cons, List.map_nil]); first | done | rfl | (simp only [List.length_drop, List.length_take]; rfl)) ?_; (with_reducible refine (IH ((rd_T31 l0 a1).f0) ((rd_T31 l0 a1).f1) ((rd_T31 l0 a1).f2) _ _ ((rd_T31 l0 a1).f3) t197 _ ?side1 ?side2 A6.out).mono ?_); (case side1 => repeat (first | exact HR196_3.out | (with_reducible refine Kd.C_alloc ?_ _) | (with_reducible refine Kd.C_drewN ?_ _) | (with_reducible refine Kd.C_drew ?_))); (case side2 => exact HC196_3.out); rintro e w7 ⟨rfl, hb⟩; refine ⟨_, rfl, ?_⟩; have n0_ := Aside0.mk (below_step (by repeat (first | (with_reducible first | exact HB.out | apply below_alloc | apply pw_below_drewN | apply below_drew1) | exact HB.out)) hb); clear HB; have HB := n0_; clear n0_; (try clear hb); (try clear hb2); (try clear hk); (try clear hi)))
    go_ret
    exact ⟨by first | rfl | (simp [errW_none, errW_some] <;> rfl) | (simp [*, errW_none, errW_some] <;> rfl), by repeat (first | (with_reducible first | exact HB.out | apply below_alloc | apply pw_below_drewN | apply below_drew1) | exact HB.out)⟩
   ·rw [if_neg c5] at H
    exact absurd H (by simp)
  ·rw [if_neg c4] at H
   exact absurd H (by simp)

set_option maxHeartbeats 8000000 in
set_option maxRecDepth 100000 in
theorem witheref6_Expr.calls (k : Nat) : ∀ (a0_0 : Int) (a0_1 : Int) (a0_2 : ByteArray) (A0_3 : Option Addr) (c0_3 : Nat) (l0_3 : List (S31)) (r : ByteArray) (w : World) (hr0_3 : Kd.C k31 w A0_3 l0_3.length l0_3) (hc0_3 : l0_3.length ≤ c0_3) (h : witheref6_Expr.f k a0_0 a0_1 a0_2 l0_3 = some r),
 Calls Tryd.prog 11 #[.agg #[.int .i64 a0_0, .int .i64 a0_1, .string a0_2, .slice A0_3 l0_3.length c0_3]] w fun e w' => e = .returned (.string r) ∧ Below w.heap.size w w' := by
 induction k using Nat.strongRecOn with
 | _ k ih =>
 intro a0_0 a0_1 a0_2 A0_3 c0_3 l0_3 r w hr0_3 hc0_3 h
 cases k with
 | zero => exact absurd h (by simp [witheref6_Expr.f])
 | succ k =>
 simp only [witheref6_Expr.f] at h
 have hu31 := Tryd.underlying31
 have HR0_3 := Aside0.mk hr0_3
 have HC0_3 := Aside0.mk hc0_3
 clear hr0_3 hc0_3
 have HB := Aside0.mk (Below.refl w.heap.size w)
 have H : (if a0_0 = 1 then ((witheref6_Digits.f k a0_1).bind fun t199 => (some t199)) else (if a0_0 = 2 then (some a0_2) else (if a0_0 = 3 then ((witheref6_kid.f k l0_3 0).bind fun t200 => (if 1 + t200.size ≤ 9223372036854775807 then (if ((⟨#[40]⟩ : ByteArray) ++ t200).size + 3 ≤ 9223372036854775807 then ((witheref6_kid.f k l0_3 1).bind fun t201 => (if (((⟨#[40]⟩ : ByteArray) ++ t200) ++ (⟨#[32, 43, 32]⟩ : ByteArray)).size + t201.size ≤ 9223372036854775807 then (if ((((⟨#[40]⟩ : ByteArray) ++ t200) ++ (⟨#[32, 43, 32]⟩ : ByteArray)) ++ t201).size + 1 ≤ 9223372036854775807 then (some (((((⟨#[40]⟩ : ByteArray) ++ t200) ++ (⟨#[32, 43, 32]⟩ : ByteArray)) ++ t201) ++ (⟨#[41]⟩ : ByteArray))) else (none)) else (none))) else (none)) else (none))) else (if a0_0 = 4 then ((witheref6_kid.f k l0_3 0).bind fun t202 => (if 1 + t202.size ≤ 9223372036854775807 then (if ((⟨#[40]⟩ : ByteArray) ++ t202).size + 3 ≤ 9223372036854775807 then ((witheref6_kid.f k l0_3 1).bind fun t203 => (if (((⟨#[40]⟩ : ByteArray) ++ t202) ++ (⟨#[32, 45, 32]⟩ : ByteArray)).size + t203.size ≤ 9223372036854775807 then (if ((((⟨#[40]⟩ : ByteArray) ++ t202) ++ (⟨#[32, 45, 32]⟩ : ByteArray)) ++ t203).size + 1 ≤ 9223372036854775807 then (some (((((⟨#[40]⟩ : ByteArray) ++ t202) ++ (⟨#[32, 45, 32]⟩ : ByteArray)) ++ t203) ++ (⟨#[41]⟩ : ByteArray))) else (none)) else (none))) else (none)) else (none))) else (if a0_0 = 5 then ((witheref6_kid.f k l0_3 0).bind fun t204 => (if 1 + t204.size ≤ 9223372036854775807 then (if ((⟨#[40]⟩ : ByteArray) ++ t204).size + 4 ≤ 9223372036854775807 then ((witheref6_kid.f k l0_3 1).bind fun t205 => (if (((⟨#[40]⟩ : ByteArray) ++ t204) ++ (⟨#[32, 61, 61, 32]⟩ : ByteArray)).size + t205.size ≤ 9223372036854775807 then (if ((((⟨#[40]⟩ : ByteArray) ++ t204) ++ (⟨#[32, 61, 61, 32]⟩ : ByteArray)) ++ t205).size + 1 ≤ 9223372036854775807 then (some (((((⟨#[40]⟩ : ByteArray) ++ t204) ++ (⟨#[32, 61, 61, 32]⟩ : ByteArray)) ++ t205) ++ (⟨#[41]⟩ : ByteArray))) else (none)) else (none))) else (none)) else (none))) else (if a0_0 = 6 then ((witheref6_kid.f k l0_3 0).bind fun t206 => (if 1 + t206.size ≤ 9223372036854775807 then (if ((⟨#[40]⟩ : ByteArray) ++ t206).size + 3 ≤ 9223372036854775807 then ((witheref6_kid.f k l0_3 1).bind fun t207 => (if (((⟨#[40]⟩ : ByteArray) ++ t206) ++ (⟨#[32, 60, 32]⟩ : ByteArray)).size + t207.size ≤ 9223372036854775807 then (if ((((⟨#[40]⟩ : ByteArray) ++ t206) ++ (⟨#[32, 60, 32]⟩ : ByteArray)) ++ t207).size + 1 ≤ 9223372036854775807 then (some (((((⟨#[40]⟩ : ByteArray) ++ t206) ++ (⟨#[32, 60, 32]⟩ : ByteArray)) ++ t207) ++ (⟨#[41]⟩ : ByteArray))) else (none)) else (none))) else (none)) else (none))) else (some (⟨#[]⟩ : ByteArray)))))))) = some r := h
 clear h
 by_cases c2 : a0_0 = 1
 ·rw [if_pos c2] at H
  have c2b0 : (a0_0 == 1) = true := beq_iff_eq.mpr c2
  have c2b1 : (a0_0 != 1) = false := bne_eq_false_iff_eq.mpr c2
  clear c2
  replace H := Option.bind_eq_some_iff.mp H
  obtain ⟨t199, A30, H⟩ := H
  replace H : (some t199) = some r := H
  have A3 := Aside0.mk A30
  clear A30
  obtain rfl := Option.some.inj H
  go_enter Tryd.func11, Tryd.ntmps11
  go_wp2_with (first | ((with_reducible refine gate_dst (N := 1) rfl ?_); refine box_event ?hg (N := 1) ?hd (cs := #[.int .i64 a0_0, .int .i64 a0_1, .string a0_2, .slice A0_3 l0_3.length c0_3]) (t := 31) ?hr ?_; (case hd => rfl); (case hg => rfl); (case hr => first | (go_simp; done) | (go_simp; rfl)); intro gb198 hg w4 hbox hb; have n0_ := Aside0.mk (below_step (by repeat (first | (with_reducible first | exact HB.out | apply below_alloc | apply pw_below_drewN | apply below_drew1) | exact HB.out)) hb); have n1_ := Aside0.mk (hbox); have n2_ := Aside0.mk ((by rw [hg]; exact (below_size (by repeat (first | (with_reducible first | exact HB.out | apply below_alloc | apply pw_below_drewN | apply below_drew1) | exact HB.out))) : w.heap.size ≤ gb198)); have n3_ := Aside0.mk ((by rw [hg]; exact (below_size (by repeat (first | (with_reducible first | exact HB.out | apply below_alloc | apply pw_below_drewN | apply below_drew1) | exact HB.out))) : w.heap.size ≤ gb198)); clear HB; have HB := n0_; have BK198 := n1_; have GW198 := n2_; have GE198 := n3_; clear n0_ n1_ n2_ n3_; clear hb hbox hg; have hcz5_0 : w4.cell? ⟨gb198, 0, none⟩ = some (.int .i64 a0_0) := (blk_cell BK198.out 0).trans rfl; have hcz5_1 : w4.cell? ⟨gb198, 1, none⟩ = some (.int .i64 a0_1) := (blk_cell BK198.out 1).trans rfl; have hcz5_2 : w4.cell? ⟨gb198, 2, none⟩ = some (.string a0_2) := (blk_cell BK198.out 2).trans rfl; have hcz5_3 : w4.cell? ⟨gb198, 3, none⟩ = some (.slice A0_3 l0_3.length c0_3) := (blk_cell BK198.out 3).trans rfl; have hfz5_0 := blk_frozen BK198.out 0; have hfz5_1 := blk_frozen BK198.out 1; have hfz5_2 := blk_frozen BK198.out 2; have hfz5_3 := blk_frozen BK198.out 3) | ((with_reducible refine gate_callee (f := 21) rfl ?_); refine goesL_ (some 10) rfl rfl Tryd.func21 (by kernel_rfl) rfl #[.int .i64 a0_1] rfl (by (try simp only [List.map_toArray, List.map_cons, List.map_nil]); first | done | rfl | (simp only [List.length_drop, List.length_take]; rfl)) ?_; (with_reducible refine (witheref6_Digits.calls k a0_1 t199 _ A3.out).mono ?_); rintro e w6 ⟨rfl, hb⟩; refine ⟨_, rfl, ?_⟩; have n0_ := Aside0.mk (blk_below (g := gb198) (o := .cells #[.int .i64 a0_0, .int .i64 a0_1, .string a0_2, .slice A0_3 l0_3.length c0_3] 31 (0, 0)) (by (with_reducible repeat (first | refine blk_drewN ?_ _ | refine blk_drew ?_ | refine blk_alloc ?_ _)); exact BK198.out) hb); have n1_ := Aside0.mk (below_step (by repeat (first | (with_reducible first | exact HB.out | apply below_alloc | apply pw_below_drewN | apply below_drew1 | refine below_set ?_ GE198.out) | exact HB.out)) hb); clear BK198; clear HB; have BK198 := n0_; have HB := n1_; clear n0_ n1_; (try clear hb); (try clear hb2); (try clear hk); (try clear hi)))
  go_ret
  exact ⟨by first | rfl | (simp [errW_none, errW_some] <;> rfl) | (simp [*, errW_none, errW_some] <;> rfl), by repeat (first | (with_reducible first | exact HB.out | apply below_alloc | apply pw_below_drewN | apply below_drew1 | refine below_set ?_ GE198.out) | exact HB.out)⟩
 ·rw [if_neg c2] at H
  have c2b0 : (a0_0 == 1) = false := beq_eq_false_iff_ne.mpr c2
  have c2b1 : (a0_0 != 1) = true := bne_iff_ne.mpr c2
  by_cases c7 : a0_0 = 2
  ·rw [if_pos c7] at H
   have c7b0 : (a0_0 == 2) = true := beq_iff_eq.mpr c7
   have c7b1 : (a0_0 != 2) = false := bne_eq_false_iff_eq.mpr c7
   clear c7
   obtain rfl := Option.some.inj H
   go_enter Tryd.func11, Tryd.ntmps11
   go_wp2_with (first | ((with_reducible refine gate_dst (N := 1) rfl ?_); refine box_event ?hg (N := 1) ?hd (cs := #[.int .i64 a0_0, .int .i64 a0_1, .string a0_2, .slice A0_3 l0_3.length c0_3]) (t := 31) ?hr ?_; (case hd => rfl); (case hg => rfl); (case hr => first | (go_simp; done) | (go_simp; rfl)); intro gb198 hg w8 hbox hb; have n0_ := Aside0.mk (below_step (by repeat (first | (with_reducible first | exact HB.out | apply below_alloc | apply pw_below_drewN | apply below_drew1) | exact HB.out)) hb); have n1_ := Aside0.mk (hbox); have n2_ := Aside0.mk ((by rw [hg]; exact (below_size (by repeat (first | (with_reducible first | exact HB.out | apply below_alloc | apply pw_below_drewN | apply below_drew1) | exact HB.out))) : w.heap.size ≤ gb198)); have n3_ := Aside0.mk ((by rw [hg]; exact (below_size (by repeat (first | (with_reducible first | exact HB.out | apply below_alloc | apply pw_below_drewN | apply below_drew1) | exact HB.out))) : w.heap.size ≤ gb198)); clear HB; have HB := n0_; have BK198 := n1_; have GW198 := n2_; have GE198 := n3_; clear n0_ n1_ n2_ n3_; clear hb hbox hg; have hcz9_0 : w8.cell? ⟨gb198, 0, none⟩ = some (.int .i64 a0_0) := (blk_cell BK198.out 0).trans rfl; have hcz9_1 : w8.cell? ⟨gb198, 1, none⟩ = some (.int .i64 a0_1) := (blk_cell BK198.out 1).trans rfl; have hcz9_2 : w8.cell? ⟨gb198, 2, none⟩ = some (.string a0_2) := (blk_cell BK198.out 2).trans rfl; have hcz9_3 : w8.cell? ⟨gb198, 3, none⟩ = some (.slice A0_3 l0_3.length c0_3) := (blk_cell BK198.out 3).trans rfl; have hfz9_0 := blk_frozen BK198.out 0; have hfz9_1 := blk_frozen BK198.out 1; have hfz9_2 := blk_frozen BK198.out 2; have hfz9_3 := blk_frozen BK198.out 3))
   go_ret
   exact ⟨by first | rfl | (simp [errW_none, errW_some] <;> rfl) | (simp [*, errW_none, errW_some] <;> rfl), by repeat (first | (with_reducible first | exact HB.out | apply below_alloc | apply pw_below_drewN | apply below_drew1 | refine below_set ?_ GE198.out) | exact HB.out)⟩
  ·rw [if_neg c7] at H
   have c7b0 : (a0_0 == 2) = false := beq_eq_false_iff_ne.mpr c7
   have c7b1 : (a0_0 != 2) = true := bne_iff_ne.mpr c7
   by_cases c10 : a0_0 = 3
   ·rw [if_pos c10] at H
    have c10b0 : (a0_0 == 3) = true := beq_iff_eq.mpr c10
    have c10b1 : (a0_0 != 3) = false := bne_eq_false_iff_eq.mpr c10
    clear c10
    replace H := Option.bind_eq_some_iff.mp H
    obtain ⟨t200, A110, H⟩ := H
    replace H : (if 1 + t200.size ≤ 9223372036854775807 then (if ((⟨#[40]⟩ : ByteArray) ++ t200).size + 3 ≤ 9223372036854775807 then ((witheref6_kid.f k l0_3 1).bind fun t201 => (if (((⟨#[40]⟩ : ByteArray) ++ t200) ++ (⟨#[32, 43, 32]⟩ : ByteArray)).size + t201.size ≤ 9223372036854775807 then (if ((((⟨#[40]⟩ : ByteArray) ++ t200) ++ (⟨#[32, 43, 32]⟩ : ByteArray)) ++ t201).size + 1 ≤ 9223372036854775807 then (some (((((⟨#[40]⟩ : ByteArray) ++ t200) ++ (⟨#[32, 43, 32]⟩ : ByteArray)) ++ t201) ++ (⟨#[41]⟩ : ByteArray))) else (none)) else (none))) else (none)) else (none)) = some r := H
    have A11 := Aside0.mk A110
    clear A110
    by_cases c12 : 1 + t200.size ≤ 9223372036854775807
    ·rw [if_pos c12] at H
     have c12b0 := eq_true c12
     have c12b1 : decide (1 + t200.size ≤ 9223372036854775807) = true := decide_eq_true c12
     try have c12b2 : (9223372036854775807 < 1 + t200.size) = False := eq_false (Nat.not_lt.2 c12)
     by_cases c13 : ((⟨#[40]⟩ : ByteArray) ++ t200).size + 3 ≤ 9223372036854775807
     ·rw [if_pos c13] at H
      have c13b0 := eq_true c13
      have c13b1 : decide (((⟨#[40]⟩ : ByteArray) ++ t200).size + 3 ≤ 9223372036854775807) = true := decide_eq_true c13
      try (have c13b1s := c13b1; simp only [ByteArray.size_append, show (⟨#[40]⟩ : ByteArray).size = 1 from rfl] at c13b1s)
      try have c13b2 : (9223372036854775807 < ((⟨#[40]⟩ : ByteArray) ++ t200).size + 3) = False := eq_false (Nat.not_lt.2 c13)
      try (have c13b2s := c13b2; simp only [ByteArray.size_append, show (⟨#[40]⟩ : ByteArray).size = 1 from rfl] at c13b2s)
      replace H := Option.bind_eq_some_iff.mp H
      obtain ⟨t201, A140, H⟩ := H
      replace H : (if (((⟨#[40]⟩ : ByteArray) ++ t200) ++ (⟨#[32, 43, 32]⟩ : ByteArray)).size + t201.size ≤ 9223372036854775807 then (if ((((⟨#[40]⟩ : ByteArray) ++ t200) ++ (⟨#[32, 43, 32]⟩ : ByteArray)) ++ t201).size + 1 ≤ 9223372036854775807 then (some (((((⟨#[40]⟩ : ByteArray) ++ t200) ++ (⟨#[32, 43, 32]⟩ : ByteArray)) ++ t201) ++ (⟨#[41]⟩ : ByteArray))) else (none)) else (none)) = some r := H
      have A14 := Aside0.mk A140
      clear A140
      by_cases c15 : (((⟨#[40]⟩ : ByteArray) ++ t200) ++ (⟨#[32, 43, 32]⟩ : ByteArray)).size + t201.size ≤ 9223372036854775807
      ·rw [if_pos c15] at H
       have c15b0 := eq_true c15
       have c15b1 : decide ((((⟨#[40]⟩ : ByteArray) ++ t200) ++ (⟨#[32, 43, 32]⟩ : ByteArray)).size + t201.size ≤ 9223372036854775807) = true := decide_eq_true c15
       try (have c15b1s := c15b1; simp only [ByteArray.size_append, show (⟨#[32, 43, 32]⟩ : ByteArray).size = 3 from rfl, show (⟨#[40]⟩ : ByteArray).size = 1 from rfl] at c15b1s)
       try have c15b2 : (9223372036854775807 < (((⟨#[40]⟩ : ByteArray) ++ t200) ++ (⟨#[32, 43, 32]⟩ : ByteArray)).size + t201.size) = False := eq_false (Nat.not_lt.2 c15)
       try (have c15b2s := c15b2; simp only [ByteArray.size_append, show (⟨#[32, 43, 32]⟩ : ByteArray).size = 3 from rfl, show (⟨#[40]⟩ : ByteArray).size = 1 from rfl] at c15b2s)
       by_cases c16 : ((((⟨#[40]⟩ : ByteArray) ++ t200) ++ (⟨#[32, 43, 32]⟩ : ByteArray)) ++ t201).size + 1 ≤ 9223372036854775807
       ·rw [if_pos c16] at H
        have c16b0 := eq_true c16
        have c16b1 : decide (((((⟨#[40]⟩ : ByteArray) ++ t200) ++ (⟨#[32, 43, 32]⟩ : ByteArray)) ++ t201).size + 1 ≤ 9223372036854775807) = true := decide_eq_true c16
        try (have c16b1s := c16b1; simp only [ByteArray.size_append, show (⟨#[32, 43, 32]⟩ : ByteArray).size = 3 from rfl, show (⟨#[40]⟩ : ByteArray).size = 1 from rfl] at c16b1s)
        try have c16b2 : (9223372036854775807 < ((((⟨#[40]⟩ : ByteArray) ++ t200) ++ (⟨#[32, 43, 32]⟩ : ByteArray)) ++ t201).size + 1) = False := eq_false (Nat.not_lt.2 c16)
        try (have c16b2s := c16b2; simp only [ByteArray.size_append, show (⟨#[32, 43, 32]⟩ : ByteArray).size = 3 from rfl, show (⟨#[40]⟩ : ByteArray).size = 1 from rfl] at c16b2s)
        obtain rfl := Option.some.inj H
        go_enter Tryd.func11, Tryd.ntmps11
        try go_wp2_with (first | ((with_reducible refine gate_dst (N := 1) rfl ?_); refine box_event ?hg (N := 1) ?hd (cs := #[.int .i64 a0_0, .int .i64 a0_1, .string a0_2, .slice A0_3 l0_3.length c0_3]) (t := 31) ?hr ?_; (case hd => rfl); (case hg => rfl); (case hr => first | (go_simp; done) | (go_simp; rfl)); intro gb198 hg w17 hbox hb; have n0_ := Aside0.mk (below_step (by repeat (first | (with_reducible first | exact HB.out | apply below_alloc | apply pw_below_drewN | apply below_drew1) | exact HB.out)) hb); have n1_ := Aside0.mk (hbox); have n2_ := Aside0.mk ((by rw [hg]; exact (below_size (by repeat (first | (with_reducible first | exact HB.out | apply below_alloc | apply pw_below_drewN | apply below_drew1) | exact HB.out))) : w.heap.size ≤ gb198)); have n3_ := Aside0.mk ((by rw [hg]; exact (below_size (by repeat (first | (with_reducible first | exact HB.out | apply below_alloc | apply pw_below_drewN | apply below_drew1) | exact HB.out))) : w.heap.size ≤ gb198)); clear HB; have HB := n0_; have BK198 := n1_; have GW198 := n2_; have GE198 := n3_; clear n0_ n1_ n2_ n3_; clear hb hbox hg; have hcz18_0 : w17.cell? ⟨gb198, 0, none⟩ = some (.int .i64 a0_0) := (blk_cell BK198.out 0).trans rfl; have hcz18_1 : w17.cell? ⟨gb198, 1, none⟩ = some (.int .i64 a0_1) := (blk_cell BK198.out 1).trans rfl; have hcz18_2 : w17.cell? ⟨gb198, 2, none⟩ = some (.string a0_2) := (blk_cell BK198.out 2).trans rfl; have hcz18_3 : w17.cell? ⟨gb198, 3, none⟩ = some (.slice A0_3 l0_3.length c0_3) := (blk_cell BK198.out 3).trans rfl; have hfz18_0 := blk_frozen BK198.out 0; have hfz18_1 := blk_frozen BK198.out 1; have hfz18_2 := blk_frozen BK198.out 2; have hfz18_3 := blk_frozen BK198.out 3))
        have n0_ := Aside0.mk (blk_drew BK198.out)
        have n1_ := Aside0.mk (below_drew1 HB.out)
        clear BK198
        clear HB
        have BK198 := n0_
        have HB := n1_
        clear n0_ n1_
        refine start_ (n := 12) (S := fun w' => w'.cell? ⟨gb198, 0, none⟩ = some (.int .i64 a0_0) ∧ w'.cell? ⟨gb198, 1, none⟩ = some (.int .i64 a0_1) ∧ w'.cell? ⟨gb198, 2, none⟩ = some (.string a0_2) ∧ w'.cell? ⟨gb198, 3, none⟩ = some (.slice A0_3 l0_3.length c0_3)) (ds := []) #[false, false, false, false, false, false, false, false, false, false, false, false] (by kernel_rfl) rfl rfl ⟨(blk_cell BK198.out 0).trans rfl, (blk_cell BK198.out 1).trans rfl, (blk_cell BK198.out 2).trans rfl, (blk_cell BK198.out 3).trans rfl⟩ (fun hHeld => ?_); refine with_tabW witheref6_Expr.tab16 witheref6_Expr.bits16 (fun HT_ HW_ => ?_)
        generalize w17.drew = w19 at BK198 HB hHeld ⊢
        refine pure_ (i := 0) (N := some 23) (v := ?_) (a' := ?_) #[true, false, false, false, false, false, false, false, false, false, false, false] rfl rfl (any_of HT_.out (by kernel_rfl)) (fun _ _ _ h => h) (Or.inl ⟨by rfl, ?_⟩) ?_ ?_
        rotate_left
        ·intro w'
         go_simp
         with_reducible rfl
        rotate_left
        ·simp only [Act.put, List.setIfInBounds_toArray, List.set_cons_zero, List.set_cons_succ, i64_w, i32_w]
         rfl
        refine pure_ (i := 4) (N := some 27) (v := ?_) (a' := ?_) #[true, false, false, false, true, false, false, false, false, false, false, false] rfl rfl (any_of HT_.out (by kernel_rfl)) (fun _ _ _ h => h) (Or.inl ⟨by rfl, ?_⟩) ?_ ?_
        rotate_left
        ·intro w'
         go_simp
         with_reducible rfl
        rotate_left
        ·simp only [Act.put, List.setIfInBounds_toArray, List.set_cons_zero, List.set_cons_succ, i64_w, i32_w]
         rfl
        refine pure_ (i := 6) (N := some 29) (v := ?_) (a' := ?_) #[true, false, false, false, true, false, true, false, false, false, false, false] rfl rfl (any_of HT_.out (by kernel_rfl)) (fun _ _ _ h => h) (Or.inl ⟨by rfl, ?_⟩) ?_ ?_
        rotate_left
        ·intro w'
         go_simp
         with_reducible rfl
        rotate_left
        ·simp only [Act.put, List.setIfInBounds_toArray, List.set_cons_zero, List.set_cons_succ, i64_w, i32_w]
         rfl
        refine take_ (i := 1) (N := some 24) (v := ?_) (a' := ?_) #[true, true, false, false, true, false, true, false, false, false, false, false] rfl rfl (take_ofW HT_.out HW_.out (by kernel_rfl)) (fun _ _ _ h => h) (Or.inl ⟨by rfl, ?_⟩) hHeld ?_ ?_
        rotate_left
        ·rintro w' ⟨s0, s1, s2, s3⟩
         go_simp
         with_reducible rfl
        rotate_left
        ·simp only [Act.put, List.setIfInBounds_toArray, List.set_cons_zero, List.set_cons_succ, i64_w, i32_w]
         rfl
        refine take_ (i := 7) (N := some 30) (v := ?_) (a' := ?_) #[true, true, false, false, true, false, true, true, false, false, false, false] rfl rfl (take_ofW HT_.out HW_.out (by kernel_rfl)) (fun _ _ _ h => h) (Or.inl ⟨by rfl, ?_⟩) hHeld ?_ ?_
        rotate_left
        ·rintro w' ⟨s0, s1, s2, s3⟩
         go_simp
         with_reducible rfl
        rotate_left
        ·simp only [Act.put, List.setIfInBounds_toArray, List.set_cons_zero, List.set_cons_succ, i64_w, i32_w]
         rfl
        refine one_ (i := 2) (N := some 25) #[true, true, true, false, true, false, true, true, false, false, false, false] rfl rfl (one_of HT_.out (by kernel_rfl)) (by decide) (fun K hK => ?_)
        refine goes_ Tryd.func25 (by kernel_rfl) rfl #[.slice A0_3 l0_3.length c0_3, .int .i64 0] (by rfl) rfl rfl (by (try simp only [List.map_toArray, List.map_cons, List.map_nil]); first | done | rfl | (simp only [List.length_drop, List.length_take]; rfl)) ?_
        with_reducible refine (witheref6_kid.calls_of k (fun a0_0 a0_1 a0_2 A0_3 c0_3 l0_3 r w hr0_3 hc0_3 h => ih k (Nat.lt_succ_self k) a0_0 a0_1 a0_2 A0_3 c0_3 l0_3 r w hr0_3 hc0_3 h) _ _ l0_3 0 t200 _ ?side1 ?side2 A11.out).mono ?_
        (case side1 => repeat (first | exact (Kd.C_below HR0_3.out HB.out) | (with_reducible refine Kd.C_alloc ?_ _) | (with_reducible refine Kd.C_drewN ?_ _) | (with_reducible refine Kd.C_drew ?_)))
        (case side2 => exact HC0_3.out)
        rintro e w20 ⟨rfl, hb⟩
        refine ⟨_, rfl, ?_⟩
        have n0_ := Aside0.mk (blk_below (g := gb198) (o := .cells #[.int .i64 a0_0, .int .i64 a0_1, .string a0_2, .slice A0_3 l0_3.length c0_3] 31 (0, 0)) (by (with_reducible repeat (first | refine blk_drewN ?_ _ | refine blk_drew ?_ | refine blk_alloc ?_ _)); exact BK198.out) hb)
        have n1_ := Aside0.mk (below_step (by repeat (first | (with_reducible first | exact HB.out | apply below_alloc | apply pw_below_drewN | apply below_drew1 | refine below_set ?_ GE198.out) | exact HB.out)) hb)
        clear BK198
        clear HB
        have BK198 := n0_
        have HB := n1_
        clear n0_ n1_
        (try clear hb)
        (try clear hb2)
        (try clear hk)
        (try clear hi)
        refine hK.out _ _ ⟨(blk_cell BK198.out 0).trans rfl, (blk_cell BK198.out 1).trans rfl, (blk_cell BK198.out 2).trans rfl, (blk_cell BK198.out 3).trans rfl⟩ (fun hHeld => ?_)
        clear hK K
        refine norm_ (a' := ?_) ?_ ?_
        rotate_left
        ·show Act.put _ (some 25) _ = _
         simp only [Act.put, List.setIfInBounds_toArray, List.set_cons_zero, List.set_cons_succ, i64_w, i32_w]
         rfl
        refine pure_ (i := 3) (N := some 26) (v := ?_) (a' := ?_) #[true, true, true, true, true, false, true, true, false, false, false, false] rfl rfl (any_of HT_.out (by kernel_rfl)) (fun _ _ _ h => h) (Or.inl ⟨by rfl, ?_⟩) ?_ ?_
        rotate_left
        ·intro w'
         go_simp
         with_reducible rfl
        rotate_left
        ·simp only [Act.put, List.setIfInBounds_toArray, List.set_cons_zero, List.set_cons_succ, i64_w, i32_w]
         rfl
        refine pure_ (i := 5) (N := some 28) (v := ?_) (a' := ?_) #[true, true, true, true, true, true, true, true, false, false, false, false] rfl rfl (any_of HT_.out (by kernel_rfl)) (fun _ _ _ h => h) (Or.inl ⟨by rfl, ?_⟩) ?_ ?_
        rotate_left
        ·intro w'
         go_simp
         with_reducible rfl
        rotate_left
        ·simp only [Act.put, List.setIfInBounds_toArray, List.set_cons_zero, List.set_cons_succ, i64_w, i32_w]
         rfl
        refine one_ (i := 8) (N := some 31) #[true, true, true, true, true, true, true, true, true, false, false, false] rfl rfl (one_of HT_.out (by kernel_rfl)) (by decide) (fun K hK => ?_)
        refine goes_ Tryd.func25 (by kernel_rfl) rfl #[.slice A0_3 l0_3.length c0_3, .int .i64 1] (by rfl) rfl rfl (by (try simp only [List.map_toArray, List.map_cons, List.map_nil]); first | done | rfl | (simp only [List.length_drop, List.length_take]; rfl)) ?_
        with_reducible refine (witheref6_kid.calls_of k (fun a0_0 a0_1 a0_2 A0_3 c0_3 l0_3 r w hr0_3 hc0_3 h => ih k (Nat.lt_succ_self k) a0_0 a0_1 a0_2 A0_3 c0_3 l0_3 r w hr0_3 hc0_3 h) _ _ l0_3 1 t201 _ ?side1 ?side2 A14.out).mono ?_
        (case side1 => repeat (first | exact (Kd.C_below HR0_3.out HB.out) | (with_reducible refine Kd.C_alloc ?_ _) | (with_reducible refine Kd.C_drewN ?_ _) | (with_reducible refine Kd.C_drew ?_)))
        (case side2 => exact HC0_3.out)
        rintro e w21 ⟨rfl, hb⟩
        refine ⟨_, rfl, ?_⟩
        have n0_ := Aside0.mk (blk_below (g := gb198) (o := .cells #[.int .i64 a0_0, .int .i64 a0_1, .string a0_2, .slice A0_3 l0_3.length c0_3] 31 (0, 0)) (by (with_reducible repeat (first | refine blk_drewN ?_ _ | refine blk_drew ?_ | refine blk_alloc ?_ _)); exact BK198.out) hb)
        have n1_ := Aside0.mk (below_step (by repeat (first | (with_reducible first | exact HB.out | apply below_alloc | apply pw_below_drewN | apply below_drew1 | refine below_set ?_ GE198.out) | exact HB.out)) hb)
        clear BK198
        clear HB
        have BK198 := n0_
        have HB := n1_
        clear n0_ n1_
        (try clear hb)
        (try clear hb2)
        (try clear hk)
        (try clear hi)
        refine hK.out _ _ ⟨(blk_cell BK198.out 0).trans rfl, (blk_cell BK198.out 1).trans rfl, (blk_cell BK198.out 2).trans rfl, (blk_cell BK198.out 3).trans rfl⟩ (fun hHeld => ?_)
        clear hK K
        refine norm_ (a' := ?_) ?_ ?_
        rotate_left
        ·show Act.put _ (some 31) _ = _
         simp only [Act.put, List.setIfInBounds_toArray, List.set_cons_zero, List.set_cons_succ, i64_w, i32_w]
         rfl
        refine pure_ (i := 9) (N := some 32) (v := ?_) (a' := ?_) #[true, true, true, true, true, true, true, true, true, true, false, false] rfl rfl (any_of HT_.out (by kernel_rfl)) (fun _ _ _ h => h) (Or.inl ⟨by rfl, ?_⟩) ?_ ?_
        rotate_left
        ·intro w'
         go_simp
         with_reducible rfl
        rotate_left
        ·simp only [Act.put, List.setIfInBounds_toArray, List.set_cons_zero, List.set_cons_succ, i64_w, i32_w]
         rfl
        refine pure_ (i := 10) (N := some 33) (v := ?_) (a' := ?_) #[true, true, true, true, true, true, true, true, true, true, true, false] rfl rfl (any_of HT_.out (by kernel_rfl)) (fun _ _ _ h => h) (Or.inl ⟨by rfl, ?_⟩) ?_ ?_
        rotate_left
        ·intro w'
         go_simp
         with_reducible rfl
        rotate_left
        ·simp only [Act.put, List.setIfInBounds_toArray, List.set_cons_zero, List.set_cons_succ, i64_w, i32_w]
         rfl
        refine pure_ (i := 11) (N := some 2) (v := ?_) (a' := ?_) #[true, true, true, true, true, true, true, true, true, true, true, true] rfl rfl (any_of HT_.out (by kernel_rfl)) (fun _ _ _ h => h) (Or.inl ⟨by rfl, ?_⟩) ?_ ?_
        rotate_left
        ·intro w'
         go_simp
         with_reducible rfl
        rotate_left
        ·simp only [Act.put, List.setIfInBounds_toArray, List.set_cons_zero, List.set_cons_succ, i64_w, i32_w]
         rfl
        refine done_ (done_of HT_.out (by kernel_rfl)) ?_
        try go_wp2
        go_ret
        exact ⟨by first | rfl | (simp [errW_none, errW_some] <;> rfl) | (simp [*, errW_none, errW_some] <;> rfl), by repeat (first | (with_reducible first | exact HB.out | apply below_alloc | apply pw_below_drewN | apply below_drew1 | refine below_set ?_ GE198.out) | exact HB.out)⟩
       ·rw [if_neg c16] at H
        exact absurd H (by simp)
      ·rw [if_neg c15] at H
       exact absurd H (by simp)
     ·rw [if_neg c13] at H
      exact absurd H (by simp)
    ·rw [if_neg c12] at H
     exact absurd H (by simp)
   ·rw [if_neg c10] at H
    have c10b0 : (a0_0 == 3) = false := beq_eq_false_iff_ne.mpr c10
    have c10b1 : (a0_0 != 3) = true := bne_iff_ne.mpr c10
    by_cases c22 : a0_0 = 4
    ·rw [if_pos c22] at H
     have c22b0 : (a0_0 == 4) = true := beq_iff_eq.mpr c22
     have c22b1 : (a0_0 != 4) = false := bne_eq_false_iff_eq.mpr c22
     clear c22
     replace H := Option.bind_eq_some_iff.mp H
     obtain ⟨t202, A230, H⟩ := H
     replace H : (if 1 + t202.size ≤ 9223372036854775807 then (if ((⟨#[40]⟩ : ByteArray) ++ t202).size + 3 ≤ 9223372036854775807 then ((witheref6_kid.f k l0_3 1).bind fun t203 => (if (((⟨#[40]⟩ : ByteArray) ++ t202) ++ (⟨#[32, 45, 32]⟩ : ByteArray)).size + t203.size ≤ 9223372036854775807 then (if ((((⟨#[40]⟩ : ByteArray) ++ t202) ++ (⟨#[32, 45, 32]⟩ : ByteArray)) ++ t203).size + 1 ≤ 9223372036854775807 then (some (((((⟨#[40]⟩ : ByteArray) ++ t202) ++ (⟨#[32, 45, 32]⟩ : ByteArray)) ++ t203) ++ (⟨#[41]⟩ : ByteArray))) else (none)) else (none))) else (none)) else (none)) = some r := H
     have A23 := Aside0.mk A230
     clear A230
     by_cases c24 : 1 + t202.size ≤ 9223372036854775807
     ·rw [if_pos c24] at H
      have c24b0 := eq_true c24
      have c24b1 : decide (1 + t202.size ≤ 9223372036854775807) = true := decide_eq_true c24
      try have c24b2 : (9223372036854775807 < 1 + t202.size) = False := eq_false (Nat.not_lt.2 c24)
      by_cases c25 : ((⟨#[40]⟩ : ByteArray) ++ t202).size + 3 ≤ 9223372036854775807
      ·rw [if_pos c25] at H
       have c25b0 := eq_true c25
       have c25b1 : decide (((⟨#[40]⟩ : ByteArray) ++ t202).size + 3 ≤ 9223372036854775807) = true := decide_eq_true c25
       try (have c25b1s := c25b1; simp only [ByteArray.size_append, show (⟨#[40]⟩ : ByteArray).size = 1 from rfl] at c25b1s)
       try have c25b2 : (9223372036854775807 < ((⟨#[40]⟩ : ByteArray) ++ t202).size + 3) = False := eq_false (Nat.not_lt.2 c25)
       try (have c25b2s := c25b2; simp only [ByteArray.size_append, show (⟨#[40]⟩ : ByteArray).size = 1 from rfl] at c25b2s)
       replace H := Option.bind_eq_some_iff.mp H
       obtain ⟨t203, A260, H⟩ := H
       replace H : (if (((⟨#[40]⟩ : ByteArray) ++ t202) ++ (⟨#[32, 45, 32]⟩ : ByteArray)).size + t203.size ≤ 9223372036854775807 then (if ((((⟨#[40]⟩ : ByteArray) ++ t202) ++ (⟨#[32, 45, 32]⟩ : ByteArray)) ++ t203).size + 1 ≤ 9223372036854775807 then (some (((((⟨#[40]⟩ : ByteArray) ++ t202) ++ (⟨#[32, 45, 32]⟩ : ByteArray)) ++ t203) ++ (⟨#[41]⟩ : ByteArray))) else (none)) else (none)) = some r := H
       have A26 := Aside0.mk A260
       clear A260
       by_cases c27 : (((⟨#[40]⟩ : ByteArray) ++ t202) ++ (⟨#[32, 45, 32]⟩ : ByteArray)).size + t203.size ≤ 9223372036854775807
       ·rw [if_pos c27] at H
        have c27b0 := eq_true c27
        have c27b1 : decide ((((⟨#[40]⟩ : ByteArray) ++ t202) ++ (⟨#[32, 45, 32]⟩ : ByteArray)).size + t203.size ≤ 9223372036854775807) = true := decide_eq_true c27
        try (have c27b1s := c27b1; simp only [ByteArray.size_append, show (⟨#[32, 45, 32]⟩ : ByteArray).size = 3 from rfl, show (⟨#[40]⟩ : ByteArray).size = 1 from rfl] at c27b1s)
        try have c27b2 : (9223372036854775807 < (((⟨#[40]⟩ : ByteArray) ++ t202) ++ (⟨#[32, 45, 32]⟩ : ByteArray)).size + t203.size) = False := eq_false (Nat.not_lt.2 c27)
        try (have c27b2s := c27b2; simp only [ByteArray.size_append, show (⟨#[32, 45, 32]⟩ : ByteArray).size = 3 from rfl, show (⟨#[40]⟩ : ByteArray).size = 1 from rfl] at c27b2s)
        by_cases c28 : ((((⟨#[40]⟩ : ByteArray) ++ t202) ++ (⟨#[32, 45, 32]⟩ : ByteArray)) ++ t203).size + 1 ≤ 9223372036854775807
        ·rw [if_pos c28] at H
         have c28b0 := eq_true c28
         have c28b1 : decide (((((⟨#[40]⟩ : ByteArray) ++ t202) ++ (⟨#[32, 45, 32]⟩ : ByteArray)) ++ t203).size + 1 ≤ 9223372036854775807) = true := decide_eq_true c28
         try (have c28b1s := c28b1; simp only [ByteArray.size_append, show (⟨#[32, 45, 32]⟩ : ByteArray).size = 3 from rfl, show (⟨#[40]⟩ : ByteArray).size = 1 from rfl] at c28b1s)
         try have c28b2 : (9223372036854775807 < ((((⟨#[40]⟩ : ByteArray) ++ t202) ++ (⟨#[32, 45, 32]⟩ : ByteArray)) ++ t203).size + 1) = False := eq_false (Nat.not_lt.2 c28)
         try (have c28b2s := c28b2; simp only [ByteArray.size_append, show (⟨#[32, 45, 32]⟩ : ByteArray).size = 3 from rfl, show (⟨#[40]⟩ : ByteArray).size = 1 from rfl] at c28b2s)
         obtain rfl := Option.some.inj H
         go_enter Tryd.func11, Tryd.ntmps11
         try go_wp2_with (first | ((with_reducible refine gate_dst (N := 1) rfl ?_); refine box_event ?hg (N := 1) ?hd (cs := #[.int .i64 a0_0, .int .i64 a0_1, .string a0_2, .slice A0_3 l0_3.length c0_3]) (t := 31) ?hr ?_; (case hd => rfl); (case hg => rfl); (case hr => first | (go_simp; done) | (go_simp; rfl)); intro gb198 hg w29 hbox hb; have n0_ := Aside0.mk (below_step (by repeat (first | (with_reducible first | exact HB.out | apply below_alloc | apply pw_below_drewN | apply below_drew1) | exact HB.out)) hb); have n1_ := Aside0.mk (hbox); have n2_ := Aside0.mk ((by rw [hg]; exact (below_size (by repeat (first | (with_reducible first | exact HB.out | apply below_alloc | apply pw_below_drewN | apply below_drew1) | exact HB.out))) : w.heap.size ≤ gb198)); have n3_ := Aside0.mk ((by rw [hg]; exact (below_size (by repeat (first | (with_reducible first | exact HB.out | apply below_alloc | apply pw_below_drewN | apply below_drew1) | exact HB.out))) : w.heap.size ≤ gb198)); clear HB; have HB := n0_; have BK198 := n1_; have GW198 := n2_; have GE198 := n3_; clear n0_ n1_ n2_ n3_; clear hb hbox hg; have hcz30_0 : w29.cell? ⟨gb198, 0, none⟩ = some (.int .i64 a0_0) := (blk_cell BK198.out 0).trans rfl; have hcz30_1 : w29.cell? ⟨gb198, 1, none⟩ = some (.int .i64 a0_1) := (blk_cell BK198.out 1).trans rfl; have hcz30_2 : w29.cell? ⟨gb198, 2, none⟩ = some (.string a0_2) := (blk_cell BK198.out 2).trans rfl; have hcz30_3 : w29.cell? ⟨gb198, 3, none⟩ = some (.slice A0_3 l0_3.length c0_3) := (blk_cell BK198.out 3).trans rfl; have hfz30_0 := blk_frozen BK198.out 0; have hfz30_1 := blk_frozen BK198.out 1; have hfz30_2 := blk_frozen BK198.out 2; have hfz30_3 := blk_frozen BK198.out 3))
         have n0_ := Aside0.mk (blk_drew BK198.out)
         have n1_ := Aside0.mk (below_drew1 HB.out)
         clear BK198
         clear HB
         have BK198 := n0_
         have HB := n1_
         clear n0_ n1_
         refine start_ (n := 12) (S := fun w' => w'.cell? ⟨gb198, 0, none⟩ = some (.int .i64 a0_0) ∧ w'.cell? ⟨gb198, 1, none⟩ = some (.int .i64 a0_1) ∧ w'.cell? ⟨gb198, 2, none⟩ = some (.string a0_2) ∧ w'.cell? ⟨gb198, 3, none⟩ = some (.slice A0_3 l0_3.length c0_3)) (ds := []) #[false, false, false, false, false, false, false, false, false, false, false, false] (by kernel_rfl) rfl rfl ⟨(blk_cell BK198.out 0).trans rfl, (blk_cell BK198.out 1).trans rfl, (blk_cell BK198.out 2).trans rfl, (blk_cell BK198.out 3).trans rfl⟩ (fun hHeld => ?_); refine with_tabW witheref6_Expr.tab16 witheref6_Expr.bits16 (fun HT_ HW_ => ?_)
         generalize w29.drew = w31 at BK198 HB hHeld ⊢
         refine pure_ (i := 0) (N := some 23) (v := ?_) (a' := ?_) #[true, false, false, false, false, false, false, false, false, false, false, false] rfl rfl (any_of HT_.out (by kernel_rfl)) (fun _ _ _ h => h) (Or.inl ⟨by rfl, ?_⟩) ?_ ?_
         rotate_left
         ·intro w'
          go_simp
          with_reducible rfl
         rotate_left
         ·simp only [Act.put, List.setIfInBounds_toArray, List.set_cons_zero, List.set_cons_succ, i64_w, i32_w]
          rfl
         refine pure_ (i := 4) (N := some 27) (v := ?_) (a' := ?_) #[true, false, false, false, true, false, false, false, false, false, false, false] rfl rfl (any_of HT_.out (by kernel_rfl)) (fun _ _ _ h => h) (Or.inl ⟨by rfl, ?_⟩) ?_ ?_
         rotate_left
         ·intro w'
          go_simp
          with_reducible rfl
         rotate_left
         ·simp only [Act.put, List.setIfInBounds_toArray, List.set_cons_zero, List.set_cons_succ, i64_w, i32_w]
          rfl
         refine pure_ (i := 6) (N := some 29) (v := ?_) (a' := ?_) #[true, false, false, false, true, false, true, false, false, false, false, false] rfl rfl (any_of HT_.out (by kernel_rfl)) (fun _ _ _ h => h) (Or.inl ⟨by rfl, ?_⟩) ?_ ?_
         rotate_left
         ·intro w'
          go_simp
          with_reducible rfl
         rotate_left
         ·simp only [Act.put, List.setIfInBounds_toArray, List.set_cons_zero, List.set_cons_succ, i64_w, i32_w]
          rfl
         refine take_ (i := 1) (N := some 24) (v := ?_) (a' := ?_) #[true, true, false, false, true, false, true, false, false, false, false, false] rfl rfl (take_ofW HT_.out HW_.out (by kernel_rfl)) (fun _ _ _ h => h) (Or.inl ⟨by rfl, ?_⟩) hHeld ?_ ?_
         rotate_left
         ·rintro w' ⟨s0, s1, s2, s3⟩
          go_simp
          with_reducible rfl
         rotate_left
         ·simp only [Act.put, List.setIfInBounds_toArray, List.set_cons_zero, List.set_cons_succ, i64_w, i32_w]
          rfl
         refine take_ (i := 7) (N := some 30) (v := ?_) (a' := ?_) #[true, true, false, false, true, false, true, true, false, false, false, false] rfl rfl (take_ofW HT_.out HW_.out (by kernel_rfl)) (fun _ _ _ h => h) (Or.inl ⟨by rfl, ?_⟩) hHeld ?_ ?_
         rotate_left
         ·rintro w' ⟨s0, s1, s2, s3⟩
          go_simp
          with_reducible rfl
         rotate_left
         ·simp only [Act.put, List.setIfInBounds_toArray, List.set_cons_zero, List.set_cons_succ, i64_w, i32_w]
          rfl
         refine one_ (i := 2) (N := some 25) #[true, true, true, false, true, false, true, true, false, false, false, false] rfl rfl (one_of HT_.out (by kernel_rfl)) (by decide) (fun K hK => ?_)
         refine goes_ Tryd.func25 (by kernel_rfl) rfl #[.slice A0_3 l0_3.length c0_3, .int .i64 0] (by rfl) rfl rfl (by (try simp only [List.map_toArray, List.map_cons, List.map_nil]); first | done | rfl | (simp only [List.length_drop, List.length_take]; rfl)) ?_
         with_reducible refine (witheref6_kid.calls_of k (fun a0_0 a0_1 a0_2 A0_3 c0_3 l0_3 r w hr0_3 hc0_3 h => ih k (Nat.lt_succ_self k) a0_0 a0_1 a0_2 A0_3 c0_3 l0_3 r w hr0_3 hc0_3 h) _ _ l0_3 0 t202 _ ?side1 ?side2 A23.out).mono ?_
         (case side1 => repeat (first | exact (Kd.C_below HR0_3.out HB.out) | (with_reducible refine Kd.C_alloc ?_ _) | (with_reducible refine Kd.C_drewN ?_ _) | (with_reducible refine Kd.C_drew ?_)))
         (case side2 => exact HC0_3.out)
         rintro e w32 ⟨rfl, hb⟩
         refine ⟨_, rfl, ?_⟩
         have n0_ := Aside0.mk (blk_below (g := gb198) (o := .cells #[.int .i64 a0_0, .int .i64 a0_1, .string a0_2, .slice A0_3 l0_3.length c0_3] 31 (0, 0)) (by (with_reducible repeat (first | refine blk_drewN ?_ _ | refine blk_drew ?_ | refine blk_alloc ?_ _)); exact BK198.out) hb)
         have n1_ := Aside0.mk (below_step (by repeat (first | (with_reducible first | exact HB.out | apply below_alloc | apply pw_below_drewN | apply below_drew1 | refine below_set ?_ GE198.out) | exact HB.out)) hb)
         clear BK198
         clear HB
         have BK198 := n0_
         have HB := n1_
         clear n0_ n1_
         (try clear hb)
         (try clear hb2)
         (try clear hk)
         (try clear hi)
         refine hK.out _ _ ⟨(blk_cell BK198.out 0).trans rfl, (blk_cell BK198.out 1).trans rfl, (blk_cell BK198.out 2).trans rfl, (blk_cell BK198.out 3).trans rfl⟩ (fun hHeld => ?_)
         clear hK K
         refine norm_ (a' := ?_) ?_ ?_
         rotate_left
         ·show Act.put _ (some 25) _ = _
          simp only [Act.put, List.setIfInBounds_toArray, List.set_cons_zero, List.set_cons_succ, i64_w, i32_w]
          rfl
         refine pure_ (i := 3) (N := some 26) (v := ?_) (a' := ?_) #[true, true, true, true, true, false, true, true, false, false, false, false] rfl rfl (any_of HT_.out (by kernel_rfl)) (fun _ _ _ h => h) (Or.inl ⟨by rfl, ?_⟩) ?_ ?_
         rotate_left
         ·intro w'
          go_simp
          with_reducible rfl
         rotate_left
         ·simp only [Act.put, List.setIfInBounds_toArray, List.set_cons_zero, List.set_cons_succ, i64_w, i32_w]
          rfl
         refine pure_ (i := 5) (N := some 28) (v := ?_) (a' := ?_) #[true, true, true, true, true, true, true, true, false, false, false, false] rfl rfl (any_of HT_.out (by kernel_rfl)) (fun _ _ _ h => h) (Or.inl ⟨by rfl, ?_⟩) ?_ ?_
         rotate_left
         ·intro w'
          go_simp
          with_reducible rfl
         rotate_left
         ·simp only [Act.put, List.setIfInBounds_toArray, List.set_cons_zero, List.set_cons_succ, i64_w, i32_w]
          rfl
         refine one_ (i := 8) (N := some 31) #[true, true, true, true, true, true, true, true, true, false, false, false] rfl rfl (one_of HT_.out (by kernel_rfl)) (by decide) (fun K hK => ?_)
         refine goes_ Tryd.func25 (by kernel_rfl) rfl #[.slice A0_3 l0_3.length c0_3, .int .i64 1] (by rfl) rfl rfl (by (try simp only [List.map_toArray, List.map_cons, List.map_nil]); first | done | rfl | (simp only [List.length_drop, List.length_take]; rfl)) ?_
         with_reducible refine (witheref6_kid.calls_of k (fun a0_0 a0_1 a0_2 A0_3 c0_3 l0_3 r w hr0_3 hc0_3 h => ih k (Nat.lt_succ_self k) a0_0 a0_1 a0_2 A0_3 c0_3 l0_3 r w hr0_3 hc0_3 h) _ _ l0_3 1 t203 _ ?side1 ?side2 A26.out).mono ?_
         (case side1 => repeat (first | exact (Kd.C_below HR0_3.out HB.out) | (with_reducible refine Kd.C_alloc ?_ _) | (with_reducible refine Kd.C_drewN ?_ _) | (with_reducible refine Kd.C_drew ?_)))
         (case side2 => exact HC0_3.out)
         rintro e w33 ⟨rfl, hb⟩
         refine ⟨_, rfl, ?_⟩
         have n0_ := Aside0.mk (blk_below (g := gb198) (o := .cells #[.int .i64 a0_0, .int .i64 a0_1, .string a0_2, .slice A0_3 l0_3.length c0_3] 31 (0, 0)) (by (with_reducible repeat (first | refine blk_drewN ?_ _ | refine blk_drew ?_ | refine blk_alloc ?_ _)); exact BK198.out) hb)
         have n1_ := Aside0.mk (below_step (by repeat (first | (with_reducible first | exact HB.out | apply below_alloc | apply pw_below_drewN | apply below_drew1 | refine below_set ?_ GE198.out) | exact HB.out)) hb)
         clear BK198
         clear HB
         have BK198 := n0_
         have HB := n1_
         clear n0_ n1_
         (try clear hb)
         (try clear hb2)
         (try clear hk)
         (try clear hi)
         refine hK.out _ _ ⟨(blk_cell BK198.out 0).trans rfl, (blk_cell BK198.out 1).trans rfl, (blk_cell BK198.out 2).trans rfl, (blk_cell BK198.out 3).trans rfl⟩ (fun hHeld => ?_)
         clear hK K
         refine norm_ (a' := ?_) ?_ ?_
         rotate_left
         ·show Act.put _ (some 31) _ = _
          simp only [Act.put, List.setIfInBounds_toArray, List.set_cons_zero, List.set_cons_succ, i64_w, i32_w]
          rfl
         refine pure_ (i := 9) (N := some 32) (v := ?_) (a' := ?_) #[true, true, true, true, true, true, true, true, true, true, false, false] rfl rfl (any_of HT_.out (by kernel_rfl)) (fun _ _ _ h => h) (Or.inl ⟨by rfl, ?_⟩) ?_ ?_
         rotate_left
         ·intro w'
          go_simp
          with_reducible rfl
         rotate_left
         ·simp only [Act.put, List.setIfInBounds_toArray, List.set_cons_zero, List.set_cons_succ, i64_w, i32_w]
          rfl
         refine pure_ (i := 10) (N := some 33) (v := ?_) (a' := ?_) #[true, true, true, true, true, true, true, true, true, true, true, false] rfl rfl (any_of HT_.out (by kernel_rfl)) (fun _ _ _ h => h) (Or.inl ⟨by rfl, ?_⟩) ?_ ?_
         rotate_left
         ·intro w'
          go_simp
          with_reducible rfl
         rotate_left
         ·simp only [Act.put, List.setIfInBounds_toArray, List.set_cons_zero, List.set_cons_succ, i64_w, i32_w]
          rfl
         refine pure_ (i := 11) (N := some 2) (v := ?_) (a' := ?_) #[true, true, true, true, true, true, true, true, true, true, true, true] rfl rfl (any_of HT_.out (by kernel_rfl)) (fun _ _ _ h => h) (Or.inl ⟨by rfl, ?_⟩) ?_ ?_
         rotate_left
         ·intro w'
          go_simp
          with_reducible rfl
         rotate_left
         ·simp only [Act.put, List.setIfInBounds_toArray, List.set_cons_zero, List.set_cons_succ, i64_w, i32_w]
          rfl
         refine done_ (done_of HT_.out (by kernel_rfl)) ?_
         try go_wp2
         go_ret
         exact ⟨by first | rfl | (simp [errW_none, errW_some] <;> rfl) | (simp [*, errW_none, errW_some] <;> rfl), by repeat (first | (with_reducible first | exact HB.out | apply below_alloc | apply pw_below_drewN | apply below_drew1 | refine below_set ?_ GE198.out) | exact HB.out)⟩
        ·rw [if_neg c28] at H
         exact absurd H (by simp)
       ·rw [if_neg c27] at H
        exact absurd H (by simp)
      ·rw [if_neg c25] at H
       exact absurd H (by simp)
     ·rw [if_neg c24] at H
      exact absurd H (by simp)
    ·rw [if_neg c22] at H
     have c22b0 : (a0_0 == 4) = false := beq_eq_false_iff_ne.mpr c22
     have c22b1 : (a0_0 != 4) = true := bne_iff_ne.mpr c22
     by_cases c34 : a0_0 = 5
     ·rw [if_pos c34] at H
      have c34b0 : (a0_0 == 5) = true := beq_iff_eq.mpr c34
      have c34b1 : (a0_0 != 5) = false := bne_eq_false_iff_eq.mpr c34
      clear c34
      replace H := Option.bind_eq_some_iff.mp H
      obtain ⟨t204, A350, H⟩ := H
      replace H : (if 1 + t204.size ≤ 9223372036854775807 then (if ((⟨#[40]⟩ : ByteArray) ++ t204).size + 4 ≤ 9223372036854775807 then ((witheref6_kid.f k l0_3 1).bind fun t205 => (if (((⟨#[40]⟩ : ByteArray) ++ t204) ++ (⟨#[32, 61, 61, 32]⟩ : ByteArray)).size + t205.size ≤ 9223372036854775807 then (if ((((⟨#[40]⟩ : ByteArray) ++ t204) ++ (⟨#[32, 61, 61, 32]⟩ : ByteArray)) ++ t205).size + 1 ≤ 9223372036854775807 then (some (((((⟨#[40]⟩ : ByteArray) ++ t204) ++ (⟨#[32, 61, 61, 32]⟩ : ByteArray)) ++ t205) ++ (⟨#[41]⟩ : ByteArray))) else (none)) else (none))) else (none)) else (none)) = some r := H
      have A35 := Aside0.mk A350
      clear A350
      by_cases c36 : 1 + t204.size ≤ 9223372036854775807
      ·rw [if_pos c36] at H
       have c36b0 := eq_true c36
       have c36b1 : decide (1 + t204.size ≤ 9223372036854775807) = true := decide_eq_true c36
       try have c36b2 : (9223372036854775807 < 1 + t204.size) = False := eq_false (Nat.not_lt.2 c36)
       by_cases c37 : ((⟨#[40]⟩ : ByteArray) ++ t204).size + 4 ≤ 9223372036854775807
       ·rw [if_pos c37] at H
        have c37b0 := eq_true c37
        have c37b1 : decide (((⟨#[40]⟩ : ByteArray) ++ t204).size + 4 ≤ 9223372036854775807) = true := decide_eq_true c37
        try (have c37b1s := c37b1; simp only [ByteArray.size_append, show (⟨#[40]⟩ : ByteArray).size = 1 from rfl] at c37b1s)
        try have c37b2 : (9223372036854775807 < ((⟨#[40]⟩ : ByteArray) ++ t204).size + 4) = False := eq_false (Nat.not_lt.2 c37)
        try (have c37b2s := c37b2; simp only [ByteArray.size_append, show (⟨#[40]⟩ : ByteArray).size = 1 from rfl] at c37b2s)
        replace H := Option.bind_eq_some_iff.mp H
        obtain ⟨t205, A380, H⟩ := H
        replace H : (if (((⟨#[40]⟩ : ByteArray) ++ t204) ++ (⟨#[32, 61, 61, 32]⟩ : ByteArray)).size + t205.size ≤ 9223372036854775807 then (if ((((⟨#[40]⟩ : ByteArray) ++ t204) ++ (⟨#[32, 61, 61, 32]⟩ : ByteArray)) ++ t205).size + 1 ≤ 9223372036854775807 then (some (((((⟨#[40]⟩ : ByteArray) ++ t204) ++ (⟨#[32, 61, 61, 32]⟩ : ByteArray)) ++ t205) ++ (⟨#[41]⟩ : ByteArray))) else (none)) else (none)) = some r := H
        have A38 := Aside0.mk A380
        clear A380
        by_cases c39 : (((⟨#[40]⟩ : ByteArray) ++ t204) ++ (⟨#[32, 61, 61, 32]⟩ : ByteArray)).size + t205.size ≤ 9223372036854775807
        ·rw [if_pos c39] at H
         have c39b0 := eq_true c39
         have c39b1 : decide ((((⟨#[40]⟩ : ByteArray) ++ t204) ++ (⟨#[32, 61, 61, 32]⟩ : ByteArray)).size + t205.size ≤ 9223372036854775807) = true := decide_eq_true c39
         try (have c39b1s := c39b1; simp only [ByteArray.size_append, show (⟨#[32, 61, 61, 32]⟩ : ByteArray).size = 4 from rfl, show (⟨#[40]⟩ : ByteArray).size = 1 from rfl] at c39b1s)
         try have c39b2 : (9223372036854775807 < (((⟨#[40]⟩ : ByteArray) ++ t204) ++ (⟨#[32, 61, 61, 32]⟩ : ByteArray)).size + t205.size) = False := eq_false (Nat.not_lt.2 c39)
         try (have c39b2s := c39b2; simp only [ByteArray.size_append, show (⟨#[32, 61, 61, 32]⟩ : ByteArray).size = 4 from rfl, show (⟨#[40]⟩ : ByteArray).size = 1 from rfl] at c39b2s)
         by_cases c40 : ((((⟨#[40]⟩ : ByteArray) ++ t204) ++ (⟨#[32, 61, 61, 32]⟩ : ByteArray)) ++ t205).size + 1 ≤ 9223372036854775807
         ·rw [if_pos c40] at H
          have c40b0 := eq_true c40
          have c40b1 : decide (((((⟨#[40]⟩ : ByteArray) ++ t204) ++ (⟨#[32, 61, 61, 32]⟩ : ByteArray)) ++ t205).size + 1 ≤ 9223372036854775807) = true := decide_eq_true c40
          try (have c40b1s := c40b1; simp only [ByteArray.size_append, show (⟨#[32, 61, 61, 32]⟩ : ByteArray).size = 4 from rfl, show (⟨#[40]⟩ : ByteArray).size = 1 from rfl] at c40b1s)
          try have c40b2 : (9223372036854775807 < ((((⟨#[40]⟩ : ByteArray) ++ t204) ++ (⟨#[32, 61, 61, 32]⟩ : ByteArray)) ++ t205).size + 1) = False := eq_false (Nat.not_lt.2 c40)
          try (have c40b2s := c40b2; simp only [ByteArray.size_append, show (⟨#[32, 61, 61, 32]⟩ : ByteArray).size = 4 from rfl, show (⟨#[40]⟩ : ByteArray).size = 1 from rfl] at c40b2s)
          obtain rfl := Option.some.inj H
          go_enter Tryd.func11, Tryd.ntmps11
          try go_wp2_with (first | ((with_reducible refine gate_dst (N := 1) rfl ?_); refine box_event ?hg (N := 1) ?hd (cs := #[.int .i64 a0_0, .int .i64 a0_1, .string a0_2, .slice A0_3 l0_3.length c0_3]) (t := 31) ?hr ?_; (case hd => rfl); (case hg => rfl); (case hr => first | (go_simp; done) | (go_simp; rfl)); intro gb198 hg w41 hbox hb; have n0_ := Aside0.mk (below_step (by repeat (first | (with_reducible first | exact HB.out | apply below_alloc | apply pw_below_drewN | apply below_drew1) | exact HB.out)) hb); have n1_ := Aside0.mk (hbox); have n2_ := Aside0.mk ((by rw [hg]; exact (below_size (by repeat (first | (with_reducible first | exact HB.out | apply below_alloc | apply pw_below_drewN | apply below_drew1) | exact HB.out))) : w.heap.size ≤ gb198)); have n3_ := Aside0.mk ((by rw [hg]; exact (below_size (by repeat (first | (with_reducible first | exact HB.out | apply below_alloc | apply pw_below_drewN | apply below_drew1) | exact HB.out))) : w.heap.size ≤ gb198)); clear HB; have HB := n0_; have BK198 := n1_; have GW198 := n2_; have GE198 := n3_; clear n0_ n1_ n2_ n3_; clear hb hbox hg; have hcz42_0 : w41.cell? ⟨gb198, 0, none⟩ = some (.int .i64 a0_0) := (blk_cell BK198.out 0).trans rfl; have hcz42_1 : w41.cell? ⟨gb198, 1, none⟩ = some (.int .i64 a0_1) := (blk_cell BK198.out 1).trans rfl; have hcz42_2 : w41.cell? ⟨gb198, 2, none⟩ = some (.string a0_2) := (blk_cell BK198.out 2).trans rfl; have hcz42_3 : w41.cell? ⟨gb198, 3, none⟩ = some (.slice A0_3 l0_3.length c0_3) := (blk_cell BK198.out 3).trans rfl; have hfz42_0 := blk_frozen BK198.out 0; have hfz42_1 := blk_frozen BK198.out 1; have hfz42_2 := blk_frozen BK198.out 2; have hfz42_3 := blk_frozen BK198.out 3))
          have n0_ := Aside0.mk (blk_drew BK198.out)
          have n1_ := Aside0.mk (below_drew1 HB.out)
          clear BK198
          clear HB
          have BK198 := n0_
          have HB := n1_
          clear n0_ n1_
          refine start_ (n := 12) (S := fun w' => w'.cell? ⟨gb198, 0, none⟩ = some (.int .i64 a0_0) ∧ w'.cell? ⟨gb198, 1, none⟩ = some (.int .i64 a0_1) ∧ w'.cell? ⟨gb198, 2, none⟩ = some (.string a0_2) ∧ w'.cell? ⟨gb198, 3, none⟩ = some (.slice A0_3 l0_3.length c0_3)) (ds := []) #[false, false, false, false, false, false, false, false, false, false, false, false] (by kernel_rfl) rfl rfl ⟨(blk_cell BK198.out 0).trans rfl, (blk_cell BK198.out 1).trans rfl, (blk_cell BK198.out 2).trans rfl, (blk_cell BK198.out 3).trans rfl⟩ (fun hHeld => ?_); refine with_tabW witheref6_Expr.tab16 witheref6_Expr.bits16 (fun HT_ HW_ => ?_)
          generalize w41.drew = w43 at BK198 HB hHeld ⊢
          refine pure_ (i := 0) (N := some 23) (v := ?_) (a' := ?_) #[true, false, false, false, false, false, false, false, false, false, false, false] rfl rfl (any_of HT_.out (by kernel_rfl)) (fun _ _ _ h => h) (Or.inl ⟨by rfl, ?_⟩) ?_ ?_
          rotate_left
          ·intro w'
           go_simp
           with_reducible rfl
          rotate_left
          ·simp only [Act.put, List.setIfInBounds_toArray, List.set_cons_zero, List.set_cons_succ, i64_w, i32_w]
           rfl
          refine pure_ (i := 4) (N := some 27) (v := ?_) (a' := ?_) #[true, false, false, false, true, false, false, false, false, false, false, false] rfl rfl (any_of HT_.out (by kernel_rfl)) (fun _ _ _ h => h) (Or.inl ⟨by rfl, ?_⟩) ?_ ?_
          rotate_left
          ·intro w'
           go_simp
           with_reducible rfl
          rotate_left
          ·simp only [Act.put, List.setIfInBounds_toArray, List.set_cons_zero, List.set_cons_succ, i64_w, i32_w]
           rfl
          refine pure_ (i := 6) (N := some 29) (v := ?_) (a' := ?_) #[true, false, false, false, true, false, true, false, false, false, false, false] rfl rfl (any_of HT_.out (by kernel_rfl)) (fun _ _ _ h => h) (Or.inl ⟨by rfl, ?_⟩) ?_ ?_
          rotate_left
          ·intro w'
           go_simp
           with_reducible rfl
          rotate_left
          ·simp only [Act.put, List.setIfInBounds_toArray, List.set_cons_zero, List.set_cons_succ, i64_w, i32_w]
           rfl
          refine take_ (i := 1) (N := some 24) (v := ?_) (a' := ?_) #[true, true, false, false, true, false, true, false, false, false, false, false] rfl rfl (take_ofW HT_.out HW_.out (by kernel_rfl)) (fun _ _ _ h => h) (Or.inl ⟨by rfl, ?_⟩) hHeld ?_ ?_
          rotate_left
          ·rintro w' ⟨s0, s1, s2, s3⟩
           go_simp
           with_reducible rfl
          rotate_left
          ·simp only [Act.put, List.setIfInBounds_toArray, List.set_cons_zero, List.set_cons_succ, i64_w, i32_w]
           rfl
          refine take_ (i := 7) (N := some 30) (v := ?_) (a' := ?_) #[true, true, false, false, true, false, true, true, false, false, false, false] rfl rfl (take_ofW HT_.out HW_.out (by kernel_rfl)) (fun _ _ _ h => h) (Or.inl ⟨by rfl, ?_⟩) hHeld ?_ ?_
          rotate_left
          ·rintro w' ⟨s0, s1, s2, s3⟩
           go_simp
           with_reducible rfl
          rotate_left
          ·simp only [Act.put, List.setIfInBounds_toArray, List.set_cons_zero, List.set_cons_succ, i64_w, i32_w]
           rfl
          refine one_ (i := 2) (N := some 25) #[true, true, true, false, true, false, true, true, false, false, false, false] rfl rfl (one_of HT_.out (by kernel_rfl)) (by decide) (fun K hK => ?_)
          refine goes_ Tryd.func25 (by kernel_rfl) rfl #[.slice A0_3 l0_3.length c0_3, .int .i64 0] (by rfl) rfl rfl (by (try simp only [List.map_toArray, List.map_cons, List.map_nil]); first | done | rfl | (simp only [List.length_drop, List.length_take]; rfl)) ?_
          with_reducible refine (witheref6_kid.calls_of k (fun a0_0 a0_1 a0_2 A0_3 c0_3 l0_3 r w hr0_3 hc0_3 h => ih k (Nat.lt_succ_self k) a0_0 a0_1 a0_2 A0_3 c0_3 l0_3 r w hr0_3 hc0_3 h) _ _ l0_3 0 t204 _ ?side1 ?side2 A35.out).mono ?_
          (case side1 => repeat (first | exact (Kd.C_below HR0_3.out HB.out) | (with_reducible refine Kd.C_alloc ?_ _) | (with_reducible refine Kd.C_drewN ?_ _) | (with_reducible refine Kd.C_drew ?_)))
          (case side2 => exact HC0_3.out)
          rintro e w44 ⟨rfl, hb⟩
          refine ⟨_, rfl, ?_⟩
          have n0_ := Aside0.mk (blk_below (g := gb198) (o := .cells #[.int .i64 a0_0, .int .i64 a0_1, .string a0_2, .slice A0_3 l0_3.length c0_3] 31 (0, 0)) (by (with_reducible repeat (first | refine blk_drewN ?_ _ | refine blk_drew ?_ | refine blk_alloc ?_ _)); exact BK198.out) hb)
          have n1_ := Aside0.mk (below_step (by repeat (first | (with_reducible first | exact HB.out | apply below_alloc | apply pw_below_drewN | apply below_drew1 | refine below_set ?_ GE198.out) | exact HB.out)) hb)
          clear BK198
          clear HB
          have BK198 := n0_
          have HB := n1_
          clear n0_ n1_
          (try clear hb)
          (try clear hb2)
          (try clear hk)
          (try clear hi)
          refine hK.out _ _ ⟨(blk_cell BK198.out 0).trans rfl, (blk_cell BK198.out 1).trans rfl, (blk_cell BK198.out 2).trans rfl, (blk_cell BK198.out 3).trans rfl⟩ (fun hHeld => ?_)
          clear hK K
          refine norm_ (a' := ?_) ?_ ?_
          rotate_left
          ·show Act.put _ (some 25) _ = _
           simp only [Act.put, List.setIfInBounds_toArray, List.set_cons_zero, List.set_cons_succ, i64_w, i32_w]
           rfl
          refine pure_ (i := 3) (N := some 26) (v := ?_) (a' := ?_) #[true, true, true, true, true, false, true, true, false, false, false, false] rfl rfl (any_of HT_.out (by kernel_rfl)) (fun _ _ _ h => h) (Or.inl ⟨by rfl, ?_⟩) ?_ ?_
          rotate_left
          ·intro w'
           go_simp
           with_reducible rfl
          rotate_left
          ·simp only [Act.put, List.setIfInBounds_toArray, List.set_cons_zero, List.set_cons_succ, i64_w, i32_w]
           rfl
          refine pure_ (i := 5) (N := some 28) (v := ?_) (a' := ?_) #[true, true, true, true, true, true, true, true, false, false, false, false] rfl rfl (any_of HT_.out (by kernel_rfl)) (fun _ _ _ h => h) (Or.inl ⟨by rfl, ?_⟩) ?_ ?_
          rotate_left
          ·intro w'
           go_simp
           with_reducible rfl
          rotate_left
          ·simp only [Act.put, List.setIfInBounds_toArray, List.set_cons_zero, List.set_cons_succ, i64_w, i32_w]
           rfl
          refine one_ (i := 8) (N := some 31) #[true, true, true, true, true, true, true, true, true, false, false, false] rfl rfl (one_of HT_.out (by kernel_rfl)) (by decide) (fun K hK => ?_)
          refine goes_ Tryd.func25 (by kernel_rfl) rfl #[.slice A0_3 l0_3.length c0_3, .int .i64 1] (by rfl) rfl rfl (by (try simp only [List.map_toArray, List.map_cons, List.map_nil]); first | done | rfl | (simp only [List.length_drop, List.length_take]; rfl)) ?_
          with_reducible refine (witheref6_kid.calls_of k (fun a0_0 a0_1 a0_2 A0_3 c0_3 l0_3 r w hr0_3 hc0_3 h => ih k (Nat.lt_succ_self k) a0_0 a0_1 a0_2 A0_3 c0_3 l0_3 r w hr0_3 hc0_3 h) _ _ l0_3 1 t205 _ ?side1 ?side2 A38.out).mono ?_
          (case side1 => repeat (first | exact (Kd.C_below HR0_3.out HB.out) | (with_reducible refine Kd.C_alloc ?_ _) | (with_reducible refine Kd.C_drewN ?_ _) | (with_reducible refine Kd.C_drew ?_)))
          (case side2 => exact HC0_3.out)
          rintro e w45 ⟨rfl, hb⟩
          refine ⟨_, rfl, ?_⟩
          have n0_ := Aside0.mk (blk_below (g := gb198) (o := .cells #[.int .i64 a0_0, .int .i64 a0_1, .string a0_2, .slice A0_3 l0_3.length c0_3] 31 (0, 0)) (by (with_reducible repeat (first | refine blk_drewN ?_ _ | refine blk_drew ?_ | refine blk_alloc ?_ _)); exact BK198.out) hb)
          have n1_ := Aside0.mk (below_step (by repeat (first | (with_reducible first | exact HB.out | apply below_alloc | apply pw_below_drewN | apply below_drew1 | refine below_set ?_ GE198.out) | exact HB.out)) hb)
          clear BK198
          clear HB
          have BK198 := n0_
          have HB := n1_
          clear n0_ n1_
          (try clear hb)
          (try clear hb2)
          (try clear hk)
          (try clear hi)
          refine hK.out _ _ ⟨(blk_cell BK198.out 0).trans rfl, (blk_cell BK198.out 1).trans rfl, (blk_cell BK198.out 2).trans rfl, (blk_cell BK198.out 3).trans rfl⟩ (fun hHeld => ?_)
          clear hK K
          refine norm_ (a' := ?_) ?_ ?_
          rotate_left
          ·show Act.put _ (some 31) _ = _
           simp only [Act.put, List.setIfInBounds_toArray, List.set_cons_zero, List.set_cons_succ, i64_w, i32_w]
           rfl
          refine pure_ (i := 9) (N := some 32) (v := ?_) (a' := ?_) #[true, true, true, true, true, true, true, true, true, true, false, false] rfl rfl (any_of HT_.out (by kernel_rfl)) (fun _ _ _ h => h) (Or.inl ⟨by rfl, ?_⟩) ?_ ?_
          rotate_left
          ·intro w'
           go_simp
           with_reducible rfl
          rotate_left
          ·simp only [Act.put, List.setIfInBounds_toArray, List.set_cons_zero, List.set_cons_succ, i64_w, i32_w]
           rfl
          refine pure_ (i := 10) (N := some 33) (v := ?_) (a' := ?_) #[true, true, true, true, true, true, true, true, true, true, true, false] rfl rfl (any_of HT_.out (by kernel_rfl)) (fun _ _ _ h => h) (Or.inl ⟨by rfl, ?_⟩) ?_ ?_
          rotate_left
          ·intro w'
           go_simp
           with_reducible rfl
          rotate_left
          ·simp only [Act.put, List.setIfInBounds_toArray, List.set_cons_zero, List.set_cons_succ, i64_w, i32_w]
           rfl
          refine pure_ (i := 11) (N := some 2) (v := ?_) (a' := ?_) #[true, true, true, true, true, true, true, true, true, true, true, true] rfl rfl (any_of HT_.out (by kernel_rfl)) (fun _ _ _ h => h) (Or.inl ⟨by rfl, ?_⟩) ?_ ?_
          rotate_left
          ·intro w'
           go_simp
           with_reducible rfl
          rotate_left
          ·simp only [Act.put, List.setIfInBounds_toArray, List.set_cons_zero, List.set_cons_succ, i64_w, i32_w]
           rfl
          refine done_ (done_of HT_.out (by kernel_rfl)) ?_
          try go_wp2
          go_ret
          exact ⟨by first | rfl | (simp [errW_none, errW_some] <;> rfl) | (simp [*, errW_none, errW_some] <;> rfl), by repeat (first | (with_reducible first | exact HB.out | apply below_alloc | apply pw_below_drewN | apply below_drew1 | refine below_set ?_ GE198.out) | exact HB.out)⟩
         ·rw [if_neg c40] at H
          exact absurd H (by simp)
        ·rw [if_neg c39] at H
         exact absurd H (by simp)
       ·rw [if_neg c37] at H
        exact absurd H (by simp)
      ·rw [if_neg c36] at H
       exact absurd H (by simp)
     ·rw [if_neg c34] at H
      have c34b0 : (a0_0 == 5) = false := beq_eq_false_iff_ne.mpr c34
      have c34b1 : (a0_0 != 5) = true := bne_iff_ne.mpr c34
      by_cases c46 : a0_0 = 6
      ·rw [if_pos c46] at H
       have c46b0 : (a0_0 == 6) = true := beq_iff_eq.mpr c46
       have c46b1 : (a0_0 != 6) = false := bne_eq_false_iff_eq.mpr c46
       clear c46
       replace H := Option.bind_eq_some_iff.mp H
       obtain ⟨t206, A470, H⟩ := H
       replace H : (if 1 + t206.size ≤ 9223372036854775807 then (if ((⟨#[40]⟩ : ByteArray) ++ t206).size + 3 ≤ 9223372036854775807 then ((witheref6_kid.f k l0_3 1).bind fun t207 => (if (((⟨#[40]⟩ : ByteArray) ++ t206) ++ (⟨#[32, 60, 32]⟩ : ByteArray)).size + t207.size ≤ 9223372036854775807 then (if ((((⟨#[40]⟩ : ByteArray) ++ t206) ++ (⟨#[32, 60, 32]⟩ : ByteArray)) ++ t207).size + 1 ≤ 9223372036854775807 then (some (((((⟨#[40]⟩ : ByteArray) ++ t206) ++ (⟨#[32, 60, 32]⟩ : ByteArray)) ++ t207) ++ (⟨#[41]⟩ : ByteArray))) else (none)) else (none))) else (none)) else (none)) = some r := H
       have A47 := Aside0.mk A470
       clear A470
       by_cases c48 : 1 + t206.size ≤ 9223372036854775807
       ·rw [if_pos c48] at H
        have c48b0 := eq_true c48
        have c48b1 : decide (1 + t206.size ≤ 9223372036854775807) = true := decide_eq_true c48
        try have c48b2 : (9223372036854775807 < 1 + t206.size) = False := eq_false (Nat.not_lt.2 c48)
        by_cases c49 : ((⟨#[40]⟩ : ByteArray) ++ t206).size + 3 ≤ 9223372036854775807
        ·rw [if_pos c49] at H
         have c49b0 := eq_true c49
         have c49b1 : decide (((⟨#[40]⟩ : ByteArray) ++ t206).size + 3 ≤ 9223372036854775807) = true := decide_eq_true c49
         try (have c49b1s := c49b1; simp only [ByteArray.size_append, show (⟨#[40]⟩ : ByteArray).size = 1 from rfl] at c49b1s)
         try have c49b2 : (9223372036854775807 < ((⟨#[40]⟩ : ByteArray) ++ t206).size + 3) = False := eq_false (Nat.not_lt.2 c49)
         try (have c49b2s := c49b2; simp only [ByteArray.size_append, show (⟨#[40]⟩ : ByteArray).size = 1 from rfl] at c49b2s)
         replace H := Option.bind_eq_some_iff.mp H
         obtain ⟨t207, A500, H⟩ := H
         replace H : (if (((⟨#[40]⟩ : ByteArray) ++ t206) ++ (⟨#[32, 60, 32]⟩ : ByteArray)).size + t207.size ≤ 9223372036854775807 then (if ((((⟨#[40]⟩ : ByteArray) ++ t206) ++ (⟨#[32, 60, 32]⟩ : ByteArray)) ++ t207).size + 1 ≤ 9223372036854775807 then (some (((((⟨#[40]⟩ : ByteArray) ++ t206) ++ (⟨#[32, 60, 32]⟩ : ByteArray)) ++ t207) ++ (⟨#[41]⟩ : ByteArray))) else (none)) else (none)) = some r := H
         have A50 := Aside0.mk A500
         clear A500
         by_cases c51 : (((⟨#[40]⟩ : ByteArray) ++ t206) ++ (⟨#[32, 60, 32]⟩ : ByteArray)).size + t207.size ≤ 9223372036854775807
         ·rw [if_pos c51] at H
          have c51b0 := eq_true c51
          have c51b1 : decide ((((⟨#[40]⟩ : ByteArray) ++ t206) ++ (⟨#[32, 60, 32]⟩ : ByteArray)).size + t207.size ≤ 9223372036854775807) = true := decide_eq_true c51
          try (have c51b1s := c51b1; simp only [ByteArray.size_append, show (⟨#[32, 60, 32]⟩ : ByteArray).size = 3 from rfl, show (⟨#[40]⟩ : ByteArray).size = 1 from rfl] at c51b1s)
          try have c51b2 : (9223372036854775807 < (((⟨#[40]⟩ : ByteArray) ++ t206) ++ (⟨#[32, 60, 32]⟩ : ByteArray)).size + t207.size) = False := eq_false (Nat.not_lt.2 c51)
          try (have c51b2s := c51b2; simp only [ByteArray.size_append, show (⟨#[32, 60, 32]⟩ : ByteArray).size = 3 from rfl, show (⟨#[40]⟩ : ByteArray).size = 1 from rfl] at c51b2s)
          by_cases c52 : ((((⟨#[40]⟩ : ByteArray) ++ t206) ++ (⟨#[32, 60, 32]⟩ : ByteArray)) ++ t207).size + 1 ≤ 9223372036854775807
          ·rw [if_pos c52] at H
           have c52b0 := eq_true c52
           have c52b1 : decide (((((⟨#[40]⟩ : ByteArray) ++ t206) ++ (⟨#[32, 60, 32]⟩ : ByteArray)) ++ t207).size + 1 ≤ 9223372036854775807) = true := decide_eq_true c52
           try (have c52b1s := c52b1; simp only [ByteArray.size_append, show (⟨#[32, 60, 32]⟩ : ByteArray).size = 3 from rfl, show (⟨#[40]⟩ : ByteArray).size = 1 from rfl] at c52b1s)
           try have c52b2 : (9223372036854775807 < ((((⟨#[40]⟩ : ByteArray) ++ t206) ++ (⟨#[32, 60, 32]⟩ : ByteArray)) ++ t207).size + 1) = False := eq_false (Nat.not_lt.2 c52)
           try (have c52b2s := c52b2; simp only [ByteArray.size_append, show (⟨#[32, 60, 32]⟩ : ByteArray).size = 3 from rfl, show (⟨#[40]⟩ : ByteArray).size = 1 from rfl] at c52b2s)
           obtain rfl := Option.some.inj H
           go_enter Tryd.func11, Tryd.ntmps11
           try go_wp2_with (first | ((with_reducible refine gate_dst (N := 1) rfl ?_); refine box_event ?hg (N := 1) ?hd (cs := #[.int .i64 a0_0, .int .i64 a0_1, .string a0_2, .slice A0_3 l0_3.length c0_3]) (t := 31) ?hr ?_; (case hd => rfl); (case hg => rfl); (case hr => first | (go_simp; done) | (go_simp; rfl)); intro gb198 hg w53 hbox hb; have n0_ := Aside0.mk (below_step (by repeat (first | (with_reducible first | exact HB.out | apply below_alloc | apply pw_below_drewN | apply below_drew1) | exact HB.out)) hb); have n1_ := Aside0.mk (hbox); have n2_ := Aside0.mk ((by rw [hg]; exact (below_size (by repeat (first | (with_reducible first | exact HB.out | apply below_alloc | apply pw_below_drewN | apply below_drew1) | exact HB.out))) : w.heap.size ≤ gb198)); have n3_ := Aside0.mk ((by rw [hg]; exact (below_size (by repeat (first | (with_reducible first | exact HB.out | apply below_alloc | apply pw_below_drewN | apply below_drew1) | exact HB.out))) : w.heap.size ≤ gb198)); clear HB; have HB := n0_; have BK198 := n1_; have GW198 := n2_; have GE198 := n3_; clear n0_ n1_ n2_ n3_; clear hb hbox hg; have hcz54_0 : w53.cell? ⟨gb198, 0, none⟩ = some (.int .i64 a0_0) := (blk_cell BK198.out 0).trans rfl; have hcz54_1 : w53.cell? ⟨gb198, 1, none⟩ = some (.int .i64 a0_1) := (blk_cell BK198.out 1).trans rfl; have hcz54_2 : w53.cell? ⟨gb198, 2, none⟩ = some (.string a0_2) := (blk_cell BK198.out 2).trans rfl; have hcz54_3 : w53.cell? ⟨gb198, 3, none⟩ = some (.slice A0_3 l0_3.length c0_3) := (blk_cell BK198.out 3).trans rfl; have hfz54_0 := blk_frozen BK198.out 0; have hfz54_1 := blk_frozen BK198.out 1; have hfz54_2 := blk_frozen BK198.out 2; have hfz54_3 := blk_frozen BK198.out 3))
           have n0_ := Aside0.mk (blk_drew BK198.out)
           have n1_ := Aside0.mk (below_drew1 HB.out)
           clear BK198
           clear HB
           have BK198 := n0_
           have HB := n1_
           clear n0_ n1_
           refine start_ (n := 12) (S := fun w' => w'.cell? ⟨gb198, 0, none⟩ = some (.int .i64 a0_0) ∧ w'.cell? ⟨gb198, 1, none⟩ = some (.int .i64 a0_1) ∧ w'.cell? ⟨gb198, 2, none⟩ = some (.string a0_2) ∧ w'.cell? ⟨gb198, 3, none⟩ = some (.slice A0_3 l0_3.length c0_3)) (ds := []) #[false, false, false, false, false, false, false, false, false, false, false, false] (by kernel_rfl) rfl rfl ⟨(blk_cell BK198.out 0).trans rfl, (blk_cell BK198.out 1).trans rfl, (blk_cell BK198.out 2).trans rfl, (blk_cell BK198.out 3).trans rfl⟩ (fun hHeld => ?_); refine with_tabW witheref6_Expr.tab16 witheref6_Expr.bits16 (fun HT_ HW_ => ?_)
           generalize w53.drew = w55 at BK198 HB hHeld ⊢
           refine pure_ (i := 0) (N := some 23) (v := ?_) (a' := ?_) #[true, false, false, false, false, false, false, false, false, false, false, false] rfl rfl (any_of HT_.out (by kernel_rfl)) (fun _ _ _ h => h) (Or.inl ⟨by rfl, ?_⟩) ?_ ?_
           rotate_left
           ·intro w'
            go_simp
            with_reducible rfl
           rotate_left
           ·simp only [Act.put, List.setIfInBounds_toArray, List.set_cons_zero, List.set_cons_succ, i64_w, i32_w]
            rfl
           refine pure_ (i := 4) (N := some 27) (v := ?_) (a' := ?_) #[true, false, false, false, true, false, false, false, false, false, false, false] rfl rfl (any_of HT_.out (by kernel_rfl)) (fun _ _ _ h => h) (Or.inl ⟨by rfl, ?_⟩) ?_ ?_
           rotate_left
           ·intro w'
            go_simp
            with_reducible rfl
           rotate_left
           ·simp only [Act.put, List.setIfInBounds_toArray, List.set_cons_zero, List.set_cons_succ, i64_w, i32_w]
            rfl
           refine pure_ (i := 6) (N := some 29) (v := ?_) (a' := ?_) #[true, false, false, false, true, false, true, false, false, false, false, false] rfl rfl (any_of HT_.out (by kernel_rfl)) (fun _ _ _ h => h) (Or.inl ⟨by rfl, ?_⟩) ?_ ?_
           rotate_left
           ·intro w'
            go_simp
            with_reducible rfl
           rotate_left
           ·simp only [Act.put, List.setIfInBounds_toArray, List.set_cons_zero, List.set_cons_succ, i64_w, i32_w]
            rfl
           refine take_ (i := 1) (N := some 24) (v := ?_) (a' := ?_) #[true, true, false, false, true, false, true, false, false, false, false, false] rfl rfl (take_ofW HT_.out HW_.out (by kernel_rfl)) (fun _ _ _ h => h) (Or.inl ⟨by rfl, ?_⟩) hHeld ?_ ?_
           rotate_left
           ·rintro w' ⟨s0, s1, s2, s3⟩
            go_simp
            with_reducible rfl
           rotate_left
           ·simp only [Act.put, List.setIfInBounds_toArray, List.set_cons_zero, List.set_cons_succ, i64_w, i32_w]
            rfl
           refine take_ (i := 7) (N := some 30) (v := ?_) (a' := ?_) #[true, true, false, false, true, false, true, true, false, false, false, false] rfl rfl (take_ofW HT_.out HW_.out (by kernel_rfl)) (fun _ _ _ h => h) (Or.inl ⟨by rfl, ?_⟩) hHeld ?_ ?_
           rotate_left
           ·rintro w' ⟨s0, s1, s2, s3⟩
            go_simp
            with_reducible rfl
           rotate_left
           ·simp only [Act.put, List.setIfInBounds_toArray, List.set_cons_zero, List.set_cons_succ, i64_w, i32_w]
            rfl
           refine one_ (i := 2) (N := some 25) #[true, true, true, false, true, false, true, true, false, false, false, false] rfl rfl (one_of HT_.out (by kernel_rfl)) (by decide) (fun K hK => ?_)
           refine goes_ Tryd.func25 (by kernel_rfl) rfl #[.slice A0_3 l0_3.length c0_3, .int .i64 0] (by rfl) rfl rfl (by (try simp only [List.map_toArray, List.map_cons, List.map_nil]); first | done | rfl | (simp only [List.length_drop, List.length_take]; rfl)) ?_
           with_reducible refine (witheref6_kid.calls_of k (fun a0_0 a0_1 a0_2 A0_3 c0_3 l0_3 r w hr0_3 hc0_3 h => ih k (Nat.lt_succ_self k) a0_0 a0_1 a0_2 A0_3 c0_3 l0_3 r w hr0_3 hc0_3 h) _ _ l0_3 0 t206 _ ?side1 ?side2 A47.out).mono ?_
           (case side1 => repeat (first | exact (Kd.C_below HR0_3.out HB.out) | (with_reducible refine Kd.C_alloc ?_ _) | (with_reducible refine Kd.C_drewN ?_ _) | (with_reducible refine Kd.C_drew ?_)))
           (case side2 => exact HC0_3.out)
           rintro e w56 ⟨rfl, hb⟩
           refine ⟨_, rfl, ?_⟩
           have n0_ := Aside0.mk (blk_below (g := gb198) (o := .cells #[.int .i64 a0_0, .int .i64 a0_1, .string a0_2, .slice A0_3 l0_3.length c0_3] 31 (0, 0)) (by (with_reducible repeat (first | refine blk_drewN ?_ _ | refine blk_drew ?_ | refine blk_alloc ?_ _)); exact BK198.out) hb)
           have n1_ := Aside0.mk (below_step (by repeat (first | (with_reducible first | exact HB.out | apply below_alloc | apply pw_below_drewN | apply below_drew1 | refine below_set ?_ GE198.out) | exact HB.out)) hb)
           clear BK198
           clear HB
           have BK198 := n0_
           have HB := n1_
           clear n0_ n1_
           (try clear hb)
           (try clear hb2)
           (try clear hk)
           (try clear hi)
           refine hK.out _ _ ⟨(blk_cell BK198.out 0).trans rfl, (blk_cell BK198.out 1).trans rfl, (blk_cell BK198.out 2).trans rfl, (blk_cell BK198.out 3).trans rfl⟩ (fun hHeld => ?_)
           clear hK K
           refine norm_ (a' := ?_) ?_ ?_
           rotate_left
           ·show Act.put _ (some 25) _ = _
            simp only [Act.put, List.setIfInBounds_toArray, List.set_cons_zero, List.set_cons_succ, i64_w, i32_w]
            rfl
           refine pure_ (i := 3) (N := some 26) (v := ?_) (a' := ?_) #[true, true, true, true, true, false, true, true, false, false, false, false] rfl rfl (any_of HT_.out (by kernel_rfl)) (fun _ _ _ h => h) (Or.inl ⟨by rfl, ?_⟩) ?_ ?_
           rotate_left
           ·intro w'
            go_simp
            with_reducible rfl
           rotate_left
           ·simp only [Act.put, List.setIfInBounds_toArray, List.set_cons_zero, List.set_cons_succ, i64_w, i32_w]
            rfl
           refine pure_ (i := 5) (N := some 28) (v := ?_) (a' := ?_) #[true, true, true, true, true, true, true, true, false, false, false, false] rfl rfl (any_of HT_.out (by kernel_rfl)) (fun _ _ _ h => h) (Or.inl ⟨by rfl, ?_⟩) ?_ ?_
           rotate_left
           ·intro w'
            go_simp
            with_reducible rfl
           rotate_left
           ·simp only [Act.put, List.setIfInBounds_toArray, List.set_cons_zero, List.set_cons_succ, i64_w, i32_w]
            rfl
           refine one_ (i := 8) (N := some 31) #[true, true, true, true, true, true, true, true, true, false, false, false] rfl rfl (one_of HT_.out (by kernel_rfl)) (by decide) (fun K hK => ?_)
           refine goes_ Tryd.func25 (by kernel_rfl) rfl #[.slice A0_3 l0_3.length c0_3, .int .i64 1] (by rfl) rfl rfl (by (try simp only [List.map_toArray, List.map_cons, List.map_nil]); first | done | rfl | (simp only [List.length_drop, List.length_take]; rfl)) ?_
           with_reducible refine (witheref6_kid.calls_of k (fun a0_0 a0_1 a0_2 A0_3 c0_3 l0_3 r w hr0_3 hc0_3 h => ih k (Nat.lt_succ_self k) a0_0 a0_1 a0_2 A0_3 c0_3 l0_3 r w hr0_3 hc0_3 h) _ _ l0_3 1 t207 _ ?side1 ?side2 A50.out).mono ?_
           (case side1 => repeat (first | exact (Kd.C_below HR0_3.out HB.out) | (with_reducible refine Kd.C_alloc ?_ _) | (with_reducible refine Kd.C_drewN ?_ _) | (with_reducible refine Kd.C_drew ?_)))
           (case side2 => exact HC0_3.out)
           rintro e w57 ⟨rfl, hb⟩
           refine ⟨_, rfl, ?_⟩
           have n0_ := Aside0.mk (blk_below (g := gb198) (o := .cells #[.int .i64 a0_0, .int .i64 a0_1, .string a0_2, .slice A0_3 l0_3.length c0_3] 31 (0, 0)) (by (with_reducible repeat (first | refine blk_drewN ?_ _ | refine blk_drew ?_ | refine blk_alloc ?_ _)); exact BK198.out) hb)
           have n1_ := Aside0.mk (below_step (by repeat (first | (with_reducible first | exact HB.out | apply below_alloc | apply pw_below_drewN | apply below_drew1 | refine below_set ?_ GE198.out) | exact HB.out)) hb)
           clear BK198
           clear HB
           have BK198 := n0_
           have HB := n1_
           clear n0_ n1_
           (try clear hb)
           (try clear hb2)
           (try clear hk)
           (try clear hi)
           refine hK.out _ _ ⟨(blk_cell BK198.out 0).trans rfl, (blk_cell BK198.out 1).trans rfl, (blk_cell BK198.out 2).trans rfl, (blk_cell BK198.out 3).trans rfl⟩ (fun hHeld => ?_)
           clear hK K
           refine norm_ (a' := ?_) ?_ ?_
           rotate_left
           ·show Act.put _ (some 31) _ = _
            simp only [Act.put, List.setIfInBounds_toArray, List.set_cons_zero, List.set_cons_succ, i64_w, i32_w]
            rfl
           refine pure_ (i := 9) (N := some 32) (v := ?_) (a' := ?_) #[true, true, true, true, true, true, true, true, true, true, false, false] rfl rfl (any_of HT_.out (by kernel_rfl)) (fun _ _ _ h => h) (Or.inl ⟨by rfl, ?_⟩) ?_ ?_
           rotate_left
           ·intro w'
            go_simp
            with_reducible rfl
           rotate_left
           ·simp only [Act.put, List.setIfInBounds_toArray, List.set_cons_zero, List.set_cons_succ, i64_w, i32_w]
            rfl
           refine pure_ (i := 10) (N := some 33) (v := ?_) (a' := ?_) #[true, true, true, true, true, true, true, true, true, true, true, false] rfl rfl (any_of HT_.out (by kernel_rfl)) (fun _ _ _ h => h) (Or.inl ⟨by rfl, ?_⟩) ?_ ?_
           rotate_left
           ·intro w'
            go_simp
            with_reducible rfl
           rotate_left
           ·simp only [Act.put, List.setIfInBounds_toArray, List.set_cons_zero, List.set_cons_succ, i64_w, i32_w]
            rfl
           refine pure_ (i := 11) (N := some 2) (v := ?_) (a' := ?_) #[true, true, true, true, true, true, true, true, true, true, true, true] rfl rfl (any_of HT_.out (by kernel_rfl)) (fun _ _ _ h => h) (Or.inl ⟨by rfl, ?_⟩) ?_ ?_
           rotate_left
           ·intro w'
            go_simp
            with_reducible rfl
           rotate_left
           ·simp only [Act.put, List.setIfInBounds_toArray, List.set_cons_zero, List.set_cons_succ, i64_w, i32_w]
            rfl
           refine done_ (done_of HT_.out (by kernel_rfl)) ?_
           try go_wp2
           go_ret
           exact ⟨by first | rfl | (simp [errW_none, errW_some] <;> rfl) | (simp [*, errW_none, errW_some] <;> rfl), by repeat (first | (with_reducible first | exact HB.out | apply below_alloc | apply pw_below_drewN | apply below_drew1 | refine below_set ?_ GE198.out) | exact HB.out)⟩
          ·rw [if_neg c52] at H
           exact absurd H (by simp)
         ·rw [if_neg c51] at H
          exact absurd H (by simp)
        ·rw [if_neg c49] at H
         exact absurd H (by simp)
       ·rw [if_neg c48] at H
        exact absurd H (by simp)
      ·rw [if_neg c46] at H
       have c46b0 : (a0_0 == 6) = false := beq_eq_false_iff_ne.mpr c46
       have c46b1 : (a0_0 != 6) = true := bne_iff_ne.mpr c46
       obtain rfl := Option.some.inj H
       go_enter Tryd.func11, Tryd.ntmps11
       go_wp2_with (first | ((with_reducible refine gate_dst (N := 1) rfl ?_); refine box_event ?hg (N := 1) ?hd (cs := #[.int .i64 a0_0, .int .i64 a0_1, .string a0_2, .slice A0_3 l0_3.length c0_3]) (t := 31) ?hr ?_; (case hd => rfl); (case hg => rfl); (case hr => first | (go_simp; done) | (go_simp; rfl)); intro gb198 hg w58 hbox hb; have n0_ := Aside0.mk (below_step (by repeat (first | (with_reducible first | exact HB.out | apply below_alloc | apply pw_below_drewN | apply below_drew1) | exact HB.out)) hb); have n1_ := Aside0.mk (hbox); have n2_ := Aside0.mk ((by rw [hg]; exact (below_size (by repeat (first | (with_reducible first | exact HB.out | apply below_alloc | apply pw_below_drewN | apply below_drew1) | exact HB.out))) : w.heap.size ≤ gb198)); have n3_ := Aside0.mk ((by rw [hg]; exact (below_size (by repeat (first | (with_reducible first | exact HB.out | apply below_alloc | apply pw_below_drewN | apply below_drew1) | exact HB.out))) : w.heap.size ≤ gb198)); clear HB; have HB := n0_; have BK198 := n1_; have GW198 := n2_; have GE198 := n3_; clear n0_ n1_ n2_ n3_; clear hb hbox hg; have hcz59_0 : w58.cell? ⟨gb198, 0, none⟩ = some (.int .i64 a0_0) := (blk_cell BK198.out 0).trans rfl; have hcz59_1 : w58.cell? ⟨gb198, 1, none⟩ = some (.int .i64 a0_1) := (blk_cell BK198.out 1).trans rfl; have hcz59_2 : w58.cell? ⟨gb198, 2, none⟩ = some (.string a0_2) := (blk_cell BK198.out 2).trans rfl; have hcz59_3 : w58.cell? ⟨gb198, 3, none⟩ = some (.slice A0_3 l0_3.length c0_3) := (blk_cell BK198.out 3).trans rfl; have hfz59_0 := blk_frozen BK198.out 0; have hfz59_1 := blk_frozen BK198.out 1; have hfz59_2 := blk_frozen BK198.out 2; have hfz59_3 := blk_frozen BK198.out 3))
       go_ret
       exact ⟨by first | rfl | (simp [errW_none, errW_some] <;> rfl) | (simp [*, errW_none, errW_some] <;> rfl), by repeat (first | (with_reducible first | exact HB.out | apply below_alloc | apply pw_below_drewN | apply below_drew1 | refine below_set ?_ GE198.out) | exact HB.out)⟩

theorem witheref6_kid.calls (k : Nat) (A0 : Option Addr) (c0 : Nat) (l0 : List (S31)) (a1 : Int) (r : ByteArray) (w : World) (hr0 : Kd.C k31 w A0 l0.length l0) (hc0 : l0.length ≤ c0) (h : witheref6_kid.f k l0 a1 = some r) :
 Calls Tryd.prog 25 #[.slice A0 l0.length c0, .int .i64 a1] w fun e w' => e = .returned (.string r) ∧ Below w.heap.size w w' := witheref6_kid.calls_of k (fun a0_0 a0_1 a0_2 A0_3 c0_3 l0_3 r w hr0_3 hc0_3 h => witheref6_Expr.calls k a0_0 a0_1 a0_2 A0_3 c0_3 l0_3 r w hr0_3 hc0_3 h) A0 c0 l0 a1 r w hr0 hc0 h
end Go.Proofs.YtpldhihdlgghlaaDoor.PS
