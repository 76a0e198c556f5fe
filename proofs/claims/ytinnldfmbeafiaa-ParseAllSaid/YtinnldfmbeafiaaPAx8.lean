-- made by fvprint.py over the kit's print
import Derived.Test.YtinnldfmbeafiaaPAx0
import Derived.Test.YtinnldfmbeafiaaPAx6
import Derived.Test.YtinnldfmbeafiaaPAx7
namespace Go.Proofs.Ytinnldfmbeafiaa.PA
open Go.RowKit Go.Proofs.YtinnldfmbeafiaaW.PrintWords Go.Proofs.YtinnldfmbeafiaaW.PrintLast Go.Proofs.YtinnldfmbeafiaaW.PrintMore
attribute [local go_sem] max2_int min2_int max_two min_two max_three min_three max_four min_four   -- for this text's walks alone
set_option linter.unusedVariables false
set_option linter.unusedSimpArgs false

attribute [local go_sem] cell_set_some
theorem w8q1 {p : Prop} (h : p := by repeat (first | (with_reducible first | exact HB.out | apply below_alloc | apply pw_below_drewN | apply below_drew1 | refine below_set ?_ GE169.out | refine below_set ?_ GE174.out) | exact HB.out)) : p := h
theorem w8q2 {p : Prop} (h : p := by (with_reducible repeat (first | refine blk_drewN ?_ _ | refine blk_drew ?_ | refine blk_alloc ?_ _)); exact BK169.out) : p := h
theorem w8q3 {p : Prop} (h : p := by repeat (first | (with_reducible first | exact HB.out | apply below_alloc | apply pw_below_drewN | apply below_drew1 | refine below_set ?_ GE169.out) | exact HB.out)) : p := h
theorem w8q4 {p : Prop} (h : p := by first | (with_reducible assumption) | assumption) : p := h
theorem w8q5 {p : Prop} (h : p := by (with_reducible repeat (first | apply Kd.R_alloc | apply Kd.R_drewN | apply Kd.R_drew)); exact HO_4.out) : p := h
theorem w8q6 {p : Prop} (h : p := by (try simp only [List.map_toArray, List.map_cons, List.map_nil]); first | done | rfl | (simp only [List.length_drop, List.length_take]; rfl)) : p := h
theorem w8q7 {p : Prop} (h : p := by (with_reducible repeat (first | refine blk_drewN ?_ _ | refine blk_drew ?_ | refine blk_alloc ?_ _)); refine blk_put (cs := #[.int .i64 1, .string (⟨#[]⟩ : ByteArray), .int .i64 0, .int .i64 x5_1]) ?_ 1 _ rfl; (with_reducible repeat (first | refine blk_drewN ?_ _ | refine blk_drew ?_ | refine blk_alloc ?_ _)); refine blk_put (cs := #[.int .i64 0, .string (⟨#[]⟩ : ByteArray), .int .i64 0, .int .i64 x5_1]) ?_ 0 _ rfl; (with_reducible repeat (first | refine blk_drewN ?_ _ | refine blk_drew ?_ | refine blk_alloc ?_ _)); exact BK174.out) : p := h
theorem w8q8 {p : Prop} (h : p := by (with_reducible repeat (first | refine blk_drewN ?_ _ | refine blk_drew ?_ | refine blk_alloc ?_ _)); refine blk_put (cs := #[.int .i64 3, .string (⟨#[]⟩ : ByteArray), .int .i64 0, .int .i64 x5_1]) ?_ 1 _ rfl; (with_reducible repeat (first | refine blk_drewN ?_ _ | refine blk_drew ?_ | refine blk_alloc ?_ _)); refine blk_put (cs := #[.int .i64 0, .string (⟨#[]⟩ : ByteArray), .int .i64 0, .int .i64 x5_1]) ?_ 0 _ rfl; (with_reducible repeat (first | refine blk_drewN ?_ _ | refine blk_drew ?_ | refine blk_alloc ?_ _)); refine blk_put (cs := #[.int .i64 0, .string (⟨#[]⟩ : ByteArray), .int .i64 0, .int .i64 0]) ?_ 3 _ rfl; (with_reducible repeat (first | refine blk_drewN ?_ _ | refine blk_drew ?_ | refine blk_alloc ?_ _)); refine blk_put (cs := #[.int .i64 0, .string (⟨#[]⟩ : ByteArray), .int .i64 0, .int .i64 0]) ?_ 2 _ rfl; (with_reducible repeat (first | refine blk_drewN ?_ _ | refine blk_drew ?_ | refine blk_alloc ?_ _)); refine blk_put (cs := #[.int .i64 0, .string (⟨#[]⟩ : ByteArray), .int .i64 0, .int .i64 0]) ?_ 1 _ rfl; (with_reducible repeat (first | refine blk_drewN ?_ _ | refine blk_drew ?_ | refine blk_alloc ?_ _)); refine blk_put (cs := #[.int .i64 0, .string (⟨#[]⟩ : ByteArray), .int .i64 0, .int .i64 0]) ?_ 0 _ rfl; (with_reducible repeat (first | refine blk_drewN ?_ _ | refine blk_drew ?_ | refine blk_alloc ?_ _)); exact BK174.out) : p := h
theorem w8q9 {p : Prop} (h : p := by (with_reducible repeat (first | refine blk_drewN ?_ _ | refine blk_drew ?_ | refine blk_alloc ?_ _)); exact BK174.out) : p := h
theorem w8q10 {p : Prop} (h : p := by (with_reducible repeat (first | refine blk_drewN ?_ _ | refine blk_drew ?_ | refine blk_alloc ?_ _)); refine blk_put (cs := #[.int .i64 0, .string (⟨#[]⟩ : ByteArray), .int .i64 0, .int .i64 0]) ?_ 3 _ rfl; (with_reducible repeat (first | refine blk_drewN ?_ _ | refine blk_drew ?_ | refine blk_alloc ?_ _)); refine blk_put (cs := #[.int .i64 0, .string (⟨#[]⟩ : ByteArray), .int .i64 0, .int .i64 0]) ?_ 2 _ rfl; (with_reducible repeat (first | refine blk_drewN ?_ _ | refine blk_drew ?_ | refine blk_alloc ?_ _)); refine blk_put (cs := #[.int .i64 0, .string (⟨#[]⟩ : ByteArray), .int .i64 0, .int .i64 0]) ?_ 1 _ rfl; (with_reducible repeat (first | refine blk_drewN ?_ _ | refine blk_drew ?_ | refine blk_alloc ?_ _)); refine blk_put (cs := #[.int .i64 0, .string (⟨#[]⟩ : ByteArray), .int .i64 0, .int .i64 0]) ?_ 0 _ rfl; (with_reducible repeat (first | refine blk_drewN ?_ _ | refine blk_drew ?_ | refine blk_alloc ?_ _)); exact BK174.out) : p := h
theorem w8q11 {p : Prop} (h : p := by (with_reducible repeat (first | refine blk_drewN ?_ _ | refine blk_drew ?_ | refine blk_alloc ?_ _)); refine blk_put (cs := #[.int .i64 2, .string (⟨#[]⟩ : ByteArray), .int .i64 t186, .int .i64 x5_1]) ?_ 1 _ rfl; (with_reducible repeat (first | refine blk_drewN ?_ _ | refine blk_drew ?_ | refine blk_alloc ?_ _)); refine blk_put (cs := #[.int .i64 2, .string (⟨#[]⟩ : ByteArray), .int .i64 0, .int .i64 x5_1]) ?_ 2 _ rfl; (with_reducible repeat (first | refine blk_drewN ?_ _ | refine blk_drew ?_ | refine blk_alloc ?_ _)); refine blk_put (cs := #[.int .i64 0, .string (⟨#[]⟩ : ByteArray), .int .i64 0, .int .i64 x5_1]) ?_ 0 _ rfl; (with_reducible repeat (first | refine blk_drewN ?_ _ | refine blk_drew ?_ | refine blk_alloc ?_ _)); exact BK174.out) : p := h
theorem w8q12 {p : Prop} (h : p := by (with_reducible repeat (first | refine blk_drewN ?_ _ | refine blk_drew ?_ | refine blk_alloc ?_ _)); refine blk_put (cs := #[.int .i64 2, .string (⟨#[]⟩ : ByteArray), .int .i64 t191, .int .i64 x5_1]) ?_ 1 _ rfl; (with_reducible repeat (first | refine blk_drewN ?_ _ | refine blk_drew ?_ | refine blk_alloc ?_ _)); refine blk_put (cs := #[.int .i64 2, .string (⟨#[]⟩ : ByteArray), .int .i64 0, .int .i64 x5_1]) ?_ 2 _ rfl; (with_reducible repeat (first | refine blk_drewN ?_ _ | refine blk_drew ?_ | refine blk_alloc ?_ _)); refine blk_put (cs := #[.int .i64 0, .string (⟨#[]⟩ : ByteArray), .int .i64 0, .int .i64 x5_1]) ?_ 0 _ rfl; (with_reducible repeat (first | refine blk_drewN ?_ _ | refine blk_drew ?_ | refine blk_alloc ?_ _)); exact BK174.out) : p := h
theorem w8q13 {p : Prop} (h : p := by first | rfl | (simp; done) | (simp [*]; done)) : p := h
theorem w8q14 {p : Prop} (h : p := by (with_reducible repeat (first | refine blk_drewN ?_ _ | refine blk_drew ?_ | refine blk_alloc ?_ _)); refine blk_far ?_ NB169_174.out _; (with_reducible repeat (first | refine blk_drewN ?_ _ | refine blk_drew ?_ | refine blk_alloc ?_ _)); refine blk_far ?_ NB169_174.out _; (with_reducible repeat (first | refine blk_drewN ?_ _ | refine blk_drew ?_ | refine blk_alloc ?_ _)); refine blk_far ?_ NB169_174.out _; (with_reducible repeat (first | refine blk_drewN ?_ _ | refine blk_drew ?_ | refine blk_alloc ?_ _)); refine blk_far ?_ NB169_174.out _; (with_reducible repeat (first | refine blk_drewN ?_ _ | refine blk_drew ?_ | refine blk_alloc ?_ _)); exact BK169.out) : p := h
theorem w8q15 {p : Prop} (h : p := by repeat (first | (with_reducible first | exact HB.out | apply below_alloc | apply pw_below_drewN | apply below_drew1) | exact HB.out)) : p := h
theorem w8q16 {p : Prop} (h : p := by first | exact Kd.R_nil _ _ _ _ _ | exact Kd.N_nil _ _ _ _ _ | exact Kd.V_nil _ _ _ _ _ | exact Kd.Q_nil _ _ _ _ _ | exact Kd.S_nil _ _ _ _ _) : p := h
theorem w8q17 {p : Prop} (h : p := by (with_reducible repeat (first | refine blk_drewN ?_ _ | refine blk_drew ?_ | refine blk_alloc ?_ _)); refine blk_far ?_ NB169_174.out _; (with_reducible repeat (first | refine blk_drewN ?_ _ | refine blk_drew ?_ | refine blk_alloc ?_ _)); refine blk_far ?_ NB169_174.out _; (with_reducible repeat (first | refine blk_drewN ?_ _ | refine blk_drew ?_ | refine blk_alloc ?_ _)); refine blk_far ?_ NB169_174.out _; (with_reducible repeat (first | refine blk_drewN ?_ _ | refine blk_drew ?_ | refine blk_alloc ?_ _)); exact BK169.out) : p := h
theorem w8q18 {p : Prop} (h : p := by (with_reducible repeat (first | apply Kd.R_alloc | apply Kd.R_drewN | apply Kd.R_drew)); exact Kd.R_mono (Kd.R_far (p := ⟨gb174, 3, none⟩) (Kd.R_far (p := ⟨gb174, 2, none⟩) (Kd.R_far (p := ⟨gb174, 1, none⟩) (Kd.R_far (p := ⟨gb174, 0, none⟩) (Kd.R_mono HO_4.out (fun k_ hk => (⟨hk, hk.2⟩ : _ ∧ k_ ≠ gb174))) (fun _ hk => hk.2) (.int .i64 0)) (fun _ hk => hk.2) (.string (⟨#[]⟩ : ByteArray))) (fun _ hk => hk.2) (.int .i64 0)) (fun _ hk => hk.2) (.int .i64 x5_1)) (fun _ hk => hk.1.2)) : p := h
theorem w8q19 {p : Prop} (h : p := by have := HK1.out; have := HJ10.out; have := HK3.out; omega) : p := h
theorem w8q20 {p : Prop} (h : p := by (with_reducible repeat (first | refine blk_drewN ?_ _ | refine blk_drew ?_ | refine blk_alloc ?_ _)); refine blk_put (cs := #[.int .i64 3, .int .i64 x170001_1]) ?_ 1 _ rfl; (with_reducible repeat (first | refine blk_drewN ?_ _ | refine blk_drew ?_ | refine blk_alloc ?_ _)); refine blk_put (cs := #[.int .i64 x170000_1, .int .i64 x170001_1]) ?_ 0 _ rfl; (with_reducible repeat (first | refine blk_drewN ?_ _ | refine blk_drew ?_ | refine blk_alloc ?_ _)); exact BK169.out) : p := h
theorem w8q21 {p : Prop} (h : p := by (with_reducible repeat (first | refine blk_drewN ?_ _ | refine blk_drew ?_ | refine blk_alloc ?_ _)); refine blk_far ?_ NB169_174.out _; (with_reducible repeat (first | refine blk_drewN ?_ _ | refine blk_drew ?_ | refine blk_alloc ?_ _)); refine blk_far ?_ NB169_174.out _; (with_reducible repeat (first | refine blk_drewN ?_ _ | refine blk_drew ?_ | refine blk_alloc ?_ _)); exact BK169.out) : p := h
theorem w8q22 {p : Prop} (h : p := by (with_reducible repeat (first | apply Kd.R_alloc | apply Kd.R_drewN | apply Kd.R_drew)); exact Kd.R_mono (Kd.R_far (p := ⟨gb174, 1, none⟩) (Kd.R_far (p := ⟨gb174, 0, none⟩) (Kd.R_mono HO_4.out (fun k_ hk => (⟨hk, hk⟩ : _ ∧ k_ ≠ gb174))) (fun _ hk => hk.2) (.int .i64 1)) (fun _ hk => hk.2) (.string (a0.extract (x5_1 : Int).toNat (x6_3 : Int).toNat))) (fun _ hk => hk.1)) : p := h
theorem w8q23 {p : Prop} (h : p := by first | rfl | (simp [errW_none, errW_some] <;> rfl) | (simp [*, errW_none, errW_some] <;> rfl)) : p := h
/-! ### witheref6_Lex: function 16 -/
mutual
def witheref6_Lex.l0 : Nat → ByteArray → List (S53) → Int → Option ((List (S53)) × Int × Int)
 | 0, _, _, _ => none
 | k + 1, x0, x4, x5 => if x5 < (x0.size : Int) then (if 0 ≤ x5 then ((witheref6_blank.f (bt x0 x5)).bind fun t173 => (if t173 = true then (witheref6_Lex.l0 k x0 x4 (wrap64 (x5 + 1))) else (if (bt x0 x5) = 47 then (if (wrap64 ((x0.size : Int) - x5)) > 1 then (if 0 ≤ (wrap64 (x5 + 1)) then (if (wrap64 (x5 + 1)) < (x0.size : Int) then (witheref6_Lex.j1 k x0 x4 x5 ((bt x0 (wrap64 (x5 + 1))) == 47)) else (none)) else (none)) else (witheref6_Lex.j1 k x0 x4 x5 false)) else (witheref6_Lex.j1 k x0 x4 x5 false)))) else (none)) else (if x4.length < 3518437208883 then (some ((x4 ++ [(⟨4, (⟨#[]⟩ : ByteArray), 0, (x0.size : Int)⟩ : S53)]), 0, 0)) else (none))
def witheref6_Lex.j1 : Nat → ByteArray → List (S53) → Int → Bool → Option ((List (S53)) × Int × Int)
 | 0, _, _, _, _ => none
 | k + 1, x0, x4, x5, x41 => if x41 = true then (witheref6_Lex.l1 k x0 x4 x5) else (if 0 ≤ x5 then (if x5 < (x0.size : Int) then ((witheref6_letter.f (bt x0 x5)).bind fun t175 => (if t175 = true then (witheref6_Lex.l2 k x0 x4 x5 x5 0 (⟨#[]⟩ : ByteArray) 0 x5) else ((witheref6_digit.f (bt x0 x5)).bind fun t184 => (if t184 = true then (witheref6_Lex.l3 k x0 x4 x5 x5 0 (⟨#[]⟩ : ByteArray) 0 x5) else ((witheref6_sign.f k x0 x5).bind fun t196 => (if (wrap64 (x5 + t196)) = x5 then (some (([] : List (S53)), 2, x5)) else (if x5 ≤ (wrap64 (x5 + t196)) then (if (wrap64 (x5 + t196)) ≤ (x0.size : Int) then (if x4.length < 3518437208883 then (witheref6_Lex.l0 k x0 (x4 ++ [(⟨3, x0.extract (x5 : Int).toNat ((wrap64 (x5 + t196)) : Int).toNat, 0, x5⟩ : S53)]) (wrap64 (x5 + t196))) else (none)) else (none)) else (none)))))))) else (none)) else (none))
def witheref6_Lex.l1 : Nat → ByteArray → List (S53) → Int → Option ((List (S53)) × Int × Int)
 | 0, _, _, _ => none
 | k + 1, x0, x4, x5 => if x5 < (x0.size : Int) then (if 0 ≤ x5 then (if (bt x0 x5) = 10 then (witheref6_Lex.l0 k x0 x4 x5) else (witheref6_Lex.l1 k x0 x4 (wrap64 (x5 + 1)))) else (none)) else (witheref6_Lex.l0 k x0 x4 x5)
def witheref6_Lex.l2 : Nat → ByteArray → List (S53) → Int → Int → Int → ByteArray → Int → Int → Option ((List (S53)) × Int × Int)
 | 0, _, _, _, _, _, _, _, _ => none
 | k + 1, x0, x4, x5, x6, x175000, x175001, x175002, x175003 => if x6 < (x0.size : Int) then (if 0 ≤ x6 then ((witheref6_letter.f (bt x0 x6)).bind fun t176 => (if t176 = true then (witheref6_Lex.l2 k x0 x4 x5 (wrap64 (x6 + 1)) x175000 x175001 x175002 x175003) else ((witheref6_digit.f (bt x0 x6)).bind fun t177 => (if t177 = true then (witheref6_Lex.l2 k x0 x4 x5 (wrap64 (x6 + 1)) x175000 x175001 x175002 x175003) else (if 0 ≤ x5 then (if x5 ≤ x6 then (if x6 ≤ (x0.size : Int) then (if x4.length < 3518437208883 then (witheref6_Lex.l0 k x0 (x4 ++ [(⟨1, x0.extract (x5 : Int).toNat (x6 : Int).toNat, x175002, x175003⟩ : S53)]) x6) else (none)) else (none)) else (none)) else (none)))))) else (none)) else (if 0 ≤ x5 then (if x5 ≤ x6 then (if x6 ≤ (x0.size : Int) then (if x4.length < 3518437208883 then (witheref6_Lex.l0 k x0 (x4 ++ [(⟨1, x0.extract (x5 : Int).toNat (x6 : Int).toNat, x175002, x175003⟩ : S53)]) x6) else (none)) else (none)) else (none)) else (none))
def witheref6_Lex.l3 : Nat → ByteArray → List (S53) → Int → Int → Int → ByteArray → Int → Int → Option ((List (S53)) × Int × Int)
 | 0, _, _, _, _, _, _, _, _ => none
 | k + 1, x0, x4, x5, x6, x175000, x175001, x175002, x175003 => if x6 < (x0.size : Int) then (if 0 ≤ x6 then ((witheref6_digit.f (bt x0 x6)).bind fun t185 => (if t185 = true then (witheref6_Lex.l3 k x0 x4 x5 (wrap64 (x6 + 1)) x175000 x175001 x175002 x175003) else (if 0 ≤ x5 then (if x5 ≤ x6 then (if x6 ≤ (x0.size : Int) then ((witheref6_number.f k (x0.extract (x5 : Int).toNat (x6 : Int).toNat)).bind fun bt186 => (if bt186.2 = true then (if x4.length < 3518437208883 then (witheref6_Lex.l0 k x0 (x4 ++ [(⟨2, x0.extract (x5 : Int).toNat (x6 : Int).toNat, bt186.1, x175003⟩ : S53)]) x6) else (none)) else (some (([] : List (S53)), 3, x5)))) else (none)) else (none)) else (none)))) else (none)) else (if 0 ≤ x5 then (if x5 ≤ x6 then (if x6 ≤ (x0.size : Int) then ((witheref6_number.f k (x0.extract (x5 : Int).toNat (x6 : Int).toNat)).bind fun bt191 => (if bt191.2 = true then (if x4.length < 3518437208883 then (witheref6_Lex.l0 k x0 (x4 ++ [(⟨2, x0.extract (x5 : Int).toNat (x6 : Int).toNat, bt191.1, x175003⟩ : S53)]) x6) else (none)) else (some (([] : List (S53)), 3, x5)))) else (none)) else (none)) else (none))
end
def witheref6_Lex.f (k : Nat) (a0 : ByteArray) : Option ((List (S53)) × Int × Int) := if (a0.size : Int) > 4096 then (some (([] : List (S53)), 3, 0)) else (witheref6_Lex.l0 k a0 ([] : List (S53)) 0)
theorem witheref6_Lex.mono_l : ∀ k, (∀ y0 y1 y2, LeO (witheref6_Lex.l0 k y0 y1 y2) (witheref6_Lex.l0 (k + 1) y0 y1 y2)) ∧ (∀ y0 y1 y2 y3, LeO (witheref6_Lex.j1 k y0 y1 y2 y3) (witheref6_Lex.j1 (k + 1) y0 y1 y2 y3)) ∧ (∀ y0 y1 y2, LeO (witheref6_Lex.l1 k y0 y1 y2) (witheref6_Lex.l1 (k + 1) y0 y1 y2)) ∧ (∀ y0 y1 y2 y3 y4 y5 y6 y7, LeO (witheref6_Lex.l2 k y0 y1 y2 y3 y4 y5 y6 y7) (witheref6_Lex.l2 (k + 1) y0 y1 y2 y3 y4 y5 y6 y7)) ∧ (∀ y0 y1 y2 y3 y4 y5 y6 y7, LeO (witheref6_Lex.l3 k y0 y1 y2 y3 y4 y5 y6 y7) (witheref6_Lex.l3 (k + 1) y0 y1 y2 y3 y4 y5 y6 y7))
 | 0 => ⟨fun _ _ _ r h => by simp [witheref6_Lex.l0] at h, fun _ _ _ _ r h => by simp [witheref6_Lex.j1] at h, fun _ _ _ r h => by simp [witheref6_Lex.l1] at h, fun _ _ _ _ _ _ _ _ r h => by simp [witheref6_Lex.l2] at h, fun _ _ _ _ _ _ _ _ r h => by simp [witheref6_Lex.l3] at h⟩
 | k + 1 => by
  obtain ⟨ih0, ih1, ih2, ih3, ih4⟩ := witheref6_Lex.mono_l k
  refine ⟨?_, ?_, ?_, ?_, ?_⟩
  ·intro y0 y1 y2
   unfold witheref6_Lex.l0
   repeat' first
   | (with_reducible exact ih0 _ _ _)
   | (with_reducible exact ih1 _ _ _ _)
   | (with_reducible exact ih2 _ _ _)
   | (with_reducible exact ih3 _ _ _ _ _ _ _ _)
   | (with_reducible exact ih4 _ _ _ _ _ _ _ _)
   | (with_reducible exact witheref6_number.mono _ _)
   | (with_reducible exact witheref6_sign.mono _ _ _)
   | (with_reducible exact LeO.refl _)
   | (with_reducible exact LeO.none _)
   | (with_reducible refine LeO.ite ?_ ?_)
   | (with_reducible refine LeO.bind ?_ (fun _ => ?_))
   | exact ih0 _ _ _
   | exact ih1 _ _ _ _
   | exact ih2 _ _ _
   | exact ih3 _ _ _ _ _ _ _ _
   | exact ih4 _ _ _ _ _ _ _ _
   | exact witheref6_number.mono _ _
   | exact witheref6_sign.mono _ _ _
   | exact LeO.none _
   | refine LeO.ite ?_ ?_
   | refine LeO.bind ?_ (fun _ => ?_)
  ·intro y0 y1 y2 y3
   unfold witheref6_Lex.j1
   repeat' first
   | (with_reducible exact ih0 _ _ _)
   | (with_reducible exact ih1 _ _ _ _)
   | (with_reducible exact ih2 _ _ _)
   | (with_reducible exact ih3 _ _ _ _ _ _ _ _)
   | (with_reducible exact ih4 _ _ _ _ _ _ _ _)
   | (with_reducible exact witheref6_number.mono _ _)
   | (with_reducible exact witheref6_sign.mono _ _ _)
   | (with_reducible exact LeO.refl _)
   | (with_reducible exact LeO.none _)
   | (with_reducible refine LeO.ite ?_ ?_)
   | (with_reducible refine LeO.bind ?_ (fun _ => ?_))
   | exact ih0 _ _ _
   | exact ih1 _ _ _ _
   | exact ih2 _ _ _
   | exact ih3 _ _ _ _ _ _ _ _
   | exact ih4 _ _ _ _ _ _ _ _
   | exact witheref6_number.mono _ _
   | exact witheref6_sign.mono _ _ _
   | exact LeO.none _
   | refine LeO.ite ?_ ?_
   | refine LeO.bind ?_ (fun _ => ?_)
  ·intro y0 y1 y2
   unfold witheref6_Lex.l1
   repeat' first
   | (with_reducible exact ih0 _ _ _)
   | (with_reducible exact ih1 _ _ _ _)
   | (with_reducible exact ih2 _ _ _)
   | (with_reducible exact ih3 _ _ _ _ _ _ _ _)
   | (with_reducible exact ih4 _ _ _ _ _ _ _ _)
   | (with_reducible exact witheref6_number.mono _ _)
   | (with_reducible exact witheref6_sign.mono _ _ _)
   | (with_reducible exact LeO.refl _)
   | (with_reducible exact LeO.none _)
   | (with_reducible refine LeO.ite ?_ ?_)
   | (with_reducible refine LeO.bind ?_ (fun _ => ?_))
   | exact ih0 _ _ _
   | exact ih1 _ _ _ _
   | exact ih2 _ _ _
   | exact ih3 _ _ _ _ _ _ _ _
   | exact ih4 _ _ _ _ _ _ _ _
   | exact witheref6_number.mono _ _
   | exact witheref6_sign.mono _ _ _
   | exact LeO.none _
   | refine LeO.ite ?_ ?_
   | refine LeO.bind ?_ (fun _ => ?_)
  ·intro y0 y1 y2 y3 y4 y5 y6 y7
   unfold witheref6_Lex.l2
   repeat' first
   | (with_reducible exact ih0 _ _ _)
   | (with_reducible exact ih1 _ _ _ _)
   | (with_reducible exact ih2 _ _ _)
   | (with_reducible exact ih3 _ _ _ _ _ _ _ _)
   | (with_reducible exact ih4 _ _ _ _ _ _ _ _)
   | (with_reducible exact witheref6_number.mono _ _)
   | (with_reducible exact witheref6_sign.mono _ _ _)
   | (with_reducible exact LeO.refl _)
   | (with_reducible exact LeO.none _)
   | (with_reducible refine LeO.ite ?_ ?_)
   | (with_reducible refine LeO.bind ?_ (fun _ => ?_))
   | exact ih0 _ _ _
   | exact ih1 _ _ _ _
   | exact ih2 _ _ _
   | exact ih3 _ _ _ _ _ _ _ _
   | exact ih4 _ _ _ _ _ _ _ _
   | exact witheref6_number.mono _ _
   | exact witheref6_sign.mono _ _ _
   | exact LeO.none _
   | refine LeO.ite ?_ ?_
   | refine LeO.bind ?_ (fun _ => ?_)
  ·intro y0 y1 y2 y3 y4 y5 y6 y7
   unfold witheref6_Lex.l3
   repeat' first
   | (with_reducible exact ih0 _ _ _)
   | (with_reducible exact ih1 _ _ _ _)
   | (with_reducible exact ih2 _ _ _)
   | (with_reducible exact ih3 _ _ _ _ _ _ _ _)
   | (with_reducible exact ih4 _ _ _ _ _ _ _ _)
   | (with_reducible exact witheref6_number.mono _ _)
   | (with_reducible exact witheref6_sign.mono _ _ _)
   | (with_reducible exact LeO.refl _)
   | (with_reducible exact LeO.none _)
   | (with_reducible refine LeO.ite ?_ ?_)
   | (with_reducible refine LeO.bind ?_ (fun _ => ?_))
   | exact ih0 _ _ _
   | exact ih1 _ _ _ _
   | exact ih2 _ _ _
   | exact ih3 _ _ _ _ _ _ _ _
   | exact ih4 _ _ _ _ _ _ _ _
   | exact witheref6_number.mono _ _
   | exact witheref6_sign.mono _ _ _
   | exact LeO.none _
   | refine LeO.ite ?_ ?_
   | refine LeO.bind ?_ (fun _ => ?_)
theorem witheref6_Lex.mono : ∀ a0 k, LeO (witheref6_Lex.f k a0) (witheref6_Lex.f (k + 1) a0) := by
 intro a0 k
 obtain ⟨ih0, ih1, ih2, ih3, ih4⟩ := witheref6_Lex.mono_l k
 unfold witheref6_Lex.f
 repeat' first
  | (with_reducible exact ih0 _ _ _)
  | (with_reducible exact ih1 _ _ _ _)
  | (with_reducible exact ih2 _ _ _)
  | (with_reducible exact ih3 _ _ _ _ _ _ _ _)
  | (with_reducible exact ih4 _ _ _ _ _ _ _ _)
  | (with_reducible exact witheref6_number.mono _ _)
  | (with_reducible exact witheref6_sign.mono _ _ _)
  | (with_reducible exact LeO.refl _)
  | (with_reducible exact LeO.none _)
  | (with_reducible refine LeO.ite ?_ ?_)
  | (with_reducible refine LeO.bind ?_ (fun _ => ?_))
  | exact ih0 _ _ _
  | exact ih1 _ _ _ _
  | exact ih2 _ _ _
  | exact ih3 _ _ _ _ _ _ _ _
  | exact ih4 _ _ _ _ _ _ _ _
  | exact witheref6_number.mono _ _
  | exact witheref6_sign.mono _ _ _
  | exact LeO.none _
  | refine LeO.ite ?_ ?_
  | refine LeO.bind ?_ (fun _ => ?_)
set_option maxHeartbeats 8000000 in
set_option maxRecDepth 100000 in
theorem witheref6_Lex.calls (k : Nat) (a0 : ByteArray) (r1 : List (S53)) (r2 : Int) (r3 : Int) (w : World) (h : witheref6_Lex.f k a0 = some (r1, r2, r3)) :
 Calls Try.prog 16 #[.string a0] w fun e w' => ∃ v0_ : Value, e = .returned (.tuple #[v0_, .agg #[.int .i64 r2, .int .i64 r3]]) ∧ Kd.R k53 53 w' w.heap.size (fun _ => True) v0_ r1 ∧ Below w.heap.size w w' := by
 have hu32 := Try.underlying32
 have hu53 := Try.underlying53
 have HB := Aside0.mk (Below.refl w.heap.size w)
 have H : (if (a0.size : Int) > 4096 then (some (([] : List (S53)), 3, 0)) else (witheref6_Lex.l0 k a0 ([] : List (S53)) 0)) = some (r1, r2, r3) := h
 clear h
 by_cases c2 : (a0.size : Int) > 4096
 ·rw [if_pos c2] at H
  have c2b0 : decide (4096 < (a0.size : Int)) = true := decide_eq_true c2
  have c2b1 : decide (4096 < a0.size) = true := decide_eq_true (by omega)
  clear c2
  simp only [Option.some.injEq, Prod.mk.injEq] at H
  obtain ⟨rfl, rfl, rfl⟩ := H
  go_enter Try.func16, Try.ntmps16
  go_wp2_with (first | ((with_reducible refine gate_dst (N := 3) rfl ?_); (try (refine gate_guard (by rfl) ?_; dsimp only)); refine box_event ?hg (N := 3) ?hd (cs := #[.int .i64 0, .int .i64 0]) (t := 32) ?hr ?_; (case hd => rfl); (case hg => rfl); (case hr => first | (go_simp; done) | (go_simp; rfl)); intro gb169 hg w3 hbox hb; have n0_ := Aside0.mk (below_step (w8q15) hb); have n1_ := Aside0.mk (hbox); have n2_ := Aside0.mk ((by rw [hg]; exact (below_size (w8q15)) : w.heap.size ≤ gb169)); have n3_ := Aside0.mk ((by rw [hg]; exact (below_size (w8q15)) : w.heap.size ≤ gb169)); clear HB; have HB := n0_; have BK169 := n1_; have GW169 := n2_; have GE169 := n3_; clear n0_ n1_ n2_ n3_; clear hb hbox hg; have hcz4_0 : w3.cell? ⟨gb169, 0, none⟩ = some (.int .i64 0) := (blk_cell BK169.out 0).trans rfl; have hcz4_1 : w3.cell? ⟨gb169, 1, none⟩ = some (.int .i64 0) := (blk_cell BK169.out 1).trans rfl; have hfz4_0 := blk_frozen BK169.out 0; have hfz4_1 := blk_frozen BK169.out 1))
  refine bodyPost_ret (results_tc rfl _ _ gb169 32 #[.int .i64 3, .int .i64 0] (0, 0) _ rfl (by (with_reducible repeat (first | refine blk_drewN ?_ _ | refine blk_drew ?_ | refine blk_alloc ?_ _)); refine blk_put (cs := #[.int .i64 3, .int .i64 0]) ?_ 1 _ rfl; (with_reducible repeat (first | refine blk_drewN ?_ _ | refine blk_drew ?_ | refine blk_alloc ?_ _)); refine blk_put (cs := #[.int .i64 0, .int .i64 0]) ?_ 0 _ rfl; (with_reducible repeat (first | refine blk_drewN ?_ _ | refine blk_drew ?_ | refine blk_alloc ?_ _)); exact BK169.out) Try.underlying32 rfl (by kernel_rfl)) rfl ?_
  exact ⟨_, w8q23, w8q16, w8q3⟩
 ·rw [if_neg c2] at H
  have c2b0 : decide (4096 < (a0.size : Int)) = false := decide_eq_false c2
  have c2b1 : decide (4096 < a0.size) = false := decide_eq_false (by omega)
  clear c2
  have H' := Aside0.mk H
  clear H
  go_enter Try.func16, Try.ntmps16
  go_wp2_with (first | ((with_reducible refine gate_dst (N := 3) rfl ?_); (try (refine gate_guard (by rfl) ?_; dsimp only)); refine box_event ?hg (N := 3) ?hd (cs := #[.int .i64 0, .int .i64 0]) (t := 32) ?hr ?_; (case hd => rfl); (case hg => rfl); (case hr => first | (go_simp; done) | (go_simp; rfl)); intro gb169 hg w5 hbox hb; have n0_ := Aside0.mk (below_step (w8q15) hb); have n1_ := Aside0.mk (hbox); have n2_ := Aside0.mk ((by rw [hg]; exact (below_size (w8q15)) : w.heap.size ≤ gb169)); have n3_ := Aside0.mk ((by rw [hg]; exact (below_size (w8q15)) : w.heap.size ≤ gb169)); clear HB; have HB := n0_; have BK169 := n1_; have GW169 := n2_; have GE169 := n3_; clear n0_ n1_ n2_ n3_; clear hb hbox hg))
  try go_simp
  go_loopg [4, 5] k (fun kq v4 v5 w' => ∃ (x4_1 : List (S53)) (x5_1 : Int) (x170000_1 : Int) (x170001_1 : Int), v5 = .int .i64 x5_1 ∧ Aside0 (witheref6_Lex.l0 kq a0 x4_1 x5_1 = some (r1, r2, r3)) ∧ Aside0 (kq ≤ k) ∧ Aside0 (Kd.R k53 53 w' w.heap.size (fun _ => True) v4 x4_1) ∧ Aside0 (w'.heap[gb169]? = some (.cells #[.int .i64 x170000_1, .int .i64 x170001_1] 32 (0, 0))) ∧ Aside0 (Below w.heap.size w w'))
  case atStart => exact ⟨(([] : List (S53))), (0), (0), (0), (w8q13), H', ⟨Nat.le_refl _⟩, ⟨w8q16⟩, ⟨w8q2⟩, ⟨w8q3⟩⟩
  case round =>
   clear H'
   try clear c1
   try clear c2
   try clear c2b0
   try clear c2b1
   try clear p2
   try clear hcz4_0
   try clear hcz4_1
   try clear hfz4_0
   try clear hfz4_1
   obtain ⟨x4_1, x5_1, x170000_1, x170001_1, rfl, HA, HK1, HO_4, BK169, HB⟩ := hrel
   cases gk with
   | zero => exact absurd HA.out (by simp [witheref6_Lex.l0])
   | succ k1 =>
    have H := HA.out
    clear HA
    simp only [witheref6_Lex.l0] at H
    by_cases c6 : x5_1 < (a0.size : Int)
    ·rw [if_pos c6] at H
     have c6b0 : decide (x5_1 < (a0.size : Int)) = true := decide_eq_true c6
     clear c6
     by_cases c7 : 0 ≤ x5_1
     ·rw [if_pos c7] at H
      have c7b0 : decide (0 ≤ x5_1) = true := decide_eq_true c7
      clear c7
      replace H := Option.bind_eq_some_iff.mp H
      obtain ⟨t173, A90, H⟩ := H
      replace H : (if t173 = true then (witheref6_Lex.l0 k1 a0 x4_1 (wrap64 (x5_1 + 1))) else (if (bt a0 x5_1) = 47 then (if (wrap64 ((a0.size : Int) - x5_1)) > 1 then (if 0 ≤ (wrap64 (x5_1 + 1)) then (if (wrap64 (x5_1 + 1)) < (a0.size : Int) then (witheref6_Lex.j1 k1 a0 x4_1 x5_1 ((bt a0 (wrap64 (x5_1 + 1))) == 47)) else (none)) else (none)) else (witheref6_Lex.j1 k1 a0 x4_1 x5_1 false)) else (witheref6_Lex.j1 k1 a0 x4_1 x5_1 false))) = some (r1, r2, r3) := H
      have A9 := Aside0.mk A90
      clear A90
      by_cases c10 : t173 = true
      ·subst c10
       have H1 : (witheref6_Lex.l0 k1 a0 x4_1 (wrap64 (x5_1 + 1))) = some (r1, r2, r3) := by rw [if_pos rfl] at H; exact H
       clear H
       have H := H1
       clear H1
       have H' := Aside0.mk H
       clear H
       have p8 : 0 ≤ (x5_1 : Int) := of_decide_eq_true (w8q4)
       have q8 : x5_1 < (a0.size : Int) := of_decide_eq_true (w8q4)
       have hx8 := bt_at a0 x5_1
       replace p8 := eq_true p8
       replace q8 := eq_true q8
       go_wp2_with (first | ((with_reducible refine gate_callee (f := 27) rfl ?_); refine goesL_ (some 21) rfl rfl Try.func27 (by kernel_rfl) rfl #[.int .u8 (bt a0 x5_1)] rfl (w8q6) ?_; (with_reducible refine (witheref6_blank.calls (bt a0 x5_1) true _ A9.out).mono ?_); rintro e w' ⟨rfl, ⟨nd, rfl⟩⟩; refine ⟨_, rfl, ?_⟩))
       go_roundg k1
       case measure => have := HK1.out; omega
       case rel => exact ⟨(x4_1), (wrap64 (x5_1 + 1)), (x170000_1), (x170001_1), (w8q13), H', ⟨by have := HK1.out; omega⟩, ⟨w8q5⟩, ⟨w8q2⟩, ⟨w8q3⟩⟩
      ·replace c10 := Bool.eq_false_iff.mpr c10
       subst c10
       have H1 : (if (bt a0 x5_1) = 47 then (if (wrap64 ((a0.size : Int) - x5_1)) > 1 then (if 0 ≤ (wrap64 (x5_1 + 1)) then (if (wrap64 (x5_1 + 1)) < (a0.size : Int) then (witheref6_Lex.j1 k1 a0 x4_1 x5_1 ((bt a0 (wrap64 (x5_1 + 1))) == 47)) else (none)) else (none)) else (witheref6_Lex.j1 k1 a0 x4_1 x5_1 false)) else (witheref6_Lex.j1 k1 a0 x4_1 x5_1 false)) = some (r1, r2, r3) := by rw [if_neg (show ¬ (false = true) by decide)] at H; exact H
       clear H
       have H := H1
       clear H1
       have HC11 := Aside0.mk H
       clear H
       have p8 : 0 ≤ (x5_1 : Int) := of_decide_eq_true (w8q4)
       have q8 : x5_1 < (a0.size : Int) := of_decide_eq_true (w8q4)
       have hx8 := bt_at a0 x5_1
       replace p8 := eq_true p8
       replace q8 := eq_true q8
       go_upto_region 8 with (first | ((with_reducible refine gate_callee (f := 27) rfl ?_); refine goesL_ (some 21) rfl rfl Try.func27 (by kernel_rfl) rfl #[.int .u8 (bt a0 x5_1)] rfl (w8q6) ?_; (with_reducible refine (witheref6_blank.calls (bt a0 x5_1) false _ A9.out).mono ?_); rintro e w' ⟨rfl, ⟨nd, rfl⟩⟩; refine ⟨_, rfl, ?_⟩))
       (try simp only [Act.put, List.setIfInBounds_toArray, List.set_cons_zero, List.set_cons_succ])
       go_cut [41] (fun v41 wc => ∃ (kq : Nat) (x41_10 : Bool), v41 = .bool x41_10 ∧ Aside0 (witheref6_Lex.j1 kq a0 x4_1 x5_1 x41_10 = some (r1, r2, r3)) ∧ Aside0 (kq ≤ k1) ∧ Aside0 (Kd.R k53 53 wc w.heap.size (fun _ => True) u4 x4_1) ∧ Aside0 (wc.heap[gb169]? = some (.cells #[.int .i64 x170000_1, .int .i64 x170001_1] 32 (0, 0))) ∧ Aside0 (Below w.heap.size w wc))
       case first =>
        have H := HC11.out
        clear HC11
        by_cases c13 : (bt a0 x5_1) = 47
        ·rw [if_pos c13] at H
         have c13b0 : ((bt a0 x5_1) == 47) = true := beq_iff_eq.mpr c13
         have c13b1 : ((bt a0 x5_1) != 47) = false := bne_eq_false_iff_eq.mpr c13
         clear c13
         (first | rw [c13b0] | (simp only [i64_w, i32_w]; rw [c13b0]) | skip)
         by_cases c14 : (wrap64 ((a0.size : Int) - x5_1)) > 1
         ·rw [if_pos c14] at H
          have c14b0 : decide (1 < (wrap64 ((a0.size : Int) - x5_1))) = true := decide_eq_true c14
          clear c14
          obtain ⟨ji15, hji15⟩ : ∃ j_ : Int, (wrap64 (x5_1 + 1)) = j_ := ⟨_, rfl⟩
          replace H : (if 0 ≤ (ji15) then (if (ji15) < (a0.size : Int) then (witheref6_Lex.j1 k1 a0 x4_1 x5_1 ((bt a0 (ji15)) == 47)) else (none)) else (none)) = some (r1, r2, r3) := by first | (rw [hji15] at H; exact H) | (simp only [hji15] at H ⊢; exact H)
          have hji15w : (IntKind.i64.wrap (x5_1 + 1)) = ji15 := (i64_w _).trans hji15
          by_cases c16 : 0 ≤ (ji15)
          ·rw [if_pos c16] at H
           have c16b0 : decide (0 ≤ (ji15)) = true := decide_eq_true c16
           clear c16
           by_cases c17 : (ji15) < (a0.size : Int)
           ·rw [if_pos c17] at H
            have c17b0 : decide ((ji15) < (a0.size : Int)) = true := decide_eq_true c17
            clear c17
            have H' := Aside0.mk H
            clear H
            have p12 : 0 ≤ (x5_1 : Int) := of_decide_eq_true (w8q4)
            have q12 : x5_1 < (a0.size : Int) := of_decide_eq_true (w8q4)
            have hx12 := bt_at a0 x5_1
            replace p12 := eq_true p12
            replace q12 := eq_true q12
            have p18 : 0 ≤ ((ji15) : Int) := of_decide_eq_true (w8q4)
            have q18 : (ji15) < (a0.size : Int) := of_decide_eq_true (w8q4)
            have hx18 := bt_at a0 (ji15)
            replace p18 := eq_true p18
            replace q18 := eq_true q18
            go_wp2
            go_meet
            case rel => exact ⟨_, (((bt a0 (ji15)) == 47)), (by first | rfl | (simp; done) | (simp only [← hji15] <;> (first | rfl | simp)) | (simp [*]; done)), H', ⟨by have := HK1.out; first | omega | exact Nat.le_refl _⟩, ⟨w8q5⟩, ⟨w8q2⟩, ⟨w8q3⟩⟩
           ·rw [if_neg c17] at H
            exact absurd H (by simp)
          ·rw [if_neg c16] at H
           exact absurd H (by simp)
         ·rw [if_neg c14] at H
          have c14b0 : decide (1 < (wrap64 ((a0.size : Int) - x5_1))) = false := decide_eq_false c14
          clear c14
          have H' := Aside0.mk H
          clear H
          have p12 : 0 ≤ (x5_1 : Int) := of_decide_eq_true (w8q4)
          have q12 : x5_1 < (a0.size : Int) := of_decide_eq_true (w8q4)
          have hx12 := bt_at a0 x5_1
          replace p12 := eq_true p12
          replace q12 := eq_true q12
          go_wp2
          go_meet
          case rel => exact ⟨_, (false), (w8q13), H', ⟨by have := HK1.out; first | omega | exact Nat.le_refl _⟩, ⟨w8q5⟩, ⟨w8q2⟩, ⟨w8q3⟩⟩
        ·rw [if_neg c13] at H
         have c13b0 : ((bt a0 x5_1) == 47) = false := beq_eq_false_iff_ne.mpr c13
         have c13b1 : ((bt a0 x5_1) != 47) = true := bne_iff_ne.mpr c13
         (first | rw [c13b0] | (simp only [i64_w, i32_w]; rw [c13b0]) | skip)
         have H' := Aside0.mk H
         clear H
         have p12 : 0 ≤ (x5_1 : Int) := of_decide_eq_true (w8q4)
         have q12 : x5_1 < (a0.size : Int) := of_decide_eq_true (w8q4)
         have hx12 := bt_at a0 x5_1
         replace p12 := eq_true p12
         replace q12 := eq_true q12
         go_wp2
         go_meet
         case rel => exact ⟨_, (false), (w8q13), H', ⟨by have := HK1.out; first | omega | exact Nat.le_refl _⟩, ⟨w8q5⟩, ⟨w8q2⟩, ⟨w8q3⟩⟩
       case rest =>
        clear HC11
        try clear c1
        try clear p1
        try clear q1
        try clear hx1
        try clear c2
        try clear c2b0
        try clear c2b1
        try clear p2
        try clear c6
        try clear c6b0
        try clear p6
        try clear c7
        try clear c7b0
        try clear p8
        try clear q8
        try clear hx8
        try clear c10
        try clear p12
        try clear q12
        try clear hx12
        try clear c13
        try clear c13b0
        try clear c13b1
        try clear c14
        try clear c14b0
        try clear c16
        try clear c16b0
        try clear c17
        try clear c17b0
        try clear p18
        try clear q18
        try clear hx18
        try clear hcz4_0
        try clear hcz4_1
        try clear hfz4_0
        try clear hfz4_1
        try clear p12
        try clear p18
        try clear p2
        try clear p8
        try clear q12
        try clear q18
        try clear q8
        obtain ⟨kq, x41_10, rfl, HA, HJ10, HO_4, BK169, HB⟩ := hcut
        cases kq with
        | zero => exact absurd HA.out (by simp [witheref6_Lex.j1])
        | succ kj10 =>
         have H := HA.out
         clear HA
         simp only [witheref6_Lex.j1] at H
         by_cases c19 : x41_10 = true
         ·subst c19
          have H1 : (witheref6_Lex.l1 kj10 a0 x4_1 x5_1) = some (r1, r2, r3) := by rw [if_pos rfl] at H; exact H
          clear H
          have H := H1
          clear H1
          have H' := Aside0.mk H
          clear H
          go_wp2
          try go_simp
          go_loopg [5] kj10 (fun kq v5 w' => ∃ (x5_3 : Int), v5 = .int .i64 x5_3 ∧ Aside0 (witheref6_Lex.l1 kq a0 x4_1 x5_3 = some (r1, r2, r3)) ∧ Aside0 (kq ≤ kj10) ∧ Aside0 (Kd.R k53 53 w' w.heap.size (fun _ => True) u4 x4_1) ∧ Aside0 (w'.heap[gb169]? = some (.cells #[.int .i64 x170000_1, .int .i64 x170001_1] 32 (0, 0))) ∧ Aside0 (Below w.heap.size w w'))
          case atStart => exact ⟨(x5_1), (w8q13), H', ⟨Nat.le_refl _⟩, ⟨w8q5⟩, ⟨w8q2⟩, ⟨w8q3⟩⟩
          case round =>
           clear H'
           try clear c1
           try clear p1
           try clear q1
           try clear hx1
           try clear c2
           try clear c2b0
           try clear c2b1
           try clear p2
           try clear c6
           try clear c6b0
           try clear p6
           try clear c7
           try clear c7b0
           try clear p8
           try clear q8
           try clear hx8
           try clear c10
           try clear p12
           try clear q12
           try clear hx12
           try clear c13
           try clear c13b0
           try clear c13b1
           try clear c14
           try clear c14b0
           try clear c16
           try clear c16b0
           try clear c17
           try clear c17b0
           try clear p18
           try clear q18
           try clear hx18
           try clear c19
           try clear hcz4_0
           try clear hcz4_1
           try clear hfz4_0
           try clear hfz4_1
           try clear p1
           try clear p12
           try clear p18
           try clear p2
           try clear p6
           try clear p8
           try clear q1
           try clear q12
           try clear q18
           try clear q8
           obtain ⟨x5_3, rfl, HA, HK3, HO_4, BK169, HB⟩ := hrel
           cases gk with
           | zero => exact absurd HA.out (by simp [witheref6_Lex.l1])
           | succ k3 =>
            have H := HA.out
            clear HA
            simp only [witheref6_Lex.l1] at H
            by_cases c20 : x5_3 < (a0.size : Int)
            ·rw [if_pos c20] at H
             have c20b0 : decide (x5_3 < (a0.size : Int)) = true := decide_eq_true c20
             clear c20
             by_cases c21 : 0 ≤ x5_3
             ·rw [if_pos c21] at H
              have c21b0 : decide (0 ≤ x5_3) = true := decide_eq_true c21
              clear c21
              by_cases c23 : (bt a0 x5_3) = 10
              ·rw [if_pos c23] at H
               have c23b0 : ((bt a0 x5_3) == 10) = true := beq_iff_eq.mpr c23
               have c23b1 : ((bt a0 x5_3) != 10) = false := bne_eq_false_iff_eq.mpr c23
               clear c23
               have H' := Aside0.mk H
               clear H
               have p22 : 0 ≤ (x5_3 : Int) := of_decide_eq_true (w8q4)
               have q22 : x5_3 < (a0.size : Int) := of_decide_eq_true (w8q4)
               have hx22 := bt_at a0 x5_3
               replace p22 := eq_true p22
               replace q22 := eq_true q22
               go_wp2
               go_roundg k3
               case measure => have := HK1.out; have := HJ10.out; have := HK3.out; omega
               case rel => exact ⟨(x4_1), (x5_3), (x170000_1), (x170001_1), (w8q13), H', ⟨w8q19⟩, ⟨w8q5⟩, ⟨w8q2⟩, ⟨w8q3⟩⟩
              ·rw [if_neg c23] at H
               have c23b0 : ((bt a0 x5_3) == 10) = false := beq_eq_false_iff_ne.mpr c23
               have c23b1 : ((bt a0 x5_3) != 10) = true := bne_iff_ne.mpr c23
               have H' := Aside0.mk H
               clear H
               have p22 : 0 ≤ (x5_3 : Int) := of_decide_eq_true (w8q4)
               have q22 : x5_3 < (a0.size : Int) := of_decide_eq_true (w8q4)
               have hx22 := bt_at a0 x5_3
               replace p22 := eq_true p22
               replace q22 := eq_true q22
               go_wp2
               go_roundg k3
               case measure => have := HK1.out; have := HJ10.out; have := HK3.out; omega
               case rel => exact ⟨(wrap64 (x5_3 + 1)), (w8q13), H', ⟨w8q19⟩, ⟨w8q5⟩, ⟨w8q2⟩, ⟨w8q3⟩⟩
             ·rw [if_neg c21] at H
              exact absurd H (by simp)
            ·rw [if_neg c20] at H
             have c20b0 : decide (x5_3 < (a0.size : Int)) = false := decide_eq_false c20
             clear c20
             have H' := Aside0.mk H
             clear H
             go_wp2
             go_roundg k3
             case measure => have := HK1.out; have := HJ10.out; have := HK3.out; omega
             case rel => exact ⟨(x4_1), (x5_3), (x170000_1), (x170001_1), (w8q13), H', ⟨w8q19⟩, ⟨w8q5⟩, ⟨w8q2⟩, ⟨w8q3⟩⟩
         ·replace c19 := Bool.eq_false_iff.mpr c19
          subst c19
          have H1 : (if 0 ≤ x5_1 then (if x5_1 < (a0.size : Int) then ((witheref6_letter.f (bt a0 x5_1)).bind fun t175 => (if t175 = true then (witheref6_Lex.l2 kj10 a0 x4_1 x5_1 x5_1 0 (⟨#[]⟩ : ByteArray) 0 x5_1) else ((witheref6_digit.f (bt a0 x5_1)).bind fun t184 => (if t184 = true then (witheref6_Lex.l3 kj10 a0 x4_1 x5_1 x5_1 0 (⟨#[]⟩ : ByteArray) 0 x5_1) else ((witheref6_sign.f kj10 a0 x5_1).bind fun t196 => (if (wrap64 (x5_1 + t196)) = x5_1 then (some (([] : List (S53)), 2, x5_1)) else (if x5_1 ≤ (wrap64 (x5_1 + t196)) then (if (wrap64 (x5_1 + t196)) ≤ (a0.size : Int) then (if x4_1.length < 3518437208883 then (witheref6_Lex.l0 kj10 a0 (x4_1 ++ [(⟨3, a0.extract (x5_1 : Int).toNat ((wrap64 (x5_1 + t196)) : Int).toNat, 0, x5_1⟩ : S53)]) (wrap64 (x5_1 + t196))) else (none)) else (none)) else (none)))))))) else (none)) else (none)) = some (r1, r2, r3) := by rw [if_neg (show ¬ (false = true) by decide)] at H; exact H
          clear H
          have H := H1
          clear H1
          by_cases c24 : 0 ≤ x5_1
          ·rw [if_pos c24] at H
           have c24b0 : decide (0 ≤ x5_1) = true := decide_eq_true c24
           clear c24
           by_cases c25 : x5_1 < (a0.size : Int)
           ·rw [if_pos c25] at H
            have c25b0 : decide (x5_1 < (a0.size : Int)) = true := decide_eq_true c25
            clear c25
            replace H := Option.bind_eq_some_iff.mp H
            obtain ⟨t175, A270, H⟩ := H
            replace H : (if t175 = true then (witheref6_Lex.l2 kj10 a0 x4_1 x5_1 x5_1 0 (⟨#[]⟩ : ByteArray) 0 x5_1) else ((witheref6_digit.f (bt a0 x5_1)).bind fun t184 => (if t184 = true then (witheref6_Lex.l3 kj10 a0 x4_1 x5_1 x5_1 0 (⟨#[]⟩ : ByteArray) 0 x5_1) else ((witheref6_sign.f kj10 a0 x5_1).bind fun t196 => (if (wrap64 (x5_1 + t196)) = x5_1 then (some (([] : List (S53)), 2, x5_1)) else (if x5_1 ≤ (wrap64 (x5_1 + t196)) then (if (wrap64 (x5_1 + t196)) ≤ (a0.size : Int) then (if x4_1.length < 3518437208883 then (witheref6_Lex.l0 kj10 a0 (x4_1 ++ [(⟨3, a0.extract (x5_1 : Int).toNat ((wrap64 (x5_1 + t196)) : Int).toNat, 0, x5_1⟩ : S53)]) (wrap64 (x5_1 + t196))) else (none)) else (none)) else (none))))))) = some (r1, r2, r3) := H
            have A27 := Aside0.mk A270
            clear A270
            by_cases c28 : t175 = true
            ·subst c28
             have H1 : (witheref6_Lex.l2 kj10 a0 x4_1 x5_1 x5_1 0 (⟨#[]⟩ : ByteArray) 0 x5_1) = some (r1, r2, r3) := by rw [if_pos rfl] at H; exact H
             clear H
             have H := H1
             clear H1
             have H' := Aside0.mk H
             clear H
             go_wp2_with (first | ((with_reducible refine gate_dst (N := 7) rfl ?_); (try (refine gate_guard (by rfl) ?_; dsimp only)); refine box_event ?hg (N := 7) ?hd (cs := #[.int .i64 0, .string (⟨#[]⟩ : ByteArray), .int .i64 0, .int .i64 0]) (t := 53) ?hr ?_; (case hd => rfl); (case hg => rfl); (case hr => first | (go_simp; done) | (go_simp; rfl)); intro gb174 hg w29 hbox hb; have n0_ := Aside0.mk (Kd.R_below (Kd.R_elderB (w8q5) gb174 (Nat.le_of_eq hg.symm)) hb); have n1_ := Aside0.mk (blk_below (g := gb169) (o := .cells #[.int .i64 x170000_1, .int .i64 x170001_1] 32 (0, 0)) (w8q2) hb); have n2_ := Aside0.mk (below_step (w8q3) hb); have n3_ := Aside0.mk (hbox); have n4_ := Aside0.mk ((by rw [hg]; exact (below_size (w8q3)) : w.heap.size ≤ gb174)); have n5_ := Aside0.mk ((by rw [hg]; exact (below_size (w8q3)) : w.heap.size ≤ gb174)); have n6_ := Aside0.mk ((by rw [hg]; exact Nat.ne_of_lt (blk_lt (g := gb169) (o := .cells #[.int .i64 x170000_1, .int .i64 x170001_1] 32 (0, 0)) (w8q2)) : gb169 ≠ gb174)); have n7_ := Aside0.mk ((by rw [hg]; exact Nat.ne_of_gt (blk_lt (g := gb169) (o := .cells #[.int .i64 x170000_1, .int .i64 x170001_1] 32 (0, 0)) (w8q2)) : gb174 ≠ gb169)); clear HO_4; clear BK169; clear HB; have HO_4 := n0_; have BK169 := n1_; have HB := n2_; have BK174 := n3_; have GW174 := n4_; have GE174 := n5_; have NB169_174 := n6_; have NB174_169 := n7_; clear n0_ n1_ n2_ n3_ n4_ n5_ n6_ n7_; clear hb hbox hg; have hnb30 := NB174_169.out; have hnc30 := NB169_174.out; have hcz31_0 : w29.cell? ⟨gb174, 0, none⟩ = some (.int .i64 0) := (blk_cell BK174.out 0).trans rfl; have hcz31_1 : w29.cell? ⟨gb174, 1, none⟩ = some (.string (⟨#[]⟩ : ByteArray)) := (blk_cell BK174.out 1).trans rfl; have hcz31_2 : w29.cell? ⟨gb174, 2, none⟩ = some (.int .i64 0) := (blk_cell BK174.out 2).trans rfl; have hcz31_3 : w29.cell? ⟨gb174, 3, none⟩ = some (.int .i64 0) := (blk_cell BK174.out 3).trans rfl; have hfz31_0 := blk_frozen BK174.out 0; have hfz31_1 := blk_frozen BK174.out 1; have hfz31_2 := blk_frozen BK174.out 2; have hfz31_3 := blk_frozen BK174.out 3; have p26 : 0 ≤ (x5_1 : Int) := of_decide_eq_true (w8q4); have q26 : x5_1 < (a0.size : Int) := of_decide_eq_true (w8q4); have hx26 := bt_at a0 x5_1; replace p26 := eq_true p26; replace q26 := eq_true q26) | ((with_reducible refine gate_callee (f := 28) rfl ?_); refine goesL_ (some 60) rfl rfl Try.func28 (by kernel_rfl) rfl #[.int .u8 (bt a0 x5_1)] rfl (w8q6) ?_; (with_reducible refine (witheref6_letter.calls (bt a0 x5_1) true _ A27.out).mono ?_); rintro e w' ⟨rfl, ⟨nd, rfl⟩⟩; refine ⟨_, rfl, ?_⟩))
             try go_simp
             go_loopg [6] kj10 (fun kq v6 w' => ∃ (x6_3 : Int), v6 = .int .i64 x6_3 ∧ Aside0 (witheref6_Lex.l2 kq a0 x4_1 x5_1 x6_3 0 (⟨#[]⟩ : ByteArray) 0 x5_1 = some (r1, r2, r3)) ∧ Aside0 (kq ≤ kj10) ∧ Aside0 (Kd.R k53 53 w' w.heap.size (fun k_ => k_ ≠ gb174) u4 x4_1) ∧ Aside0 (w'.heap[gb169]? = some (.cells #[.int .i64 x170000_1, .int .i64 x170001_1] 32 (0, 0))) ∧ Aside0 (w'.heap[gb174]? = some (.cells #[.int .i64 0, .string (⟨#[]⟩ : ByteArray), .int .i64 0, .int .i64 x5_1] 53 (0, 0))) ∧ Aside0 (Below w.heap.size w w'))
             case atStart => exact ⟨(x5_1), (w8q13), H', ⟨Nat.le_refl _⟩, ⟨w8q18⟩, ⟨w8q14⟩, ⟨w8q10⟩, ⟨w8q1⟩⟩
             case round =>
              clear H'
              try clear c1
              try clear p1
              try clear q1
              try clear hx1
              try clear c2
              try clear c2b0
              try clear c2b1
              try clear p2
              try clear q2
              try clear hx2
              try clear c3
              try clear c6
              try clear c6b0
              try clear p6
              try clear c7
              try clear c7b0
              try clear p8
              try clear q8
              try clear hx8
              try clear c10
              try clear p12
              try clear q12
              try clear hx12
              try clear c13
              try clear c13b0
              try clear c13b1
              try clear c14
              try clear c14b0
              try clear c16
              try clear c16b0
              try clear c17
              try clear c17b0
              try clear p18
              try clear q18
              try clear hx18
              try clear c19
              try clear c20
              try clear c20b0
              try clear c21
              try clear c21b0
              try clear p22
              try clear q22
              try clear hx22
              try clear c23
              try clear c23b0
              try clear c23b1
              try clear c24
              try clear c24b0
              try clear c25
              try clear c25b0
              try clear p26
              try clear q26
              try clear hx26
              try clear c27
              try clear c28
              try clear c30
              try clear hcz31_0
              try clear hcz31_1
              try clear hcz31_2
              try clear hcz31_3
              try clear hcz4_0
              try clear hcz4_1
              try clear hfz31_0
              try clear hfz31_1
              try clear hfz31_2
              try clear hfz31_3
              try clear hfz4_0
              try clear hfz4_1
              try clear p1
              try clear p12
              try clear p18
              try clear p2
              try clear p22
              try clear p26
              try clear p6
              try clear p8
              try clear q1
              try clear q12
              try clear q18
              try clear q22
              try clear q26
              try clear q8
              obtain ⟨x6_3, rfl, HA, HK3, HO_4, BK169, BK174, HB⟩ := hrel
              cases gk with
              | zero => exact absurd HA.out (by simp [witheref6_Lex.l2])
              | succ k3 =>
               have H := HA.out
               clear HA
               simp only [witheref6_Lex.l2] at H
               by_cases c32 : x6_3 < (a0.size : Int)
               ·rw [if_pos c32] at H
                have c32b0 : decide (x6_3 < (a0.size : Int)) = true := decide_eq_true c32
                clear c32
                by_cases c33 : 0 ≤ x6_3
                ·rw [if_pos c33] at H
                 have c33b0 : decide (0 ≤ x6_3) = true := decide_eq_true c33
                 clear c33
                 replace H := Option.bind_eq_some_iff.mp H
                 obtain ⟨t176, A350, H⟩ := H
                 replace H : (if t176 = true then (witheref6_Lex.l2 k3 a0 x4_1 x5_1 (wrap64 (x6_3 + 1)) 0 (⟨#[]⟩ : ByteArray) 0 x5_1) else ((witheref6_digit.f (bt a0 x6_3)).bind fun t177 => (if t177 = true then (witheref6_Lex.l2 k3 a0 x4_1 x5_1 (wrap64 (x6_3 + 1)) 0 (⟨#[]⟩ : ByteArray) 0 x5_1) else (if 0 ≤ x5_1 then (if x5_1 ≤ x6_3 then (if x6_3 ≤ (a0.size : Int) then (if x4_1.length < 3518437208883 then (witheref6_Lex.l0 k3 a0 (x4_1 ++ [(⟨1, a0.extract (x5_1 : Int).toNat (x6_3 : Int).toNat, 0, x5_1⟩ : S53)]) x6_3) else (none)) else (none)) else (none)) else (none))))) = some (r1, r2, r3) := H
                 have A35 := Aside0.mk A350
                 clear A350
                 by_cases c36 : t176 = true
                 ·subst c36
                  have H1 : (witheref6_Lex.l2 k3 a0 x4_1 x5_1 (wrap64 (x6_3 + 1)) 0 (⟨#[]⟩ : ByteArray) 0 x5_1) = some (r1, r2, r3) := by rw [if_pos rfl] at H; exact H
                  clear H
                  have H := H1
                  clear H1
                  have H' := Aside0.mk H
                  clear H
                  have p34 : 0 ≤ (x6_3 : Int) := of_decide_eq_true (w8q4)
                  have q34 : x6_3 < (a0.size : Int) := of_decide_eq_true (w8q4)
                  have hx34 := bt_at a0 x6_3
                  replace p34 := eq_true p34
                  replace q34 := eq_true q34
                  go_wp2_with (first | (go_at_call 28; (with_reducible refine (witheref6_letter.calls (bt a0 x6_3) true _ A35.out).mono ?_); rintro e w' ⟨rfl, ⟨nd, rfl⟩⟩))
                  go_roundg k3
                  case measure => have := HK1.out; have := HJ10.out; have := HK3.out; omega
                  case rel => exact ⟨(wrap64 (x6_3 + 1)), (w8q13), H', ⟨w8q19⟩, ⟨w8q5⟩, ⟨w8q2⟩, ⟨w8q9⟩, ⟨w8q1⟩⟩
                 ·replace c36 := Bool.eq_false_iff.mpr c36
                  subst c36
                  have H1 : ((witheref6_digit.f (bt a0 x6_3)).bind fun t177 => (if t177 = true then (witheref6_Lex.l2 k3 a0 x4_1 x5_1 (wrap64 (x6_3 + 1)) 0 (⟨#[]⟩ : ByteArray) 0 x5_1) else (if 0 ≤ x5_1 then (if x5_1 ≤ x6_3 then (if x6_3 ≤ (a0.size : Int) then (if x4_1.length < 3518437208883 then (witheref6_Lex.l0 k3 a0 (x4_1 ++ [(⟨1, a0.extract (x5_1 : Int).toNat (x6_3 : Int).toNat, 0, x5_1⟩ : S53)]) x6_3) else (none)) else (none)) else (none)) else (none)))) = some (r1, r2, r3) := by rw [if_neg (show ¬ (false = true) by decide)] at H; exact H
                  clear H
                  have H := H1
                  clear H1
                  replace H := Option.bind_eq_some_iff.mp H
                  obtain ⟨t177, A380, H⟩ := H
                  replace H : (if t177 = true then (witheref6_Lex.l2 k3 a0 x4_1 x5_1 (wrap64 (x6_3 + 1)) 0 (⟨#[]⟩ : ByteArray) 0 x5_1) else (if 0 ≤ x5_1 then (if x5_1 ≤ x6_3 then (if x6_3 ≤ (a0.size : Int) then (if x4_1.length < 3518437208883 then (witheref6_Lex.l0 k3 a0 (x4_1 ++ [(⟨1, a0.extract (x5_1 : Int).toNat (x6_3 : Int).toNat, 0, x5_1⟩ : S53)]) x6_3) else (none)) else (none)) else (none)) else (none))) = some (r1, r2, r3) := H
                  have A38 := Aside0.mk A380
                  clear A380
                  by_cases c39 : t177 = true
                  ·subst c39
                   have H1 : (witheref6_Lex.l2 k3 a0 x4_1 x5_1 (wrap64 (x6_3 + 1)) 0 (⟨#[]⟩ : ByteArray) 0 x5_1) = some (r1, r2, r3) := by rw [if_pos rfl] at H; exact H
                   clear H
                   have H := H1
                   clear H1
                   have H' := Aside0.mk H
                   clear H
                   have p34 : 0 ≤ (x6_3 : Int) := of_decide_eq_true (w8q4)
                   have q34 : x6_3 < (a0.size : Int) := of_decide_eq_true (w8q4)
                   have hx34 := bt_at a0 x6_3
                   replace p34 := eq_true p34
                   replace q34 := eq_true q34
                   go_wp2_with (first | (go_at_call 28; (with_reducible refine (witheref6_letter.calls (bt a0 x6_3) false _ A35.out).mono ?_); rintro e w' ⟨rfl, ⟨nd, rfl⟩⟩; have p37 : 0 ≤ (x6_3 : Int) := of_decide_eq_true (w8q4); have q37 : x6_3 < (a0.size : Int) := of_decide_eq_true (w8q4); have hx37 := bt_at a0 x6_3; replace p37 := eq_true p37; replace q37 := eq_true q37) | (go_at_call 29; (with_reducible refine (witheref6_digit.calls (bt a0 x6_3) true _ A38.out).mono ?_); rintro e w' ⟨rfl, ⟨nd, rfl⟩⟩))
                   go_roundg k3
                   case measure => have := HK1.out; have := HJ10.out; have := HK3.out; omega
                   case rel => exact ⟨(wrap64 (x6_3 + 1)), (w8q13), H', ⟨w8q19⟩, ⟨w8q5⟩, ⟨w8q2⟩, ⟨w8q9⟩, ⟨w8q1⟩⟩
                  ·replace c39 := Bool.eq_false_iff.mpr c39
                   subst c39
                   have H1 : (if 0 ≤ x5_1 then (if x5_1 ≤ x6_3 then (if x6_3 ≤ (a0.size : Int) then (if x4_1.length < 3518437208883 then (witheref6_Lex.l0 k3 a0 (x4_1 ++ [(⟨1, a0.extract (x5_1 : Int).toNat (x6_3 : Int).toNat, 0, x5_1⟩ : S53)]) x6_3) else (none)) else (none)) else (none)) else (none)) = some (r1, r2, r3) := by rw [if_neg (show ¬ (false = true) by decide)] at H; exact H
                   clear H
                   have H := H1
                   clear H1
                   by_cases c40 : 0 ≤ x5_1
                   ·rw [if_pos c40] at H
                    have c40b0 := eq_true c40
                    have c40b1 : decide (0 ≤ x5_1) = true := decide_eq_true c40
                    clear c40
                    by_cases c41 : x5_1 ≤ x6_3
                    ·rw [if_pos c41] at H
                     have c41b0 := eq_true c41
                     have c41b1 : decide (x5_1 ≤ x6_3) = true := decide_eq_true c41
                     clear c41
                     by_cases c42 : x6_3 ≤ (a0.size : Int)
                     ·rw [if_pos c42] at H
                      have c42b0 := eq_true c42
                      have c42b1 : decide (x6_3 ≤ (a0.size : Int)) = true := decide_eq_true c42
                      clear c42
                      by_cases c43 : x4_1.length < 3518437208883
                      ·rw [if_pos c43] at H
                       have LMc43 := Aside0.mk c43
                       clear c43
                       obtain ⟨y178, hy178⟩ : ∃ y_ : List (S53), y_ = (x4_1 ++ [(⟨1, a0.extract (x5_1 : Int).toNat (x6_3 : Int).toNat, 0, x5_1⟩ : S53)]) := ⟨_, rfl⟩
                       replace H : (witheref6_Lex.l0 k3 a0 y178 x6_3) = some (r1, r2, r3) := by first | (rw [hy178]; with_reducible exact H) | (have H2_ := (Option.bind_some _ _).symm.trans H; rw [hy178]; with_reducible exact H2_) | (have H2_ := (Option.bind_some _ _).symm.trans H; with_reducible exact H2_) | with_reducible exact H | (rw [hy178]; exact H) | exact H
                       have Ny178 := Aside0.mk hy178
                       clear hy178
                       have H' := Aside0.mk H
                       clear H
                       have p34 : 0 ≤ (x6_3 : Int) := of_decide_eq_true (w8q4)
                       have q34 : x6_3 < (a0.size : Int) := of_decide_eq_true (w8q4)
                       have hx34 := bt_at a0 x6_3
                       replace p34 := eq_true p34
                       replace q34 := eq_true q34
                       go_wp2_with (first | (go_at_call 28; (with_reducible refine (witheref6_letter.calls (bt a0 x6_3) false _ A35.out).mono ?_); rintro e w' ⟨rfl, ⟨nd, rfl⟩⟩; (try (rw [drewN_self wr]; generalize hq_ : World.drewN wr _ = wr; have n0_ : Aside0 (Kd.R k53 53 wr w.heap.size (fun k_ => k_ ≠ gb174) u4 x4_1) := ⟨by rw [← hq_]; exact (w8q5)⟩; have n1_ : Aside0 (wr.heap[gb169]? = some (.cells #[.int .i64 x170000_1, .int .i64 x170001_1] 32 (0, 0))) := ⟨by rw [← hq_]; exact (w8q2)⟩; have n2_ : Aside0 (wr.heap[gb174]? = some (.cells #[.int .i64 0, .string (⟨#[]⟩ : ByteArray), .int .i64 0, .int .i64 x5_1] 53 (0, 0))) := ⟨by rw [← hq_]; exact (w8q9)⟩; have n3_ : Aside0 (Below w.heap.size w wr) := ⟨by rw [← hq_]; exact (w8q1)⟩; clear HO_4 BK169 BK174 HB hq_; have HO_4 := n0_; have BK169 := n1_; have BK174 := n2_; have HB := n3_; clear n0_ n1_ n2_ n3_)); have p37 : 0 ≤ (x6_3 : Int) := of_decide_eq_true (w8q4); have q37 : x6_3 < (a0.size : Int) := of_decide_eq_true (w8q4); have hx37 := bt_at a0 x6_3; replace p37 := eq_true p37; replace q37 := eq_true q37) | (go_at_call 29; (with_reducible refine (witheref6_digit.calls (bt a0 x6_3) false _ A38.out).mono ?_); rintro e w' ⟨rfl, ⟨nd, rfl⟩⟩; (try (rw [drewN_self wr]; generalize hq_ : World.drewN wr _ = wr; have n0_ : Aside0 (Kd.R k53 53 wr w.heap.size (fun k_ => k_ ≠ gb174) u4 x4_1) := ⟨by rw [← hq_]; exact (w8q5)⟩; have n1_ : Aside0 (wr.heap[gb169]? = some (.cells #[.int .i64 x170000_1, .int .i64 x170001_1] 32 (0, 0))) := ⟨by rw [← hq_]; exact (w8q2)⟩; have n2_ : Aside0 (wr.heap[gb174]? = some (.cells #[.int .i64 0, .string (⟨#[]⟩ : ByteArray), .int .i64 0, .int .i64 x5_1] 53 (0, 0))) := ⟨by rw [← hq_]; exact (w8q9)⟩; have n3_ : Aside0 (Below w.heap.size w wr) := ⟨by rw [← hq_]; exact (w8q1)⟩; clear HO_4 BK169 BK174 HB hq_; have HO_4 := n0_; have BK169 := n1_; have BK174 := n2_; have HB := n3_; clear n0_ n1_ n2_ n3_)); have hnb44 := NB174_169.out; have hnc44 := NB169_174.out; have hcz45_0 : wr.cell? ⟨gb174, 0, none⟩ = some (.int .i64 0) := (blk_cell BK174.out 0).trans rfl; have hcz45_1 : wr.cell? ⟨gb174, 1, none⟩ = some (.string (⟨#[]⟩ : ByteArray)) := (blk_cell BK174.out 1).trans rfl; have hcz45_2 : wr.cell? ⟨gb174, 2, none⟩ = some (.int .i64 0) := (blk_cell BK174.out 2).trans rfl; have hcz45_3 : wr.cell? ⟨gb174, 3, none⟩ = some (.int .i64 x5_1) := (blk_cell BK174.out 3).trans rfl; have hfz45_0 := blk_frozen BK174.out 0; have hfz45_1 := blk_frozen BK174.out 1; have hfz45_2 := blk_frozen BK174.out 2; have hfz45_3 := blk_frozen BK174.out 3) | ((with_reducible refine gate_builtin (b := .append) (xs := #[.tmp 127, .tmp 129]) rfl ?_); (try (refine gate_guard (by rfl) ?_; dsimp only)); at_builtin; refine Kd.R_append k53 (w0 := w) w.heap.size rfl (.tmp 127) (.tmp 129) 48 53 (.agg #[(.int .i64 0), (.string ⟨#[]⟩), (.int .i64 0), (.int .i64 0)]) 40 rfl Try.underlying48 info53 rfl (by decide) (by omega) u4 x4_1 (⟨1, a0.extract (x5_1 : Int).toNat (x6_3 : Int).toNat, 0, x5_1⟩ : S53) [.int .i64 1, .string (a0.extract (x5_1 : Int).toNat (x6_3 : Int).toNat), .int .i64 0, .int .i64 x5_1] (fun k_ => k_ ≠ gb174) (fun _ => False) rfl (by first | (go_simp; done) | (go_simp; rfl)) ?aP (fun _ hk => hk.elim) ?aF ?aO ?aB ?aS ?aL ?_; (case aP => exact k53_mkM _ _ _ (⟨1, a0.extract (x5_1 : Int).toNat (x6_3 : Int).toNat, 0, x5_1⟩ : S53)); (case aB => exact (w8q1)); (case aF => exact (fun k_ hk => Kd.freshB (g := gb174) (o := .cells #[.int .i64 1, .string (a0.extract (x5_1 : Int).toNat (x6_3 : Int).toNat), .int .i64 0, .int .i64 x5_1] 53 (0, 0)) (w8q7) k_ hk)); (case aO => exact (w8q22)); (case aS => exact (below_size (w8q1))); (case aL => have := LMc43.out; omega); intro v179 w46 ho hb hg hat; rw [← Ny178.out] at ho; have n0_ := Aside0.mk (blk_grown (g := gb169) (o := .cells #[.int .i64 x170000_1, .int .i64 x170001_1] 32 (0, 0)) (w8q21) hg (Kd.R_ne HO_4.out BK169.out (by decide))); have n1_ := Aside0.mk (blk_grown (g := gb174) (o := .cells #[.int .i64 1, .string (a0.extract (x5_1 : Int).toNat (x6_3 : Int).toNat), .int .i64 0, .int .i64 x5_1] 53 (0, 0)) (w8q7) hg (Kd.R_away HO_4.out (fun _ hk => hk))); have n2_ := Aside0.mk (hb); have n3_ := Aside0.mk (ho); clear BK169; clear BK174; clear HB; clear HO_4; have BK169 := n0_; have BK174 := n1_; have HB := n2_; have HO180 := n3_; clear n0_ n1_ n2_ n3_; clear ho hb hg hat))
                       go_roundg k3
                       case measure => have := HK1.out; have := HJ10.out; have := HK3.out; omega
                       case rel => exact ⟨(y178), (x6_3), (x170000_1), (x170001_1), (w8q13), H', ⟨w8q19⟩, ⟨by (with_reducible repeat (first | apply Kd.R_alloc | apply Kd.R_drewN | apply Kd.R_drew)); exact Kd.R_mono HO180.out (fun _ hk => trivial)⟩, ⟨w8q2⟩, ⟨w8q1⟩⟩
                      ·rw [if_neg c43] at H
                       exact absurd H (by simp)
                     ·rw [if_neg c42] at H
                      exact absurd H (by simp)
                    ·rw [if_neg c41] at H
                     exact absurd H (by simp)
                   ·rw [if_neg c40] at H
                    exact absurd H (by simp)
                ·rw [if_neg c33] at H
                 exact absurd H (by simp)
               ·rw [if_neg c32] at H
                have c32b0 : decide (x6_3 < (a0.size : Int)) = false := decide_eq_false c32
                clear c32
                by_cases c47 : 0 ≤ x5_1
                ·rw [if_pos c47] at H
                 have c47b0 := eq_true c47
                 have c47b1 : decide (0 ≤ x5_1) = true := decide_eq_true c47
                 clear c47
                 by_cases c48 : x5_1 ≤ x6_3
                 ·rw [if_pos c48] at H
                  have c48b0 := eq_true c48
                  have c48b1 : decide (x5_1 ≤ x6_3) = true := decide_eq_true c48
                  clear c48
                  by_cases c49 : x6_3 ≤ (a0.size : Int)
                  ·rw [if_pos c49] at H
                   have c49b0 := eq_true c49
                   have c49b1 : decide (x6_3 ≤ (a0.size : Int)) = true := decide_eq_true c49
                   clear c49
                   by_cases c50 : x4_1.length < 3518437208883
                   ·rw [if_pos c50] at H
                    have LMc50 := Aside0.mk c50
                    clear c50
                    obtain ⟨y181, hy181⟩ : ∃ y_ : List (S53), y_ = (x4_1 ++ [(⟨1, a0.extract (x5_1 : Int).toNat (x6_3 : Int).toNat, 0, x5_1⟩ : S53)]) := ⟨_, rfl⟩
                    replace H : (witheref6_Lex.l0 k3 a0 y181 x6_3) = some (r1, r2, r3) := by first | (rw [hy181]; with_reducible exact H) | (have H2_ := (Option.bind_some _ _).symm.trans H; rw [hy181]; with_reducible exact H2_) | (have H2_ := (Option.bind_some _ _).symm.trans H; with_reducible exact H2_) | with_reducible exact H | (rw [hy181]; exact H) | exact H
                    have Ny181 := Aside0.mk hy181
                    clear hy181
                    have H' := Aside0.mk H
                    clear H
                    have hnb51 := NB174_169.out
                    have hnc51 := NB169_174.out
                    have hcz52_0 : wr.cell? ⟨gb174, 0, none⟩ = some (.int .i64 0) := (blk_cell BK174.out 0).trans rfl
                    have hcz52_1 : wr.cell? ⟨gb174, 1, none⟩ = some (.string (⟨#[]⟩ : ByteArray)) := (blk_cell BK174.out 1).trans rfl
                    have hcz52_2 : wr.cell? ⟨gb174, 2, none⟩ = some (.int .i64 0) := (blk_cell BK174.out 2).trans rfl
                    have hcz52_3 : wr.cell? ⟨gb174, 3, none⟩ = some (.int .i64 x5_1) := (blk_cell BK174.out 3).trans rfl
                    have hfz52_0 := blk_frozen BK174.out 0
                    have hfz52_1 := blk_frozen BK174.out 1
                    have hfz52_2 := blk_frozen BK174.out 2
                    have hfz52_3 := blk_frozen BK174.out 3
                    go_wp2_with (first | ((with_reducible refine gate_builtin (b := .append) (xs := #[.tmp 127, .tmp 129]) rfl ?_); (try (refine gate_guard (by rfl) ?_; dsimp only)); at_builtin; refine Kd.R_append k53 (w0 := w) w.heap.size rfl (.tmp 127) (.tmp 129) 48 53 (.agg #[(.int .i64 0), (.string ⟨#[]⟩), (.int .i64 0), (.int .i64 0)]) 40 rfl Try.underlying48 info53 rfl (by decide) (by omega) u4 x4_1 (⟨1, a0.extract (x5_1 : Int).toNat (x6_3 : Int).toNat, 0, x5_1⟩ : S53) [.int .i64 1, .string (a0.extract (x5_1 : Int).toNat (x6_3 : Int).toNat), .int .i64 0, .int .i64 x5_1] (fun k_ => k_ ≠ gb174) (fun _ => False) rfl (by first | (go_simp; done) | (go_simp; rfl)) ?aP (fun _ hk => hk.elim) ?aF ?aO ?aB ?aS ?aL ?_; (case aP => exact k53_mkM _ _ _ (⟨1, a0.extract (x5_1 : Int).toNat (x6_3 : Int).toNat, 0, x5_1⟩ : S53)); (case aB => exact (w8q1)); (case aF => exact (fun k_ hk => Kd.freshB (g := gb174) (o := .cells #[.int .i64 1, .string (a0.extract (x5_1 : Int).toNat (x6_3 : Int).toNat), .int .i64 0, .int .i64 x5_1] 53 (0, 0)) (w8q7) k_ hk)); (case aO => exact (w8q22)); (case aS => exact (below_size (w8q1))); (case aL => have := LMc50.out; omega); intro v182 w53 ho hb hg hat; rw [← Ny181.out] at ho; have n0_ := Aside0.mk (blk_grown (g := gb169) (o := .cells #[.int .i64 x170000_1, .int .i64 x170001_1] 32 (0, 0)) (w8q21) hg (Kd.R_ne HO_4.out BK169.out (by decide))); have n1_ := Aside0.mk (blk_grown (g := gb174) (o := .cells #[.int .i64 1, .string (a0.extract (x5_1 : Int).toNat (x6_3 : Int).toNat), .int .i64 0, .int .i64 x5_1] 53 (0, 0)) (w8q7) hg (Kd.R_away HO_4.out (fun _ hk => hk))); have n2_ := Aside0.mk (hb); have n3_ := Aside0.mk (ho); clear BK169; clear BK174; clear HB; clear HO_4; have BK169 := n0_; have BK174 := n1_; have HB := n2_; have HO183 := n3_; clear n0_ n1_ n2_ n3_; clear ho hb hg hat))
                    go_roundg k3
                    case measure => have := HK1.out; have := HJ10.out; have := HK3.out; omega
                    case rel => exact ⟨(y181), (x6_3), (x170000_1), (x170001_1), (w8q13), H', ⟨w8q19⟩, ⟨by (with_reducible repeat (first | apply Kd.R_alloc | apply Kd.R_drewN | apply Kd.R_drew)); exact Kd.R_mono HO183.out (fun _ hk => trivial)⟩, ⟨w8q2⟩, ⟨w8q1⟩⟩
                   ·rw [if_neg c50] at H
                    exact absurd H (by simp)
                  ·rw [if_neg c49] at H
                   exact absurd H (by simp)
                 ·rw [if_neg c48] at H
                  exact absurd H (by simp)
                ·rw [if_neg c47] at H
                 exact absurd H (by simp)
            ·replace c28 := Bool.eq_false_iff.mpr c28
             subst c28
             have H1 : ((witheref6_digit.f (bt a0 x5_1)).bind fun t184 => (if t184 = true then (witheref6_Lex.l3 kj10 a0 x4_1 x5_1 x5_1 0 (⟨#[]⟩ : ByteArray) 0 x5_1) else ((witheref6_sign.f kj10 a0 x5_1).bind fun t196 => (if (wrap64 (x5_1 + t196)) = x5_1 then (some (([] : List (S53)), 2, x5_1)) else (if x5_1 ≤ (wrap64 (x5_1 + t196)) then (if (wrap64 (x5_1 + t196)) ≤ (a0.size : Int) then (if x4_1.length < 3518437208883 then (witheref6_Lex.l0 kj10 a0 (x4_1 ++ [(⟨3, a0.extract (x5_1 : Int).toNat ((wrap64 (x5_1 + t196)) : Int).toNat, 0, x5_1⟩ : S53)]) (wrap64 (x5_1 + t196))) else (none)) else (none)) else (none)))))) = some (r1, r2, r3) := by rw [if_neg (show ¬ (false = true) by decide)] at H; exact H
             clear H
             have H := H1
             clear H1
             replace H := Option.bind_eq_some_iff.mp H
             obtain ⟨t184, A550, H⟩ := H
             replace H : (if t184 = true then (witheref6_Lex.l3 kj10 a0 x4_1 x5_1 x5_1 0 (⟨#[]⟩ : ByteArray) 0 x5_1) else ((witheref6_sign.f kj10 a0 x5_1).bind fun t196 => (if (wrap64 (x5_1 + t196)) = x5_1 then (some (([] : List (S53)), 2, x5_1)) else (if x5_1 ≤ (wrap64 (x5_1 + t196)) then (if (wrap64 (x5_1 + t196)) ≤ (a0.size : Int) then (if x4_1.length < 3518437208883 then (witheref6_Lex.l0 kj10 a0 (x4_1 ++ [(⟨3, a0.extract (x5_1 : Int).toNat ((wrap64 (x5_1 + t196)) : Int).toNat, 0, x5_1⟩ : S53)]) (wrap64 (x5_1 + t196))) else (none)) else (none)) else (none))))) = some (r1, r2, r3) := H
             have A55 := Aside0.mk A550
             clear A550
             by_cases c56 : t184 = true
             ·subst c56
              have H1 : (witheref6_Lex.l3 kj10 a0 x4_1 x5_1 x5_1 0 (⟨#[]⟩ : ByteArray) 0 x5_1) = some (r1, r2, r3) := by rw [if_pos rfl] at H; exact H
              clear H
              have H := H1
              clear H1
              have H' := Aside0.mk H
              clear H
              go_wp2_with (first | ((with_reducible refine gate_dst (N := 7) rfl ?_); (try (refine gate_guard (by rfl) ?_; dsimp only)); refine box_event ?hg (N := 7) ?hd (cs := #[.int .i64 0, .string (⟨#[]⟩ : ByteArray), .int .i64 0, .int .i64 0]) (t := 53) ?hr ?_; (case hd => rfl); (case hg => rfl); (case hr => first | (go_simp; done) | (go_simp; rfl)); intro gb174 hg w57 hbox hb; have n0_ := Aside0.mk (Kd.R_below (Kd.R_elderB (w8q5) gb174 (Nat.le_of_eq hg.symm)) hb); have n1_ := Aside0.mk (blk_below (g := gb169) (o := .cells #[.int .i64 x170000_1, .int .i64 x170001_1] 32 (0, 0)) (w8q2) hb); have n2_ := Aside0.mk (below_step (w8q3) hb); have n3_ := Aside0.mk (hbox); have n4_ := Aside0.mk ((by rw [hg]; exact (below_size (w8q3)) : w.heap.size ≤ gb174)); have n5_ := Aside0.mk ((by rw [hg]; exact (below_size (w8q3)) : w.heap.size ≤ gb174)); have n6_ := Aside0.mk ((by rw [hg]; exact Nat.ne_of_lt (blk_lt (g := gb169) (o := .cells #[.int .i64 x170000_1, .int .i64 x170001_1] 32 (0, 0)) (w8q2)) : gb169 ≠ gb174)); have n7_ := Aside0.mk ((by rw [hg]; exact Nat.ne_of_gt (blk_lt (g := gb169) (o := .cells #[.int .i64 x170000_1, .int .i64 x170001_1] 32 (0, 0)) (w8q2)) : gb174 ≠ gb169)); clear HO_4; clear BK169; clear HB; have HO_4 := n0_; have BK169 := n1_; have HB := n2_; have BK174 := n3_; have GW174 := n4_; have GE174 := n5_; have NB169_174 := n6_; have NB174_169 := n7_; clear n0_ n1_ n2_ n3_ n4_ n5_ n6_ n7_; clear hb hbox hg; have hnb58 := NB174_169.out; have hnc58 := NB169_174.out; have hcz59_0 : w57.cell? ⟨gb174, 0, none⟩ = some (.int .i64 0) := (blk_cell BK174.out 0).trans rfl; have hcz59_1 : w57.cell? ⟨gb174, 1, none⟩ = some (.string (⟨#[]⟩ : ByteArray)) := (blk_cell BK174.out 1).trans rfl; have hcz59_2 : w57.cell? ⟨gb174, 2, none⟩ = some (.int .i64 0) := (blk_cell BK174.out 2).trans rfl; have hcz59_3 : w57.cell? ⟨gb174, 3, none⟩ = some (.int .i64 0) := (blk_cell BK174.out 3).trans rfl; have hfz59_0 := blk_frozen BK174.out 0; have hfz59_1 := blk_frozen BK174.out 1; have hfz59_2 := blk_frozen BK174.out 2; have hfz59_3 := blk_frozen BK174.out 3; have p26 : 0 ≤ (x5_1 : Int) := of_decide_eq_true (w8q4); have q26 : x5_1 < (a0.size : Int) := of_decide_eq_true (w8q4); have hx26 := bt_at a0 x5_1; replace p26 := eq_true p26; replace q26 := eq_true q26) | ((with_reducible refine gate_callee (f := 28) rfl ?_); refine goesL_ (some 60) rfl rfl Try.func28 (by kernel_rfl) rfl #[.int .u8 (bt a0 x5_1)] rfl (w8q6) ?_; (with_reducible refine (witheref6_letter.calls (bt a0 x5_1) false _ A27.out).mono ?_); rintro e w' ⟨rfl, ⟨nd, rfl⟩⟩; refine ⟨_, rfl, ?_⟩; have p54 : 0 ≤ (x5_1 : Int) := of_decide_eq_true (w8q4); have q54 : x5_1 < (a0.size : Int) := of_decide_eq_true (w8q4); have hx54 := bt_at a0 x5_1; replace p54 := eq_true p54; replace q54 := eq_true q54) | ((with_reducible refine gate_callee (f := 29) rfl ?_); refine goesL_ (some 83) rfl rfl Try.func29 (by kernel_rfl) rfl #[.int .u8 (bt a0 x5_1)] rfl (w8q6) ?_; (with_reducible refine (witheref6_digit.calls (bt a0 x5_1) true _ A55.out).mono ?_); rintro e w' ⟨rfl, ⟨nd, rfl⟩⟩; refine ⟨_, rfl, ?_⟩))
              try go_simp
              go_loopg [6] kj10 (fun kq v6 w' => ∃ (x6_3 : Int), v6 = .int .i64 x6_3 ∧ Aside0 (witheref6_Lex.l3 kq a0 x4_1 x5_1 x6_3 0 (⟨#[]⟩ : ByteArray) 0 x5_1 = some (r1, r2, r3)) ∧ Aside0 (kq ≤ kj10) ∧ Aside0 (Kd.R k53 53 w' w.heap.size (fun k_ => k_ ≠ gb174) u4 x4_1) ∧ Aside0 (w'.heap[gb169]? = some (.cells #[.int .i64 x170000_1, .int .i64 x170001_1] 32 (0, 0))) ∧ Aside0 (w'.heap[gb174]? = some (.cells #[.int .i64 0, .string (⟨#[]⟩ : ByteArray), .int .i64 0, .int .i64 x5_1] 53 (0, 0))) ∧ Aside0 (Below w.heap.size w w'))
              case atStart => exact ⟨(x5_1), (w8q13), H', ⟨Nat.le_refl _⟩, ⟨w8q18⟩, ⟨w8q14⟩, ⟨w8q10⟩, ⟨w8q1⟩⟩
              case round =>
               clear H'
               try clear c1
               try clear p1
               try clear q1
               try clear hx1
               try clear c2
               try clear c2b0
               try clear c2b1
               try clear p2
               try clear q2
               try clear hx2
               try clear c3
               try clear p3
               try clear q3
               try clear hx3
               try clear c4
               try clear c5
               try clear p5
               try clear q5
               try clear hx5
               try clear c6
               try clear c6b0
               try clear p6
               try clear c7
               try clear c7b0
               try clear p8
               try clear q8
               try clear hx8
               try clear c10
               try clear p12
               try clear q12
               try clear hx12
               try clear c13
               try clear c13b0
               try clear c13b1
               try clear c14
               try clear c14b0
               try clear c16
               try clear c16b0
               try clear c17
               try clear c17b0
               try clear p18
               try clear q18
               try clear hx18
               try clear c19
               try clear c20
               try clear c20b0
               try clear c21
               try clear c21b0
               try clear p22
               try clear q22
               try clear hx22
               try clear c23
               try clear c23b0
               try clear c23b1
               try clear c24
               try clear c24b0
               try clear c25
               try clear c25b0
               try clear p26
               try clear q26
               try clear hx26
               try clear c27
               try clear c28
               try clear c29
               try clear c30
               try clear c32
               try clear c32b0
               try clear c33
               try clear c33b0
               try clear p34
               try clear q34
               try clear hx34
               try clear c36
               try clear p37
               try clear q37
               try clear hx37
               try clear c39
               try clear c40
               try clear c40b0
               try clear c40b1
               try clear c41
               try clear c41b0
               try clear c41b1
               try clear c42
               try clear c42b0
               try clear c42b1
               try clear c43
               try clear c44
               try clear c47
               try clear c47b0
               try clear c47b1
               try clear c48
               try clear c48b0
               try clear c48b1
               try clear c49
               try clear c49b0
               try clear c49b1
               try clear c50
               try clear c51
               try clear p54
               try clear q54
               try clear hx54
               try clear c56
               try clear c58
               try clear hcz31_0
               try clear hcz31_1
               try clear hcz31_2
               try clear hcz31_3
               try clear hcz45_0
               try clear hcz45_1
               try clear hcz45_2
               try clear hcz45_3
               try clear hcz4_0
               try clear hcz4_1
               try clear hcz52_0
               try clear hcz52_1
               try clear hcz52_2
               try clear hcz52_3
               try clear hcz59_0
               try clear hcz59_1
               try clear hcz59_2
               try clear hcz59_3
               try clear hfz31_0
               try clear hfz31_1
               try clear hfz31_2
               try clear hfz31_3
               try clear hfz45_0
               try clear hfz45_1
               try clear hfz45_2
               try clear hfz45_3
               try clear hfz4_0
               try clear hfz4_1
               try clear hfz52_0
               try clear hfz52_1
               try clear hfz52_2
               try clear hfz52_3
               try clear hfz59_0
               try clear hfz59_1
               try clear hfz59_2
               try clear hfz59_3
               try clear p1
               try clear p12
               try clear p18
               try clear p2
               try clear p22
               try clear p26
               try clear p34
               try clear p37
               try clear p54
               try clear p6
               try clear p8
               try clear q1
               try clear q12
               try clear q18
               try clear q2
               try clear q22
               try clear q26
               try clear q34
               try clear q37
               try clear q54
               try clear q8
               obtain ⟨x6_3, rfl, HA, HK3, HO_4, BK169, BK174, HB⟩ := hrel
               cases gk with
               | zero => exact absurd HA.out (by simp [witheref6_Lex.l3])
               | succ k3 =>
                have H := HA.out
                clear HA
                simp only [witheref6_Lex.l3] at H
                by_cases c60 : x6_3 < (a0.size : Int)
                ·rw [if_pos c60] at H
                 have c60b0 : decide (x6_3 < (a0.size : Int)) = true := decide_eq_true c60
                 clear c60
                 by_cases c61 : 0 ≤ x6_3
                 ·rw [if_pos c61] at H
                  have c61b0 : decide (0 ≤ x6_3) = true := decide_eq_true c61
                  clear c61
                  replace H := Option.bind_eq_some_iff.mp H
                  obtain ⟨t185, A630, H⟩ := H
                  replace H : (if t185 = true then (witheref6_Lex.l3 k3 a0 x4_1 x5_1 (wrap64 (x6_3 + 1)) 0 (⟨#[]⟩ : ByteArray) 0 x5_1) else (if 0 ≤ x5_1 then (if x5_1 ≤ x6_3 then (if x6_3 ≤ (a0.size : Int) then ((witheref6_number.f k3 (a0.extract (x5_1 : Int).toNat (x6_3 : Int).toNat)).bind fun bt186 => (if bt186.2 = true then (if x4_1.length < 3518437208883 then (witheref6_Lex.l0 k3 a0 (x4_1 ++ [(⟨2, a0.extract (x5_1 : Int).toNat (x6_3 : Int).toNat, bt186.1, x5_1⟩ : S53)]) x6_3) else (none)) else (some (([] : List (S53)), 3, x5_1)))) else (none)) else (none)) else (none))) = some (r1, r2, r3) := H
                  have A63 := Aside0.mk A630
                  clear A630
                  by_cases c64 : t185 = true
                  ·subst c64
                   have H1 : (witheref6_Lex.l3 k3 a0 x4_1 x5_1 (wrap64 (x6_3 + 1)) 0 (⟨#[]⟩ : ByteArray) 0 x5_1) = some (r1, r2, r3) := by rw [if_pos rfl] at H; exact H
                   clear H
                   have H := H1
                   clear H1
                   have H' := Aside0.mk H
                   clear H
                   have p62 : 0 ≤ (x6_3 : Int) := of_decide_eq_true (w8q4)
                   have q62 : x6_3 < (a0.size : Int) := of_decide_eq_true (w8q4)
                   have hx62 := bt_at a0 x6_3
                   replace p62 := eq_true p62
                   replace q62 := eq_true q62
                   go_wp2_with (first | (go_at_call 29; (with_reducible refine (witheref6_digit.calls (bt a0 x6_3) true _ A63.out).mono ?_); rintro e w' ⟨rfl, ⟨nd, rfl⟩⟩))
                   go_roundg k3
                   case measure => have := HK1.out; have := HJ10.out; have := HK3.out; omega
                   case rel => exact ⟨(wrap64 (x6_3 + 1)), (w8q13), H', ⟨w8q19⟩, ⟨w8q5⟩, ⟨w8q2⟩, ⟨w8q9⟩, ⟨w8q1⟩⟩
                  ·replace c64 := Bool.eq_false_iff.mpr c64
                   subst c64
                   have H1 : (if 0 ≤ x5_1 then (if x5_1 ≤ x6_3 then (if x6_3 ≤ (a0.size : Int) then ((witheref6_number.f k3 (a0.extract (x5_1 : Int).toNat (x6_3 : Int).toNat)).bind fun bt186 => (if bt186.2 = true then (if x4_1.length < 3518437208883 then (witheref6_Lex.l0 k3 a0 (x4_1 ++ [(⟨2, a0.extract (x5_1 : Int).toNat (x6_3 : Int).toNat, bt186.1, x5_1⟩ : S53)]) x6_3) else (none)) else (some (([] : List (S53)), 3, x5_1)))) else (none)) else (none)) else (none)) = some (r1, r2, r3) := by rw [if_neg (show ¬ (false = true) by decide)] at H; exact H
                   clear H
                   have H := H1
                   clear H1
                   by_cases c65 : 0 ≤ x5_1
                   ·rw [if_pos c65] at H
                    have c65b0 := eq_true c65
                    have c65b1 : decide (0 ≤ x5_1) = true := decide_eq_true c65
                    clear c65
                    by_cases c66 : x5_1 ≤ x6_3
                    ·rw [if_pos c66] at H
                     have c66b0 := eq_true c66
                     have c66b1 : decide (x5_1 ≤ x6_3) = true := decide_eq_true c66
                     clear c66
                     by_cases c67 : x6_3 ≤ (a0.size : Int)
                     ·rw [if_pos c67] at H
                      have c67b0 := eq_true c67
                      have c67b1 : decide (x6_3 ≤ (a0.size : Int)) = true := decide_eq_true c67
                      clear c67
                      replace H := Option.bind_eq_some_iff.mp H
                      obtain ⟨⟨t186, t187⟩, A680, H⟩ := H
                      replace H : (if t187 = true then (if x4_1.length < 3518437208883 then (witheref6_Lex.l0 k3 a0 (x4_1 ++ [(⟨2, a0.extract (x5_1 : Int).toNat (x6_3 : Int).toNat, t186, x5_1⟩ : S53)]) x6_3) else (none)) else (some (([] : List (S53)), 3, x5_1))) = some (r1, r2, r3) := H
                      have A68 := Aside0.mk A680
                      clear A680
                      by_cases c69 : t187 = true
                      ·subst c69
                       have H1 : (if x4_1.length < 3518437208883 then (witheref6_Lex.l0 k3 a0 (x4_1 ++ [(⟨2, a0.extract (x5_1 : Int).toNat (x6_3 : Int).toNat, t186, x5_1⟩ : S53)]) x6_3) else (none)) = some (r1, r2, r3) := by rw [if_pos rfl] at H; exact H
                       clear H
                       have H := H1
                       clear H1
                       have c70b0 := eq_true (of_decide_eq_true (w8q4) : 0 ≤ x5_1)
                       have c71b0 := eq_true (of_decide_eq_true (w8q4) : x5_1 ≤ x6_3)
                       have c72b0 := eq_true (of_decide_eq_true (w8q4) : x6_3 ≤ (a0.size : Int))
                       by_cases c73 : x4_1.length < 3518437208883
                       ·rw [if_pos c73] at H
                        have LMc73 := Aside0.mk c73
                        clear c73
                        obtain ⟨y188, hy188⟩ : ∃ y_ : List (S53), y_ = (x4_1 ++ [(⟨2, a0.extract (x5_1 : Int).toNat (x6_3 : Int).toNat, t186, x5_1⟩ : S53)]) := ⟨_, rfl⟩
                        replace H : (witheref6_Lex.l0 k3 a0 y188 x6_3) = some (r1, r2, r3) := by first | (rw [hy188]; with_reducible exact H) | (have H2_ := (Option.bind_some _ _).symm.trans H; rw [hy188]; with_reducible exact H2_) | (have H2_ := (Option.bind_some _ _).symm.trans H; with_reducible exact H2_) | with_reducible exact H | (rw [hy188]; exact H) | exact H
                        have Ny188 := Aside0.mk hy188
                        clear hy188
                        have H' := Aside0.mk H
                        clear H
                        have p62 : 0 ≤ (x6_3 : Int) := of_decide_eq_true (w8q4)
                        have q62 : x6_3 < (a0.size : Int) := of_decide_eq_true (w8q4)
                        have hx62 := bt_at a0 x6_3
                        replace p62 := eq_true p62
                        replace q62 := eq_true q62
                        go_wp2_with (first | (go_at_call 29; (with_reducible refine (witheref6_digit.calls (bt a0 x6_3) false _ A63.out).mono ?_); rintro e w' ⟨rfl, ⟨nd, rfl⟩⟩; (try (rw [drewN_self wr]; generalize hq_ : World.drewN wr _ = wr; have n0_ : Aside0 (Kd.R k53 53 wr w.heap.size (fun k_ => k_ ≠ gb174) u4 x4_1) := ⟨by rw [← hq_]; exact (w8q5)⟩; have n1_ : Aside0 (wr.heap[gb169]? = some (.cells #[.int .i64 x170000_1, .int .i64 x170001_1] 32 (0, 0))) := ⟨by rw [← hq_]; exact (w8q2)⟩; have n2_ : Aside0 (wr.heap[gb174]? = some (.cells #[.int .i64 0, .string (⟨#[]⟩ : ByteArray), .int .i64 0, .int .i64 x5_1] 53 (0, 0))) := ⟨by rw [← hq_]; exact (w8q9)⟩; have n3_ : Aside0 (Below w.heap.size w wr) := ⟨by rw [← hq_]; exact (w8q1)⟩; clear HO_4 BK169 BK174 HB hq_; have HO_4 := n0_; have BK169 := n1_; have BK174 := n2_; have HB := n3_; clear n0_ n1_ n2_ n3_))) | ((with_reducible refine gate_callee (f := 30) rfl ?_); refine goesL_ (some 101) rfl rfl Try.func30 (by kernel_rfl) rfl #[.string (a0.extract (x5_1 : Int).toNat (x6_3 : Int).toNat)] rfl (w8q6) ?_; (with_reducible refine (witheref6_number.calls k3 (a0.extract (x5_1 : Int).toNat (x6_3 : Int).toNat) t186 true _ A68.out).mono ?_); rintro e w' ⟨rfl, ⟨nd, rfl⟩⟩; refine ⟨_, rfl, ?_⟩; (try (rw [drewN_self wr]; generalize hq_ : World.drewN wr _ = wr; have n0_ : Aside0 (Kd.R k53 53 wr w.heap.size (fun k_ => k_ ≠ gb174) u4 x4_1) := ⟨by rw [← hq_]; exact (w8q5)⟩; have n1_ : Aside0 (wr.heap[gb169]? = some (.cells #[.int .i64 x170000_1, .int .i64 x170001_1] 32 (0, 0))) := ⟨by rw [← hq_]; exact (w8q2)⟩; have n2_ : Aside0 (wr.heap[gb174]? = some (.cells #[.int .i64 0, .string (⟨#[]⟩ : ByteArray), .int .i64 0, .int .i64 x5_1] 53 (0, 0))) := ⟨by rw [← hq_]; exact (w8q9)⟩; have n3_ : Aside0 (Below w.heap.size w wr) := ⟨by rw [← hq_]; exact (w8q1)⟩; clear HO_4 BK169 BK174 HB hq_; have HO_4 := n0_; have BK169 := n1_; have BK174 := n2_; have HB := n3_; clear n0_ n1_ n2_ n3_)); have hnb74 := NB174_169.out; have hnc74 := NB169_174.out; have hcz75_0 : wr.cell? ⟨gb174, 0, none⟩ = some (.int .i64 0) := (blk_cell BK174.out 0).trans rfl; have hcz75_1 : wr.cell? ⟨gb174, 1, none⟩ = some (.string (⟨#[]⟩ : ByteArray)) := (blk_cell BK174.out 1).trans rfl; have hcz75_2 : wr.cell? ⟨gb174, 2, none⟩ = some (.int .i64 0) := (blk_cell BK174.out 2).trans rfl; have hcz75_3 : wr.cell? ⟨gb174, 3, none⟩ = some (.int .i64 x5_1) := (blk_cell BK174.out 3).trans rfl; have hfz75_0 := blk_frozen BK174.out 0; have hfz75_1 := blk_frozen BK174.out 1; have hfz75_2 := blk_frozen BK174.out 2; have hfz75_3 := blk_frozen BK174.out 3) | ((with_reducible refine gate_builtin (b := .append) (xs := #[.tmp 127, .tmp 129]) rfl ?_); (try (refine gate_guard (by rfl) ?_; dsimp only)); at_builtin; refine Kd.R_append k53 (w0 := w) w.heap.size rfl (.tmp 127) (.tmp 129) 48 53 (.agg #[(.int .i64 0), (.string ⟨#[]⟩), (.int .i64 0), (.int .i64 0)]) 40 rfl Try.underlying48 info53 rfl (by decide) (by omega) u4 x4_1 (⟨2, a0.extract (x5_1 : Int).toNat (x6_3 : Int).toNat, t186, x5_1⟩ : S53) [.int .i64 2, .string (a0.extract (x5_1 : Int).toNat (x6_3 : Int).toNat), .int .i64 t186, .int .i64 x5_1] (fun k_ => k_ ≠ gb174) (fun _ => False) rfl (by first | (go_simp; done) | (go_simp; rfl)) ?aP (fun _ hk => hk.elim) ?aF ?aO ?aB ?aS ?aL ?_; (case aP => exact k53_mkM _ _ _ (⟨2, a0.extract (x5_1 : Int).toNat (x6_3 : Int).toNat, t186, x5_1⟩ : S53)); (case aB => exact (w8q1)); (case aF => exact (fun k_ hk => Kd.freshB (g := gb174) (o := .cells #[.int .i64 2, .string (a0.extract (x5_1 : Int).toNat (x6_3 : Int).toNat), .int .i64 t186, .int .i64 x5_1] 53 (0, 0)) (w8q11) k_ hk)); (case aO => exact (by (with_reducible repeat (first | apply Kd.R_alloc | apply Kd.R_drewN | apply Kd.R_drew)); exact Kd.R_mono (Kd.R_far (p := ⟨gb174, 1, none⟩) (Kd.R_far (p := ⟨gb174, 2, none⟩) (Kd.R_far (p := ⟨gb174, 0, none⟩) (Kd.R_mono HO_4.out (fun k_ hk => (⟨hk, hk⟩ : _ ∧ k_ ≠ gb174))) (fun _ hk => hk.2) (.int .i64 2)) (fun _ hk => hk.2) (.int .i64 t186)) (fun _ hk => hk.2) (.string (a0.extract (x5_1 : Int).toNat (x6_3 : Int).toNat))) (fun _ hk => hk.1))); (case aS => exact (below_size (w8q1))); (case aL => have := LMc73.out; omega); intro v189 w76 ho hb hg hat; rw [← Ny188.out] at ho; have n0_ := Aside0.mk (blk_grown (g := gb169) (o := .cells #[.int .i64 x170000_1, .int .i64 x170001_1] 32 (0, 0)) (w8q17) hg (Kd.R_ne HO_4.out BK169.out (by decide))); have n1_ := Aside0.mk (blk_grown (g := gb174) (o := .cells #[.int .i64 2, .string (a0.extract (x5_1 : Int).toNat (x6_3 : Int).toNat), .int .i64 t186, .int .i64 x5_1] 53 (0, 0)) (w8q11) hg (Kd.R_away HO_4.out (fun _ hk => hk))); have n2_ := Aside0.mk (hb); have n3_ := Aside0.mk (ho); clear BK169; clear BK174; clear HB; clear HO_4; have BK169 := n0_; have BK174 := n1_; have HB := n2_; have HO190 := n3_; clear n0_ n1_ n2_ n3_; clear ho hb hg hat))
                        go_roundg k3
                        case measure => have := HK1.out; have := HJ10.out; have := HK3.out; omega
                        case rel => exact ⟨(y188), (x6_3), (x170000_1), (x170001_1), (w8q13), H', ⟨w8q19⟩, ⟨by (with_reducible repeat (first | apply Kd.R_alloc | apply Kd.R_drewN | apply Kd.R_drew)); exact Kd.R_mono HO190.out (fun _ hk => trivial)⟩, ⟨w8q2⟩, ⟨w8q1⟩⟩
                       ·rw [if_neg c73] at H
                        exact absurd H (by simp)
                      ·replace c69 := Bool.eq_false_iff.mpr c69
                       subst c69
                       have H1 : (some (([] : List (S53)), 3, x5_1)) = some (r1, r2, r3) := by rw [if_neg (show ¬ (false = true) by decide)] at H; exact H
                       clear H
                       have H := H1
                       clear H1
                       simp only [Option.some.injEq, Prod.mk.injEq] at H
                       obtain ⟨rfl, rfl, rfl⟩ := H
                       have p62 : 0 ≤ (x6_3 : Int) := of_decide_eq_true (w8q4)
                       have q62 : x6_3 < (a0.size : Int) := of_decide_eq_true (w8q4)
                       have hx62 := bt_at a0 x6_3
                       replace p62 := eq_true p62
                       replace q62 := eq_true q62
                       go_wp2_with (first | (go_at_call 29; (with_reducible refine (witheref6_digit.calls (bt a0 x6_3) false _ A63.out).mono ?_); rintro e w' ⟨rfl, ⟨nd, rfl⟩⟩; (try (rw [drewN_self wr]; generalize hq_ : World.drewN wr _ = wr; have n0_ : Aside0 (Kd.R k53 53 wr w.heap.size (fun k_ => k_ ≠ gb174) u4 x4_1) := ⟨by rw [← hq_]; exact (w8q5)⟩; have n1_ : Aside0 (wr.heap[gb169]? = some (.cells #[.int .i64 x170000_1, .int .i64 x170001_1] 32 (0, 0))) := ⟨by rw [← hq_]; exact (w8q2)⟩; have n2_ : Aside0 (wr.heap[gb174]? = some (.cells #[.int .i64 0, .string (⟨#[]⟩ : ByteArray), .int .i64 0, .int .i64 x5_1] 53 (0, 0))) := ⟨by rw [← hq_]; exact (w8q9)⟩; have n3_ : Aside0 (Below w.heap.size w wr) := ⟨by rw [← hq_]; exact (w8q1)⟩; clear HO_4 BK169 BK174 HB hq_; have HO_4 := n0_; have BK169 := n1_; have BK174 := n2_; have HB := n3_; clear n0_ n1_ n2_ n3_))) | ((with_reducible refine gate_callee (f := 30) rfl ?_); refine goesL_ (some 101) rfl rfl Try.func30 (by kernel_rfl) rfl #[.string (a0.extract (x5_1 : Int).toNat (x6_3 : Int).toNat)] rfl (w8q6) ?_; (with_reducible refine (witheref6_number.calls k3 (a0.extract (x5_1 : Int).toNat (x6_3 : Int).toNat) t186 false _ A68.out).mono ?_); rintro e w' ⟨rfl, ⟨nd, rfl⟩⟩; refine ⟨_, rfl, ?_⟩; (try (rw [drewN_self wr]; generalize hq_ : World.drewN wr _ = wr; have n0_ : Aside0 (Kd.R k53 53 wr w.heap.size (fun k_ => k_ ≠ gb174) u4 x4_1) := ⟨by rw [← hq_]; exact (w8q5)⟩; have n1_ : Aside0 (wr.heap[gb169]? = some (.cells #[.int .i64 x170000_1, .int .i64 x170001_1] 32 (0, 0))) := ⟨by rw [← hq_]; exact (w8q2)⟩; have n2_ : Aside0 (wr.heap[gb174]? = some (.cells #[.int .i64 0, .string (⟨#[]⟩ : ByteArray), .int .i64 0, .int .i64 x5_1] 53 (0, 0))) := ⟨by rw [← hq_]; exact (w8q9)⟩; have n3_ : Aside0 (Below w.heap.size w wr) := ⟨by rw [← hq_]; exact (w8q1)⟩; clear HO_4 BK169 BK174 HB hq_; have HO_4 := n0_; have BK169 := n1_; have BK174 := n2_; have HB := n3_; clear n0_ n1_ n2_ n3_)); have hnb77 := NB169_174.out; have hnc77 := NB174_169.out; have hcz78_0 : wr.cell? ⟨gb169, 0, none⟩ = some (.int .i64 x170000_1) := (blk_cell BK169.out 0).trans rfl; have hcz78_1 : wr.cell? ⟨gb169, 1, none⟩ = some (.int .i64 x170001_1) := (blk_cell BK169.out 1).trans rfl; have hfz78_0 := blk_frozen BK169.out 0; have hfz78_1 := blk_frozen BK169.out 1))
                       refine bodyPost_ret (results_tc rfl _ _ gb169 32 #[.int .i64 3, .int .i64 x5_1] (0, 0) _ rfl (w8q20) Try.underlying32 rfl (by kernel_rfl)) rfl ?_
                       exact ⟨_, w8q23, w8q16, w8q1⟩
                     ·rw [if_neg c67] at H
                      exact absurd H (by simp)
                    ·rw [if_neg c66] at H
                     exact absurd H (by simp)
                   ·rw [if_neg c65] at H
                    exact absurd H (by simp)
                 ·rw [if_neg c61] at H
                  exact absurd H (by simp)
                ·rw [if_neg c60] at H
                 have c60b0 : decide (x6_3 < (a0.size : Int)) = false := decide_eq_false c60
                 clear c60
                 by_cases c79 : 0 ≤ x5_1
                 ·rw [if_pos c79] at H
                  have c79b0 := eq_true c79
                  have c79b1 : decide (0 ≤ x5_1) = true := decide_eq_true c79
                  clear c79
                  by_cases c80 : x5_1 ≤ x6_3
                  ·rw [if_pos c80] at H
                   have c80b0 := eq_true c80
                   have c80b1 : decide (x5_1 ≤ x6_3) = true := decide_eq_true c80
                   clear c80
                   by_cases c81 : x6_3 ≤ (a0.size : Int)
                   ·rw [if_pos c81] at H
                    have c81b0 := eq_true c81
                    have c81b1 : decide (x6_3 ≤ (a0.size : Int)) = true := decide_eq_true c81
                    clear c81
                    replace H := Option.bind_eq_some_iff.mp H
                    obtain ⟨⟨t191, t192⟩, A820, H⟩ := H
                    replace H : (if t192 = true then (if x4_1.length < 3518437208883 then (witheref6_Lex.l0 k3 a0 (x4_1 ++ [(⟨2, a0.extract (x5_1 : Int).toNat (x6_3 : Int).toNat, t191, x5_1⟩ : S53)]) x6_3) else (none)) else (some (([] : List (S53)), 3, x5_1))) = some (r1, r2, r3) := H
                    have A82 := Aside0.mk A820
                    clear A820
                    by_cases c83 : t192 = true
                    ·subst c83
                     have H1 : (if x4_1.length < 3518437208883 then (witheref6_Lex.l0 k3 a0 (x4_1 ++ [(⟨2, a0.extract (x5_1 : Int).toNat (x6_3 : Int).toNat, t191, x5_1⟩ : S53)]) x6_3) else (none)) = some (r1, r2, r3) := by rw [if_pos rfl] at H; exact H
                     clear H
                     have H := H1
                     clear H1
                     have c84b0 := eq_true (of_decide_eq_true (w8q4) : 0 ≤ x5_1)
                     have c85b0 := eq_true (of_decide_eq_true (w8q4) : x5_1 ≤ x6_3)
                     have c86b0 := eq_true (of_decide_eq_true (w8q4) : x6_3 ≤ (a0.size : Int))
                     by_cases c87 : x4_1.length < 3518437208883
                     ·rw [if_pos c87] at H
                      have LMc87 := Aside0.mk c87
                      clear c87
                      obtain ⟨y193, hy193⟩ : ∃ y_ : List (S53), y_ = (x4_1 ++ [(⟨2, a0.extract (x5_1 : Int).toNat (x6_3 : Int).toNat, t191, x5_1⟩ : S53)]) := ⟨_, rfl⟩
                      replace H : (witheref6_Lex.l0 k3 a0 y193 x6_3) = some (r1, r2, r3) := by first | (rw [hy193]; with_reducible exact H) | (have H2_ := (Option.bind_some _ _).symm.trans H; rw [hy193]; with_reducible exact H2_) | (have H2_ := (Option.bind_some _ _).symm.trans H; with_reducible exact H2_) | with_reducible exact H | (rw [hy193]; exact H) | exact H
                      have Ny193 := Aside0.mk hy193
                      clear hy193
                      have H' := Aside0.mk H
                      clear H
                      go_wp2_with (first | ((with_reducible refine gate_callee (f := 30) rfl ?_); refine goesL_ (some 101) rfl rfl Try.func30 (by kernel_rfl) rfl #[.string (a0.extract (x5_1 : Int).toNat (x6_3 : Int).toNat)] rfl (w8q6) ?_; (with_reducible refine (witheref6_number.calls k3 (a0.extract (x5_1 : Int).toNat (x6_3 : Int).toNat) t191 true _ A82.out).mono ?_); rintro e w' ⟨rfl, ⟨nd, rfl⟩⟩; refine ⟨_, rfl, ?_⟩; (try (rw [drewN_self wr]; generalize hq_ : World.drewN wr _ = wr; have n0_ : Aside0 (Kd.R k53 53 wr w.heap.size (fun k_ => k_ ≠ gb174) u4 x4_1) := ⟨by rw [← hq_]; exact (w8q5)⟩; have n1_ : Aside0 (wr.heap[gb169]? = some (.cells #[.int .i64 x170000_1, .int .i64 x170001_1] 32 (0, 0))) := ⟨by rw [← hq_]; exact (w8q2)⟩; have n2_ : Aside0 (wr.heap[gb174]? = some (.cells #[.int .i64 0, .string (⟨#[]⟩ : ByteArray), .int .i64 0, .int .i64 x5_1] 53 (0, 0))) := ⟨by rw [← hq_]; exact (w8q9)⟩; have n3_ : Aside0 (Below w.heap.size w wr) := ⟨by rw [← hq_]; exact (w8q1)⟩; clear HO_4 BK169 BK174 HB hq_; have HO_4 := n0_; have BK169 := n1_; have BK174 := n2_; have HB := n3_; clear n0_ n1_ n2_ n3_)); have hnb88 := NB174_169.out; have hnc88 := NB169_174.out; have hcz89_0 : wr.cell? ⟨gb174, 0, none⟩ = some (.int .i64 0) := (blk_cell BK174.out 0).trans rfl; have hcz89_1 : wr.cell? ⟨gb174, 1, none⟩ = some (.string (⟨#[]⟩ : ByteArray)) := (blk_cell BK174.out 1).trans rfl; have hcz89_2 : wr.cell? ⟨gb174, 2, none⟩ = some (.int .i64 0) := (blk_cell BK174.out 2).trans rfl; have hcz89_3 : wr.cell? ⟨gb174, 3, none⟩ = some (.int .i64 x5_1) := (blk_cell BK174.out 3).trans rfl; have hfz89_0 := blk_frozen BK174.out 0; have hfz89_1 := blk_frozen BK174.out 1; have hfz89_2 := blk_frozen BK174.out 2; have hfz89_3 := blk_frozen BK174.out 3) | ((with_reducible refine gate_builtin (b := .append) (xs := #[.tmp 127, .tmp 129]) rfl ?_); (try (refine gate_guard (by rfl) ?_; dsimp only)); at_builtin; refine Kd.R_append k53 (w0 := w) w.heap.size rfl (.tmp 127) (.tmp 129) 48 53 (.agg #[(.int .i64 0), (.string ⟨#[]⟩), (.int .i64 0), (.int .i64 0)]) 40 rfl Try.underlying48 info53 rfl (by decide) (by omega) u4 x4_1 (⟨2, a0.extract (x5_1 : Int).toNat (x6_3 : Int).toNat, t191, x5_1⟩ : S53) [.int .i64 2, .string (a0.extract (x5_1 : Int).toNat (x6_3 : Int).toNat), .int .i64 t191, .int .i64 x5_1] (fun k_ => k_ ≠ gb174) (fun _ => False) rfl (by first | (go_simp; done) | (go_simp; rfl)) ?aP (fun _ hk => hk.elim) ?aF ?aO ?aB ?aS ?aL ?_; (case aP => exact k53_mkM _ _ _ (⟨2, a0.extract (x5_1 : Int).toNat (x6_3 : Int).toNat, t191, x5_1⟩ : S53)); (case aB => exact (w8q1)); (case aF => exact (fun k_ hk => Kd.freshB (g := gb174) (o := .cells #[.int .i64 2, .string (a0.extract (x5_1 : Int).toNat (x6_3 : Int).toNat), .int .i64 t191, .int .i64 x5_1] 53 (0, 0)) (w8q12) k_ hk)); (case aO => exact (by (with_reducible repeat (first | apply Kd.R_alloc | apply Kd.R_drewN | apply Kd.R_drew)); exact Kd.R_mono (Kd.R_far (p := ⟨gb174, 1, none⟩) (Kd.R_far (p := ⟨gb174, 2, none⟩) (Kd.R_far (p := ⟨gb174, 0, none⟩) (Kd.R_mono HO_4.out (fun k_ hk => (⟨hk, hk⟩ : _ ∧ k_ ≠ gb174))) (fun _ hk => hk.2) (.int .i64 2)) (fun _ hk => hk.2) (.int .i64 t191)) (fun _ hk => hk.2) (.string (a0.extract (x5_1 : Int).toNat (x6_3 : Int).toNat))) (fun _ hk => hk.1))); (case aS => exact (below_size (w8q1))); (case aL => have := LMc87.out; omega); intro v194 w90 ho hb hg hat; rw [← Ny193.out] at ho; have n0_ := Aside0.mk (blk_grown (g := gb169) (o := .cells #[.int .i64 x170000_1, .int .i64 x170001_1] 32 (0, 0)) (w8q17) hg (Kd.R_ne HO_4.out BK169.out (by decide))); have n1_ := Aside0.mk (blk_grown (g := gb174) (o := .cells #[.int .i64 2, .string (a0.extract (x5_1 : Int).toNat (x6_3 : Int).toNat), .int .i64 t191, .int .i64 x5_1] 53 (0, 0)) (w8q12) hg (Kd.R_away HO_4.out (fun _ hk => hk))); have n2_ := Aside0.mk (hb); have n3_ := Aside0.mk (ho); clear BK169; clear BK174; clear HB; clear HO_4; have BK169 := n0_; have BK174 := n1_; have HB := n2_; have HO195 := n3_; clear n0_ n1_ n2_ n3_; clear ho hb hg hat))
                      go_roundg k3
                      case measure => have := HK1.out; have := HJ10.out; have := HK3.out; omega
                      case rel => exact ⟨(y193), (x6_3), (x170000_1), (x170001_1), (w8q13), H', ⟨w8q19⟩, ⟨by (with_reducible repeat (first | apply Kd.R_alloc | apply Kd.R_drewN | apply Kd.R_drew)); exact Kd.R_mono HO195.out (fun _ hk => trivial)⟩, ⟨w8q2⟩, ⟨w8q1⟩⟩
                     ·rw [if_neg c87] at H
                      exact absurd H (by simp)
                    ·replace c83 := Bool.eq_false_iff.mpr c83
                     subst c83
                     have H1 : (some (([] : List (S53)), 3, x5_1)) = some (r1, r2, r3) := by rw [if_neg (show ¬ (false = true) by decide)] at H; exact H
                     clear H
                     have H := H1
                     clear H1
                     simp only [Option.some.injEq, Prod.mk.injEq] at H
                     obtain ⟨rfl, rfl, rfl⟩ := H
                     go_wp2_with (first | ((with_reducible refine gate_callee (f := 30) rfl ?_); refine goesL_ (some 101) rfl rfl Try.func30 (by kernel_rfl) rfl #[.string (a0.extract (x5_1 : Int).toNat (x6_3 : Int).toNat)] rfl (w8q6) ?_; (with_reducible refine (witheref6_number.calls k3 (a0.extract (x5_1 : Int).toNat (x6_3 : Int).toNat) t191 false _ A82.out).mono ?_); rintro e w' ⟨rfl, ⟨nd, rfl⟩⟩; refine ⟨_, rfl, ?_⟩; (try (rw [drewN_self wr]; generalize hq_ : World.drewN wr _ = wr; have n0_ : Aside0 (Kd.R k53 53 wr w.heap.size (fun k_ => k_ ≠ gb174) u4 x4_1) := ⟨by rw [← hq_]; exact (w8q5)⟩; have n1_ : Aside0 (wr.heap[gb169]? = some (.cells #[.int .i64 x170000_1, .int .i64 x170001_1] 32 (0, 0))) := ⟨by rw [← hq_]; exact (w8q2)⟩; have n2_ : Aside0 (wr.heap[gb174]? = some (.cells #[.int .i64 0, .string (⟨#[]⟩ : ByteArray), .int .i64 0, .int .i64 x5_1] 53 (0, 0))) := ⟨by rw [← hq_]; exact (w8q9)⟩; have n3_ : Aside0 (Below w.heap.size w wr) := ⟨by rw [← hq_]; exact (w8q1)⟩; clear HO_4 BK169 BK174 HB hq_; have HO_4 := n0_; have BK169 := n1_; have BK174 := n2_; have HB := n3_; clear n0_ n1_ n2_ n3_)); have hnb91 := NB169_174.out; have hnc91 := NB174_169.out; have hcz92_0 : wr.cell? ⟨gb169, 0, none⟩ = some (.int .i64 x170000_1) := (blk_cell BK169.out 0).trans rfl; have hcz92_1 : wr.cell? ⟨gb169, 1, none⟩ = some (.int .i64 x170001_1) := (blk_cell BK169.out 1).trans rfl; have hfz92_0 := blk_frozen BK169.out 0; have hfz92_1 := blk_frozen BK169.out 1))
                     refine bodyPost_ret (results_tc rfl _ _ gb169 32 #[.int .i64 3, .int .i64 x5_1] (0, 0) _ rfl (w8q20) Try.underlying32 rfl (by kernel_rfl)) rfl ?_
                     exact ⟨_, w8q23, w8q16, w8q1⟩
                   ·rw [if_neg c81] at H
                    exact absurd H (by simp)
                  ·rw [if_neg c80] at H
                   exact absurd H (by simp)
                 ·rw [if_neg c79] at H
                  exact absurd H (by simp)
             ·replace c56 := Bool.eq_false_iff.mpr c56
              subst c56
              have H1 : ((witheref6_sign.f kj10 a0 x5_1).bind fun t196 => (if (wrap64 (x5_1 + t196)) = x5_1 then (some (([] : List (S53)), 2, x5_1)) else (if x5_1 ≤ (wrap64 (x5_1 + t196)) then (if (wrap64 (x5_1 + t196)) ≤ (a0.size : Int) then (if x4_1.length < 3518437208883 then (witheref6_Lex.l0 kj10 a0 (x4_1 ++ [(⟨3, a0.extract (x5_1 : Int).toNat ((wrap64 (x5_1 + t196)) : Int).toNat, 0, x5_1⟩ : S53)]) (wrap64 (x5_1 + t196))) else (none)) else (none)) else (none)))) = some (r1, r2, r3) := by rw [if_neg (show ¬ (false = true) by decide)] at H; exact H
              clear H
              have H := H1
              clear H1
              replace H := Option.bind_eq_some_iff.mp H
              obtain ⟨t196, A930, H⟩ := H
              replace H : (if (wrap64 (x5_1 + t196)) = x5_1 then (some (([] : List (S53)), 2, x5_1)) else (if x5_1 ≤ (wrap64 (x5_1 + t196)) then (if (wrap64 (x5_1 + t196)) ≤ (a0.size : Int) then (if x4_1.length < 3518437208883 then (witheref6_Lex.l0 kj10 a0 (x4_1 ++ [(⟨3, a0.extract (x5_1 : Int).toNat ((wrap64 (x5_1 + t196)) : Int).toNat, 0, x5_1⟩ : S53)]) (wrap64 (x5_1 + t196))) else (none)) else (none)) else (none))) = some (r1, r2, r3) := H
              have A93 := Aside0.mk A930
              clear A930
              by_cases c94 : (wrap64 (x5_1 + t196)) = x5_1
              ·rw [if_pos c94] at H
               have c94b0 : ((wrap64 (x5_1 + t196)) == x5_1) = true := beq_iff_eq.mpr c94
               have c94b1 : ((wrap64 (x5_1 + t196)) != x5_1) = false := bne_eq_false_iff_eq.mpr c94
               clear c94
               simp only [Option.some.injEq, Prod.mk.injEq] at H
               obtain ⟨rfl, rfl, rfl⟩ := H
               go_wp2_with (first | ((with_reducible refine gate_dst (N := 7) rfl ?_); (try (refine gate_guard (by rfl) ?_; dsimp only)); refine box_event ?hg (N := 7) ?hd (cs := #[.int .i64 0, .string (⟨#[]⟩ : ByteArray), .int .i64 0, .int .i64 0]) (t := 53) ?hr ?_; (case hd => rfl); (case hg => rfl); (case hr => first | (go_simp; done) | (go_simp; rfl)); intro gb174 hg w95 hbox hb; have n0_ := Aside0.mk (Kd.R_below (Kd.R_elderB (w8q5) gb174 (Nat.le_of_eq hg.symm)) hb); have n1_ := Aside0.mk (blk_below (g := gb169) (o := .cells #[.int .i64 x170000_1, .int .i64 x170001_1] 32 (0, 0)) (w8q2) hb); have n2_ := Aside0.mk (below_step (w8q3) hb); have n3_ := Aside0.mk (hbox); have n4_ := Aside0.mk ((by rw [hg]; exact (below_size (w8q3)) : w.heap.size ≤ gb174)); have n5_ := Aside0.mk ((by rw [hg]; exact (below_size (w8q3)) : w.heap.size ≤ gb174)); have n6_ := Aside0.mk ((by rw [hg]; exact Nat.ne_of_lt (blk_lt (g := gb169) (o := .cells #[.int .i64 x170000_1, .int .i64 x170001_1] 32 (0, 0)) (w8q2)) : gb169 ≠ gb174)); have n7_ := Aside0.mk ((by rw [hg]; exact Nat.ne_of_gt (blk_lt (g := gb169) (o := .cells #[.int .i64 x170000_1, .int .i64 x170001_1] 32 (0, 0)) (w8q2)) : gb174 ≠ gb169)); clear HO_4; clear BK169; clear HB; have HO_4 := n0_; have BK169 := n1_; have HB := n2_; have BK174 := n3_; have GW174 := n4_; have GE174 := n5_; have NB169_174 := n6_; have NB174_169 := n7_; clear n0_ n1_ n2_ n3_ n4_ n5_ n6_ n7_; clear hb hbox hg; have hnb96 := NB174_169.out; have hnc96 := NB169_174.out; have hcz97_0 : w95.cell? ⟨gb174, 0, none⟩ = some (.int .i64 0) := (blk_cell BK174.out 0).trans rfl; have hcz97_1 : w95.cell? ⟨gb174, 1, none⟩ = some (.string (⟨#[]⟩ : ByteArray)) := (blk_cell BK174.out 1).trans rfl; have hcz97_2 : w95.cell? ⟨gb174, 2, none⟩ = some (.int .i64 0) := (blk_cell BK174.out 2).trans rfl; have hcz97_3 : w95.cell? ⟨gb174, 3, none⟩ = some (.int .i64 0) := (blk_cell BK174.out 3).trans rfl; have hfz97_0 := blk_frozen BK174.out 0; have hfz97_1 := blk_frozen BK174.out 1; have hfz97_2 := blk_frozen BK174.out 2; have hfz97_3 := blk_frozen BK174.out 3; have p26 : 0 ≤ (x5_1 : Int) := of_decide_eq_true (w8q4); have q26 : x5_1 < (a0.size : Int) := of_decide_eq_true (w8q4); have hx26 := bt_at a0 x5_1; replace p26 := eq_true p26; replace q26 := eq_true q26) | ((with_reducible refine gate_callee (f := 28) rfl ?_); refine goesL_ (some 60) rfl rfl Try.func28 (by kernel_rfl) rfl #[.int .u8 (bt a0 x5_1)] rfl (w8q6) ?_; (with_reducible refine (witheref6_letter.calls (bt a0 x5_1) false _ A27.out).mono ?_); rintro e w' ⟨rfl, ⟨nd, rfl⟩⟩; refine ⟨_, rfl, ?_⟩; have p54 : 0 ≤ (x5_1 : Int) := of_decide_eq_true (w8q4); have q54 : x5_1 < (a0.size : Int) := of_decide_eq_true (w8q4); have hx54 := bt_at a0 x5_1; replace p54 := eq_true p54; replace q54 := eq_true q54) | ((with_reducible refine gate_callee (f := 29) rfl ?_); refine goesL_ (some 83) rfl rfl Try.func29 (by kernel_rfl) rfl #[.int .u8 (bt a0 x5_1)] rfl (w8q6) ?_; (with_reducible refine (witheref6_digit.calls (bt a0 x5_1) false _ A55.out).mono ?_); rintro e w' ⟨rfl, ⟨nd, rfl⟩⟩; refine ⟨_, rfl, ?_⟩) | ((with_reducible refine gate_callee (f := 31) rfl ?_); refine goesL_ (some 114) rfl rfl Try.func31 (by kernel_rfl) rfl #[.string a0, .int .i64 x5_1] rfl (w8q6) ?_; (with_reducible refine (witheref6_sign.calls kj10 a0 x5_1 t196 _ A93.out).mono ?_); rintro e w' ⟨rfl, ⟨nd, rfl⟩⟩; refine ⟨_, rfl, ?_⟩; have hcz98_0 : w95.cell? ⟨gb169, 0, none⟩ = some (.int .i64 x170000_1) := (blk_cell BK169.out 0).trans rfl; have hcz98_1 : w95.cell? ⟨gb169, 1, none⟩ = some (.int .i64 x170001_1) := (blk_cell BK169.out 1).trans rfl; have hfz98_0 := blk_frozen BK169.out 0; have hfz98_1 := blk_frozen BK169.out 1))
               refine bodyPost_ret (results_tc rfl _ _ gb169 32 #[.int .i64 2, .int .i64 x5_1] (0, 0) _ rfl (by (with_reducible repeat (first | refine blk_drewN ?_ _ | refine blk_drew ?_ | refine blk_alloc ?_ _)); refine blk_put (cs := #[.int .i64 2, .int .i64 x170001_1]) ?_ 1 _ rfl; (with_reducible repeat (first | refine blk_drewN ?_ _ | refine blk_drew ?_ | refine blk_alloc ?_ _)); refine blk_put (cs := #[.int .i64 x170000_1, .int .i64 x170001_1]) ?_ 0 _ rfl; (with_reducible repeat (first | refine blk_drewN ?_ _ | refine blk_drew ?_ | refine blk_alloc ?_ _)); refine blk_far ?_ NB169_174.out _; (with_reducible repeat (first | refine blk_drewN ?_ _ | refine blk_drew ?_ | refine blk_alloc ?_ _)); refine blk_far ?_ NB169_174.out _; (with_reducible repeat (first | refine blk_drewN ?_ _ | refine blk_drew ?_ | refine blk_alloc ?_ _)); refine blk_far ?_ NB169_174.out _; (with_reducible repeat (first | refine blk_drewN ?_ _ | refine blk_drew ?_ | refine blk_alloc ?_ _)); refine blk_far ?_ NB169_174.out _; (with_reducible repeat (first | refine blk_drewN ?_ _ | refine blk_drew ?_ | refine blk_alloc ?_ _)); refine blk_far ?_ NB169_174.out _; (with_reducible repeat (first | refine blk_drewN ?_ _ | refine blk_drew ?_ | refine blk_alloc ?_ _)); exact BK169.out) Try.underlying32 rfl (by kernel_rfl)) rfl ?_
               exact ⟨_, w8q23, w8q16, w8q1⟩
              ·rw [if_neg c94] at H
               have c94b0 : ((wrap64 (x5_1 + t196)) == x5_1) = false := beq_eq_false_iff_ne.mpr c94
               have c94b1 : ((wrap64 (x5_1 + t196)) != x5_1) = true := bne_iff_ne.mpr c94
               have c99b0 := eq_true (of_decide_eq_true (w8q4) : 0 ≤ x5_1)
               by_cases c100 : x5_1 ≤ (wrap64 (x5_1 + t196))
               ·rw [if_pos c100] at H
                have c100b0 := eq_true c100
                have c100b1 : decide (x5_1 ≤ (wrap64 (x5_1 + t196))) = true := decide_eq_true c100
                by_cases c101 : (wrap64 (x5_1 + t196)) ≤ (a0.size : Int)
                ·rw [if_pos c101] at H
                 have c101b0 := eq_true c101
                 have c101b1 : decide ((wrap64 (x5_1 + t196)) ≤ (a0.size : Int)) = true := decide_eq_true c101
                 by_cases c102 : x4_1.length < 3518437208883
                 ·rw [if_pos c102] at H
                  have LMc102 := Aside0.mk c102
                  clear c102
                  obtain ⟨y197, hy197⟩ : ∃ y_ : List (S53), y_ = (x4_1 ++ [(⟨3, a0.extract (x5_1 : Int).toNat ((wrap64 (x5_1 + t196)) : Int).toNat, 0, x5_1⟩ : S53)]) := ⟨_, rfl⟩
                  replace H : (witheref6_Lex.l0 kj10 a0 y197 (wrap64 (x5_1 + t196))) = some (r1, r2, r3) := by first | (rw [hy197]; with_reducible exact H) | (have H2_ := (Option.bind_some _ _).symm.trans H; rw [hy197]; with_reducible exact H2_) | (have H2_ := (Option.bind_some _ _).symm.trans H; with_reducible exact H2_) | with_reducible exact H | (rw [hy197]; exact H) | exact H
                  have Ny197 := Aside0.mk hy197
                  clear hy197
                  have H' := Aside0.mk H
                  clear H
                  go_wp2_with (first | ((with_reducible refine gate_dst (N := 7) rfl ?_); (try (refine gate_guard (by rfl) ?_; dsimp only)); refine box_event ?hg (N := 7) ?hd (cs := #[.int .i64 0, .string (⟨#[]⟩ : ByteArray), .int .i64 0, .int .i64 0]) (t := 53) ?hr ?_; (case hd => rfl); (case hg => rfl); (case hr => first | (go_simp; done) | (go_simp; rfl)); intro gb174 hg w103 hbox hb; have n0_ := Aside0.mk (Kd.R_below (Kd.R_elderB (w8q5) gb174 (Nat.le_of_eq hg.symm)) hb); have n1_ := Aside0.mk (blk_below (g := gb169) (o := .cells #[.int .i64 x170000_1, .int .i64 x170001_1] 32 (0, 0)) (w8q2) hb); have n2_ := Aside0.mk (below_step (w8q3) hb); have n3_ := Aside0.mk (hbox); have n4_ := Aside0.mk ((by rw [hg]; exact (below_size (w8q3)) : w.heap.size ≤ gb174)); have n5_ := Aside0.mk ((by rw [hg]; exact (below_size (w8q3)) : w.heap.size ≤ gb174)); have n6_ := Aside0.mk ((by rw [hg]; exact Nat.ne_of_lt (blk_lt (g := gb169) (o := .cells #[.int .i64 x170000_1, .int .i64 x170001_1] 32 (0, 0)) (w8q2)) : gb169 ≠ gb174)); have n7_ := Aside0.mk ((by rw [hg]; exact Nat.ne_of_gt (blk_lt (g := gb169) (o := .cells #[.int .i64 x170000_1, .int .i64 x170001_1] 32 (0, 0)) (w8q2)) : gb174 ≠ gb169)); clear HO_4; clear BK169; clear HB; have HO_4 := n0_; have BK169 := n1_; have HB := n2_; have BK174 := n3_; have GW174 := n4_; have GE174 := n5_; have NB169_174 := n6_; have NB174_169 := n7_; clear n0_ n1_ n2_ n3_ n4_ n5_ n6_ n7_; clear hb hbox hg; have hnb104 := NB174_169.out; have hnc104 := NB169_174.out; have hcz105_0 : w103.cell? ⟨gb174, 0, none⟩ = some (.int .i64 0) := (blk_cell BK174.out 0).trans rfl; have hcz105_1 : w103.cell? ⟨gb174, 1, none⟩ = some (.string (⟨#[]⟩ : ByteArray)) := (blk_cell BK174.out 1).trans rfl; have hcz105_2 : w103.cell? ⟨gb174, 2, none⟩ = some (.int .i64 0) := (blk_cell BK174.out 2).trans rfl; have hcz105_3 : w103.cell? ⟨gb174, 3, none⟩ = some (.int .i64 0) := (blk_cell BK174.out 3).trans rfl; have hfz105_0 := blk_frozen BK174.out 0; have hfz105_1 := blk_frozen BK174.out 1; have hfz105_2 := blk_frozen BK174.out 2; have hfz105_3 := blk_frozen BK174.out 3; have p26 : 0 ≤ (x5_1 : Int) := of_decide_eq_true (w8q4); have q26 : x5_1 < (a0.size : Int) := of_decide_eq_true (w8q4); have hx26 := bt_at a0 x5_1; replace p26 := eq_true p26; replace q26 := eq_true q26) | ((with_reducible refine gate_callee (f := 28) rfl ?_); refine goesL_ (some 60) rfl rfl Try.func28 (by kernel_rfl) rfl #[.int .u8 (bt a0 x5_1)] rfl (w8q6) ?_; (with_reducible refine (witheref6_letter.calls (bt a0 x5_1) false _ A27.out).mono ?_); rintro e w' ⟨rfl, ⟨nd, rfl⟩⟩; refine ⟨_, rfl, ?_⟩; have p54 : 0 ≤ (x5_1 : Int) := of_decide_eq_true (w8q4); have q54 : x5_1 < (a0.size : Int) := of_decide_eq_true (w8q4); have hx54 := bt_at a0 x5_1; replace p54 := eq_true p54; replace q54 := eq_true q54) | ((with_reducible refine gate_callee (f := 29) rfl ?_); refine goesL_ (some 83) rfl rfl Try.func29 (by kernel_rfl) rfl #[.int .u8 (bt a0 x5_1)] rfl (w8q6) ?_; (with_reducible refine (witheref6_digit.calls (bt a0 x5_1) false _ A55.out).mono ?_); rintro e w' ⟨rfl, ⟨nd, rfl⟩⟩; refine ⟨_, rfl, ?_⟩) | ((with_reducible refine gate_callee (f := 31) rfl ?_); refine goesL_ (some 114) rfl rfl Try.func31 (by kernel_rfl) rfl #[.string a0, .int .i64 x5_1] rfl (w8q6) ?_; (with_reducible refine (witheref6_sign.calls kj10 a0 x5_1 t196 _ A93.out).mono ?_); rintro e w' ⟨rfl, ⟨nd, rfl⟩⟩; refine ⟨_, rfl, ?_⟩) | ((with_reducible refine gate_builtin (b := .append) (xs := #[.tmp 127, .tmp 129]) rfl ?_); (try (refine gate_guard (by rfl) ?_; dsimp only)); at_builtin; refine Kd.R_append k53 (w0 := w) w.heap.size rfl (.tmp 127) (.tmp 129) 48 53 (.agg #[(.int .i64 0), (.string ⟨#[]⟩), (.int .i64 0), (.int .i64 0)]) 40 rfl Try.underlying48 info53 rfl (by decide) (by omega) u4 x4_1 (⟨3, a0.extract (x5_1 : Int).toNat ((wrap64 (x5_1 + t196)) : Int).toNat, 0, x5_1⟩ : S53) [.int .i64 3, .string (a0.extract (x5_1 : Int).toNat ((wrap64 (x5_1 + t196)) : Int).toNat), .int .i64 0, .int .i64 x5_1] (fun k_ => k_ ≠ gb174) (fun _ => False) rfl (by first | (go_simp; done) | (go_simp; rfl)) ?aP (fun _ hk => hk.elim) ?aF ?aO ?aB ?aS ?aL ?_; (case aP => exact k53_mkM _ _ _ (⟨3, a0.extract (x5_1 : Int).toNat ((wrap64 (x5_1 + t196)) : Int).toNat, 0, x5_1⟩ : S53)); (case aB => exact (w8q1)); (case aF => exact (fun k_ hk => Kd.freshB (g := gb174) (o := .cells #[.int .i64 3, .string (a0.extract (x5_1 : Int).toNat ((wrap64 (x5_1 + t196)) : Int).toNat), .int .i64 0, .int .i64 x5_1] 53 (0, 0)) (w8q8) k_ hk)); (case aO => exact (by (with_reducible repeat (first | apply Kd.R_alloc | apply Kd.R_drewN | apply Kd.R_drew)); exact Kd.R_mono (Kd.R_far (p := ⟨gb174, 1, none⟩) (Kd.R_far (p := ⟨gb174, 0, none⟩) (Kd.R_far (p := ⟨gb174, 3, none⟩) (Kd.R_far (p := ⟨gb174, 2, none⟩) (Kd.R_far (p := ⟨gb174, 1, none⟩) (Kd.R_far (p := ⟨gb174, 0, none⟩) (Kd.R_mono HO_4.out (fun k_ hk => (⟨hk, hk.2⟩ : _ ∧ k_ ≠ gb174))) (fun _ hk => hk.2) (.int .i64 0)) (fun _ hk => hk.2) (.string (⟨#[]⟩ : ByteArray))) (fun _ hk => hk.2) (.int .i64 0)) (fun _ hk => hk.2) (.int .i64 x5_1)) (fun _ hk => hk.2) (.int .i64 3)) (fun _ hk => hk.2) (.string (a0.extract (x5_1 : Int).toNat ((wrap64 (x5_1 + t196)) : Int).toNat))) (fun _ hk => hk.1.2))); (case aS => exact (below_size (w8q1))); (case aL => have := LMc102.out; omega); intro v198 w106 ho hb hg hat; rw [← Ny197.out] at ho; have n0_ := Aside0.mk (blk_grown (g := gb169) (o := .cells #[.int .i64 x170000_1, .int .i64 x170001_1] 32 (0, 0)) (by (with_reducible repeat (first | refine blk_drewN ?_ _ | refine blk_drew ?_ | refine blk_alloc ?_ _)); refine blk_far ?_ NB169_174.out _; (with_reducible repeat (first | refine blk_drewN ?_ _ | refine blk_drew ?_ | refine blk_alloc ?_ _)); refine blk_far ?_ NB169_174.out _; (with_reducible repeat (first | refine blk_drewN ?_ _ | refine blk_drew ?_ | refine blk_alloc ?_ _)); refine blk_far ?_ NB169_174.out _; (with_reducible repeat (first | refine blk_drewN ?_ _ | refine blk_drew ?_ | refine blk_alloc ?_ _)); refine blk_far ?_ NB169_174.out _; (with_reducible repeat (first | refine blk_drewN ?_ _ | refine blk_drew ?_ | refine blk_alloc ?_ _)); refine blk_far ?_ NB169_174.out _; (with_reducible repeat (first | refine blk_drewN ?_ _ | refine blk_drew ?_ | refine blk_alloc ?_ _)); refine blk_far ?_ NB169_174.out _; (with_reducible repeat (first | refine blk_drewN ?_ _ | refine blk_drew ?_ | refine blk_alloc ?_ _)); exact BK169.out) hg (Kd.R_ne HO_4.out BK169.out (by decide))); have n1_ := Aside0.mk (blk_grown (g := gb174) (o := .cells #[.int .i64 3, .string (a0.extract (x5_1 : Int).toNat ((wrap64 (x5_1 + t196)) : Int).toNat), .int .i64 0, .int .i64 x5_1] 53 (0, 0)) (w8q8) hg (Kd.R_away HO_4.out (fun _ hk => hk.2))); have n2_ := Aside0.mk (hb); have n3_ := Aside0.mk (ho); clear BK169; clear BK174; clear HB; clear HO_4; have BK169 := n0_; have BK174 := n1_; have HB := n2_; have HO199 := n3_; clear n0_ n1_ n2_ n3_; clear ho hb hg hat))
                  go_roundg kj10
                  case measure => have := HK1.out; have := HJ10.out; omega
                  case rel => exact ⟨(y197), (wrap64 (x5_1 + t196)), (x170000_1), (x170001_1), (w8q13), H', ⟨by have := HK1.out; have := HJ10.out; omega⟩, ⟨by (with_reducible repeat (first | apply Kd.R_alloc | apply Kd.R_drewN | apply Kd.R_drew)); exact Kd.R_mono HO199.out (fun _ hk => trivial)⟩, ⟨w8q2⟩, ⟨w8q1⟩⟩
                 ·rw [if_neg c102] at H
                  exact absurd H (by simp)
                ·rw [if_neg c101] at H
                 exact absurd H (by simp)
               ·rw [if_neg c100] at H
                exact absurd H (by simp)
           ·rw [if_neg c25] at H
            exact absurd H (by simp)
          ·rw [if_neg c24] at H
           exact absurd H (by simp)
     ·rw [if_neg c7] at H
      exact absurd H (by simp)
    ·rw [if_neg c6] at H
     have c6b0 : decide (x5_1 < (a0.size : Int)) = false := decide_eq_false c6
     clear c6
     by_cases c107 : x4_1.length < 3518437208883
     ·rw [if_pos c107] at H
      have LMc107 := Aside0.mk c107
      clear c107
      obtain ⟨y170, hy170⟩ : ∃ y_ : List (S53), y_ = (x4_1 ++ [(⟨4, (⟨#[]⟩ : ByteArray), 0, (a0.size : Int)⟩ : S53)]) := ⟨_, rfl⟩
      replace H : (some (y170, 0, 0)) = some (r1, r2, r3) := by first | (rw [hy170]; with_reducible exact H) | (have H2_ := (Option.bind_some _ _).symm.trans H; rw [hy170]; with_reducible exact H2_) | (have H2_ := (Option.bind_some _ _).symm.trans H; with_reducible exact H2_) | with_reducible exact H | (rw [hy170]; exact H) | exact H
      have Ny170 := Aside0.mk hy170
      clear hy170
      simp only [Option.some.injEq, Prod.mk.injEq] at H
      obtain ⟨rfl, rfl, rfl⟩ := H
      go_wp2_with (first | ((with_reducible refine gate_builtin (b := .append) (xs := #[.tmp 132, .tmp 136]) rfl ?_); (try (refine gate_guard (by rfl) ?_; dsimp only)); at_builtin; refine Kd.R_append k53 (w0 := w) w.heap.size rfl (.tmp 132) (.tmp 136) 48 53 (.agg #[(.int .i64 0), (.string ⟨#[]⟩), (.int .i64 0), (.int .i64 0)]) 40 rfl Try.underlying48 info53 rfl (by decide) (by omega) u4 x4_1 (⟨4, (⟨#[]⟩ : ByteArray), 0, (a0.size : Int)⟩ : S53) [.int .i64 4, .string (⟨#[]⟩ : ByteArray), .int .i64 0, .int .i64 (a0.size : Int)] (fun _ => True) (fun _ => False) rfl rfl ?aP (fun _ hk => hk.elim) ?aF ?aO ?aB ?aS ?aL ?_; (case aP => exact k53_mkM _ _ _ (⟨4, (⟨#[]⟩ : ByteArray), 0, (a0.size : Int)⟩ : S53)); (case aB => exact (w8q3)); (case aF => exact (fun _ _ => trivial)); (case aO => exact (w8q5)); (case aS => exact (below_size (w8q3))); (case aL => have := LMc107.out; omega); intro v171 w108 ho hb hg hat; rw [← Ny170.out] at ho; have n0_ := Aside0.mk (blk_grown (g := gb169) (o := .cells #[.int .i64 x170000_1, .int .i64 x170001_1] 32 (0, 0)) (w8q2) hg (Kd.R_ne HO_4.out BK169.out (by decide))); have n1_ := Aside0.mk (hb); have n2_ := Aside0.mk (ho); clear BK169; clear HB; clear HO_4; have BK169 := n0_; have HB := n1_; have HO172 := n2_; clear n0_ n1_ n2_; clear ho hb hg hat; have hcz109_0 : w108.cell? ⟨gb169, 0, none⟩ = some (.int .i64 x170000_1) := (blk_cell BK169.out 0).trans rfl; have hcz109_1 : w108.cell? ⟨gb169, 1, none⟩ = some (.int .i64 x170001_1) := (blk_cell BK169.out 1).trans rfl; have hfz109_0 := blk_frozen BK169.out 0; have hfz109_1 := blk_frozen BK169.out 1))
      refine bodyPost_ret (results_tc rfl _ _ gb169 32 #[.int .i64 0, .int .i64 0] (0, 0) _ rfl (by (with_reducible repeat (first | refine blk_drewN ?_ _ | refine blk_drew ?_ | refine blk_alloc ?_ _)); refine blk_put (cs := #[.int .i64 0, .int .i64 x170001_1]) ?_ 1 _ rfl; (with_reducible repeat (first | refine blk_drewN ?_ _ | refine blk_drew ?_ | refine blk_alloc ?_ _)); refine blk_put (cs := #[.int .i64 x170000_1, .int .i64 x170001_1]) ?_ 0 _ rfl; (with_reducible repeat (first | refine blk_drewN ?_ _ | refine blk_drew ?_ | refine blk_alloc ?_ _)); exact BK169.out) Try.underlying32 rfl (by kernel_rfl)) rfl ?_
      exact ⟨_, w8q23, by (with_reducible repeat (first | apply Kd.R_alloc | apply Kd.R_drewN | apply Kd.R_drew)); exact Kd.R_mono (Kd.R_far (p := ⟨gb169, 1, none⟩) (Kd.R_far (p := ⟨gb169, 0, none⟩) (Kd.R_types HO172.out BK169.out (by decide)) (fun _ hk => hk.2) (.int .i64 0)) (fun _ hk => hk.2) (.int .i64 0)) (fun _ hk => trivial), w8q3⟩
     ·rw [if_neg c107] at H
      exact absurd H (by simp)

end Go.Proofs.Ytinnldfmbeafiaa.PA
