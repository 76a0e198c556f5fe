-- made by fvprint.py over the kit's print
import Derived.Test.YtinnldfmbeafiaaPAx0
import Derived.Test.YtinnldfmbeafiaaPAx3
import Derived.Test.YtinnldfmbeafiaaPAx4
namespace Go.Proofs.Ytinnldfmbeafiaa.PA
open Go.RowKit Go.Proofs.YtinnldfmbeafiaaW.PrintWords Go.Proofs.YtinnldfmbeafiaaW.PrintLast Go.Proofs.YtinnldfmbeafiaaW.PrintMore
attribute [local go_sem] max2_int min2_int max_two min_two max_three min_three max_four min_four   -- for this text's walks alone
set_option linter.unusedVariables false
set_option linter.unusedSimpArgs false

attribute [local go_sem] cell_set_some
theorem w5q1 {p : Prop} (h : p := by repeat (first | (with_reducible first | exact HB.out | apply below_alloc | apply pw_below_drewN | apply below_drew1 | refine below_set ?_ GE114.out) | exact HB.out)) : p := h
theorem w5q2 {p : Prop} (h : p := by (try simp only [List.map_toArray, List.map_cons, List.map_nil]); first | done | rfl | (simp only [List.length_drop, List.length_take]; rfl)) : p := h
theorem w5q3 {p : Prop} (h : p := by repeat (first | (with_reducible first | exact HB.out | apply below_alloc | apply pw_below_drewN | apply below_drew1) | exact HB.out)) : p := h
theorem w5q4 {p : Prop} (h : p := by repeat (first | (with_reducible first | exact HB.out | apply below_alloc | apply pw_below_drewN | apply below_drew1 | refine below_set ?_ GE122.out) | exact HB.out)) : p := h
theorem w5q5 {p : Prop} (h : p := by rw [← hq_]; exact (by (with_reducible repeat (first | refine blk_drewN ?_ _ | refine blk_drew ?_ | refine blk_alloc ?_ _)); exact BK114.out)) : p := h
theorem w5q6 {p : Prop} (h : p := by (with_reducible repeat (first | refine blk_drewN ?_ _ | refine blk_drew ?_ | refine blk_alloc ?_ _)); exact BK122.out) : p := h
theorem w5q7 {p : Prop} (h : p := by (with_reducible repeat (first | refine blk_drewN ?_ _ | refine blk_drew ?_ | refine blk_alloc ?_ _)); refine blk_put (cs := #[.int .i64 0, .string (⟨#[]⟩ : ByteArray), .int .i64 0, .int .i64 0]) ?_ 3 _ rfl; (with_reducible repeat (first | refine blk_drewN ?_ _ | refine blk_drew ?_ | refine blk_alloc ?_ _)); refine blk_put (cs := #[.int .i64 0, .string (⟨#[]⟩ : ByteArray), .int .i64 0, .int .i64 0]) ?_ 2 _ rfl; (with_reducible repeat (first | refine blk_drewN ?_ _ | refine blk_drew ?_ | refine blk_alloc ?_ _)); refine blk_put (cs := #[.int .i64 0, .string (⟨#[]⟩ : ByteArray), .int .i64 0, .int .i64 0]) ?_ 1 _ rfl; (with_reducible repeat (first | refine blk_drewN ?_ _ | refine blk_drew ?_ | refine blk_alloc ?_ _)); refine blk_put (cs := #[.int .i64 0, .string (⟨#[]⟩ : ByteArray), .int .i64 0, .int .i64 0]) ?_ 0 _ rfl; (with_reducible repeat (first | refine blk_drewN ?_ _ | refine blk_drew ?_ | refine blk_alloc ?_ _)); exact BK114.out) : p := h
theorem w5q8 {p : Prop} (h : p := by (with_reducible repeat (first | refine blk_drewN ?_ _ | refine blk_drew ?_ | refine blk_alloc ?_ _)); refine blk_put (cs := #[.int .i64 t127, .string t128, .int .i64 t129, .int .i64 0]) ?_ 3 _ rfl; (with_reducible repeat (first | refine blk_drewN ?_ _ | refine blk_drew ?_ | refine blk_alloc ?_ _)); refine blk_put (cs := #[.int .i64 t127, .string t128, .int .i64 0, .int .i64 0]) ?_ 2 _ rfl; (with_reducible repeat (first | refine blk_drewN ?_ _ | refine blk_drew ?_ | refine blk_alloc ?_ _)); refine blk_put (cs := #[.int .i64 t127, .string (⟨#[]⟩ : ByteArray), .int .i64 0, .int .i64 0]) ?_ 1 _ rfl; (with_reducible repeat (first | refine blk_drewN ?_ _ | refine blk_drew ?_ | refine blk_alloc ?_ _)); refine blk_put (cs := #[.int .i64 0, .string (⟨#[]⟩ : ByteArray), .int .i64 0, .int .i64 0]) ?_ 0 _ rfl; (with_reducible repeat (first | refine blk_drewN ?_ _ | refine blk_drew ?_ | refine blk_alloc ?_ _)); exact BK132.out) : p := h
theorem w5q9 {p : Prop} (h : p := by first | rfl | (simp [errW_none, errW_some] <;> rfl) | (simp [*, errW_none, errW_some] <;> rfl)) : p := h
theorem w5q10 {p : Prop} (h : p := by repeat (first | (with_reducible first | exact HB.out | apply below_alloc | apply pw_below_drewN | apply below_drew1 | refine below_set ?_ GE122.out | refine below_set ?_ GE132.out) | exact HB.out)) : p := h
theorem w5q11 {p : Prop} (h : p := by first | (with_reducible assumption) | assumption) : p := h
theorem w5q12 {p : Prop} (h : p := by (with_reducible repeat (first | apply Kd.R_alloc | apply Kd.R_drewN | apply Kd.R_drew)); exact HO_4.out) : p := h
theorem w5q13 {p : Prop} (h : p := by rw [← hq_]; exact (w5q1)) : p := h
theorem w5q14 {p : Prop} (h : p := by first | exact Kd.R_nil _ _ _ _ _ | exact Kd.N_nil _ _ _ _ _ | exact Kd.V_nil _ _ _ _ _ | exact Kd.Q_nil _ _ _ _ _ | exact Kd.S_nil _ _ _ _ _) : p := h
theorem w5q15 {p : Prop} (h : p := by kernel_rfl) : p := h
/-! ### lex_token: function 51 -/
def lex_token.f (k : Nat) (a0 : ByteArray) (a1 : Int) : Option (Int × ByteArray × Int × Int × Int) := if 0 ≤ a1 then (if a1 < (a0.size : Int) then ((lex_char_letter.f (bt a0 a1)).bind fun t115 => (if t115 = true then ((lex_run_at_lex_char_tail.f k a0 a1).bind fun t116 => (if a1 ≤ (wrap64 (a1 + t116)) then (if (wrap64 (a1 + t116)) ≤ (a0.size : Int) then (some (1, a0.extract (a1 : Int).toNat ((wrap64 (a1 + t116)) : Int).toNat, 0, a1, 0)) else (none)) else (none))) else ((lex_char_digit.f (bt a0 a1)).bind fun t117 => (if t117 = true then ((lex_run_at_lex_char_digit.f k a0 a1).bind fun t118 => (if a1 ≤ (wrap64 (a1 + t118)) then (if (wrap64 (a1 + t118)) ≤ (a0.size : Int) then ((lex_worth.f (a0.extract (a1 : Int).toNat ((wrap64 (a1 + t118)) : Int).toNat)).bind fun bt119 => (if bt119.2 = true then (some (2, a0.extract (a1 : Int).toNat ((wrap64 (a1 + t118)) : Int).toNat, bt119.1, a1, 0)) else (some (0, (⟨#[]⟩ : ByteArray), 0, 0, 3)))) else (none)) else (none))) else ((lex_sign.f a0 a1).bind fun t121 => (if t121.toList = ([] : List UInt8) then (some (0, (⟨#[]⟩ : ByteArray), 0, 0, 2)) else (some (3, t121, 0, a1, 0)))))))) else (none)) else (none)
theorem lex_token.mono : ∀ a0 a1 k, LeO (lex_token.f k a0 a1) (lex_token.f (k + 1) a0 a1) := by
 intro a0 a1 k
 unfold lex_token.f
 repeat' first
  | (with_reducible exact lex_run_at_lex_char_digit.mono _ _ _)
  | (with_reducible exact lex_run_at_lex_char_tail.mono _ _ _)
  | (with_reducible exact LeO.refl _)
  | (with_reducible exact LeO.none _)
  | (with_reducible refine LeO.ite ?_ ?_)
  | (with_reducible refine LeO.bind ?_ (fun _ => ?_))
  | exact lex_run_at_lex_char_digit.mono _ _ _
  | exact lex_run_at_lex_char_tail.mono _ _ _
  | exact LeO.none _
  | refine LeO.ite ?_ ?_
  | refine LeO.bind ?_ (fun _ => ?_)
set_option maxHeartbeats 8000000 in
set_option maxRecDepth 100000 in
theorem lex_token.calls (k : Nat) (a0 : ByteArray) (a1 : Int) (r1 : Int) (r2 : ByteArray) (r3 : Int) (r4 : Int) (r5 : Int) (w : World) (h : lex_token.f k a0 a1 = some (r1, r2, r3, r4, r5)) :
 Calls Try.prog 51 #[.string a0, .int .i64 a1] w fun e w' => e = .returned (.tuple #[.agg #[.int .i64 r1, .string r2, .int .i64 r3, .int .i64 r4], .int .i64 r5]) ∧ Below w.heap.size w w' := by
 have hu53 := Try.underlying53
 have HB := Aside0.mk (Below.refl w.heap.size w)
 have H : (if 0 ≤ a1 then (if a1 < (a0.size : Int) then ((lex_char_letter.f (bt a0 a1)).bind fun t115 => (if t115 = true then ((lex_run_at_lex_char_tail.f k a0 a1).bind fun t116 => (if a1 ≤ (wrap64 (a1 + t116)) then (if (wrap64 (a1 + t116)) ≤ (a0.size : Int) then (some (1, a0.extract (a1 : Int).toNat ((wrap64 (a1 + t116)) : Int).toNat, 0, a1, 0)) else (none)) else (none))) else ((lex_char_digit.f (bt a0 a1)).bind fun t117 => (if t117 = true then ((lex_run_at_lex_char_digit.f k a0 a1).bind fun t118 => (if a1 ≤ (wrap64 (a1 + t118)) then (if (wrap64 (a1 + t118)) ≤ (a0.size : Int) then ((lex_worth.f (a0.extract (a1 : Int).toNat ((wrap64 (a1 + t118)) : Int).toNat)).bind fun bt119 => (if bt119.2 = true then (some (2, a0.extract (a1 : Int).toNat ((wrap64 (a1 + t118)) : Int).toNat, bt119.1, a1, 0)) else (some (0, (⟨#[]⟩ : ByteArray), 0, 0, 3)))) else (none)) else (none))) else ((lex_sign.f a0 a1).bind fun t121 => (if t121.toList = ([] : List UInt8) then (some (0, (⟨#[]⟩ : ByteArray), 0, 0, 2)) else (some (3, t121, 0, a1, 0)))))))) else (none)) else (none)) = some (r1, r2, r3, r4, r5) := h
 clear h
 by_cases c3 : 0 ≤ a1
 ·rw [if_pos c3] at H
  have c3b0 : decide (0 ≤ a1) = true := decide_eq_true c3
  clear c3
  by_cases c4 : a1 < (a0.size : Int)
  ·rw [if_pos c4] at H
   have c4b0 : decide (a1 < (a0.size : Int)) = true := decide_eq_true c4
   clear c4
   replace H := Option.bind_eq_some_iff.mp H
   obtain ⟨t115, A60, H⟩ := H
   replace H : (if t115 = true then ((lex_run_at_lex_char_tail.f k a0 a1).bind fun t116 => (if a1 ≤ (wrap64 (a1 + t116)) then (if (wrap64 (a1 + t116)) ≤ (a0.size : Int) then (some (1, a0.extract (a1 : Int).toNat ((wrap64 (a1 + t116)) : Int).toNat, 0, a1, 0)) else (none)) else (none))) else ((lex_char_digit.f (bt a0 a1)).bind fun t117 => (if t117 = true then ((lex_run_at_lex_char_digit.f k a0 a1).bind fun t118 => (if a1 ≤ (wrap64 (a1 + t118)) then (if (wrap64 (a1 + t118)) ≤ (a0.size : Int) then ((lex_worth.f (a0.extract (a1 : Int).toNat ((wrap64 (a1 + t118)) : Int).toNat)).bind fun bt119 => (if bt119.2 = true then (some (2, a0.extract (a1 : Int).toNat ((wrap64 (a1 + t118)) : Int).toNat, bt119.1, a1, 0)) else (some (0, (⟨#[]⟩ : ByteArray), 0, 0, 3)))) else (none)) else (none))) else ((lex_sign.f a0 a1).bind fun t121 => (if t121.toList = ([] : List UInt8) then (some (0, (⟨#[]⟩ : ByteArray), 0, 0, 2)) else (some (3, t121, 0, a1, 0))))))) = some (r1, r2, r3, r4, r5) := H
   have A6 := Aside0.mk A60
   clear A60
   by_cases c7 : t115 = true
   ·subst c7
    have H1 : ((lex_run_at_lex_char_tail.f k a0 a1).bind fun t116 => (if a1 ≤ (wrap64 (a1 + t116)) then (if (wrap64 (a1 + t116)) ≤ (a0.size : Int) then (some (1, a0.extract (a1 : Int).toNat ((wrap64 (a1 + t116)) : Int).toNat, 0, a1, 0)) else (none)) else (none))) = some (r1, r2, r3, r4, r5) := by rw [if_pos rfl] at H; exact H
    clear H
    have H := H1
    clear H1
    replace H := Option.bind_eq_some_iff.mp H
    obtain ⟨t116, A80, H⟩ := H
    replace H : (if a1 ≤ (wrap64 (a1 + t116)) then (if (wrap64 (a1 + t116)) ≤ (a0.size : Int) then (some (1, a0.extract (a1 : Int).toNat ((wrap64 (a1 + t116)) : Int).toNat, 0, a1, 0)) else (none)) else (none)) = some (r1, r2, r3, r4, r5) := H
    have A8 := Aside0.mk A80
    clear A80
    have c9b0 := eq_true (of_decide_eq_true (w5q11) : 0 ≤ a1)
    by_cases c10 : a1 ≤ (wrap64 (a1 + t116))
    ·rw [if_pos c10] at H
     have c10b0 := eq_true c10
     have c10b1 : decide (a1 ≤ (wrap64 (a1 + t116))) = true := decide_eq_true c10
     by_cases c11 : (wrap64 (a1 + t116)) ≤ (a0.size : Int)
     ·rw [if_pos c11] at H
      have c11b0 := eq_true c11
      have c11b1 : decide ((wrap64 (a1 + t116)) ≤ (a0.size : Int)) = true := decide_eq_true c11
      simp only [Option.some.injEq, Prod.mk.injEq] at H
      obtain ⟨rfl, rfl, rfl, rfl, rfl⟩ := H
      go_enter Try.func51, Try.ntmps51
      go_wp2_with (first | ((with_reducible refine gate_dst (N := 4) rfl ?_); refine box_event ?hg (N := 4) ?hd (cs := #[.int .i64 0, .string (⟨#[]⟩ : ByteArray), .int .i64 0, .int .i64 0]) (t := 53) ?hr ?_; (case hd => rfl); (case hg => rfl); (case hr => first | (go_simp; done) | (go_simp; rfl)); intro gb114 hg w12 hbox hb; have n0_ := Aside0.mk (below_step (w5q3) hb); have n1_ := Aside0.mk (hbox); have n2_ := Aside0.mk ((by rw [hg]; exact (below_size (w5q3)) : w.heap.size ≤ gb114)); have n3_ := Aside0.mk ((by rw [hg]; exact (below_size (w5q3)) : w.heap.size ≤ gb114)); clear HB; have HB := n0_; have BK114 := n1_; have GW114 := n2_; have GE114 := n3_; clear n0_ n1_ n2_ n3_; clear hb hbox hg; have p5 : 0 ≤ (a1 : Int) := of_decide_eq_true (w5q11); have q5 : a1 < (a0.size : Int) := of_decide_eq_true (w5q11); have hx5 := bt_at a0 a1; replace p5 := eq_true p5; replace q5 := eq_true q5) | ((with_reducible refine gate_callee (f := 75) rfl ?_); refine goesL_ (some 16) rfl rfl Try.func75 (w5q15) rfl #[.int .u8 (bt a0 a1)] rfl (w5q2) ?_; (with_reducible refine (lex_char_letter.calls (bt a0 a1) true _ A6.out).mono ?_); rintro e w' ⟨rfl, ⟨nd, rfl⟩⟩; refine ⟨_, rfl, ?_⟩; (try (rw [drewN_self w12]; generalize hq_ : World.drewN w12 _ = w12; have n0_ : Aside0 (w12.heap[gb114]? = some (.cells #[.int .i64 0, .string (⟨#[]⟩ : ByteArray), .int .i64 0, .int .i64 0] 53 (0, 0))) := ⟨w5q5⟩; have n1_ : Aside0 (Below w.heap.size w w12) := ⟨w5q13⟩; clear BK114 HB hq_; have BK114 := n0_; have HB := n1_; clear n0_ n1_))) | ((with_reducible refine gate_callee (f := 71) rfl ?_); refine goesL_ (some 22) rfl rfl Try.func71 (w5q15) rfl #[.string a0, .int .i64 a1, .func (.func 76) #[] #[]] rfl (w5q2) ?_; (with_reducible refine (lex_run_at_lex_char_tail.calls k a0 a1  t116 _ A8.out).mono ?_); rintro e w' ⟨rfl, ⟨nd, rfl⟩⟩; refine ⟨_, rfl, ?_⟩; (try (rw [drewN_self w12]; generalize hq_ : World.drewN w12 _ = w12; have n0_ : Aside0 (w12.heap[gb114]? = some (.cells #[.int .i64 0, .string (⟨#[]⟩ : ByteArray), .int .i64 0, .int .i64 0] 53 (0, 0))) := ⟨w5q5⟩; have n1_ : Aside0 (Below w.heap.size w w12) := ⟨w5q13⟩; clear BK114 HB hq_; have BK114 := n0_; have HB := n1_; clear n0_ n1_)); have hcz13_0 : w12.cell? ⟨gb114, 0, none⟩ = some (.int .i64 0) := (blk_cell BK114.out 0).trans rfl; have hcz13_1 : w12.cell? ⟨gb114, 1, none⟩ = some (.string (⟨#[]⟩ : ByteArray)) := (blk_cell BK114.out 1).trans rfl; have hcz13_2 : w12.cell? ⟨gb114, 2, none⟩ = some (.int .i64 0) := (blk_cell BK114.out 2).trans rfl; have hcz13_3 : w12.cell? ⟨gb114, 3, none⟩ = some (.int .i64 0) := (blk_cell BK114.out 3).trans rfl; have hfz13_0 := blk_frozen BK114.out 0; have hfz13_1 := blk_frozen BK114.out 1; have hfz13_2 := blk_frozen BK114.out 2; have hfz13_3 := blk_frozen BK114.out 3))
      refine bodyPost_ret (results_ct rfl _ _ gb114 53 #[.int .i64 1, .string (a0.extract (a1 : Int).toNat ((wrap64 (a1 + t116)) : Int).toNat), .int .i64 0, .int .i64 a1] (0, 0) _ rfl (by (with_reducible repeat (first | refine blk_drewN ?_ _ | refine blk_drew ?_ | refine blk_alloc ?_ _)); refine blk_put (cs := #[.int .i64 1, .string (a0.extract (a1 : Int).toNat ((wrap64 (a1 + t116)) : Int).toNat), .int .i64 0, .int .i64 0]) ?_ 3 _ rfl; (with_reducible repeat (first | refine blk_drewN ?_ _ | refine blk_drew ?_ | refine blk_alloc ?_ _)); refine blk_put (cs := #[.int .i64 1, .string (a0.extract (a1 : Int).toNat ((wrap64 (a1 + t116)) : Int).toNat), .int .i64 0, .int .i64 0]) ?_ 2 _ rfl; (with_reducible repeat (first | refine blk_drewN ?_ _ | refine blk_drew ?_ | refine blk_alloc ?_ _)); refine blk_put (cs := #[.int .i64 1, .string (⟨#[]⟩ : ByteArray), .int .i64 0, .int .i64 0]) ?_ 1 _ rfl; (with_reducible repeat (first | refine blk_drewN ?_ _ | refine blk_drew ?_ | refine blk_alloc ?_ _)); refine blk_put (cs := #[.int .i64 0, .string (⟨#[]⟩ : ByteArray), .int .i64 0, .int .i64 0]) ?_ 0 _ rfl; (with_reducible repeat (first | refine blk_drewN ?_ _ | refine blk_drew ?_ | refine blk_alloc ?_ _)); exact BK114.out) Try.underlying53 rfl (w5q15)) rfl ?_
      exact ⟨w5q9, w5q1⟩
     ·rw [if_neg c11] at H
      exact absurd H (by simp)
    ·rw [if_neg c10] at H
     exact absurd H (by simp)
   ·replace c7 := Bool.eq_false_iff.mpr c7
    subst c7
    have H1 : ((lex_char_digit.f (bt a0 a1)).bind fun t117 => (if t117 = true then ((lex_run_at_lex_char_digit.f k a0 a1).bind fun t118 => (if a1 ≤ (wrap64 (a1 + t118)) then (if (wrap64 (a1 + t118)) ≤ (a0.size : Int) then ((lex_worth.f (a0.extract (a1 : Int).toNat ((wrap64 (a1 + t118)) : Int).toNat)).bind fun bt119 => (if bt119.2 = true then (some (2, a0.extract (a1 : Int).toNat ((wrap64 (a1 + t118)) : Int).toNat, bt119.1, a1, 0)) else (some (0, (⟨#[]⟩ : ByteArray), 0, 0, 3)))) else (none)) else (none))) else ((lex_sign.f a0 a1).bind fun t121 => (if t121.toList = ([] : List UInt8) then (some (0, (⟨#[]⟩ : ByteArray), 0, 0, 2)) else (some (3, t121, 0, a1, 0)))))) = some (r1, r2, r3, r4, r5) := by rw [if_neg (show ¬ (false = true) by decide)] at H; exact H
    clear H
    have H := H1
    clear H1
    replace H := Option.bind_eq_some_iff.mp H
    obtain ⟨t117, A140, H⟩ := H
    replace H : (if t117 = true then ((lex_run_at_lex_char_digit.f k a0 a1).bind fun t118 => (if a1 ≤ (wrap64 (a1 + t118)) then (if (wrap64 (a1 + t118)) ≤ (a0.size : Int) then ((lex_worth.f (a0.extract (a1 : Int).toNat ((wrap64 (a1 + t118)) : Int).toNat)).bind fun bt119 => (if bt119.2 = true then (some (2, a0.extract (a1 : Int).toNat ((wrap64 (a1 + t118)) : Int).toNat, bt119.1, a1, 0)) else (some (0, (⟨#[]⟩ : ByteArray), 0, 0, 3)))) else (none)) else (none))) else ((lex_sign.f a0 a1).bind fun t121 => (if t121.toList = ([] : List UInt8) then (some (0, (⟨#[]⟩ : ByteArray), 0, 0, 2)) else (some (3, t121, 0, a1, 0))))) = some (r1, r2, r3, r4, r5) := H
    have A14 := Aside0.mk A140
    clear A140
    by_cases c15 : t117 = true
    ·subst c15
     have H1 : ((lex_run_at_lex_char_digit.f k a0 a1).bind fun t118 => (if a1 ≤ (wrap64 (a1 + t118)) then (if (wrap64 (a1 + t118)) ≤ (a0.size : Int) then ((lex_worth.f (a0.extract (a1 : Int).toNat ((wrap64 (a1 + t118)) : Int).toNat)).bind fun bt119 => (if bt119.2 = true then (some (2, a0.extract (a1 : Int).toNat ((wrap64 (a1 + t118)) : Int).toNat, bt119.1, a1, 0)) else (some (0, (⟨#[]⟩ : ByteArray), 0, 0, 3)))) else (none)) else (none))) = some (r1, r2, r3, r4, r5) := by rw [if_pos rfl] at H; exact H
     clear H
     have H := H1
     clear H1
     replace H := Option.bind_eq_some_iff.mp H
     obtain ⟨t118, A160, H⟩ := H
     replace H : (if a1 ≤ (wrap64 (a1 + t118)) then (if (wrap64 (a1 + t118)) ≤ (a0.size : Int) then ((lex_worth.f (a0.extract (a1 : Int).toNat ((wrap64 (a1 + t118)) : Int).toNat)).bind fun bt119 => (if bt119.2 = true then (some (2, a0.extract (a1 : Int).toNat ((wrap64 (a1 + t118)) : Int).toNat, bt119.1, a1, 0)) else (some (0, (⟨#[]⟩ : ByteArray), 0, 0, 3)))) else (none)) else (none)) = some (r1, r2, r3, r4, r5) := H
     have A16 := Aside0.mk A160
     clear A160
     have c17b0 := eq_true (of_decide_eq_true (w5q11) : 0 ≤ a1)
     by_cases c18 : a1 ≤ (wrap64 (a1 + t118))
     ·rw [if_pos c18] at H
      have c18b0 := eq_true c18
      have c18b1 : decide (a1 ≤ (wrap64 (a1 + t118))) = true := decide_eq_true c18
      by_cases c19 : (wrap64 (a1 + t118)) ≤ (a0.size : Int)
      ·rw [if_pos c19] at H
       have c19b0 := eq_true c19
       have c19b1 : decide ((wrap64 (a1 + t118)) ≤ (a0.size : Int)) = true := decide_eq_true c19
       replace H := Option.bind_eq_some_iff.mp H
       obtain ⟨⟨t119, t120⟩, A200, H⟩ := H
       replace H : (if t120 = true then (some (2, a0.extract (a1 : Int).toNat ((wrap64 (a1 + t118)) : Int).toNat, t119, a1, 0)) else (some (0, (⟨#[]⟩ : ByteArray), 0, 0, 3))) = some (r1, r2, r3, r4, r5) := H
       have A20 := Aside0.mk A200
       clear A200
       by_cases c21 : t120 = true
       ·subst c21
        have H1 : (some (2, a0.extract (a1 : Int).toNat ((wrap64 (a1 + t118)) : Int).toNat, t119, a1, 0)) = some (r1, r2, r3, r4, r5) := by rw [if_pos rfl] at H; exact H
        clear H
        have H := H1
        clear H1
        simp only [Option.some.injEq, Prod.mk.injEq] at H
        obtain ⟨rfl, rfl, rfl, rfl, rfl⟩ := H
        go_enter Try.func51, Try.ntmps51
        go_wp2_with (first | ((with_reducible refine gate_dst (N := 4) rfl ?_); refine box_event ?hg (N := 4) ?hd (cs := #[.int .i64 0, .string (⟨#[]⟩ : ByteArray), .int .i64 0, .int .i64 0]) (t := 53) ?hr ?_; (case hd => rfl); (case hg => rfl); (case hr => first | (go_simp; done) | (go_simp; rfl)); intro gb114 hg w22 hbox hb; have n0_ := Aside0.mk (below_step (w5q3) hb); have n1_ := Aside0.mk (hbox); have n2_ := Aside0.mk ((by rw [hg]; exact (below_size (w5q3)) : w.heap.size ≤ gb114)); have n3_ := Aside0.mk ((by rw [hg]; exact (below_size (w5q3)) : w.heap.size ≤ gb114)); clear HB; have HB := n0_; have BK114 := n1_; have GW114 := n2_; have GE114 := n3_; clear n0_ n1_ n2_ n3_; clear hb hbox hg; have p5 : 0 ≤ (a1 : Int) := of_decide_eq_true (w5q11); have q5 : a1 < (a0.size : Int) := of_decide_eq_true (w5q11); have hx5 := bt_at a0 a1; replace p5 := eq_true p5; replace q5 := eq_true q5) | ((with_reducible refine gate_callee (f := 75) rfl ?_); refine goesL_ (some 16) rfl rfl Try.func75 (w5q15) rfl #[.int .u8 (bt a0 a1)] rfl (w5q2) ?_; (with_reducible refine (lex_char_letter.calls (bt a0 a1) false _ A6.out).mono ?_); rintro e w' ⟨rfl, ⟨nd, rfl⟩⟩; refine ⟨_, rfl, ?_⟩; (try (rw [drewN_self w22]; generalize hq_ : World.drewN w22 _ = w22; have n0_ : Aside0 (w22.heap[gb114]? = some (.cells #[.int .i64 0, .string (⟨#[]⟩ : ByteArray), .int .i64 0, .int .i64 0] 53 (0, 0))) := ⟨w5q5⟩; have n1_ : Aside0 (Below w.heap.size w w22) := ⟨w5q13⟩; clear BK114 HB hq_; have BK114 := n0_; have HB := n1_; clear n0_ n1_))) | ((with_reducible refine gate_callee (f := 77) rfl ?_); refine goesL_ (some 29) rfl rfl Try.func77 (w5q15) rfl #[.int .u8 (bt a0 a1)] rfl (w5q2) ?_; (with_reducible refine (lex_char_digit.calls (bt a0 a1) true _ A14.out).mono ?_); rintro e w' ⟨rfl, ⟨nd, rfl⟩⟩; refine ⟨_, rfl, ?_⟩; (try (rw [drewN_self w22]; generalize hq_ : World.drewN w22 _ = w22; have n0_ : Aside0 (w22.heap[gb114]? = some (.cells #[.int .i64 0, .string (⟨#[]⟩ : ByteArray), .int .i64 0, .int .i64 0] 53 (0, 0))) := ⟨w5q5⟩; have n1_ : Aside0 (Below w.heap.size w w22) := ⟨w5q13⟩; clear BK114 HB hq_; have BK114 := n0_; have HB := n1_; clear n0_ n1_))) | ((with_reducible refine gate_callee (f := 71) rfl ?_); refine goesL_ (some 35) rfl rfl Try.func71 (w5q15) rfl #[.string a0, .int .i64 a1, .func (.func 77) #[] #[]] rfl (w5q2) ?_; (with_reducible refine (lex_run_at_lex_char_digit.calls k a0 a1  t118 _ A16.out).mono ?_); rintro e w' ⟨rfl, ⟨nd, rfl⟩⟩; refine ⟨_, rfl, ?_⟩; (try (rw [drewN_self w22]; generalize hq_ : World.drewN w22 _ = w22; have n0_ : Aside0 (w22.heap[gb114]? = some (.cells #[.int .i64 0, .string (⟨#[]⟩ : ByteArray), .int .i64 0, .int .i64 0] 53 (0, 0))) := ⟨w5q5⟩; have n1_ : Aside0 (Below w.heap.size w w22) := ⟨w5q13⟩; clear BK114 HB hq_; have BK114 := n0_; have HB := n1_; clear n0_ n1_))) | ((with_reducible refine gate_callee (f := 78) rfl ?_); refine goesL_ (some 40) rfl rfl Try.func78 (w5q15) rfl #[.string (a0.extract (a1 : Int).toNat ((wrap64 (a1 + t118)) : Int).toNat)] rfl (w5q2) ?_; (with_reducible refine (lex_worth.calls (a0.extract (a1 : Int).toNat ((wrap64 (a1 + t118)) : Int).toNat) t119 true _ A20.out).mono ?_); rintro e w23 ⟨rfl, hb⟩; refine ⟨_, rfl, ?_⟩; have n0_ := Aside0.mk (blk_below (g := gb114) (o := .cells #[.int .i64 0, .string (⟨#[]⟩ : ByteArray), .int .i64 0, .int .i64 0] 53 (0, 0)) (by (with_reducible repeat (first | refine blk_drewN ?_ _ | refine blk_drew ?_ | refine blk_alloc ?_ _)); exact BK114.out) hb); have n1_ := Aside0.mk (below_step (w5q1) hb); clear BK114; clear HB; have BK114 := n0_; have HB := n1_; clear n0_ n1_; (try clear hb); (try clear hb2); (try clear hk); (try clear hi); have hcz24_0 : w23.cell? ⟨gb114, 0, none⟩ = some (.int .i64 0) := (blk_cell BK114.out 0).trans rfl; have hcz24_1 : w23.cell? ⟨gb114, 1, none⟩ = some (.string (⟨#[]⟩ : ByteArray)) := (blk_cell BK114.out 1).trans rfl; have hcz24_2 : w23.cell? ⟨gb114, 2, none⟩ = some (.int .i64 0) := (blk_cell BK114.out 2).trans rfl; have hcz24_3 : w23.cell? ⟨gb114, 3, none⟩ = some (.int .i64 0) := (blk_cell BK114.out 3).trans rfl; have hfz24_0 := blk_frozen BK114.out 0; have hfz24_1 := blk_frozen BK114.out 1; have hfz24_2 := blk_frozen BK114.out 2; have hfz24_3 := blk_frozen BK114.out 3))
        refine bodyPost_ret (results_ct rfl _ _ gb114 53 #[.int .i64 2, .string (a0.extract (a1 : Int).toNat ((wrap64 (a1 + t118)) : Int).toNat), .int .i64 t119, .int .i64 a1] (0, 0) _ rfl (by (with_reducible repeat (first | refine blk_drewN ?_ _ | refine blk_drew ?_ | refine blk_alloc ?_ _)); refine blk_put (cs := #[.int .i64 2, .string (a0.extract (a1 : Int).toNat ((wrap64 (a1 + t118)) : Int).toNat), .int .i64 t119, .int .i64 0]) ?_ 3 _ rfl; (with_reducible repeat (first | refine blk_drewN ?_ _ | refine blk_drew ?_ | refine blk_alloc ?_ _)); refine blk_put (cs := #[.int .i64 2, .string (a0.extract (a1 : Int).toNat ((wrap64 (a1 + t118)) : Int).toNat), .int .i64 0, .int .i64 0]) ?_ 2 _ rfl; (with_reducible repeat (first | refine blk_drewN ?_ _ | refine blk_drew ?_ | refine blk_alloc ?_ _)); refine blk_put (cs := #[.int .i64 2, .string (⟨#[]⟩ : ByteArray), .int .i64 0, .int .i64 0]) ?_ 1 _ rfl; (with_reducible repeat (first | refine blk_drewN ?_ _ | refine blk_drew ?_ | refine blk_alloc ?_ _)); refine blk_put (cs := #[.int .i64 0, .string (⟨#[]⟩ : ByteArray), .int .i64 0, .int .i64 0]) ?_ 0 _ rfl; (with_reducible repeat (first | refine blk_drewN ?_ _ | refine blk_drew ?_ | refine blk_alloc ?_ _)); exact BK114.out) Try.underlying53 rfl (w5q15)) rfl ?_
        exact ⟨w5q9, w5q1⟩
       ·replace c21 := Bool.eq_false_iff.mpr c21
        subst c21
        have H1 : (some (0, (⟨#[]⟩ : ByteArray), 0, 0, 3)) = some (r1, r2, r3, r4, r5) := by rw [if_neg (show ¬ (false = true) by decide)] at H; exact H
        clear H
        have H := H1
        clear H1
        simp only [Option.some.injEq, Prod.mk.injEq] at H
        obtain ⟨rfl, rfl, rfl, rfl, rfl⟩ := H
        go_enter Try.func51, Try.ntmps51
        go_wp2_with (first | ((with_reducible refine gate_dst (N := 4) rfl ?_); refine box_event ?hg (N := 4) ?hd (cs := #[.int .i64 0, .string (⟨#[]⟩ : ByteArray), .int .i64 0, .int .i64 0]) (t := 53) ?hr ?_; (case hd => rfl); (case hg => rfl); (case hr => first | (go_simp; done) | (go_simp; rfl)); intro gb114 hg w25 hbox hb; have n0_ := Aside0.mk (below_step (w5q3) hb); have n1_ := Aside0.mk (hbox); have n2_ := Aside0.mk ((by rw [hg]; exact (below_size (w5q3)) : w.heap.size ≤ gb114)); have n3_ := Aside0.mk ((by rw [hg]; exact (below_size (w5q3)) : w.heap.size ≤ gb114)); clear HB; have HB := n0_; have BK114 := n1_; have GW114 := n2_; have GE114 := n3_; clear n0_ n1_ n2_ n3_; clear hb hbox hg; have p5 : 0 ≤ (a1 : Int) := of_decide_eq_true (w5q11); have q5 : a1 < (a0.size : Int) := of_decide_eq_true (w5q11); have hx5 := bt_at a0 a1; replace p5 := eq_true p5; replace q5 := eq_true q5) | ((with_reducible refine gate_callee (f := 75) rfl ?_); refine goesL_ (some 16) rfl rfl Try.func75 (w5q15) rfl #[.int .u8 (bt a0 a1)] rfl (w5q2) ?_; (with_reducible refine (lex_char_letter.calls (bt a0 a1) false _ A6.out).mono ?_); rintro e w' ⟨rfl, ⟨nd, rfl⟩⟩; refine ⟨_, rfl, ?_⟩; (try (rw [drewN_self w25]; generalize hq_ : World.drewN w25 _ = w25; have n0_ : Aside0 (w25.heap[gb114]? = some (.cells #[.int .i64 0, .string (⟨#[]⟩ : ByteArray), .int .i64 0, .int .i64 0] 53 (0, 0))) := ⟨w5q5⟩; have n1_ : Aside0 (Below w.heap.size w w25) := ⟨w5q13⟩; clear BK114 HB hq_; have BK114 := n0_; have HB := n1_; clear n0_ n1_))) | ((with_reducible refine gate_callee (f := 77) rfl ?_); refine goesL_ (some 29) rfl rfl Try.func77 (w5q15) rfl #[.int .u8 (bt a0 a1)] rfl (w5q2) ?_; (with_reducible refine (lex_char_digit.calls (bt a0 a1) true _ A14.out).mono ?_); rintro e w' ⟨rfl, ⟨nd, rfl⟩⟩; refine ⟨_, rfl, ?_⟩; (try (rw [drewN_self w25]; generalize hq_ : World.drewN w25 _ = w25; have n0_ : Aside0 (w25.heap[gb114]? = some (.cells #[.int .i64 0, .string (⟨#[]⟩ : ByteArray), .int .i64 0, .int .i64 0] 53 (0, 0))) := ⟨w5q5⟩; have n1_ : Aside0 (Below w.heap.size w w25) := ⟨w5q13⟩; clear BK114 HB hq_; have BK114 := n0_; have HB := n1_; clear n0_ n1_))) | ((with_reducible refine gate_callee (f := 71) rfl ?_); refine goesL_ (some 35) rfl rfl Try.func71 (w5q15) rfl #[.string a0, .int .i64 a1, .func (.func 77) #[] #[]] rfl (w5q2) ?_; (with_reducible refine (lex_run_at_lex_char_digit.calls k a0 a1  t118 _ A16.out).mono ?_); rintro e w' ⟨rfl, ⟨nd, rfl⟩⟩; refine ⟨_, rfl, ?_⟩; (try (rw [drewN_self w25]; generalize hq_ : World.drewN w25 _ = w25; have n0_ : Aside0 (w25.heap[gb114]? = some (.cells #[.int .i64 0, .string (⟨#[]⟩ : ByteArray), .int .i64 0, .int .i64 0] 53 (0, 0))) := ⟨w5q5⟩; have n1_ : Aside0 (Below w.heap.size w w25) := ⟨w5q13⟩; clear BK114 HB hq_; have BK114 := n0_; have HB := n1_; clear n0_ n1_))) | ((with_reducible refine gate_callee (f := 78) rfl ?_); refine goesL_ (some 40) rfl rfl Try.func78 (w5q15) rfl #[.string (a0.extract (a1 : Int).toNat ((wrap64 (a1 + t118)) : Int).toNat)] rfl (w5q2) ?_; (with_reducible refine (lex_worth.calls (a0.extract (a1 : Int).toNat ((wrap64 (a1 + t118)) : Int).toNat) t119 false _ A20.out).mono ?_); rintro e w26 ⟨rfl, hb⟩; refine ⟨_, rfl, ?_⟩; have n0_ := Aside0.mk (blk_below (g := gb114) (o := .cells #[.int .i64 0, .string (⟨#[]⟩ : ByteArray), .int .i64 0, .int .i64 0] 53 (0, 0)) (by (with_reducible repeat (first | refine blk_drewN ?_ _ | refine blk_drew ?_ | refine blk_alloc ?_ _)); exact BK114.out) hb); have n1_ := Aside0.mk (below_step (w5q1) hb); clear BK114; clear HB; have BK114 := n0_; have HB := n1_; clear n0_ n1_; (try clear hb); (try clear hb2); (try clear hk); (try clear hi); have hcz27_0 : w26.cell? ⟨gb114, 0, none⟩ = some (.int .i64 0) := (blk_cell BK114.out 0).trans rfl; have hcz27_1 : w26.cell? ⟨gb114, 1, none⟩ = some (.string (⟨#[]⟩ : ByteArray)) := (blk_cell BK114.out 1).trans rfl; have hcz27_2 : w26.cell? ⟨gb114, 2, none⟩ = some (.int .i64 0) := (blk_cell BK114.out 2).trans rfl; have hcz27_3 : w26.cell? ⟨gb114, 3, none⟩ = some (.int .i64 0) := (blk_cell BK114.out 3).trans rfl; have hfz27_0 := blk_frozen BK114.out 0; have hfz27_1 := blk_frozen BK114.out 1; have hfz27_2 := blk_frozen BK114.out 2; have hfz27_3 := blk_frozen BK114.out 3))
        refine bodyPost_ret (results_ct rfl _ _ gb114 53 #[.int .i64 0, .string (⟨#[]⟩ : ByteArray), .int .i64 0, .int .i64 0] (0, 0) _ rfl (w5q7) Try.underlying53 rfl (w5q15)) rfl ?_
        exact ⟨w5q9, w5q1⟩
      ·rw [if_neg c19] at H
       exact absurd H (by simp)
     ·rw [if_neg c18] at H
      exact absurd H (by simp)
    ·replace c15 := Bool.eq_false_iff.mpr c15
     subst c15
     have H1 : ((lex_sign.f a0 a1).bind fun t121 => (if t121.toList = ([] : List UInt8) then (some (0, (⟨#[]⟩ : ByteArray), 0, 0, 2)) else (some (3, t121, 0, a1, 0)))) = some (r1, r2, r3, r4, r5) := by rw [if_neg (show ¬ (false = true) by decide)] at H; exact H
     clear H
     have H := H1
     clear H1
     replace H := Option.bind_eq_some_iff.mp H
     obtain ⟨t121, A280, H⟩ := H
     replace H : (if t121.toList = ([] : List UInt8) then (some (0, (⟨#[]⟩ : ByteArray), 0, 0, 2)) else (some (3, t121, 0, a1, 0))) = some (r1, r2, r3, r4, r5) := H
     have A28 := Aside0.mk A280
     clear A280
     by_cases c29 : t121.toList = ([] : List UInt8)
     ·rw [if_pos c29] at H
      have c29b0 : (t121.toList == ([] : List UInt8)) = true := beq_iff_eq.mpr c29
      have c29b1 : (t121.toList != ([] : List UInt8)) = false := bne_eq_false_iff_eq.mpr c29
      clear c29
      simp only [Option.some.injEq, Prod.mk.injEq] at H
      obtain ⟨rfl, rfl, rfl, rfl, rfl⟩ := H
      go_enter Try.func51, Try.ntmps51
      go_wp2_with (first | ((with_reducible refine gate_dst (N := 4) rfl ?_); refine box_event ?hg (N := 4) ?hd (cs := #[.int .i64 0, .string (⟨#[]⟩ : ByteArray), .int .i64 0, .int .i64 0]) (t := 53) ?hr ?_; (case hd => rfl); (case hg => rfl); (case hr => first | (go_simp; done) | (go_simp; rfl)); intro gb114 hg w30 hbox hb; have n0_ := Aside0.mk (below_step (w5q3) hb); have n1_ := Aside0.mk (hbox); have n2_ := Aside0.mk ((by rw [hg]; exact (below_size (w5q3)) : w.heap.size ≤ gb114)); have n3_ := Aside0.mk ((by rw [hg]; exact (below_size (w5q3)) : w.heap.size ≤ gb114)); clear HB; have HB := n0_; have BK114 := n1_; have GW114 := n2_; have GE114 := n3_; clear n0_ n1_ n2_ n3_; clear hb hbox hg; have p5 : 0 ≤ (a1 : Int) := of_decide_eq_true (w5q11); have q5 : a1 < (a0.size : Int) := of_decide_eq_true (w5q11); have hx5 := bt_at a0 a1; replace p5 := eq_true p5; replace q5 := eq_true q5) | ((with_reducible refine gate_callee (f := 75) rfl ?_); refine goesL_ (some 16) rfl rfl Try.func75 (w5q15) rfl #[.int .u8 (bt a0 a1)] rfl (w5q2) ?_; (with_reducible refine (lex_char_letter.calls (bt a0 a1) false _ A6.out).mono ?_); rintro e w' ⟨rfl, ⟨nd, rfl⟩⟩; refine ⟨_, rfl, ?_⟩; (try (rw [drewN_self w30]; generalize hq_ : World.drewN w30 _ = w30; have n0_ : Aside0 (w30.heap[gb114]? = some (.cells #[.int .i64 0, .string (⟨#[]⟩ : ByteArray), .int .i64 0, .int .i64 0] 53 (0, 0))) := ⟨w5q5⟩; have n1_ : Aside0 (Below w.heap.size w w30) := ⟨w5q13⟩; clear BK114 HB hq_; have BK114 := n0_; have HB := n1_; clear n0_ n1_))) | ((with_reducible refine gate_callee (f := 77) rfl ?_); refine goesL_ (some 29) rfl rfl Try.func77 (w5q15) rfl #[.int .u8 (bt a0 a1)] rfl (w5q2) ?_; (with_reducible refine (lex_char_digit.calls (bt a0 a1) false _ A14.out).mono ?_); rintro e w' ⟨rfl, ⟨nd, rfl⟩⟩; refine ⟨_, rfl, ?_⟩; (try (rw [drewN_self w30]; generalize hq_ : World.drewN w30 _ = w30; have n0_ : Aside0 (w30.heap[gb114]? = some (.cells #[.int .i64 0, .string (⟨#[]⟩ : ByteArray), .int .i64 0, .int .i64 0] 53 (0, 0))) := ⟨w5q5⟩; have n1_ : Aside0 (Below w.heap.size w w30) := ⟨w5q13⟩; clear BK114 HB hq_; have BK114 := n0_; have HB := n1_; clear n0_ n1_))) | ((with_reducible refine gate_callee (f := 79) rfl ?_); refine goesL_ (some 52) rfl rfl Try.func79 (w5q15) rfl #[.string a0, .int .i64 a1] rfl (w5q2) ?_; (with_reducible refine (lex_sign.calls a0 a1 t121 _ A28.out).mono ?_); rintro e w' ⟨rfl, ⟨nd, rfl⟩⟩; refine ⟨_, rfl, ?_⟩; (try (rw [drewN_self w30]; generalize hq_ : World.drewN w30 _ = w30; have n0_ : Aside0 (w30.heap[gb114]? = some (.cells #[.int .i64 0, .string (⟨#[]⟩ : ByteArray), .int .i64 0, .int .i64 0] 53 (0, 0))) := ⟨w5q5⟩; have n1_ : Aside0 (Below w.heap.size w w30) := ⟨w5q13⟩; clear BK114 HB hq_; have BK114 := n0_; have HB := n1_; clear n0_ n1_)); have hcz31_0 : w30.cell? ⟨gb114, 0, none⟩ = some (.int .i64 0) := (blk_cell BK114.out 0).trans rfl; have hcz31_1 : w30.cell? ⟨gb114, 1, none⟩ = some (.string (⟨#[]⟩ : ByteArray)) := (blk_cell BK114.out 1).trans rfl; have hcz31_2 : w30.cell? ⟨gb114, 2, none⟩ = some (.int .i64 0) := (blk_cell BK114.out 2).trans rfl; have hcz31_3 : w30.cell? ⟨gb114, 3, none⟩ = some (.int .i64 0) := (blk_cell BK114.out 3).trans rfl; have hfz31_0 := blk_frozen BK114.out 0; have hfz31_1 := blk_frozen BK114.out 1; have hfz31_2 := blk_frozen BK114.out 2; have hfz31_3 := blk_frozen BK114.out 3))
      refine bodyPost_ret (results_ct rfl _ _ gb114 53 #[.int .i64 0, .string (⟨#[]⟩ : ByteArray), .int .i64 0, .int .i64 0] (0, 0) _ rfl (w5q7) Try.underlying53 rfl (w5q15)) rfl ?_
      exact ⟨w5q9, w5q1⟩
     ·rw [if_neg c29] at H
      have c29b0 : (t121.toList == ([] : List UInt8)) = false := beq_eq_false_iff_ne.mpr c29
      have c29b1 : (t121.toList != ([] : List UInt8)) = true := bne_iff_ne.mpr c29
      simp only [Option.some.injEq, Prod.mk.injEq] at H
      obtain ⟨rfl, rfl, rfl, rfl, rfl⟩ := H
      go_enter Try.func51, Try.ntmps51
      go_wp2_with (first | ((with_reducible refine gate_dst (N := 4) rfl ?_); refine box_event ?hg (N := 4) ?hd (cs := #[.int .i64 0, .string (⟨#[]⟩ : ByteArray), .int .i64 0, .int .i64 0]) (t := 53) ?hr ?_; (case hd => rfl); (case hg => rfl); (case hr => first | (go_simp; done) | (go_simp; rfl)); intro gb114 hg w32 hbox hb; have n0_ := Aside0.mk (below_step (w5q3) hb); have n1_ := Aside0.mk (hbox); have n2_ := Aside0.mk ((by rw [hg]; exact (below_size (w5q3)) : w.heap.size ≤ gb114)); have n3_ := Aside0.mk ((by rw [hg]; exact (below_size (w5q3)) : w.heap.size ≤ gb114)); clear HB; have HB := n0_; have BK114 := n1_; have GW114 := n2_; have GE114 := n3_; clear n0_ n1_ n2_ n3_; clear hb hbox hg; have p5 : 0 ≤ (a1 : Int) := of_decide_eq_true (w5q11); have q5 : a1 < (a0.size : Int) := of_decide_eq_true (w5q11); have hx5 := bt_at a0 a1; replace p5 := eq_true p5; replace q5 := eq_true q5) | ((with_reducible refine gate_callee (f := 75) rfl ?_); refine goesL_ (some 16) rfl rfl Try.func75 (w5q15) rfl #[.int .u8 (bt a0 a1)] rfl (w5q2) ?_; (with_reducible refine (lex_char_letter.calls (bt a0 a1) false _ A6.out).mono ?_); rintro e w' ⟨rfl, ⟨nd, rfl⟩⟩; refine ⟨_, rfl, ?_⟩; (try (rw [drewN_self w32]; generalize hq_ : World.drewN w32 _ = w32; have n0_ : Aside0 (w32.heap[gb114]? = some (.cells #[.int .i64 0, .string (⟨#[]⟩ : ByteArray), .int .i64 0, .int .i64 0] 53 (0, 0))) := ⟨w5q5⟩; have n1_ : Aside0 (Below w.heap.size w w32) := ⟨w5q13⟩; clear BK114 HB hq_; have BK114 := n0_; have HB := n1_; clear n0_ n1_))) | ((with_reducible refine gate_callee (f := 77) rfl ?_); refine goesL_ (some 29) rfl rfl Try.func77 (w5q15) rfl #[.int .u8 (bt a0 a1)] rfl (w5q2) ?_; (with_reducible refine (lex_char_digit.calls (bt a0 a1) false _ A14.out).mono ?_); rintro e w' ⟨rfl, ⟨nd, rfl⟩⟩; refine ⟨_, rfl, ?_⟩; (try (rw [drewN_self w32]; generalize hq_ : World.drewN w32 _ = w32; have n0_ : Aside0 (w32.heap[gb114]? = some (.cells #[.int .i64 0, .string (⟨#[]⟩ : ByteArray), .int .i64 0, .int .i64 0] 53 (0, 0))) := ⟨w5q5⟩; have n1_ : Aside0 (Below w.heap.size w w32) := ⟨w5q13⟩; clear BK114 HB hq_; have BK114 := n0_; have HB := n1_; clear n0_ n1_))) | ((with_reducible refine gate_callee (f := 79) rfl ?_); refine goesL_ (some 52) rfl rfl Try.func79 (w5q15) rfl #[.string a0, .int .i64 a1] rfl (w5q2) ?_; (with_reducible refine (lex_sign.calls a0 a1 t121 _ A28.out).mono ?_); rintro e w' ⟨rfl, ⟨nd, rfl⟩⟩; refine ⟨_, rfl, ?_⟩; (try (rw [drewN_self w32]; generalize hq_ : World.drewN w32 _ = w32; have n0_ : Aside0 (w32.heap[gb114]? = some (.cells #[.int .i64 0, .string (⟨#[]⟩ : ByteArray), .int .i64 0, .int .i64 0] 53 (0, 0))) := ⟨w5q5⟩; have n1_ : Aside0 (Below w.heap.size w w32) := ⟨w5q13⟩; clear BK114 HB hq_; have BK114 := n0_; have HB := n1_; clear n0_ n1_)); have hcz33_0 : w32.cell? ⟨gb114, 0, none⟩ = some (.int .i64 0) := (blk_cell BK114.out 0).trans rfl; have hcz33_1 : w32.cell? ⟨gb114, 1, none⟩ = some (.string (⟨#[]⟩ : ByteArray)) := (blk_cell BK114.out 1).trans rfl; have hcz33_2 : w32.cell? ⟨gb114, 2, none⟩ = some (.int .i64 0) := (blk_cell BK114.out 2).trans rfl; have hcz33_3 : w32.cell? ⟨gb114, 3, none⟩ = some (.int .i64 0) := (blk_cell BK114.out 3).trans rfl; have hfz33_0 := blk_frozen BK114.out 0; have hfz33_1 := blk_frozen BK114.out 1; have hfz33_2 := blk_frozen BK114.out 2; have hfz33_3 := blk_frozen BK114.out 3))
      refine bodyPost_ret (results_ct rfl _ _ gb114 53 #[.int .i64 3, .string t121, .int .i64 0, .int .i64 a1] (0, 0) _ rfl (by (with_reducible repeat (first | refine blk_drewN ?_ _ | refine blk_drew ?_ | refine blk_alloc ?_ _)); refine blk_put (cs := #[.int .i64 3, .string t121, .int .i64 0, .int .i64 0]) ?_ 3 _ rfl; (with_reducible repeat (first | refine blk_drewN ?_ _ | refine blk_drew ?_ | refine blk_alloc ?_ _)); refine blk_put (cs := #[.int .i64 3, .string t121, .int .i64 0, .int .i64 0]) ?_ 2 _ rfl; (with_reducible repeat (first | refine blk_drewN ?_ _ | refine blk_drew ?_ | refine blk_alloc ?_ _)); refine blk_put (cs := #[.int .i64 3, .string (⟨#[]⟩ : ByteArray), .int .i64 0, .int .i64 0]) ?_ 1 _ rfl; (with_reducible repeat (first | refine blk_drewN ?_ _ | refine blk_drew ?_ | refine blk_alloc ?_ _)); refine blk_put (cs := #[.int .i64 0, .string (⟨#[]⟩ : ByteArray), .int .i64 0, .int .i64 0]) ?_ 0 _ rfl; (with_reducible repeat (first | refine blk_drewN ?_ _ | refine blk_drew ?_ | refine blk_alloc ?_ _)); exact BK114.out) Try.underlying53 rfl (w5q15)) rfl ?_
      exact ⟨w5q9, w5q1⟩
  ·rw [if_neg c4] at H
   exact absurd H (by simp)
 ·rw [if_neg c3] at H
  exact absurd H (by simp)

/-! ### lex_Lex: function 32 -/
def lex_Lex.l0 : Nat → ByteArray → List (S53) → Int → Option ((List (S53)) × Int × Int)
 | 0, _, _, _ => none
 | k + 1, x0, x4, x5 => if x5 < (x0.size : Int) then ((lex_token.f k x0 x5).bind fun bt127 => (if bt127.2.2.2.2 = 0 then (if x4.length < 3518437208883 then ((lex_gap.f k x0 (wrap64 (x5 + (bt127.2.1.size : Int)))).bind fun t136 => (lex_Lex.l0 k x0 (x4 ++ [(⟨bt127.1, bt127.2.1, bt127.2.2.1, bt127.2.2.2.1⟩ : S53)]) (wrap64 ((wrap64 (x5 + (bt127.2.1.size : Int))) + t136)))) else (none)) else (some (([] : List (S53)), bt127.2.2.2.2, x5)))) else (if x4.length < 3518437208883 then (some ((x4 ++ [(⟨4, (⟨#[]⟩ : ByteArray), 0, (x0.size : Int)⟩ : S53)]), 0, 0)) else (none))
def lex_Lex.f (k : Nat) (a0 : ByteArray) : Option ((List (S53)) × Int × Int) := if (a0.size : Int) > 4096 then (some (([] : List (S53)), 3, 0)) else ((lex_gap.f k a0 0).bind fun t123 => (lex_Lex.l0 k a0 ([] : List (S53)) t123))
theorem lex_Lex.mono_l : ∀ k, (∀ y0 y1 y2, LeO (lex_Lex.l0 k y0 y1 y2) (lex_Lex.l0 (k + 1) y0 y1 y2))
 | 0 => fun _ _ _ r h => by simp [lex_Lex.l0] at h
 | k + 1 => by
  have ih0 := lex_Lex.mono_l k
  ·intro y0 y1 y2
   unfold lex_Lex.l0
   repeat' first
   | (with_reducible exact ih0 _ _ _)
   | (with_reducible exact lex_gap.mono _ _ _)
   | (with_reducible exact lex_token.mono _ _ _)
   | (with_reducible exact LeO.refl _)
   | (with_reducible exact LeO.none _)
   | (with_reducible refine LeO.ite ?_ ?_)
   | (with_reducible refine LeO.bind ?_ (fun _ => ?_))
   | exact ih0 _ _ _
   | exact lex_gap.mono _ _ _
   | exact lex_token.mono _ _ _
   | exact LeO.none _
   | refine LeO.ite ?_ ?_
   | refine LeO.bind ?_ (fun _ => ?_)
theorem lex_Lex.mono : ∀ a0 k, LeO (lex_Lex.f k a0) (lex_Lex.f (k + 1) a0) := by
 intro a0 k
 have ih0 := lex_Lex.mono_l k
 unfold lex_Lex.f
 repeat' first
  | (with_reducible exact ih0 _ _ _)
  | (with_reducible exact lex_gap.mono _ _ _)
  | (with_reducible exact lex_token.mono _ _ _)
  | (with_reducible exact LeO.refl _)
  | (with_reducible exact LeO.none _)
  | (with_reducible refine LeO.ite ?_ ?_)
  | (with_reducible refine LeO.bind ?_ (fun _ => ?_))
  | exact ih0 _ _ _
  | exact lex_gap.mono _ _ _
  | exact lex_token.mono _ _ _
  | exact LeO.none _
  | refine LeO.ite ?_ ?_
  | refine LeO.bind ?_ (fun _ => ?_)
set_option maxHeartbeats 8000000 in
set_option maxRecDepth 100000 in
theorem lex_Lex.calls (k : Nat) (a0 : ByteArray) (r1 : List (S53)) (r2 : Int) (r3 : Int) (w : World) (h : lex_Lex.f k a0 = some (r1, r2, r3)) :
 Calls Try.prog 32 #[.string a0] w fun e w' => ∃ v0_ : Value, e = .returned (.tuple #[v0_, .agg #[.int .i64 r2, .int .i64 r3]]) ∧ Kd.R k53 53 w' w.heap.size (fun _ => True) v0_ r1 ∧ Below w.heap.size w w' := by
 have hu32 := Try.underlying32
 have hu53 := Try.underlying53
 have HB := Aside0.mk (Below.refl w.heap.size w)
 have H : (if (a0.size : Int) > 4096 then (some (([] : List (S53)), 3, 0)) else ((lex_gap.f k a0 0).bind fun t123 => (lex_Lex.l0 k a0 ([] : List (S53)) t123))) = some (r1, r2, r3) := h
 clear h
 by_cases c2 : (a0.size : Int) > 4096
 ·rw [if_pos c2] at H
  have c2b0 : decide (4096 < (a0.size : Int)) = true := decide_eq_true c2
  have c2b1 : decide (4096 < a0.size) = true := decide_eq_true (by omega)
  clear c2
  simp only [Option.some.injEq, Prod.mk.injEq] at H
  obtain ⟨rfl, rfl, rfl⟩ := H
  go_enter Try.func32, Try.ntmps32
  go_wp2_with (first | ((with_reducible refine gate_dst (N := 3) rfl ?_); refine box_event ?hg (N := 3) ?hd (cs := #[.int .i64 0, .int .i64 0]) (t := 32) ?hr ?_; (case hd => rfl); (case hg => rfl); (case hr => first | (go_simp; done) | (go_simp; rfl)); intro gb122 hg w3 hbox hb; have n0_ := Aside0.mk (below_step (w5q3) hb); have n1_ := Aside0.mk (hbox); have n2_ := Aside0.mk ((by rw [hg]; exact (below_size (w5q3)) : w.heap.size ≤ gb122)); have n3_ := Aside0.mk ((by rw [hg]; exact (below_size (w5q3)) : w.heap.size ≤ gb122)); clear HB; have HB := n0_; have BK122 := n1_; have GW122 := n2_; have GE122 := n3_; clear n0_ n1_ n2_ n3_; clear hb hbox hg; have hcz4_0 : w3.cell? ⟨gb122, 0, none⟩ = some (.int .i64 0) := (blk_cell BK122.out 0).trans rfl; have hcz4_1 : w3.cell? ⟨gb122, 1, none⟩ = some (.int .i64 0) := (blk_cell BK122.out 1).trans rfl; have hfz4_0 := blk_frozen BK122.out 0; have hfz4_1 := blk_frozen BK122.out 1))
  refine bodyPost_ret (results_tc rfl _ _ gb122 32 #[.int .i64 3, .int .i64 0] (0, 0) _ rfl (by (with_reducible repeat (first | refine blk_drewN ?_ _ | refine blk_drew ?_ | refine blk_alloc ?_ _)); refine blk_put (cs := #[.int .i64 3, .int .i64 0]) ?_ 1 _ rfl; (with_reducible repeat (first | refine blk_drewN ?_ _ | refine blk_drew ?_ | refine blk_alloc ?_ _)); refine blk_put (cs := #[.int .i64 0, .int .i64 0]) ?_ 0 _ rfl; (with_reducible repeat (first | refine blk_drewN ?_ _ | refine blk_drew ?_ | refine blk_alloc ?_ _)); exact BK122.out) Try.underlying32 rfl (w5q15)) rfl ?_
  exact ⟨_, w5q9, w5q14, w5q4⟩
 ·rw [if_neg c2] at H
  have c2b0 : decide (4096 < (a0.size : Int)) = false := decide_eq_false c2
  have c2b1 : decide (4096 < a0.size) = false := decide_eq_false (by omega)
  clear c2
  replace H := Option.bind_eq_some_iff.mp H
  obtain ⟨t123, A50, H⟩ := H
  replace H : (lex_Lex.l0 k a0 ([] : List (S53)) t123) = some (r1, r2, r3) := H
  have A5 := Aside0.mk A50
  clear A50
  have H' := Aside0.mk H
  clear H
  go_enter Try.func32, Try.ntmps32
  go_wp2_with (first | ((with_reducible refine gate_dst (N := 3) rfl ?_); refine box_event ?hg (N := 3) ?hd (cs := #[.int .i64 0, .int .i64 0]) (t := 32) ?hr ?_; (case hd => rfl); (case hg => rfl); (case hr => first | (go_simp; done) | (go_simp; rfl)); intro gb122 hg w6 hbox hb; have n0_ := Aside0.mk (below_step (w5q3) hb); have n1_ := Aside0.mk (hbox); have n2_ := Aside0.mk ((by rw [hg]; exact (below_size (w5q3)) : w.heap.size ≤ gb122)); have n3_ := Aside0.mk ((by rw [hg]; exact (below_size (w5q3)) : w.heap.size ≤ gb122)); clear HB; have HB := n0_; have BK122 := n1_; have GW122 := n2_; have GE122 := n3_; clear n0_ n1_ n2_ n3_; clear hb hbox hg) | ((with_reducible refine gate_callee (f := 50) rfl ?_); refine goesL_ (some 13) rfl rfl Try.func50 (w5q15) rfl #[.string a0, .int .i64 0] rfl (w5q2) ?_; (with_reducible refine (lex_gap.calls k a0 0 t123 _ A5.out).mono ?_); rintro e w' ⟨rfl, ⟨nd, rfl⟩⟩; refine ⟨_, rfl, ?_⟩))
  try go_simp
  go_loopg [4, 5] k (fun kq v4 v5 w' => ∃ (x4_1 : List (S53)) (x5_1 : Int) (x123000_1 : Int) (x123001_1 : Int), v5 = .int .i64 x5_1 ∧ Aside0 (lex_Lex.l0 kq a0 x4_1 x5_1 = some (r1, r2, r3)) ∧ Aside0 (kq ≤ k) ∧ Aside0 (Kd.R k53 53 w' w.heap.size (fun _ => True) v4 x4_1) ∧ Aside0 (w'.heap[gb122]? = some (.cells #[.int .i64 x123000_1, .int .i64 x123001_1] 32 (0, 0))) ∧ Aside0 (Below w.heap.size w w'))
  case atStart => exact ⟨(([] : List (S53))), (t123), (0), (0), (by first | rfl | (simp; done) | (simp [*]; done)), H', ⟨Nat.le_refl _⟩, ⟨w5q14⟩, ⟨w5q6⟩, ⟨w5q4⟩⟩
  case round =>
   clear H'
   try clear c2
   try clear c2b0
   try clear c2b1
   try clear p2
   try clear c3
   try clear c5
   try clear hcz4_0
   try clear hcz4_1
   try clear hfz4_0
   try clear hfz4_1
   obtain ⟨x4_1, x5_1, x123000_1, x123001_1, rfl, HA, HK1, HO_4, BK122, HB⟩ := hrel
   cases gk with
   | zero => exact absurd HA.out (by simp [lex_Lex.l0])
   | succ k1 =>
    have H := HA.out
    clear HA
    simp only [lex_Lex.l0] at H
    by_cases c7 : x5_1 < (a0.size : Int)
    ·rw [if_pos c7] at H
     have c7b0 : decide (x5_1 < (a0.size : Int)) = true := decide_eq_true c7
     clear c7
     replace H := Option.bind_eq_some_iff.mp H
     obtain ⟨⟨t127, t128, t129, t130, t131⟩, A80, H⟩ := H
     replace H : (if t131 = 0 then (if x4_1.length < 3518437208883 then ((lex_gap.f k1 a0 (wrap64 (x5_1 + (t128.size : Int)))).bind fun t136 => (lex_Lex.l0 k1 a0 (x4_1 ++ [(⟨t127, t128, t129, t130⟩ : S53)]) (wrap64 ((wrap64 (x5_1 + (t128.size : Int))) + t136)))) else (none)) else (some (([] : List (S53)), t131, x5_1))) = some (r1, r2, r3) := H
     have A8 := Aside0.mk A80
     clear A80
     by_cases c9 : t131 = 0
     ·rw [if_pos c9] at H
      have c9b0 : (t131 == 0) = true := beq_iff_eq.mpr c9
      have c9b1 : (t131 != 0) = false := bne_eq_false_iff_eq.mpr c9
      clear c9
      by_cases c10 : x4_1.length < 3518437208883
      ·rw [if_pos c10] at H
       have LMc10 := Aside0.mk c10
       clear c10
       obtain ⟨y133, hy133⟩ : ∃ y_ : List (S53), y_ = (x4_1 ++ [(⟨t127, t128, t129, t130⟩ : S53)]) := ⟨_, rfl⟩
       replace H : ((lex_gap.f k1 a0 (wrap64 (x5_1 + (t128.size : Int)))).bind fun t136 => (lex_Lex.l0 k1 a0 y133 (wrap64 ((wrap64 (x5_1 + (t128.size : Int))) + t136)))) = some (r1, r2, r3) := by first | (rw [hy133]; with_reducible exact H) | (have H2_ := (Option.bind_some _ _).symm.trans H; rw [hy133]; with_reducible exact H2_) | (have H2_ := (Option.bind_some _ _).symm.trans H; with_reducible exact H2_) | with_reducible exact H | (rw [hy133]; exact H) | exact H
       have Ny133 := Aside0.mk hy133
       clear hy133
       replace H := Option.bind_eq_some_iff.mp H
       obtain ⟨t136, A110, H⟩ := H
       replace H : (lex_Lex.l0 k1 a0 y133 (wrap64 ((wrap64 (x5_1 + (t128.size : Int))) + t136))) = some (r1, r2, r3) := H
       have A11 := Aside0.mk A110
       clear A110
       have H' := Aside0.mk H
       clear H
       go_wp2_with (first | ((with_reducible refine gate_callee (f := 51) rfl ?_); refine goesL_ (some 26) rfl rfl Try.func51 (w5q15) rfl #[.string a0, .int .i64 x5_1] rfl (w5q2) ?_; (with_reducible refine (lex_token.calls k1 a0 x5_1 t127 t128 t129 t130 t131 _ A8.out).mono ?_); rintro e w12 ⟨rfl, hb⟩; refine ⟨_, rfl, ?_⟩; have n0_ := Aside0.mk (Kd.R_below (w5q12) hb); have n1_ := Aside0.mk (blk_below (g := gb122) (o := .cells #[.int .i64 x123000_1, .int .i64 x123001_1] 32 (0, 0)) (w5q6) hb); have n2_ := Aside0.mk (below_step (w5q4) hb); clear HO_4; clear BK122; clear HB; have HO_4 := n0_; have BK122 := n1_; have HB := n2_; clear n0_ n1_ n2_; (try clear hb); (try clear hb2); (try clear hk); (try clear hi)) | ((with_reducible refine gate_dst (N := 6) rfl ?_); refine box_event ?hg (N := 6) ?hd (cs := #[.int .i64 0, .string (⟨#[]⟩ : ByteArray), .int .i64 0, .int .i64 0]) (t := 53) ?hr ?_; (case hd => rfl); (case hg => rfl); (case hr => first | (go_simp; done) | (go_simp; rfl)); intro gb132 hg w13 hbox hb; have n0_ := Aside0.mk (Kd.R_below (Kd.R_elderB (w5q12) gb132 (Nat.le_of_eq hg.symm)) hb); have n1_ := Aside0.mk (blk_below (g := gb122) (o := .cells #[.int .i64 x123000_1, .int .i64 x123001_1] 32 (0, 0)) (w5q6) hb); have n2_ := Aside0.mk (below_step (w5q4) hb); have n3_ := Aside0.mk (hbox); have n4_ := Aside0.mk ((by rw [hg]; exact (below_size (w5q4)) : w.heap.size ≤ gb132)); have n5_ := Aside0.mk ((by rw [hg]; exact (below_size (w5q4)) : w.heap.size ≤ gb132)); have n6_ := Aside0.mk ((by rw [hg]; exact Nat.ne_of_lt (blk_lt (g := gb122) (o := .cells #[.int .i64 x123000_1, .int .i64 x123001_1] 32 (0, 0)) (w5q6)) : gb122 ≠ gb132)); have n7_ := Aside0.mk ((by rw [hg]; exact Nat.ne_of_gt (blk_lt (g := gb122) (o := .cells #[.int .i64 x123000_1, .int .i64 x123001_1] 32 (0, 0)) (w5q6)) : gb132 ≠ gb122)); clear HO_4; clear BK122; clear HB; have HO_4 := n0_; have BK122 := n1_; have HB := n2_; have BK132 := n3_; have GW132 := n4_; have GE132 := n5_; have NB122_132 := n6_; have NB132_122 := n7_; clear n0_ n1_ n2_ n3_ n4_ n5_ n6_ n7_; clear hb hbox hg; have hnb14 := NB132_122.out; have hnc14 := NB122_132.out; have hcz15_0 : w13.cell? ⟨gb132, 0, none⟩ = some (.int .i64 0) := (blk_cell BK132.out 0).trans rfl; have hcz15_1 : w13.cell? ⟨gb132, 1, none⟩ = some (.string (⟨#[]⟩ : ByteArray)) := (blk_cell BK132.out 1).trans rfl; have hcz15_2 : w13.cell? ⟨gb132, 2, none⟩ = some (.int .i64 0) := (blk_cell BK132.out 2).trans rfl; have hcz15_3 : w13.cell? ⟨gb132, 3, none⟩ = some (.int .i64 0) := (blk_cell BK132.out 3).trans rfl; have hfz15_0 := blk_frozen BK132.out 0; have hfz15_1 := blk_frozen BK132.out 1; have hfz15_2 := blk_frozen BK132.out 2; have hfz15_3 := blk_frozen BK132.out 3) | ((with_reducible refine gate_builtin (b := .append) (xs := #[.tmp 34, .tmp 36]) rfl ?_); at_builtin; refine Kd.R_append k53 (w0 := w) w.heap.size rfl (.tmp 34) (.tmp 36) 48 53 (.agg #[(.int .i64 0), (.string ⟨#[]⟩), (.int .i64 0), (.int .i64 0)]) 40 rfl Try.underlying48 info53 rfl (by decide) (by omega) u4 x4_1 (⟨t127, t128, t129, t130⟩ : S53) [.int .i64 t127, .string t128, .int .i64 t129, .int .i64 t130] (fun k_ => k_ ≠ gb132) (fun _ => False) rfl (by first | (go_simp; done) | (go_simp; rfl)) ?aP (fun _ hk => hk.elim) ?aF ?aO ?aB ?aS ?aL ?_; (case aP => exact k53_mkM _ _ _ (⟨t127, t128, t129, t130⟩ : S53)); (case aB => exact (w5q10)); (case aF => exact (fun k_ hk => Kd.freshB (g := gb132) (o := .cells #[.int .i64 t127, .string t128, .int .i64 t129, .int .i64 t130] 53 (0, 0)) (w5q8) k_ hk)); (case aO => exact (by (with_reducible repeat (first | apply Kd.R_alloc | apply Kd.R_drewN | apply Kd.R_drew)); exact Kd.R_mono (Kd.R_far (p := ⟨gb132, 3, none⟩) (Kd.R_far (p := ⟨gb132, 2, none⟩) (Kd.R_far (p := ⟨gb132, 1, none⟩) (Kd.R_far (p := ⟨gb132, 0, none⟩) (Kd.R_mono HO_4.out (fun k_ hk => (⟨hk, hk.2⟩ : _ ∧ k_ ≠ gb132))) (fun _ hk => hk.2) (.int .i64 t127)) (fun _ hk => hk.2) (.string t128)) (fun _ hk => hk.2) (.int .i64 t129)) (fun _ hk => hk.2) (.int .i64 t130)) (fun _ hk => hk.1.2))); (case aS => exact (below_size (w5q10))); (case aL => have := LMc10.out; omega); intro v134 w16 ho hb hg hat; rw [← Ny133.out] at ho; have n0_ := Aside0.mk (blk_grown (g := gb122) (o := .cells #[.int .i64 x123000_1, .int .i64 x123001_1] 32 (0, 0)) (by (with_reducible repeat (first | refine blk_drewN ?_ _ | refine blk_drew ?_ | refine blk_alloc ?_ _)); refine blk_far ?_ NB122_132.out _; (with_reducible repeat (first | refine blk_drewN ?_ _ | refine blk_drew ?_ | refine blk_alloc ?_ _)); refine blk_far ?_ NB122_132.out _; (with_reducible repeat (first | refine blk_drewN ?_ _ | refine blk_drew ?_ | refine blk_alloc ?_ _)); refine blk_far ?_ NB122_132.out _; (with_reducible repeat (first | refine blk_drewN ?_ _ | refine blk_drew ?_ | refine blk_alloc ?_ _)); refine blk_far ?_ NB122_132.out _; (with_reducible repeat (first | refine blk_drewN ?_ _ | refine blk_drew ?_ | refine blk_alloc ?_ _)); exact BK122.out) hg (Kd.R_ne HO_4.out BK122.out (by decide))); have n1_ := Aside0.mk (blk_grown (g := gb132) (o := .cells #[.int .i64 t127, .string t128, .int .i64 t129, .int .i64 t130] 53 (0, 0)) (w5q8) hg (Kd.R_away HO_4.out (fun _ hk => hk.2))); have n2_ := Aside0.mk (hb); have n3_ := Aside0.mk (ho); clear BK122; clear BK132; clear HB; clear HO_4; have BK122 := n0_; have BK132 := n1_; have HB := n2_; have HO135 := n3_; clear n0_ n1_ n2_ n3_; clear ho hb hg hat; have hcz17_0 : w16.cell? ⟨gb132, 0, none⟩ = some (.int .i64 t127) := (blk_cell BK132.out 0).trans rfl; have hcz17_1 : w16.cell? ⟨gb132, 1, none⟩ = some (.string t128) := (blk_cell BK132.out 1).trans rfl; have hcz17_2 : w16.cell? ⟨gb132, 2, none⟩ = some (.int .i64 t129) := (blk_cell BK132.out 2).trans rfl; have hcz17_3 : w16.cell? ⟨gb132, 3, none⟩ = some (.int .i64 t130) := (blk_cell BK132.out 3).trans rfl; have hfz17_0 := blk_frozen BK132.out 0; have hfz17_1 := blk_frozen BK132.out 1; have hfz17_2 := blk_frozen BK132.out 2; have hfz17_3 := blk_frozen BK132.out 3) | ((with_reducible refine gate_callee (f := 50) rfl ?_); refine goesL_ (some 21) rfl rfl Try.func50 (w5q15) rfl #[.string a0, .int .i64 (wrap64 (x5_1 + (t128.size : Int)))] rfl (w5q2) ?_; (with_reducible refine (lex_gap.calls k1 a0 (wrap64 (x5_1 + (t128.size : Int))) t136 _ A11.out).mono ?_); rintro e w' ⟨rfl, ⟨nd, rfl⟩⟩; refine ⟨_, rfl, ?_⟩))
       go_roundg k1
       case measure => have := HK1.out; omega
       case rel => exact ⟨(y133), (wrap64 ((wrap64 (x5_1 + (t128.size : Int))) + t136)), (x123000_1), (x123001_1), (by first | rfl | (simp; done) | (simp [*]; done)), H', ⟨by have := HK1.out; omega⟩, ⟨by (with_reducible repeat (first | apply Kd.R_alloc | apply Kd.R_drewN | apply Kd.R_drew)); exact Kd.R_mono HO135.out (fun _ hk => trivial)⟩, ⟨w5q6⟩, ⟨w5q10⟩⟩
      ·rw [if_neg c10] at H
       exact absurd H (by simp)
     ·rw [if_neg c9] at H
      have c9b0 : (t131 == 0) = false := beq_eq_false_iff_ne.mpr c9
      have c9b1 : (t131 != 0) = true := bne_iff_ne.mpr c9
      simp only [Option.some.injEq, Prod.mk.injEq] at H
      obtain ⟨rfl, rfl, rfl⟩ := H
      go_wp2_with (first | ((with_reducible refine gate_callee (f := 51) rfl ?_); refine goesL_ (some 26) rfl rfl Try.func51 (w5q15) rfl #[.string a0, .int .i64 x5_1] rfl (w5q2) ?_; (with_reducible refine (lex_token.calls k1 a0 x5_1 t127 t128 t129 t130 t131 _ A8.out).mono ?_); rintro e w18 ⟨rfl, hb⟩; refine ⟨_, rfl, ?_⟩; have n0_ := Aside0.mk (Kd.R_below (w5q12) hb); have n1_ := Aside0.mk (blk_below (g := gb122) (o := .cells #[.int .i64 x123000_1, .int .i64 x123001_1] 32 (0, 0)) (w5q6) hb); have n2_ := Aside0.mk (below_step (w5q4) hb); clear HO_4; clear BK122; clear HB; have HO_4 := n0_; have BK122 := n1_; have HB := n2_; clear n0_ n1_ n2_; (try clear hb); (try clear hb2); (try clear hk); (try clear hi)) | ((with_reducible refine gate_dst (N := 6) rfl ?_); refine box_event ?hg (N := 6) ?hd (cs := #[.int .i64 0, .string (⟨#[]⟩ : ByteArray), .int .i64 0, .int .i64 0]) (t := 53) ?hr ?_; (case hd => rfl); (case hg => rfl); (case hr => first | (go_simp; done) | (go_simp; rfl)); intro gb132 hg w19 hbox hb; have n0_ := Aside0.mk (Kd.R_below (Kd.R_elderB (w5q12) gb132 (Nat.le_of_eq hg.symm)) hb); have n1_ := Aside0.mk (blk_below (g := gb122) (o := .cells #[.int .i64 x123000_1, .int .i64 x123001_1] 32 (0, 0)) (w5q6) hb); have n2_ := Aside0.mk (below_step (w5q4) hb); have n3_ := Aside0.mk (hbox); have n4_ := Aside0.mk ((by rw [hg]; exact (below_size (w5q4)) : w.heap.size ≤ gb132)); have n5_ := Aside0.mk ((by rw [hg]; exact (below_size (w5q4)) : w.heap.size ≤ gb132)); have n6_ := Aside0.mk ((by rw [hg]; exact Nat.ne_of_lt (blk_lt (g := gb122) (o := .cells #[.int .i64 x123000_1, .int .i64 x123001_1] 32 (0, 0)) (w5q6)) : gb122 ≠ gb132)); have n7_ := Aside0.mk ((by rw [hg]; exact Nat.ne_of_gt (blk_lt (g := gb122) (o := .cells #[.int .i64 x123000_1, .int .i64 x123001_1] 32 (0, 0)) (w5q6)) : gb132 ≠ gb122)); clear HO_4; clear BK122; clear HB; have HO_4 := n0_; have BK122 := n1_; have HB := n2_; have BK132 := n3_; have GW132 := n4_; have GE132 := n5_; have NB122_132 := n6_; have NB132_122 := n7_; clear n0_ n1_ n2_ n3_ n4_ n5_ n6_ n7_; clear hb hbox hg; have hnb20 := NB132_122.out; have hnc20 := NB122_132.out; have hcz21_0 : w19.cell? ⟨gb132, 0, none⟩ = some (.int .i64 0) := (blk_cell BK132.out 0).trans rfl; have hcz21_1 : w19.cell? ⟨gb132, 1, none⟩ = some (.string (⟨#[]⟩ : ByteArray)) := (blk_cell BK132.out 1).trans rfl; have hcz21_2 : w19.cell? ⟨gb132, 2, none⟩ = some (.int .i64 0) := (blk_cell BK132.out 2).trans rfl; have hcz21_3 : w19.cell? ⟨gb132, 3, none⟩ = some (.int .i64 0) := (blk_cell BK132.out 3).trans rfl; have hfz21_0 := blk_frozen BK132.out 0; have hfz21_1 := blk_frozen BK132.out 1; have hfz21_2 := blk_frozen BK132.out 2; have hfz21_3 := blk_frozen BK132.out 3; have hcz22_0 : w19.cell? ⟨gb122, 0, none⟩ = some (.int .i64 x123000_1) := (blk_cell BK122.out 0).trans rfl; have hcz22_1 : w19.cell? ⟨gb122, 1, none⟩ = some (.int .i64 x123001_1) := (blk_cell BK122.out 1).trans rfl; have hfz22_0 := blk_frozen BK122.out 0; have hfz22_1 := blk_frozen BK122.out 1))
      refine bodyPost_ret (results_tc rfl _ _ gb122 32 #[.int .i64 t131, .int .i64 x5_1] (0, 0) _ rfl (by (with_reducible repeat (first | refine blk_drewN ?_ _ | refine blk_drew ?_ | refine blk_alloc ?_ _)); refine blk_put (cs := #[.int .i64 t131, .int .i64 x123001_1]) ?_ 1 _ rfl; (with_reducible repeat (first | refine blk_drewN ?_ _ | refine blk_drew ?_ | refine blk_alloc ?_ _)); refine blk_put (cs := #[.int .i64 x123000_1, .int .i64 x123001_1]) ?_ 0 _ rfl; (with_reducible repeat (first | refine blk_drewN ?_ _ | refine blk_drew ?_ | refine blk_alloc ?_ _)); refine blk_far ?_ NB122_132.out _; (with_reducible repeat (first | refine blk_drewN ?_ _ | refine blk_drew ?_ | refine blk_alloc ?_ _)); refine blk_far ?_ NB122_132.out _; (with_reducible repeat (first | refine blk_drewN ?_ _ | refine blk_drew ?_ | refine blk_alloc ?_ _)); refine blk_far ?_ NB122_132.out _; (with_reducible repeat (first | refine blk_drewN ?_ _ | refine blk_drew ?_ | refine blk_alloc ?_ _)); refine blk_far ?_ NB122_132.out _; (with_reducible repeat (first | refine blk_drewN ?_ _ | refine blk_drew ?_ | refine blk_alloc ?_ _)); exact BK122.out) Try.underlying32 rfl (w5q15)) rfl ?_
      exact ⟨_, w5q9, w5q14, w5q10⟩
    ·rw [if_neg c7] at H
     have c7b0 : decide (x5_1 < (a0.size : Int)) = false := decide_eq_false c7
     clear c7
     by_cases c23 : x4_1.length < 3518437208883
     ·rw [if_pos c23] at H
      have LMc23 := Aside0.mk c23
      clear c23
      obtain ⟨y124, hy124⟩ : ∃ y_ : List (S53), y_ = (x4_1 ++ [(⟨4, (⟨#[]⟩ : ByteArray), 0, (a0.size : Int)⟩ : S53)]) := ⟨_, rfl⟩
      replace H : (some (y124, 0, 0)) = some (r1, r2, r3) := by first | (rw [hy124]; with_reducible exact H) | (have H2_ := (Option.bind_some _ _).symm.trans H; rw [hy124]; with_reducible exact H2_) | (have H2_ := (Option.bind_some _ _).symm.trans H; with_reducible exact H2_) | with_reducible exact H | (rw [hy124]; exact H) | exact H
      have Ny124 := Aside0.mk hy124
      clear hy124
      simp only [Option.some.injEq, Prod.mk.injEq] at H
      obtain ⟨rfl, rfl, rfl⟩ := H
      go_wp2_with (first | ((with_reducible refine gate_builtin (b := .append) (xs := #[.tmp 43, .tmp 47]) rfl ?_); at_builtin; refine Kd.R_append k53 (w0 := w) w.heap.size rfl (.tmp 43) (.tmp 47) 48 53 (.agg #[(.int .i64 0), (.string ⟨#[]⟩), (.int .i64 0), (.int .i64 0)]) 40 rfl Try.underlying48 info53 rfl (by decide) (by omega) u4 x4_1 (⟨4, (⟨#[]⟩ : ByteArray), 0, (a0.size : Int)⟩ : S53) [.int .i64 4, .string (⟨#[]⟩ : ByteArray), .int .i64 0, .int .i64 (a0.size : Int)] (fun _ => True) (fun _ => False) rfl rfl ?aP (fun _ hk => hk.elim) ?aF ?aO ?aB ?aS ?aL ?_; (case aP => exact k53_mkM _ _ _ (⟨4, (⟨#[]⟩ : ByteArray), 0, (a0.size : Int)⟩ : S53)); (case aB => exact (w5q4)); (case aF => exact (fun _ _ => trivial)); (case aO => exact (w5q12)); (case aS => exact (below_size (w5q4))); (case aL => have := LMc23.out; omega); intro v125 w24 ho hb hg hat; rw [← Ny124.out] at ho; have n0_ := Aside0.mk (blk_grown (g := gb122) (o := .cells #[.int .i64 x123000_1, .int .i64 x123001_1] 32 (0, 0)) (w5q6) hg (Kd.R_ne HO_4.out BK122.out (by decide))); have n1_ := Aside0.mk (hb); have n2_ := Aside0.mk (ho); clear BK122; clear HB; clear HO_4; have BK122 := n0_; have HB := n1_; have HO126 := n2_; clear n0_ n1_ n2_; clear ho hb hg hat; have hcz25_0 : w24.cell? ⟨gb122, 0, none⟩ = some (.int .i64 x123000_1) := (blk_cell BK122.out 0).trans rfl; have hcz25_1 : w24.cell? ⟨gb122, 1, none⟩ = some (.int .i64 x123001_1) := (blk_cell BK122.out 1).trans rfl; have hfz25_0 := blk_frozen BK122.out 0; have hfz25_1 := blk_frozen BK122.out 1))
      refine bodyPost_ret (results_tc rfl _ _ gb122 32 #[.int .i64 0, .int .i64 0] (0, 0) _ rfl (by (with_reducible repeat (first | refine blk_drewN ?_ _ | refine blk_drew ?_ | refine blk_alloc ?_ _)); refine blk_put (cs := #[.int .i64 0, .int .i64 x123001_1]) ?_ 1 _ rfl; (with_reducible repeat (first | refine blk_drewN ?_ _ | refine blk_drew ?_ | refine blk_alloc ?_ _)); refine blk_put (cs := #[.int .i64 x123000_1, .int .i64 x123001_1]) ?_ 0 _ rfl; (with_reducible repeat (first | refine blk_drewN ?_ _ | refine blk_drew ?_ | refine blk_alloc ?_ _)); exact BK122.out) Try.underlying32 rfl (w5q15)) rfl ?_
      exact ⟨_, w5q9, by (with_reducible repeat (first | apply Kd.R_alloc | apply Kd.R_drewN | apply Kd.R_drew)); exact Kd.R_mono (Kd.R_far (p := ⟨gb122, 1, none⟩) (Kd.R_far (p := ⟨gb122, 0, none⟩) (Kd.R_types HO126.out BK122.out (by decide)) (fun _ hk => hk.2) (.int .i64 0)) (fun _ hk => hk.2) (.int .i64 0)) (fun _ hk => trivial), w5q4⟩
     ·rw [if_neg c23] at H
      exact absurd H (by simp)

-- NOT PRINTED: function 34 (parse_cursor_here)

-- NOT PRINTED: function 52 (parse_cursor_part)

-- NOT PRINTED: function 57 (parse_cursor_next)

/-- A state of type 85 at block g of W; what its slices lead to came in by w0. -/
def IsS85 (w0 W : World) (g : Nat) (f0 : List (S53)) (f1 : Int) (f2 : Bool) (f3 : List Int) : Prop := ∃ A0 c0, ∃ A3 c3, W.heap[g]? = some (.cells #[.slice A0 f0.length c0, .int .i64 f1, .bool f2, .slice A3 f3.length c3] 85 (0, 0)) ∧ w0.heap.size ≤ g ∧ Kd.C k53 w0 A0 f0.length f0 ∧ Kd.C (Kd.int .i64) w0 A3 f3.length f3
theorem IsS85.grown {w0 W : World} {g : Nat} {f0 : List (S53)} {f1 : Int} {f2 : Bool} {f3 : List Int} {W1 : World} {row : Option Nat} (h : IsS85 w0 W g f0 f1 f2 f3) (hw : W.grownBy W1 row) (hne : some g ≠ row) : IsS85 w0 W1 g f0 f1 f2 f3 := by
 obtain ⟨A0, c0, A3, c3, hb, hg, hr0, hr3⟩ := h
 exact ⟨A0, c0, A3, c3, blk_grown hb hw hne, hg, hr0, hr3⟩
theorem IsS85.kept {w0 W : World} {g : Nat} {f0 : List (S53)} {f1 : Int} {f2 : Bool} {f3 : List Int} {W1 : World} {S : Nat → Prop} (h : IsS85 w0 W g f0 f1 f2 f3) (hk : Kept W W1 S) (hne : ¬ S g) : IsS85 w0 W1 g f0 f1 f2 f3 := by
 obtain ⟨A0, c0, A3, c3, hb, hg, hr0, hr3⟩ := h
 exact ⟨A0, c0, A3, c3, blk_kept hb hk hne, hg, hr0, hr3⟩
theorem IsS85.below {w0 W : World} {g : Nat} {f0 : List (S53)} {f1 : Int} {f2 : Bool} {f3 : List Int} {W1 : World} (h : IsS85 w0 W g f0 f1 f2 f3) (hw : Below W.heap.size W W1) : IsS85 w0 W1 g f0 f1 f2 f3 := h.grown (grown_of_below hw none) (by simp)
theorem IsS85.alloc {w0 W : World} {g : Nat} {f0 : List (S53)} {f1 : Int} {f2 : Bool} {f3 : List Int} (h : IsS85 w0 W g f0 f1 f2 f3) (o : Obj) : IsS85 w0 (W.alloc o) g f0 f1 f2 f3 := h.below (below_alloc (Below.refl _ _) o)
theorem IsS85.drewN {w0 W : World} {g : Nat} {f0 : List (S53)} {f1 : Int} {f2 : Bool} {f3 : List Int} (h : IsS85 w0 W g f0 f1 f2 f3) (m : Nat) : IsS85 w0 (W.drewN m) g f0 f1 f2 f3 := h
theorem IsS85.drew {w0 W : World} {g : Nat} {f0 : List (S53)} {f1 : Int} {f2 : Bool} {f3 : List Int} (h : IsS85 w0 W g f0 f1 f2 f3) : IsS85 w0 W.drew g f0 f1 f2 f3 := h
theorem IsS85.at_ {w0 W : World} {g : Nat} {f0 : List (S53)} {f1 : Int} {f2 : Bool} {f3 : List Int} {w' : World} {m : Nat} (hq : W.drewN m = w') (h : IsS85 w0 W g f0 f1 f2 f3) : IsS85 w0 w' g f0 f1 f2 f3 := by subst hq; exact IsS85.drewN h m
theorem IsS85.apart {w0 W : World} {g : Nat} {f0 : List (S53)} {f1 : Int} {f2 : Bool} {f3 : List Int} {α : Type} {d : Kd α} {e : Nat} {base : Nat} {ok : Nat → Prop} {v : Value} {xs : List α} (h : IsS85 w0 W g f0 f1 f2 f3) (ho : d.R e W base ok v xs) (ht : ∀ q, q ∈ e :: d.E → q ≠ 85) : d.R e W base (fun k => ok k ∧ k ≠ g) v xs := by
 obtain ⟨A0, c0, A3, c3, hb, hg, hr0, hr3⟩ := h
 exact Kd.R_types ho hb ht
theorem IsS85.own_ne {w0 W : World} {g : Nat} {f0 : List (S53)} {f1 : Int} {f2 : Bool} {f3 : List Int} {α : Type} {d : Kd α} {e : Nat} {base : Nat} {ok : Nat → Prop} {v : Value} {xs : List α} (h : IsS85 w0 W g f0 f1 f2 f3) (ho : d.R e W base ok v xs) (ht : e ≠ 85) : some g ≠ v.ownBlock := by
 obtain ⟨A0, c0, A3, c3, hb, hg, hr0, hr3⟩ := h
 exact Kd.R_ne ho hb ht
theorem IsS85.lt {w0 W : World} {g : Nat} {f0 : List (S53)} {f1 : Int} {f2 : Bool} {f3 : List Int} (h : IsS85 w0 W g f0 f1 f2 f3) : g < W.heap.size := by
 obtain ⟨A0, c0, A3, c3, hb, hg, hr0, hr3⟩ := h
 exact blk_lt hb
theorem IsS85.ge {w0 W : World} {g : Nat} {f0 : List (S53)} {f1 : Int} {f2 : Bool} {f3 : List Int} (h : IsS85 w0 W g f0 f1 f2 f3) : w0.heap.size ≤ g := by
 obtain ⟨A0, c0, A3, c3, hb, hg, hr0, hr3⟩ := h
 exact hg
theorem IsS85.far {w0 W : World} {g : Nat} {f0 : List (S53)} {f1 : Int} {f2 : Bool} {f3 : List Int} {p : Addr} (h : IsS85 w0 W g f0 f1 f2 f3) (hne : g ≠ p.block) (u : Value) : IsS85 w0 (W.setCell p u) g f0 f1 f2 f3 := by
 obtain ⟨A0, c0, A3, c3, hb, hg, hr0, hr3⟩ := h
 exact ⟨A0, c0, A3, c3, blk_far hb hne u, hg, hr0, hr3⟩
theorem cellS85_0 {W : World} {g : Nat} {A0 : Option Addr} {c0 : Nat} {A3 : Option Addr} {c3 : Nat} {f0 : List (S53)} {f1 : Int} {f2 : Bool} {f3 : List Int} (h : W.heap[g]? = some (.cells #[.slice A0 f0.length c0, .int .i64 f1, .bool f2, .slice A3 f3.length c3] 85 (0, 0))) : W.cell? ⟨g, 0, none⟩ = some (.slice A0 f0.length c0) := (blk_cell h 0).trans rfl
theorem cellS85_1 {W : World} {g : Nat} {A0 : Option Addr} {c0 : Nat} {A3 : Option Addr} {c3 : Nat} {f0 : List (S53)} {f1 : Int} {f2 : Bool} {f3 : List Int} (h : W.heap[g]? = some (.cells #[.slice A0 f0.length c0, .int .i64 f1, .bool f2, .slice A3 f3.length c3] 85 (0, 0))) : W.cell? ⟨g, 1, none⟩ = some (.int .i64 f1) := (blk_cell h 1).trans rfl
theorem IsS85.set_1 {w0 W : World} {g : Nat} {f0 : List (S53)} {f1 : Int} {f2 : Bool} {f3 : List Int} (h : IsS85 w0 W g f0 f1 f2 f3) (x : Int) : IsS85 w0 (W.setCell ⟨g, 1, none⟩ (.int .i64 x)) g f0 x f2 f3 := by
 obtain ⟨A0, c0, A3, c3, hb, hg, hr0, hr3⟩ := h
 exact ⟨A0, c0, A3, c3, by simpa using blk_set hb 1 (.int .i64 x), hg, hr0, hr3⟩
theorem cellS85_2 {W : World} {g : Nat} {A0 : Option Addr} {c0 : Nat} {A3 : Option Addr} {c3 : Nat} {f0 : List (S53)} {f1 : Int} {f2 : Bool} {f3 : List Int} (h : W.heap[g]? = some (.cells #[.slice A0 f0.length c0, .int .i64 f1, .bool f2, .slice A3 f3.length c3] 85 (0, 0))) : W.cell? ⟨g, 2, none⟩ = some (.bool f2) := (blk_cell h 2).trans rfl
theorem IsS85.set_2 {w0 W : World} {g : Nat} {f0 : List (S53)} {f1 : Int} {f2 : Bool} {f3 : List Int} (h : IsS85 w0 W g f0 f1 f2 f3) (x : Bool) : IsS85 w0 (W.setCell ⟨g, 2, none⟩ (.bool x)) g f0 f1 x f3 := by
 obtain ⟨A0, c0, A3, c3, hb, hg, hr0, hr3⟩ := h
 exact ⟨A0, c0, A3, c3, by simpa using blk_set hb 2 (.bool x), hg, hr0, hr3⟩
theorem cellS85_3 {W : World} {g : Nat} {A0 : Option Addr} {c0 : Nat} {A3 : Option Addr} {c3 : Nat} {f0 : List (S53)} {f1 : Int} {f2 : Bool} {f3 : List Int} (h : W.heap[g]? = some (.cells #[.slice A0 f0.length c0, .int .i64 f1, .bool f2, .slice A3 f3.length c3] 85 (0, 0))) : W.cell? ⟨g, 3, none⟩ = some (.slice A3 f3.length c3) := (blk_cell h 3).trans rfl
theorem IsS85.new (w0 W : World) (A0 : Option Addr) (c0 : Nat) (A3 : Option Addr) (c3 : Nat) (f0 : List (S53)) (f1 : Int) (f2 : Bool) (f3 : List Int) (hB : Below w0.heap.size w0 W) (hr0 : Kd.C k53 w0 A0 f0.length f0) (hr3 : Kd.C (Kd.int .i64) w0 A3 f3.length f3) : IsS85 w0 (W.alloc (.cells #[.slice A0 f0.length c0, .int .i64 f1, .bool f2, .slice A3 f3.length c3] 85)) W.heap.size f0 f1 f2 f3 := ⟨A0, c0, A3, c3, by simpa using heap_alloc_new W _, hB.size, hr0, hr3⟩

/-! ### parse_cursor_fail: function 61 -/
def parse_cursor_fail.f (s0_0 : List (S53)) (s0_1 : Int) (s0_2 : Bool) (s0_3 : List Int) : Option (Int × Bool) := some (s0_1, true)
set_option maxHeartbeats 8000000 in
set_option maxRecDepth 100000 in
theorem parse_cursor_fail.calls (g : Nat) (s0_0 : List (S53)) (s0_1 : Int) (s0_2 : Bool) (s0_3 : List Int) (r1 : Int) (r2 : Bool) (w0 w : World) (hI : IsS85 w0 w g s0_0 s0_1 s0_2 s0_3) (hB : Below w0.heap.size w0 w) (h : parse_cursor_fail.f s0_0 s0_1 s0_2 s0_3 = some (r1, r2)) :
 Calls Try.prog 61 #[.pointer (some ⟨g, 0, none⟩)] w fun e w' => e = .returned (.tuple #[]) ∧ IsS85 w0 w' g s0_0 r1 r2 s0_3 ∧ Below w0.heap.size w0 w' ∧ KeepBut w w' g none := by
 have HI0 := Aside0.mk hI
 have HK := Aside0.mk (KeepBut.refl w g none)
 have HL := Aside0.mk hB.size
 clear hI
 have HW0 := Aside0.mk hB.size
 have HB := Aside0.mk hB
 clear hB
 have H : (some (s0_1, true)) = some (r1, r2) := h
 clear h
 simp only [Option.some.injEq, Prod.mk.injEq] at H
 obtain ⟨rfl, rfl⟩ := H
 obtain ⟨ASz2_0, cSz2_0, ASz2_3, cSz2_3, HGz2, hgz2, HSz2_0, HSz2_3⟩ := HI0.out
 have hcz2_0 := cellS85_0 HGz2
 have hcz2_1 := cellS85_1 HGz2
 have hcz2_2 := cellS85_2 HGz2
 have hcz2_3 := cellS85_3 HGz2
 have hfz2_1 := blk_frozen HGz2 1
 have hfz2_2 := blk_frozen HGz2 2
 clear HGz2 hgz2
 go_enter Try.func61, Try.ntmps61
 go_wp2
 first | go_end0 | ((try simp only [Exit.inBlock, Exit.then]); refine bodyPost_ret (results_none rfl _ _ _) rfl ?_)
 exact ⟨w5q9, by repeat (first | (with_reducible first | exact HI0.out | apply IsS85.alloc | apply IsS85.drewN | apply IsS85.drew | apply IsS85.set_1 | apply IsS85.set_2) | exact HI0.out), by repeat (first | (with_reducible first | exact HB.out | apply below_alloc | apply pw_below_drewN | apply below_drew1 | refine below_set ?_ (IsS85.ge HI0.out)) | exact HB.out), by repeat (first | (with_reducible first | exact HK.out | apply KeepBut.set_ | apply keep_drewN | apply keep_drew | apply keep_alloc) | exact HK.out)⟩

-- NOT PRINTED: function 80 (parse_cursor_want)

-- NOT PRINTED: function 53 (parse_cursor_must)

end Go.Proofs.Ytinnldfmbeafiaa.PA
