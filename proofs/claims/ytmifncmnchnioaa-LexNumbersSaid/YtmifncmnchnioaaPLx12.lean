-- made by fvprint.py over the kit's print
import Derived.Test.YtmifncmnchnioaaPLx0
import Derived.Test.YtmifncmnchnioaaPLx1
import Derived.Test.YtmifncmnchnioaaPLx2
import Derived.Test.YtmifncmnchnioaaPLx4
import Derived.Test.YtmifncmnchnioaaPLx5
import Derived.Test.YtmifncmnchnioaaPLx9
namespace Go.Proofs.Ytmifncmnchnioaa.PL
open Go.RowKit Go.Proofs.YtmifncmnchnioaaW.PrintWords Go.Proofs.YtmifncmnchnioaaW.PrintLast Go.Proofs.YtmifncmnchnioaaW.PrintMore
attribute [local go_sem] max2_int min2_int max_two min_two max_three min_three max_four min_four   -- for this text's walks alone
set_option linter.unusedVariables false
set_option linter.unusedSimpArgs false

attribute [local go_sem high] eqA26 eqA37
/-! ### withelaw6_LexNumbers: function 7 -/
def withelaw6_LexNumbers.l0 : Nat → Int → Int → ByteArray → Int → Option (Bool)
  | 0, _, _, _, _ => none
  | k + 1, x0, x1, x5, x6 => if x6 < (wrap64 (Int.tmod x1 30)) then (if 1 + x5.size ≤ 9223372036854775807 then (withelaw6_LexNumbers.l0 k x0 x1 ((⟨#[48]⟩ : ByteArray) ++ x5) (wrap64 (x6 + 1))) else (none)) else (if 1 + x5.size ≤ 9223372036854775807 then ((lex_Lex.f k ((⟨#[32]⟩ : ByteArray) ++ x5)).bind fun bt363 => (if x0 > 4611686018427387904 then (if (bt363.2.1 == 3 && (bt363.2.2 == 1)) = true then (some ((bt363.1.length : Int) == 0)) else (some false)) else (if (bt363.2.1 == 0 && (bt363.2.2 == 0)) = true then (if (bt363.1.length : Int) = 2 then (if 0 < (bt363.1.length : Int) then (some (((rd_T37 bt363.1 0).f0) == 2 && ((((rd_T37 bt363.1 0).f1).toList) == x5.toList && (((rd_T37 bt363.1 0).f2) == x0 && (((rd_T37 bt363.1 0).f3) == 1))))) else (none)) else (some false)) else (some false)))) else (none))
def withelaw6_LexNumbers.f (k : Nat) (a0 : Int) (a1 : Int) : Option (Bool) := (withelaw6_begun.f k).bind fun t361 => (if t361 = true then (if a0 < 0 then (some true) else ((witheref6_Digits.f k a0).bind fun t362 => (withelaw6_LexNumbers.l0 k a0 a1 t362 0))) else (some false))
theorem withelaw6_LexNumbers.mono_l : ∀ k, (∀ y0 y1 y2 y3, LeO (withelaw6_LexNumbers.l0 k y0 y1 y2 y3) (withelaw6_LexNumbers.l0 (k + 1) y0 y1 y2 y3))
  | 0 => fun _ _ _ _ r h => by simp [withelaw6_LexNumbers.l0] at h
  | k + 1 => by
    have ih0 := withelaw6_LexNumbers.mono_l k
    · intro y0 y1 y2 y3
      unfold withelaw6_LexNumbers.l0
      repeat' first
      | (with_reducible exact ih0 _ _ _ _)
      | (with_reducible exact lex_Lex.mono _ _)
      | (with_reducible exact withelaw6_begun.mono _)
      | (with_reducible exact witheref6_Digits.mono _ _)
      | (with_reducible exact LeO.refl _)
      | (with_reducible exact LeO.none _)
      | (with_reducible refine LeO.ite ?_ ?_)
      | (with_reducible refine LeO.bind ?_ (fun _ => ?_))
      | exact ih0 _ _ _ _
      | exact lex_Lex.mono _ _
      | exact withelaw6_begun.mono _
      | exact witheref6_Digits.mono _ _
      | exact LeO.none _
      | refine LeO.ite ?_ ?_
      | refine LeO.bind ?_ (fun _ => ?_)
theorem withelaw6_LexNumbers.mono : ∀ a0 a1 k, LeO (withelaw6_LexNumbers.f k a0 a1) (withelaw6_LexNumbers.f (k + 1) a0 a1) := by
  intro a0 a1 k
  have ih0 := withelaw6_LexNumbers.mono_l k
  unfold withelaw6_LexNumbers.f
  repeat' first
      | (with_reducible exact ih0 _ _ _ _)
      | (with_reducible exact lex_Lex.mono _ _)
      | (with_reducible exact withelaw6_begun.mono _)
      | (with_reducible exact witheref6_Digits.mono _ _)
      | (with_reducible exact LeO.refl _)
      | (with_reducible exact LeO.none _)
      | (with_reducible refine LeO.ite ?_ ?_)
      | (with_reducible refine LeO.bind ?_ (fun _ => ?_))
      | exact ih0 _ _ _ _
      | exact lex_Lex.mono _ _
      | exact withelaw6_begun.mono _
      | exact witheref6_Digits.mono _ _
      | exact LeO.none _
      | refine LeO.ite ?_ ?_
      | refine LeO.bind ?_ (fun _ => ?_)
set_option maxHeartbeats 8000000 in
set_option maxRecDepth 100000 in
theorem withelaw6_LexNumbers.calls (k : Nat) (a0 : Int) (a1 : Int) (r : Bool) (w : World) (h : withelaw6_LexNumbers.f k a0 a1 = some r) :
    Calls Try.prog 7 #[.int .i64 a0, .int .u8 a1] w fun e w' => e = .returned (.bool r) ∧ Below w.heap.size w w' := by
  have hu26 := Try.underlying26
  have hu37 := Try.underlying37
  have HB := Aside0.mk (Below.refl w.heap.size w)
  have H : ((withelaw6_begun.f k).bind fun t361 => (if t361 = true then (if a0 < 0 then (some true) else ((witheref6_Digits.f k a0).bind fun t362 => (withelaw6_LexNumbers.l0 k a0 a1 t362 0))) else (some false))) = some r := h
  clear h
  replace H := Option.bind_eq_some_iff.mp H
  obtain ⟨t361, A30, H⟩ := H
  replace H : (if t361 = true then (if a0 < 0 then (some true) else ((witheref6_Digits.f k a0).bind fun t362 => (withelaw6_LexNumbers.l0 k a0 a1 t362 0))) else (some false)) = some r := H
  have A3 := Aside0.mk A30
  clear A30
  by_cases c4 : t361 = true
  · subst c4
    have H1 : (if a0 < 0 then (some true) else ((witheref6_Digits.f k a0).bind fun t362 => (withelaw6_LexNumbers.l0 k a0 a1 t362 0))) = some r := by rw [if_pos rfl] at H; exact H
    clear H
    have H := H1
    clear H1
    by_cases c5 : a0 < 0
    · rw [if_pos c5] at H
      have c5b0 : decide (a0 < 0) = true := decide_eq_true c5
      clear c5
      obtain rfl := Option.some.inj H
      go_enter Try.func7, Try.ntmps7
      go_wp2_with (first | ((with_reducible refine gate_callee (f := 8) rfl ?_); refine goesL_ (some 9) rfl rfl Try.func8 (by kernel_rfl) rfl #[] rfl (by (try simp only [List.map_toArray, List.map_cons, List.map_nil]); first | done | rfl | (simp only [List.length_drop, List.length_take]; rfl)) ?_; (with_reducible refine (withelaw6_begun.calls k  true _ A3.out).mono ?_); rintro e w6 ⟨rfl, hb⟩; refine ⟨_, rfl, ?_⟩; have n0_ := Aside0.mk (below_step (by repeat (first | (with_reducible first | exact HB.out | apply below_alloc | apply pw_below_drewN | apply below_drew1) | exact HB.out)) hb); clear HB; have HB := n0_; clear n0_; (try clear hb); (try clear hb2); (try clear hk); (try clear hi)))
      go_ret
      exact ⟨by first | rfl | (simp [errW_none, errW_some] <;> rfl) | (simp [*, errW_none, errW_some] <;> rfl), by repeat (first | (with_reducible first | exact HB.out | apply below_alloc | apply pw_below_drewN | apply below_drew1) | exact HB.out)⟩
    · rw [if_neg c5] at H
      have c5b0 : decide (a0 < 0) = false := decide_eq_false c5
      clear c5
      replace H := Option.bind_eq_some_iff.mp H
      obtain ⟨t362, A70, H⟩ := H
      replace H : (withelaw6_LexNumbers.l0 k a0 a1 t362 0) = some r := H
      have A7 := Aside0.mk A70
      clear A70
      have H' := Aside0.mk H
      clear H
      go_enter Try.func7, Try.ntmps7
      go_wp2_with (first | ((with_reducible refine gate_callee (f := 8) rfl ?_); refine goesL_ (some 9) rfl rfl Try.func8 (by kernel_rfl) rfl #[] rfl (by (try simp only [List.map_toArray, List.map_cons, List.map_nil]); first | done | rfl | (simp only [List.length_drop, List.length_take]; rfl)) ?_; (with_reducible refine (withelaw6_begun.calls k  true _ A3.out).mono ?_); rintro e w8 ⟨rfl, hb⟩; refine ⟨_, rfl, ?_⟩; have n0_ := Aside0.mk (below_step (by repeat (first | (with_reducible first | exact HB.out | apply below_alloc | apply pw_below_drewN | apply below_drew1) | exact HB.out)) hb); clear HB; have HB := n0_; clear n0_; (try clear hb); (try clear hb2); (try clear hk); (try clear hi)) | ((with_reducible refine gate_callee (f := 17) rfl ?_); refine goesL_ (some 14) rfl rfl Try.func17 (by kernel_rfl) rfl #[.int .i64 a0] rfl (by (try simp only [List.map_toArray, List.map_cons, List.map_nil]); first | done | rfl | (simp only [List.length_drop, List.length_take]; rfl)) ?_; (with_reducible refine (witheref6_Digits.calls k a0 t362 _ A7.out).mono ?_); rintro e w9 ⟨rfl, hb⟩; refine ⟨_, rfl, ?_⟩; have n0_ := Aside0.mk (below_step (by repeat (first | (with_reducible first | exact HB.out | apply below_alloc | apply pw_below_drewN | apply below_drew1) | exact HB.out)) hb); clear HB; have HB := n0_; clear n0_; (try clear hb); (try clear hb2); (try clear hk); (try clear hi)))
      try go_simp
      go_loopg [5, 6] k (fun kq v5 v6 w' => ∃ (x5_1 : ByteArray) (x6_1 : Int), v5 = .string x5_1 ∧ v6 = .int .i64 x6_1 ∧ Aside0 (withelaw6_LexNumbers.l0 kq a0 a1 x5_1 x6_1 = some r) ∧ Aside0 (kq ≤ k) ∧ Aside0 (Below w.heap.size w w'))
      case atStart => exact ⟨(t362), (0), (by first | rfl | (simp; done) | (simp [*]; done)), (by first | rfl | (simp; done) | (simp [*]; done)), H', ⟨Nat.le_refl _⟩, ⟨by repeat (first | (with_reducible first | exact HB.out | apply below_alloc | apply pw_below_drewN | apply below_drew1) | exact HB.out)⟩⟩
      case round =>
        clear H'
        try clear c1
        try clear p2
        try clear c4
        try clear c5
        try clear c5b0
        try clear c7
        try clear c8
        obtain ⟨x5_1, x6_1, rfl, rfl, HA, HK1, HB⟩ := hrel
        cases gk with
        | zero => exact absurd HA.out (by simp [withelaw6_LexNumbers.l0])
        | succ k1 =>
          have H := HA.out
          clear HA
          simp only [withelaw6_LexNumbers.l0] at H
          by_cases c10 : x6_1 < (wrap64 (Int.tmod a1 30))
          · rw [if_pos c10] at H
            have c10b0 : decide (x6_1 < (wrap64 (Int.tmod a1 30))) = true := decide_eq_true c10
            clear c10
            by_cases c11 : 1 + x5_1.size ≤ 9223372036854775807
            · rw [if_pos c11] at H
              have c11b0 := eq_true c11
              have c11b1 : decide (1 + x5_1.size ≤ 9223372036854775807) = true := decide_eq_true c11
              try have c11b2 : (9223372036854775807 < 1 + x5_1.size) = False := eq_false (Nat.not_lt.2 c11)
              have H' := Aside0.mk H
              clear H
              go_wp2
              go_roundg k1
              case measure => have := HK1.out; omega
              case rel => exact ⟨((⟨#[48]⟩ : ByteArray) ++ x5_1), (wrap64 (x6_1 + 1)), (by first | rfl | (simp; done) | (simp [*]; done)), (by first | rfl | (simp; done) | (simp [*]; done)), H', ⟨by have := HK1.out; omega⟩, ⟨by repeat (first | (with_reducible first | exact HB.out | apply below_alloc | apply pw_below_drewN | apply below_drew1) | exact HB.out)⟩⟩
            · rw [if_neg c11] at H
              exact absurd H (by simp)
          · rw [if_neg c10] at H
            have c10b0 : decide (x6_1 < (wrap64 (Int.tmod a1 30))) = false := decide_eq_false c10
            clear c10
            by_cases c12 : 1 + x5_1.size ≤ 9223372036854775807
            · rw [if_pos c12] at H
              have c12b0 := eq_true c12
              have c12b1 : decide (1 + x5_1.size ≤ 9223372036854775807) = true := decide_eq_true c12
              try have c12b2 : (9223372036854775807 < 1 + x5_1.size) = False := eq_false (Nat.not_lt.2 c12)
              replace H := Option.bind_eq_some_iff.mp H
              obtain ⟨⟨t363, t366, t367⟩, A130, H⟩ := H
              replace H : (if a0 > 4611686018427387904 then (if (t366 == 3 && (t367 == 1)) = true then (some ((t363.length : Int) == 0)) else (some false)) else (if (t366 == 0 && (t367 == 0)) = true then (if (t363.length : Int) = 2 then (if 0 < (t363.length : Int) then (some (((rd_T37 t363 0).f0) == 2 && ((((rd_T37 t363 0).f1).toList) == x5_1.toList && (((rd_T37 t363 0).f2) == a0 && (((rd_T37 t363 0).f3) == 1))))) else (none)) else (some false)) else (some false))) = some r := H
              have A13 := Aside0.mk A130
              clear A130
              by_cases c14 : a0 > 4611686018427387904
              · rw [if_pos c14] at H
                have c14b0 : decide (4611686018427387904 < a0) = true := decide_eq_true c14
                clear c14
                by_cases c15 : (t366 == 3 && (t367 == 1)) = true
                · rw [if_pos c15] at H
                  have c15b0 : (t366 == 3 && (t367 == 1)) = true := c15
                  (try (have c15b1 : decide (t366 = 3 && (t367 == 1)) = true := by simpa using c15))
                  (try (have c15b2 : (t366 == 3 && (t367 == 1)) = true := by simpa using c15))
                  clear c15
                  obtain rfl := Option.some.inj H
                  go_wp2_with (first | ((with_reducible refine gate_callee (f := 9) rfl ?_); refine goesL_ (some 27) rfl rfl Try.func9 (by kernel_rfl) rfl #[.string ((⟨#[32]⟩ : ByteArray) ++ x5_1)] rfl (by (try simp only [List.map_toArray, List.map_cons, List.map_nil]); first | done | rfl | (simp only [List.length_drop, List.length_take]; rfl)) ?_; (with_reducible refine (lex_Lex.calls k1 ((⟨#[32]⟩ : ByteArray) ++ x5_1) t363 t366 t367 _ A13.out).mono ?_); rintro e w16 ⟨v364, rfl, ho0, hb⟩; refine ⟨_, rfl, ?_⟩; have n0_ := Aside0.mk (Kd.R_lower ho0 (below_size (by repeat (first | (with_reducible first | exact HB.out | apply below_alloc | apply pw_below_drewN | apply below_drew1) | exact HB.out)))); have n1_ := Aside0.mk (below_step (by repeat (first | (with_reducible first | exact HB.out | apply below_alloc | apply pw_below_drewN | apply below_drew1) | exact HB.out)) hb); clear HB; have HO365 := n0_; have HB := n1_; clear n0_ n1_; (try clear hb); (try clear hb2); (try clear hk); (try clear hi); (try clear ho0)) | ((with_reducible refine gate_dst (N := 8) rfl ?_); (try (refine gate_guard (by rfl) ?_; dsimp only)); refine box_event ?hg (N := 8) ?hd (cs := #[.int .i64 0, .int .i64 0]) (t := 26) ?hr ?_; (case hd => rfl); (case hg => rfl); (case hr => first | (go_simp; done) | (go_simp; rfl)); intro gb368 hg w17 hbox hb; have n0_ := Aside0.mk (Kd.R_below (by (with_reducible repeat (first | apply Kd.R_alloc | apply Kd.R_drewN | apply Kd.R_drew)); exact HO365.out) hb); have n1_ := Aside0.mk (below_step (by repeat (first | (with_reducible first | exact HB.out | apply below_alloc | apply pw_below_drewN | apply below_drew1) | exact HB.out)) hb); have n2_ := Aside0.mk (hbox); have n3_ := Aside0.mk ((by rw [hg]; exact (below_size (by repeat (first | (with_reducible first | exact HB.out | apply below_alloc | apply pw_below_drewN | apply below_drew1) | exact HB.out))) : w.heap.size ≤ gb368)); have n4_ := Aside0.mk ((by rw [hg]; exact (below_size (by repeat (first | (with_reducible first | exact HB.out | apply below_alloc | apply pw_below_drewN | apply below_drew1) | exact HB.out))) : w.heap.size ≤ gb368)); clear HO365; clear HB; have HO365 := n0_; have HB := n1_; have BK368 := n2_; have GW368 := n3_; have GE368 := n4_; clear n0_ n1_ n2_ n3_ n4_; clear hb hbox hg; have hcz18_0 : w17.cell? ⟨gb368, 0, none⟩ = some (.int .i64 0) := (blk_cell BK368.out 0).trans rfl; have hcz18_1 : w17.cell? ⟨gb368, 1, none⟩ = some (.int .i64 0) := (blk_cell BK368.out 1).trans rfl; have hfz18_0 := blk_frozen BK368.out 0; have hfz18_1 := blk_frozen BK368.out 1; obtain ⟨Ao19, co19, eo19⟩ := Kd.R_slice HO365.out; subst eo19))
                  go_ret
                  exact ⟨by first | rfl | (simp [errW_none, errW_some] <;> rfl) | (simp [*, errW_none, errW_some] <;> rfl), by repeat (first | (with_reducible first | exact HB.out | apply below_alloc | apply pw_below_drewN | apply below_drew1 | refine below_set ?_ GE368.out) | exact HB.out)⟩
                · rw [if_neg c15] at H
                  have c15b0 : (t366 == 3 && (t367 == 1)) = false := by simpa using c15
                  (try (have c15b1 : decide (t366 = 3 && (t367 == 1)) = false := by simpa using c15))
                  (try (have c15b2 : (t366 == 3 && (t367 == 1)) = false := by simpa using c15))
                  (try (have c15b3 : ¬ (t366 = 3 && (t367 == 1)) := by simpa using c15))
                  clear c15
                  obtain rfl := Option.some.inj H
                  go_wp2_with (first | ((with_reducible refine gate_callee (f := 9) rfl ?_); refine goesL_ (some 27) rfl rfl Try.func9 (by kernel_rfl) rfl #[.string ((⟨#[32]⟩ : ByteArray) ++ x5_1)] rfl (by (try simp only [List.map_toArray, List.map_cons, List.map_nil]); first | done | rfl | (simp only [List.length_drop, List.length_take]; rfl)) ?_; (with_reducible refine (lex_Lex.calls k1 ((⟨#[32]⟩ : ByteArray) ++ x5_1) t363 t366 t367 _ A13.out).mono ?_); rintro e w20 ⟨v364, rfl, ho0, hb⟩; refine ⟨_, rfl, ?_⟩; have n0_ := Aside0.mk (Kd.R_lower ho0 (below_size (by repeat (first | (with_reducible first | exact HB.out | apply below_alloc | apply pw_below_drewN | apply below_drew1) | exact HB.out)))); have n1_ := Aside0.mk (below_step (by repeat (first | (with_reducible first | exact HB.out | apply below_alloc | apply pw_below_drewN | apply below_drew1) | exact HB.out)) hb); clear HB; have HO365 := n0_; have HB := n1_; clear n0_ n1_; (try clear hb); (try clear hb2); (try clear hk); (try clear hi); (try clear ho0)) | ((with_reducible refine gate_dst (N := 8) rfl ?_); (try (refine gate_guard (by rfl) ?_; dsimp only)); refine box_event ?hg (N := 8) ?hd (cs := #[.int .i64 0, .int .i64 0]) (t := 26) ?hr ?_; (case hd => rfl); (case hg => rfl); (case hr => first | (go_simp; done) | (go_simp; rfl)); intro gb368 hg w21 hbox hb; have n0_ := Aside0.mk (Kd.R_below (by (with_reducible repeat (first | apply Kd.R_alloc | apply Kd.R_drewN | apply Kd.R_drew)); exact HO365.out) hb); have n1_ := Aside0.mk (below_step (by repeat (first | (with_reducible first | exact HB.out | apply below_alloc | apply pw_below_drewN | apply below_drew1) | exact HB.out)) hb); have n2_ := Aside0.mk (hbox); have n3_ := Aside0.mk ((by rw [hg]; exact (below_size (by repeat (first | (with_reducible first | exact HB.out | apply below_alloc | apply pw_below_drewN | apply below_drew1) | exact HB.out))) : w.heap.size ≤ gb368)); have n4_ := Aside0.mk ((by rw [hg]; exact (below_size (by repeat (first | (with_reducible first | exact HB.out | apply below_alloc | apply pw_below_drewN | apply below_drew1) | exact HB.out))) : w.heap.size ≤ gb368)); clear HO365; clear HB; have HO365 := n0_; have HB := n1_; have BK368 := n2_; have GW368 := n3_; have GE368 := n4_; clear n0_ n1_ n2_ n3_ n4_; clear hb hbox hg; have hcz22_0 : w21.cell? ⟨gb368, 0, none⟩ = some (.int .i64 0) := (blk_cell BK368.out 0).trans rfl; have hcz22_1 : w21.cell? ⟨gb368, 1, none⟩ = some (.int .i64 0) := (blk_cell BK368.out 1).trans rfl; have hfz22_0 := blk_frozen BK368.out 0; have hfz22_1 := blk_frozen BK368.out 1))
                  go_ret
                  exact ⟨by first | rfl | (simp [errW_none, errW_some] <;> rfl) | (simp [*, errW_none, errW_some] <;> rfl), by repeat (first | (with_reducible first | exact HB.out | apply below_alloc | apply pw_below_drewN | apply below_drew1 | refine below_set ?_ GE368.out) | exact HB.out)⟩
              · rw [if_neg c14] at H
                have c14b0 : decide (4611686018427387904 < a0) = false := decide_eq_false c14
                clear c14
                by_cases c23 : (t366 == 0 && (t367 == 0)) = true
                · rw [if_pos c23] at H
                  have c23b0 : (t366 == 0 && (t367 == 0)) = true := c23
                  (try (have c23b1 : decide (t366 = 0 && (t367 == 0)) = true := by simpa using c23))
                  (try (have c23b2 : (t366 == 0 && (t367 == 0)) = true := by simpa using c23))
                  clear c23
                  by_cases c24 : (t363.length : Int) = 2
                  · rw [if_pos c24] at H
                    have c24b0 : ((t363.length : Int) == 2) = true := beq_iff_eq.mpr c24
                    have c24b1 : ((t363.length : Int) != 2) = false := bne_eq_false_iff_eq.mpr c24
                    clear c24
                    by_cases c25 : 0 < (t363.length : Int)
                    · rw [if_pos c25] at H
                      have c25b0 : decide (0 < (t363.length : Int)) = true := decide_eq_true c25
                      have c25b1 : decide (0 < t363.length) = true := decide_eq_true (by omega)
                      clear c25
                      obtain rfl := Option.some.inj H
                      go_wp2_with (first | ((with_reducible refine gate_callee (f := 9) rfl ?_); refine goesL_ (some 27) rfl rfl Try.func9 (by kernel_rfl) rfl #[.string ((⟨#[32]⟩ : ByteArray) ++ x5_1)] rfl (by (try simp only [List.map_toArray, List.map_cons, List.map_nil]); first | done | rfl | (simp only [List.length_drop, List.length_take]; rfl)) ?_; (with_reducible refine (lex_Lex.calls k1 ((⟨#[32]⟩ : ByteArray) ++ x5_1) t363 t366 t367 _ A13.out).mono ?_); rintro e w26 ⟨v364, rfl, ho0, hb⟩; refine ⟨_, rfl, ?_⟩; have n0_ := Aside0.mk (Kd.R_lower ho0 (below_size (by repeat (first | (with_reducible first | exact HB.out | apply below_alloc | apply pw_below_drewN | apply below_drew1) | exact HB.out)))); have n1_ := Aside0.mk (below_step (by repeat (first | (with_reducible first | exact HB.out | apply below_alloc | apply pw_below_drewN | apply below_drew1) | exact HB.out)) hb); clear HB; have HO365 := n0_; have HB := n1_; clear n0_ n1_; (try clear hb); (try clear hb2); (try clear hk); (try clear hi); (try clear ho0)) | ((with_reducible refine gate_dst (N := 8) rfl ?_); (try (refine gate_guard (by rfl) ?_; dsimp only)); refine box_event ?hg (N := 8) ?hd (cs := #[.int .i64 0, .int .i64 0]) (t := 26) ?hr ?_; (case hd => rfl); (case hg => rfl); (case hr => first | (go_simp; done) | (go_simp; rfl)); intro gb368 hg w27 hbox hb; have n0_ := Aside0.mk (Kd.R_below (by (with_reducible repeat (first | apply Kd.R_alloc | apply Kd.R_drewN | apply Kd.R_drew)); exact HO365.out) hb); have n1_ := Aside0.mk (below_step (by repeat (first | (with_reducible first | exact HB.out | apply below_alloc | apply pw_below_drewN | apply below_drew1) | exact HB.out)) hb); have n2_ := Aside0.mk (hbox); have n3_ := Aside0.mk ((by rw [hg]; exact (below_size (by repeat (first | (with_reducible first | exact HB.out | apply below_alloc | apply pw_below_drewN | apply below_drew1) | exact HB.out))) : w.heap.size ≤ gb368)); have n4_ := Aside0.mk ((by rw [hg]; exact (below_size (by repeat (first | (with_reducible first | exact HB.out | apply below_alloc | apply pw_below_drewN | apply below_drew1) | exact HB.out))) : w.heap.size ≤ gb368)); clear HO365; clear HB; have HO365 := n0_; have HB := n1_; have BK368 := n2_; have GW368 := n3_; have GE368 := n4_; clear n0_ n1_ n2_ n3_ n4_; clear hb hbox hg; have hcz28_0 : w27.cell? ⟨gb368, 0, none⟩ = some (.int .i64 0) := (blk_cell BK368.out 0).trans rfl; have hcz28_1 : w27.cell? ⟨gb368, 1, none⟩ = some (.int .i64 0) := (blk_cell BK368.out 1).trans rfl; have hfz28_0 := blk_frozen BK368.out 0; have hfz28_1 := blk_frozen BK368.out 1; obtain ⟨Ao29, co29, eo29⟩ := Kd.R_slice HO365.out; subst eo29; have p369 : 0 ≤ (0 : Int) := (by omega); have q369 : 0 < (t363.length : Int) := of_decide_eq_true (by first | (with_reducible assumption) | assumption); obtain ⟨ad369, e369, hx369_0, hx369_1, hx369_2, hx369_3⟩ := at_T37 (Kd.R_reads' HO365.out).2.2 0 p369 q369; cases e369; have qi369 : (0 < t363.length) = True := eq_true (by omega); (try rw [show ((0 : Int)).toNat = 0 from rfl] at hx369_0); (try rw [show 0 * 4 = 0 from rfl] at hx369_0); (try rw [Addr.add_zero'] at hx369_0); (try rw [show ((0 : Int)).toNat = 0 from rfl] at hx369_1); (try rw [show 0 * 4 = 0 from rfl] at hx369_1); (try rw [Addr.add_zero'] at hx369_1); (try rw [show ((0 : Int)).toNat = 0 from rfl] at hx369_2); (try rw [show 0 * 4 = 0 from rfl] at hx369_2); (try rw [Addr.add_zero'] at hx369_2); (try rw [show ((0 : Int)).toNat = 0 from rfl] at hx369_3); (try rw [show 0 * 4 = 0 from rfl] at hx369_3); (try rw [Addr.add_zero'] at hx369_3); have hn369_0 : ad369.block ≠ gb368 := Kd.own_blk (Kd.R_ne HO365.out BK368.out (by decide)); have hn369_1 : ad369.block ≠ gb368 := Kd.own_blk (Kd.R_ne HO365.out BK368.out (by decide)); replace hx369_0 := (cell_far (p := ⟨gb368, 0, none⟩) (by first | (rw [add_block]; exact hn369_0) | (show (Addr.add _ _).block ≠ _; rw [add_block]; exact hn369_0) | exact hn369_0) (.int .i64 t366)).trans hx369_0; replace hx369_1 := (cell_far (p := ⟨gb368, 0, none⟩) (by first | (rw [add_block]; exact hn369_0) | (show (Addr.add _ _).block ≠ _; rw [add_block]; exact hn369_0) | exact hn369_0) (.int .i64 t366)).trans hx369_1; replace hx369_2 := (cell_far (p := ⟨gb368, 0, none⟩) (by first | (rw [add_block]; exact hn369_0) | (show (Addr.add _ _).block ≠ _; rw [add_block]; exact hn369_0) | exact hn369_0) (.int .i64 t366)).trans hx369_2; replace hx369_3 := (cell_far (p := ⟨gb368, 0, none⟩) (by first | (rw [add_block]; exact hn369_0) | (show (Addr.add _ _).block ≠ _; rw [add_block]; exact hn369_0) | exact hn369_0) (.int .i64 t366)).trans hx369_3; replace hx369_0 := (cell_far (p := ⟨gb368, 1, none⟩) (by first | (rw [add_block]; exact hn369_1) | (show (Addr.add _ _).block ≠ _; rw [add_block]; exact hn369_1) | exact hn369_1) (.int .i64 t367)).trans hx369_0; replace hx369_1 := (cell_far (p := ⟨gb368, 1, none⟩) (by first | (rw [add_block]; exact hn369_1) | (show (Addr.add _ _).block ≠ _; rw [add_block]; exact hn369_1) | exact hn369_1) (.int .i64 t367)).trans hx369_1; replace hx369_2 := (cell_far (p := ⟨gb368, 1, none⟩) (by first | (rw [add_block]; exact hn369_1) | (show (Addr.add _ _).block ≠ _; rw [add_block]; exact hn369_1) | exact hn369_1) (.int .i64 t367)).trans hx369_2; replace hx369_3 := (cell_far (p := ⟨gb368, 1, none⟩) (by first | (rw [add_block]; exact hn369_1) | (show (Addr.add _ _).block ≠ _; rw [add_block]; exact hn369_1) | exact hn369_1) (.int .i64 t367)).trans hx369_3; clear hn369_0; clear hn369_1; replace p369 := eq_true p369; replace q369 := eq_true q369))
                      go_ret
                      exact ⟨by first | rfl | (simp [errW_none, errW_some] <;> rfl) | (simp [*, errW_none, errW_some] <;> rfl), by repeat (first | (with_reducible first | exact HB.out | apply below_alloc | apply pw_below_drewN | apply below_drew1 | refine below_set ?_ GE368.out) | exact HB.out)⟩
                    · rw [if_neg c25] at H
                      exact absurd H (by simp)
                  · rw [if_neg c24] at H
                    have c24b0 : ((t363.length : Int) == 2) = false := beq_eq_false_iff_ne.mpr c24
                    have c24b1 : ((t363.length : Int) != 2) = true := bne_iff_ne.mpr c24
                    obtain rfl := Option.some.inj H
                    go_wp2_with (first | ((with_reducible refine gate_callee (f := 9) rfl ?_); refine goesL_ (some 27) rfl rfl Try.func9 (by kernel_rfl) rfl #[.string ((⟨#[32]⟩ : ByteArray) ++ x5_1)] rfl (by (try simp only [List.map_toArray, List.map_cons, List.map_nil]); first | done | rfl | (simp only [List.length_drop, List.length_take]; rfl)) ?_; (with_reducible refine (lex_Lex.calls k1 ((⟨#[32]⟩ : ByteArray) ++ x5_1) t363 t366 t367 _ A13.out).mono ?_); rintro e w30 ⟨v364, rfl, ho0, hb⟩; refine ⟨_, rfl, ?_⟩; have n0_ := Aside0.mk (Kd.R_lower ho0 (below_size (by repeat (first | (with_reducible first | exact HB.out | apply below_alloc | apply pw_below_drewN | apply below_drew1) | exact HB.out)))); have n1_ := Aside0.mk (below_step (by repeat (first | (with_reducible first | exact HB.out | apply below_alloc | apply pw_below_drewN | apply below_drew1) | exact HB.out)) hb); clear HB; have HO365 := n0_; have HB := n1_; clear n0_ n1_; (try clear hb); (try clear hb2); (try clear hk); (try clear hi); (try clear ho0)) | ((with_reducible refine gate_dst (N := 8) rfl ?_); (try (refine gate_guard (by rfl) ?_; dsimp only)); refine box_event ?hg (N := 8) ?hd (cs := #[.int .i64 0, .int .i64 0]) (t := 26) ?hr ?_; (case hd => rfl); (case hg => rfl); (case hr => first | (go_simp; done) | (go_simp; rfl)); intro gb368 hg w31 hbox hb; have n0_ := Aside0.mk (Kd.R_below (by (with_reducible repeat (first | apply Kd.R_alloc | apply Kd.R_drewN | apply Kd.R_drew)); exact HO365.out) hb); have n1_ := Aside0.mk (below_step (by repeat (first | (with_reducible first | exact HB.out | apply below_alloc | apply pw_below_drewN | apply below_drew1) | exact HB.out)) hb); have n2_ := Aside0.mk (hbox); have n3_ := Aside0.mk ((by rw [hg]; exact (below_size (by repeat (first | (with_reducible first | exact HB.out | apply below_alloc | apply pw_below_drewN | apply below_drew1) | exact HB.out))) : w.heap.size ≤ gb368)); have n4_ := Aside0.mk ((by rw [hg]; exact (below_size (by repeat (first | (with_reducible first | exact HB.out | apply below_alloc | apply pw_below_drewN | apply below_drew1) | exact HB.out))) : w.heap.size ≤ gb368)); clear HO365; clear HB; have HO365 := n0_; have HB := n1_; have BK368 := n2_; have GW368 := n3_; have GE368 := n4_; clear n0_ n1_ n2_ n3_ n4_; clear hb hbox hg; have hcz32_0 : w31.cell? ⟨gb368, 0, none⟩ = some (.int .i64 0) := (blk_cell BK368.out 0).trans rfl; have hcz32_1 : w31.cell? ⟨gb368, 1, none⟩ = some (.int .i64 0) := (blk_cell BK368.out 1).trans rfl; have hfz32_0 := blk_frozen BK368.out 0; have hfz32_1 := blk_frozen BK368.out 1; obtain ⟨Ao33, co33, eo33⟩ := Kd.R_slice HO365.out; subst eo33))
                    go_ret
                    exact ⟨by first | rfl | (simp [errW_none, errW_some] <;> rfl) | (simp [*, errW_none, errW_some] <;> rfl), by repeat (first | (with_reducible first | exact HB.out | apply below_alloc | apply pw_below_drewN | apply below_drew1 | refine below_set ?_ GE368.out) | exact HB.out)⟩
                · rw [if_neg c23] at H
                  have c23b0 : (t366 == 0 && (t367 == 0)) = false := by simpa using c23
                  (try (have c23b1 : decide (t366 = 0 && (t367 == 0)) = false := by simpa using c23))
                  (try (have c23b2 : (t366 == 0 && (t367 == 0)) = false := by simpa using c23))
                  (try (have c23b3 : ¬ (t366 = 0 && (t367 == 0)) := by simpa using c23))
                  clear c23
                  obtain rfl := Option.some.inj H
                  go_wp2_with (first | ((with_reducible refine gate_callee (f := 9) rfl ?_); refine goesL_ (some 27) rfl rfl Try.func9 (by kernel_rfl) rfl #[.string ((⟨#[32]⟩ : ByteArray) ++ x5_1)] rfl (by (try simp only [List.map_toArray, List.map_cons, List.map_nil]); first | done | rfl | (simp only [List.length_drop, List.length_take]; rfl)) ?_; (with_reducible refine (lex_Lex.calls k1 ((⟨#[32]⟩ : ByteArray) ++ x5_1) t363 t366 t367 _ A13.out).mono ?_); rintro e w34 ⟨v364, rfl, ho0, hb⟩; refine ⟨_, rfl, ?_⟩; have n0_ := Aside0.mk (Kd.R_lower ho0 (below_size (by repeat (first | (with_reducible first | exact HB.out | apply below_alloc | apply pw_below_drewN | apply below_drew1) | exact HB.out)))); have n1_ := Aside0.mk (below_step (by repeat (first | (with_reducible first | exact HB.out | apply below_alloc | apply pw_below_drewN | apply below_drew1) | exact HB.out)) hb); clear HB; have HO365 := n0_; have HB := n1_; clear n0_ n1_; (try clear hb); (try clear hb2); (try clear hk); (try clear hi); (try clear ho0)) | ((with_reducible refine gate_dst (N := 8) rfl ?_); (try (refine gate_guard (by rfl) ?_; dsimp only)); refine box_event ?hg (N := 8) ?hd (cs := #[.int .i64 0, .int .i64 0]) (t := 26) ?hr ?_; (case hd => rfl); (case hg => rfl); (case hr => first | (go_simp; done) | (go_simp; rfl)); intro gb368 hg w35 hbox hb; have n0_ := Aside0.mk (Kd.R_below (by (with_reducible repeat (first | apply Kd.R_alloc | apply Kd.R_drewN | apply Kd.R_drew)); exact HO365.out) hb); have n1_ := Aside0.mk (below_step (by repeat (first | (with_reducible first | exact HB.out | apply below_alloc | apply pw_below_drewN | apply below_drew1) | exact HB.out)) hb); have n2_ := Aside0.mk (hbox); have n3_ := Aside0.mk ((by rw [hg]; exact (below_size (by repeat (first | (with_reducible first | exact HB.out | apply below_alloc | apply pw_below_drewN | apply below_drew1) | exact HB.out))) : w.heap.size ≤ gb368)); have n4_ := Aside0.mk ((by rw [hg]; exact (below_size (by repeat (first | (with_reducible first | exact HB.out | apply below_alloc | apply pw_below_drewN | apply below_drew1) | exact HB.out))) : w.heap.size ≤ gb368)); clear HO365; clear HB; have HO365 := n0_; have HB := n1_; have BK368 := n2_; have GW368 := n3_; have GE368 := n4_; clear n0_ n1_ n2_ n3_ n4_; clear hb hbox hg; have hcz36_0 : w35.cell? ⟨gb368, 0, none⟩ = some (.int .i64 0) := (blk_cell BK368.out 0).trans rfl; have hcz36_1 : w35.cell? ⟨gb368, 1, none⟩ = some (.int .i64 0) := (blk_cell BK368.out 1).trans rfl; have hfz36_0 := blk_frozen BK368.out 0; have hfz36_1 := blk_frozen BK368.out 1))
                  go_ret
                  exact ⟨by first | rfl | (simp [errW_none, errW_some] <;> rfl) | (simp [*, errW_none, errW_some] <;> rfl), by repeat (first | (with_reducible first | exact HB.out | apply below_alloc | apply pw_below_drewN | apply below_drew1 | refine below_set ?_ GE368.out) | exact HB.out)⟩
            · rw [if_neg c12] at H
              exact absurd H (by simp)
  · replace c4 := Bool.eq_false_iff.mpr c4
    subst c4
    have H1 : (some false) = some r := by rw [if_neg (show ¬ (false = true) by decide)] at H; exact H
    clear H
    have H := H1
    clear H1
    obtain rfl := Option.some.inj H
    go_enter Try.func7, Try.ntmps7
    go_wp2_with (first | ((with_reducible refine gate_callee (f := 8) rfl ?_); refine goesL_ (some 9) rfl rfl Try.func8 (by kernel_rfl) rfl #[] rfl (by (try simp only [List.map_toArray, List.map_cons, List.map_nil]); first | done | rfl | (simp only [List.length_drop, List.length_take]; rfl)) ?_; (with_reducible refine (withelaw6_begun.calls k  false _ A3.out).mono ?_); rintro e w37 ⟨rfl, hb⟩; refine ⟨_, rfl, ?_⟩; have n0_ := Aside0.mk (below_step (by repeat (first | (with_reducible first | exact HB.out | apply below_alloc | apply pw_below_drewN | apply below_drew1) | exact HB.out)) hb); clear HB; have HB := n0_; clear n0_; (try clear hb); (try clear hb2); (try clear hk); (try clear hi)))
    go_ret
    exact ⟨by first | rfl | (simp [errW_none, errW_some] <;> rfl) | (simp [*, errW_none, errW_some] <;> rfl), by repeat (first | (with_reducible first | exact HB.out | apply below_alloc | apply pw_below_drewN | apply below_drew1) | exact HB.out)⟩

/-- THE ONE PURE STATEMENT of withelaw6_LexNumbers: yours. -/
def withelaw6_LexNumbers.Pure : Prop := ∀ (a0 : Int) (a1 : Int), (Lit.int .i64 a0).wf = true → (Lit.int .u8 a1).wf = true → ∃ k, withelaw6_LexNumbers.f k a0 a1 = some true
theorem withelaw6_LexNumbers.walk (P : withelaw6_LexNumbers.Pure) (a0 : Int) (a1 : Int) (w : World) (w0 : (Lit.int .i64 a0).wf = true) (w1 : (Lit.int .u8 a1).wf = true) :
    Calls Try.prog 7 #[.int .i64 a0, .int .u8 a1] w fun e w' => e = .returned (.bool true) ∧ Below w.heap.size w w' := by
  obtain ⟨k, h⟩ := P a0 a1 w0 w1
  refine (withelaw6_LexNumbers.calls k a0 a1 true w h).mono ?_
  rintro e w' ⟨rfl, hd⟩
  exact ⟨rfl, hd⟩

end Go.Proofs.Ytmifncmnchnioaa.PL
