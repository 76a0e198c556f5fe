-- made by fvprint.py over the kit's print
import Derived.Test.YtmifncmnchnioaaPLx0
import Derived.Test.YtmifncmnchnioaaPLx1
import Derived.Test.YtmifncmnchnioaaPLx6
import Derived.Test.YtmifncmnchnioaaPLx7
import Derived.Test.YtmifncmnchnioaaPLx10
import Derived.Test.YtmifncmnchnioaaPLx11
import Derived.Test.YtmifncmnchnioaaPLx12
namespace Go.Proofs.Ytmifncmnchnioaa.PL
open Go.RowKit Go.Proofs.YtmifncmnchnioaaW.PrintWords Go.Proofs.YtmifncmnchnioaaW.PrintLast Go.Proofs.YtmifncmnchnioaaW.PrintMore
attribute [local go_sem] max2_int min2_int max_two min_two max_three min_three max_four min_four   -- for this text's walks alone
set_option linter.unusedVariables false
set_option linter.unusedSimpArgs false

attribute [local go_sem high] eqA26
attribute [local go_sem] cell_set_some
/-! ### withelaw6_LexAll: function 3 -/
def withelaw6_LexAll.j0 : Nat → ByteArray → ByteArray → Bool → Option (Bool)
  | 0, _, _, _ => none
  | k + 1, x0, x1, x18 => if x18 = true then (some true) else ((lex_Lex.f k x0).bind fun bt211 => ((witheref6_Lex.f k x0).bind fun bt217 => ((witheref6_SameTokens.f k bt211.1 bt217.1).bind fun t223 => (if t223 = true then (if (bt211.2.1 == bt217.2.1 && (bt211.2.2 == bt217.2.2)) = true then ((lex_Keyword.f k x1).bind fun t224 => ((witheref6_Keyword.f k x1).bind fun t225 => (if (t224 == t225) = true then ((lex_Name.f k x1).bind fun t226 => ((witheref6_Name.f k x1).bind fun t227 => (some (t226 == t227)))) else (none)))) else (none)) else (none)))))
def withelaw6_LexAll.f (k : Nat) (a0 : ByteArray) (a1 : ByteArray) : Option (Bool) := (withelaw6_begun.f k).bind fun t210 => (if t210 = true then (if (a0.size : Int) > 5000 then (withelaw6_LexAll.j0 k a0 a1 true) else (withelaw6_LexAll.j0 k a0 a1 (decide ((a1.size : Int) > 5000)))) else (none))
theorem withelaw6_LexAll.mono_l : ∀ k, (∀ y0 y1 y2, LeO (withelaw6_LexAll.j0 k y0 y1 y2) (withelaw6_LexAll.j0 (k + 1) y0 y1 y2))
  | 0 => fun _ _ _ r h => by simp [withelaw6_LexAll.j0] at h
  | k + 1 => by
    have ih0 := withelaw6_LexAll.mono_l k
    · intro y0 y1 y2
      unfold withelaw6_LexAll.j0
      repeat' first
      | (with_reducible exact ih0 _ _ _)
      | (with_reducible exact lex_Keyword.mono _ _)
      | (with_reducible exact lex_Lex.mono _ _)
      | (with_reducible exact lex_Name.mono _ _)
      | (with_reducible exact withelaw6_begun.mono _)
      | (with_reducible exact witheref6_Keyword.mono _ _)
      | (with_reducible exact witheref6_Lex.mono _ _)
      | (with_reducible exact witheref6_Name.mono _ _)
      | (with_reducible exact witheref6_SameTokens.mono _ _ _)
      | (with_reducible exact LeO.refl _)
      | (with_reducible exact LeO.none _)
      | (with_reducible refine LeO.ite ?_ ?_)
      | (with_reducible refine LeO.bind ?_ (fun _ => ?_))
      | exact ih0 _ _ _
      | exact lex_Keyword.mono _ _
      | exact lex_Lex.mono _ _
      | exact lex_Name.mono _ _
      | exact withelaw6_begun.mono _
      | exact witheref6_Keyword.mono _ _
      | exact witheref6_Lex.mono _ _
      | exact witheref6_Name.mono _ _
      | exact witheref6_SameTokens.mono _ _ _
      | exact LeO.none _
      | refine LeO.ite ?_ ?_
      | refine LeO.bind ?_ (fun _ => ?_)
theorem withelaw6_LexAll.mono : ∀ a0 a1 k, LeO (withelaw6_LexAll.f k a0 a1) (withelaw6_LexAll.f (k + 1) a0 a1) := by
  intro a0 a1 k
  have ih0 := withelaw6_LexAll.mono_l k
  unfold withelaw6_LexAll.f
  repeat' first
      | (with_reducible exact ih0 _ _ _)
      | (with_reducible exact lex_Keyword.mono _ _)
      | (with_reducible exact lex_Lex.mono _ _)
      | (with_reducible exact lex_Name.mono _ _)
      | (with_reducible exact withelaw6_begun.mono _)
      | (with_reducible exact witheref6_Keyword.mono _ _)
      | (with_reducible exact witheref6_Lex.mono _ _)
      | (with_reducible exact witheref6_Name.mono _ _)
      | (with_reducible exact witheref6_SameTokens.mono _ _ _)
      | (with_reducible exact LeO.refl _)
      | (with_reducible exact LeO.none _)
      | (with_reducible refine LeO.ite ?_ ?_)
      | (with_reducible refine LeO.bind ?_ (fun _ => ?_))
      | exact ih0 _ _ _
      | exact lex_Keyword.mono _ _
      | exact lex_Lex.mono _ _
      | exact lex_Name.mono _ _
      | exact withelaw6_begun.mono _
      | exact witheref6_Keyword.mono _ _
      | exact witheref6_Lex.mono _ _
      | exact witheref6_Name.mono _ _
      | exact witheref6_SameTokens.mono _ _ _
      | exact LeO.none _
      | refine LeO.ite ?_ ?_
      | refine LeO.bind ?_ (fun _ => ?_)
set_option maxHeartbeats 8000000 in
set_option maxRecDepth 100000 in
theorem withelaw6_LexAll.calls (k : Nat) (a0 : ByteArray) (a1 : ByteArray) (r : Bool) (w : World) (h : withelaw6_LexAll.f k a0 a1 = some r) :
    Calls Try.prog 3 #[.string a0, .string a1] w fun e w' => e = .returned (.bool r) ∧ Below w.heap.size w w' := by
  have hu26 := Try.underlying26
  have HB := Aside0.mk (Below.refl w.heap.size w)
  have H : ((withelaw6_begun.f k).bind fun t210 => (if t210 = true then (if (a0.size : Int) > 5000 then (withelaw6_LexAll.j0 k a0 a1 true) else (withelaw6_LexAll.j0 k a0 a1 (decide ((a1.size : Int) > 5000)))) else (none))) = some r := h
  clear h
  replace H := Option.bind_eq_some_iff.mp H
  obtain ⟨t210, A30, H⟩ := H
  replace H : (if t210 = true then (if (a0.size : Int) > 5000 then (withelaw6_LexAll.j0 k a0 a1 true) else (withelaw6_LexAll.j0 k a0 a1 (decide ((a1.size : Int) > 5000)))) else (none)) = some r := H
  have A3 := Aside0.mk A30
  clear A30
  by_cases c4 : t210 = true
  · subst c4
    have H1 : (if (a0.size : Int) > 5000 then (withelaw6_LexAll.j0 k a0 a1 true) else (withelaw6_LexAll.j0 k a0 a1 (decide ((a1.size : Int) > 5000)))) = some r := by rw [if_pos rfl] at H; exact H
    clear H
    have H := H1
    clear H1
    have HC5 := Aside0.mk H
    clear H
    go_enter Try.func3, Try.ntmps3
    go_upto_region 3 with (first | ((with_reducible refine gate_callee (f := 8) rfl ?_); refine goesL_ (some 9) rfl rfl Try.func8 (by kernel_rfl) rfl #[] rfl (by (try simp only [List.map_toArray, List.map_cons, List.map_nil]); first | done | rfl | (simp only [List.length_drop, List.length_take]; rfl)) ?_; (with_reducible refine (withelaw6_begun.calls k  true _ A3.out).mono ?_); rintro e w6 ⟨rfl, hb⟩; refine ⟨_, rfl, ?_⟩; have n0_ := Aside0.mk (below_step (by repeat (first | (with_reducible first | exact HB.out | apply below_alloc | apply pw_below_drewN | apply below_drew1) | exact HB.out)) hb); clear HB; have HB := n0_; clear n0_; (try clear hb); (try clear hb2); (try clear hk); (try clear hi)))
    (try simp only [Act.put, List.setIfInBounds_toArray, List.set_cons_zero, List.set_cons_succ])
    go_cut [18] (fun v18 wc => ∃ (kq : Nat) (x18_4 : Bool), v18 = .bool x18_4 ∧ Aside0 (withelaw6_LexAll.j0 kq a0 a1 x18_4 = some r) ∧ Aside0 (kq ≤ k) ∧ Aside0 (Below w.heap.size w wc))
    case first =>
      have H := HC5.out
      clear HC5
      by_cases c7 : (a0.size : Int) > 5000
      · rw [if_pos c7] at H
        have c7b0 : decide (5000 < (a0.size : Int)) = true := decide_eq_true c7
        have c7b1 : decide (5000 < a0.size) = true := decide_eq_true (by omega)
        clear c7
        (first | rw [c7b0] | (simp only [i64_w, i32_w]; rw [c7b0]) | skip)
        have H' := Aside0.mk H
        clear H
        go_wp2
        go_meet
        case rel => exact ⟨_, (true), (by first | rfl | (simp; done) | (simp [*]; done)), H', ⟨by first | omega | exact Nat.le_refl _⟩, ⟨by repeat (first | (with_reducible first | exact HB.out | apply below_alloc | apply pw_below_drewN | apply below_drew1) | exact HB.out)⟩⟩
      · rw [if_neg c7] at H
        have c7b0 : decide (5000 < (a0.size : Int)) = false := decide_eq_false c7
        have c7b1 : decide (5000 < a0.size) = false := decide_eq_false (by omega)
        clear c7
        (first | rw [c7b0] | (simp only [i64_w, i32_w]; rw [c7b0]) | skip)
        have H' := Aside0.mk H
        clear H
        go_wp2
        go_meet
        case rel => exact ⟨_, (decide ((a1.size : Int) > 5000)), (by first | rfl | (simp; done) | (simp [*]; done)), H', ⟨by first | omega | exact Nat.le_refl _⟩, ⟨by repeat (first | (with_reducible first | exact HB.out | apply below_alloc | apply pw_below_drewN | apply below_drew1) | exact HB.out)⟩⟩
    case rest =>
      clear HC5
      try clear p2
      try clear c3
      try clear c4
      try clear c7
      try clear c7b0
      try clear c7b1
      obtain ⟨kq, x18_4, rfl, HA, HJ4, HB⟩ := hcut
      cases kq with
      | zero => exact absurd HA.out (by simp [withelaw6_LexAll.j0])
      | succ kj4 =>
        have H := HA.out
        clear HA
        simp only [withelaw6_LexAll.j0] at H
        by_cases c8 : x18_4 = true
        · subst c8
          have H1 : (some true) = some r := by rw [if_pos rfl] at H; exact H
          clear H
          have H := H1
          clear H1
          obtain rfl := Option.some.inj H
          go_wp2
          go_ret
          exact ⟨by first | rfl | (simp [errW_none, errW_some] <;> rfl) | (simp [*, errW_none, errW_some] <;> rfl), by repeat (first | (with_reducible first | exact HB.out | apply below_alloc | apply pw_below_drewN | apply below_drew1) | exact HB.out)⟩
        · replace c8 := Bool.eq_false_iff.mpr c8
          subst c8
          have H1 : ((lex_Lex.f kj4 a0).bind fun bt211 => ((witheref6_Lex.f kj4 a0).bind fun bt217 => ((witheref6_SameTokens.f kj4 bt211.1 bt217.1).bind fun t223 => (if t223 = true then (if (bt211.2.1 == bt217.2.1 && (bt211.2.2 == bt217.2.2)) = true then ((lex_Keyword.f kj4 a1).bind fun t224 => ((witheref6_Keyword.f kj4 a1).bind fun t225 => (if (t224 == t225) = true then ((lex_Name.f kj4 a1).bind fun t226 => ((witheref6_Name.f kj4 a1).bind fun t227 => (some (t226 == t227)))) else (none)))) else (none)) else (none))))) = some r := by rw [if_neg (show ¬ (false = true) by decide)] at H; exact H
          clear H
          have H := H1
          clear H1
          replace H := Option.bind_eq_some_iff.mp H
          obtain ⟨⟨t211, t214, t215⟩, A90, H⟩ := H
          replace H : ((witheref6_Lex.f kj4 a0).bind fun bt217 => ((witheref6_SameTokens.f kj4 t211 bt217.1).bind fun t223 => (if t223 = true then (if (t214 == bt217.2.1 && (t215 == bt217.2.2)) = true then ((lex_Keyword.f kj4 a1).bind fun t224 => ((witheref6_Keyword.f kj4 a1).bind fun t225 => (if (t224 == t225) = true then ((lex_Name.f kj4 a1).bind fun t226 => ((witheref6_Name.f kj4 a1).bind fun t227 => (some (t226 == t227)))) else (none)))) else (none)) else (none)))) = some r := H
          have A9 := Aside0.mk A90
          clear A90
          replace H := Option.bind_eq_some_iff.mp H
          obtain ⟨⟨t217, t220, t221⟩, A100, H⟩ := H
          replace H : ((witheref6_SameTokens.f kj4 t211 t217).bind fun t223 => (if t223 = true then (if (t214 == t220 && (t215 == t221)) = true then ((lex_Keyword.f kj4 a1).bind fun t224 => ((witheref6_Keyword.f kj4 a1).bind fun t225 => (if (t224 == t225) = true then ((lex_Name.f kj4 a1).bind fun t226 => ((witheref6_Name.f kj4 a1).bind fun t227 => (some (t226 == t227)))) else (none)))) else (none)) else (none))) = some r := H
          have A10 := Aside0.mk A100
          clear A100
          replace H := Option.bind_eq_some_iff.mp H
          obtain ⟨t223, A110, H⟩ := H
          replace H : (if t223 = true then (if (t214 == t220 && (t215 == t221)) = true then ((lex_Keyword.f kj4 a1).bind fun t224 => ((witheref6_Keyword.f kj4 a1).bind fun t225 => (if (t224 == t225) = true then ((lex_Name.f kj4 a1).bind fun t226 => ((witheref6_Name.f kj4 a1).bind fun t227 => (some (t226 == t227)))) else (none)))) else (none)) else (none)) = some r := H
          have A11 := Aside0.mk A110
          clear A110
          by_cases c12 : t223 = true
          · subst c12
            have H1 : (if (t214 == t220 && (t215 == t221)) = true then ((lex_Keyword.f kj4 a1).bind fun t224 => ((witheref6_Keyword.f kj4 a1).bind fun t225 => (if (t224 == t225) = true then ((lex_Name.f kj4 a1).bind fun t226 => ((witheref6_Name.f kj4 a1).bind fun t227 => (some (t226 == t227)))) else (none)))) else (none)) = some r := by rw [if_pos rfl] at H; exact H
            clear H
            have H := H1
            clear H1
            by_cases c13 : (t214 == t220 && (t215 == t221)) = true
            · rw [if_pos c13] at H
              have c13b0 : (t214 == t220 && (t215 == t221)) = true := c13
              (try (have c13b1 : decide (t214 = t220 && (t215 == t221)) = true := by simpa using c13))
              (try (have c13b2 : (t214 == t220 && (t215 == t221)) = true := by simpa using c13))
              clear c13
              replace H := Option.bind_eq_some_iff.mp H
              obtain ⟨t224, A140, H⟩ := H
              replace H : ((witheref6_Keyword.f kj4 a1).bind fun t225 => (if (t224 == t225) = true then ((lex_Name.f kj4 a1).bind fun t226 => ((witheref6_Name.f kj4 a1).bind fun t227 => (some (t226 == t227)))) else (none))) = some r := H
              have A14 := Aside0.mk A140
              clear A140
              replace H := Option.bind_eq_some_iff.mp H
              obtain ⟨t225, A150, H⟩ := H
              replace H : (if (t224 == t225) = true then ((lex_Name.f kj4 a1).bind fun t226 => ((witheref6_Name.f kj4 a1).bind fun t227 => (some (t226 == t227)))) else (none)) = some r := H
              have A15 := Aside0.mk A150
              clear A150
              by_cases c16 : (t224 == t225) = true
              · rw [if_pos c16] at H
                have c16b0 : (t224 == t225) = true := c16
                (try (have c16b1 : decide (t224 = t225) = true := by simpa using c16))
                (try (have c16b2 : (t224 == t225) = true := by simpa using c16))
                clear c16
                replace H := Option.bind_eq_some_iff.mp H
                obtain ⟨t226, A170, H⟩ := H
                replace H : ((witheref6_Name.f kj4 a1).bind fun t227 => (some (t226 == t227))) = some r := H
                have A17 := Aside0.mk A170
                clear A170
                replace H := Option.bind_eq_some_iff.mp H
                obtain ⟨t227, A180, H⟩ := H
                replace H : (some (t226 == t227)) = some r := H
                have A18 := Aside0.mk A180
                clear A180
                obtain rfl := Option.some.inj H
                go_wp2_with (first | ((with_reducible refine gate_callee (f := 9) rfl ?_); refine goesL_ (some 21) rfl rfl Try.func9 (by kernel_rfl) rfl #[.string a0] rfl (by (try simp only [List.map_toArray, List.map_cons, List.map_nil]); first | done | rfl | (simp only [List.length_drop, List.length_take]; rfl)) ?_; (with_reducible refine (lex_Lex.calls kj4 a0 t211 t214 t215 _ A9.out).mono ?_); rintro e w19 ⟨v212, rfl, ho0, hb⟩; refine ⟨_, rfl, ?_⟩; have n0_ := Aside0.mk (Kd.R_lower ho0 (below_size (by repeat (first | (with_reducible first | exact HB.out | apply below_alloc | apply pw_below_drewN | apply below_drew1) | exact HB.out)))); have n1_ := Aside0.mk (below_step (by repeat (first | (with_reducible first | exact HB.out | apply below_alloc | apply pw_below_drewN | apply below_drew1) | exact HB.out)) hb); clear HB; have HO213 := n0_; have HB := n1_; clear n0_ n1_; (try clear hb); (try clear hb2); (try clear hk); (try clear hi); (try clear ho0)) | ((with_reducible refine gate_dst (N := 6) rfl ?_); (try (refine gate_guard (by rfl) ?_; dsimp only)); refine box_event ?hg (N := 6) ?hd (cs := #[.int .i64 0, .int .i64 0]) (t := 26) ?hr ?_; (case hd => rfl); (case hg => rfl); (case hr => first | (go_simp; done) | (go_simp; rfl)); intro gb216 hg w20 hbox hb; have n0_ := Aside0.mk (Kd.R_below (by (with_reducible repeat (first | apply Kd.R_alloc | apply Kd.R_drewN | apply Kd.R_drew)); exact HO213.out) hb); have n1_ := Aside0.mk (below_step (by repeat (first | (with_reducible first | exact HB.out | apply below_alloc | apply pw_below_drewN | apply below_drew1) | exact HB.out)) hb); have n2_ := Aside0.mk (hbox); have n3_ := Aside0.mk ((by rw [hg]; exact (below_size (by repeat (first | (with_reducible first | exact HB.out | apply below_alloc | apply pw_below_drewN | apply below_drew1) | exact HB.out))) : w.heap.size ≤ gb216)); have n4_ := Aside0.mk ((by rw [hg]; exact (below_size (by repeat (first | (with_reducible first | exact HB.out | apply below_alloc | apply pw_below_drewN | apply below_drew1) | exact HB.out))) : w.heap.size ≤ gb216)); clear HO213; clear HB; have HO213 := n0_; have HB := n1_; have BK216 := n2_; have GW216 := n3_; have GE216 := n4_; clear n0_ n1_ n2_ n3_ n4_; clear hb hbox hg; have hcz21_0 : w20.cell? ⟨gb216, 0, none⟩ = some (.int .i64 0) := (blk_cell BK216.out 0).trans rfl; have hcz21_1 : w20.cell? ⟨gb216, 1, none⟩ = some (.int .i64 0) := (blk_cell BK216.out 1).trans rfl; have hfz21_0 := blk_frozen BK216.out 0; have hfz21_1 := blk_frozen BK216.out 1) | ((with_reducible refine gate_callee (f := 10) rfl ?_); refine goesL_ (some 26) rfl rfl Try.func10 (by kernel_rfl) rfl #[.string a0] rfl (by (try simp only [List.map_toArray, List.map_cons, List.map_nil]); first | done | rfl | (simp only [List.length_drop, List.length_take]; rfl)) ?_; (with_reducible refine (witheref6_Lex.calls kj4 a0 t217 t220 t221 _ A10.out).mono ?_); rintro e w22 ⟨v218, rfl, ho0, hb⟩; refine ⟨_, rfl, ?_⟩; have n0_ := Aside0.mk (Kd.R_elder' (by (with_reducible repeat (first | apply Kd.R_alloc | apply Kd.R_drewN | apply Kd.R_drew)); exact (Kd.R_mono (Kd.R_far (p := ⟨gb216, 1, none⟩) (Kd.R_far (p := ⟨gb216, 0, none⟩) (Kd.R_types HO213.out BK216.out (by decide)) (fun _ hk => hk.2) (.int .i64 t214)) (fun _ hk => hk.2) (.int .i64 t215)) (fun _ h_ => h_.1))) (Kd.R_base ho0) hb); have n1_ := Aside0.mk (Kd.R_lower (Kd.R_new' ho0 (Kd.R_lt (by (with_reducible repeat (first | apply Kd.R_alloc | apply Kd.R_drewN | apply Kd.R_drew)); exact (Kd.R_mono (Kd.R_far (p := ⟨gb216, 1, none⟩) (Kd.R_far (p := ⟨gb216, 0, none⟩) (Kd.R_types HO213.out BK216.out (by decide)) (fun _ hk => hk.2) (.int .i64 t214)) (fun _ hk => hk.2) (.int .i64 t215)) (fun _ h_ => h_.1))))) (below_size (by repeat (first | (with_reducible first | exact HB.out | apply below_alloc | apply pw_below_drewN | apply below_drew1 | refine below_set ?_ GE216.out) | exact HB.out)))); have n2_ := Aside0.mk (blk_below (g := gb216) (o := .cells #[.int .i64 t214, .int .i64 t215] 26 (0, 0)) (by (with_reducible repeat (first | refine blk_drewN ?_ _ | refine blk_drew ?_ | refine blk_alloc ?_ _)); refine blk_put (cs := #[.int .i64 t214, .int .i64 0]) ?_ 1 _ rfl; (with_reducible repeat (first | refine blk_drewN ?_ _ | refine blk_drew ?_ | refine blk_alloc ?_ _)); refine blk_put (cs := #[.int .i64 0, .int .i64 0]) ?_ 0 _ rfl; (with_reducible repeat (first | refine blk_drewN ?_ _ | refine blk_drew ?_ | refine blk_alloc ?_ _)); exact BK216.out) hb); have n3_ := Aside0.mk (below_step (by repeat (first | (with_reducible first | exact HB.out | apply below_alloc | apply pw_below_drewN | apply below_drew1 | refine below_set ?_ GE216.out) | exact HB.out)) hb); clear HO213; clear BK216; clear HB; have HO213 := n0_; have HO219 := n1_; have BK216 := n2_; have HB := n3_; clear n0_ n1_ n2_ n3_; (try clear hb); (try clear hb2); (try clear hk); (try clear hi); (try clear ho0)) | ((with_reducible refine gate_dst (N := 8) rfl ?_); (try (refine gate_guard (by rfl) ?_; dsimp only)); refine box_event ?hg (N := 8) ?hd (cs := #[.int .i64 0, .int .i64 0]) (t := 26) ?hr ?_; (case hd => rfl); (case hg => rfl); (case hr => first | (go_simp; done) | (go_simp; rfl)); intro gb222 hg w23 hbox hb; have n0_ := Aside0.mk (Kd.R_below (by (with_reducible repeat (first | apply Kd.R_alloc | apply Kd.R_drewN | apply Kd.R_drew)); exact HO213.out) hb); have n1_ := Aside0.mk (Kd.R_below (by (with_reducible repeat (first | apply Kd.R_alloc | apply Kd.R_drewN | apply Kd.R_drew)); exact HO219.out) hb); have n2_ := Aside0.mk (blk_below (g := gb216) (o := .cells #[.int .i64 t214, .int .i64 t215] 26 (0, 0)) (by (with_reducible repeat (first | refine blk_drewN ?_ _ | refine blk_drew ?_ | refine blk_alloc ?_ _)); exact BK216.out) hb); have n3_ := Aside0.mk (below_step (by repeat (first | (with_reducible first | exact HB.out | apply below_alloc | apply pw_below_drewN | apply below_drew1 | refine below_set ?_ GE216.out) | exact HB.out)) hb); have n4_ := Aside0.mk (hbox); have n5_ := Aside0.mk ((by rw [hg]; exact (below_size (by repeat (first | (with_reducible first | exact HB.out | apply below_alloc | apply pw_below_drewN | apply below_drew1 | refine below_set ?_ GE216.out) | exact HB.out))) : w.heap.size ≤ gb222)); have n6_ := Aside0.mk ((by rw [hg]; exact (below_size (by repeat (first | (with_reducible first | exact HB.out | apply below_alloc | apply pw_below_drewN | apply below_drew1 | refine below_set ?_ GE216.out) | exact HB.out))) : w.heap.size ≤ gb222)); have n7_ := Aside0.mk ((by rw [hg]; exact Nat.ne_of_lt (blk_lt (g := gb216) (o := .cells #[.int .i64 t214, .int .i64 t215] 26 (0, 0)) (by (with_reducible repeat (first | refine blk_drewN ?_ _ | refine blk_drew ?_ | refine blk_alloc ?_ _)); exact BK216.out)) : gb216 ≠ gb222)); have n8_ := Aside0.mk ((by rw [hg]; exact Nat.ne_of_gt (blk_lt (g := gb216) (o := .cells #[.int .i64 t214, .int .i64 t215] 26 (0, 0)) (by (with_reducible repeat (first | refine blk_drewN ?_ _ | refine blk_drew ?_ | refine blk_alloc ?_ _)); exact BK216.out)) : gb222 ≠ gb216)); clear HO213; clear HO219; clear BK216; clear HB; have HO213 := n0_; have HO219 := n1_; have BK216 := n2_; have HB := n3_; have BK222 := n4_; have GW222 := n5_; have GE222 := n6_; have NB216_222 := n7_; have NB222_216 := n8_; clear n0_ n1_ n2_ n3_ n4_ n5_ n6_ n7_ n8_; clear hb hbox hg; have hnb24 := NB222_216.out; have hnc24 := NB216_222.out; have hcz25_0 : w23.cell? ⟨gb222, 0, none⟩ = some (.int .i64 0) := (blk_cell BK222.out 0).trans rfl; have hcz25_1 : w23.cell? ⟨gb222, 1, none⟩ = some (.int .i64 0) := (blk_cell BK222.out 1).trans rfl; have hfz25_0 := blk_frozen BK222.out 0; have hfz25_1 := blk_frozen BK222.out 1; obtain ⟨Ao26, co26, eo26⟩ := Kd.R_slice HO213.out; subst eo26; obtain ⟨Ao27, co27, eo27⟩ := Kd.R_slice HO219.out; subst eo27) | ((with_reducible refine gate_callee (f := 11) rfl ?_); refine goesL_ (some 31) rfl rfl Try.func11 (by kernel_rfl) rfl #[.slice Ao26 t211.length co26, .slice Ao27 t217.length co27] rfl (by (try simp only [List.map_toArray, List.map_cons, List.map_nil]); first | done | rfl | (simp only [List.length_drop, List.length_take]; rfl)) ?_; (with_reducible refine (witheref6_SameTokens.calls kj4 _ _ t211 _ _ t217 true _ ?side1 ?side2 ?side3 ?side4 A11.out).mono ?_); (case side1 => refine (Kd.R_reads' (e := 37) (base := w.heap.size) (ok := fun k_ => (True ∧ some k_ ≠ (.slice Ao27 t217.length co27 : Value).ownBlock)) (n := t211.length) (c := co26) ?_).2.2; exact (by (with_reducible repeat (first | apply Kd.R_alloc | apply Kd.R_drewN | apply Kd.R_drew)); exact (Kd.R_mono (Kd.R_far (p := ⟨gb222, 1, none⟩) (Kd.R_far (p := ⟨gb222, 0, none⟩) (Kd.R_types HO213.out BK222.out (by decide)) (fun _ hk => hk.2) (.int .i64 t220)) (fun _ hk => hk.2) (.int .i64 t221)) (fun _ h_ => h_.1)))); (case side2 => exact (Kd.R_reads' HO213.out).2.1); (case side3 => refine (Kd.R_reads' (e := 37) (base := w.heap.size) (ok := fun k_ => (True ∧ some k_ ≠ (.slice Ao26 t211.length co26 : Value).ownBlock)) (n := t217.length) (c := co27) ?_).2.2; exact (by (with_reducible repeat (first | apply Kd.R_alloc | apply Kd.R_drewN | apply Kd.R_drew)); exact (Kd.R_mono (Kd.R_far (p := ⟨gb222, 1, none⟩) (Kd.R_far (p := ⟨gb222, 0, none⟩) (Kd.R_types HO219.out BK222.out (by decide)) (fun _ hk => hk.2) (.int .i64 t220)) (fun _ hk => hk.2) (.int .i64 t221)) (fun _ h_ => h_.1)))); (case side4 => exact (Kd.R_reads' HO219.out).2.1); rintro e w' ⟨rfl, ⟨nd, rfl⟩⟩; refine ⟨_, rfl, ?_⟩; have hcz28_0 : w23.cell? ⟨gb216, 0, none⟩ = some (.int .i64 t214) := (blk_cell BK216.out 0).trans rfl; have hcz28_1 : w23.cell? ⟨gb216, 1, none⟩ = some (.int .i64 t215) := (blk_cell BK216.out 1).trans rfl; have hfz28_0 := blk_frozen BK216.out 0; have hfz28_1 := blk_frozen BK216.out 1) | (go_at_call 12; (with_reducible refine (lex_Keyword.calls kj4 a1 t224 _ A14.out).mono ?_); rintro e w29 ⟨rfl, hb⟩; have n0_ := Aside0.mk (Kd.R_below (by (with_reducible repeat (first | apply Kd.R_alloc | apply Kd.R_drewN | apply Kd.R_drew)); exact (Kd.R_mono (Kd.R_far (p := ⟨gb222, 1, none⟩) (Kd.R_far (p := ⟨gb222, 0, none⟩) (Kd.R_types HO213.out BK222.out (by decide)) (fun _ hk => hk.2) (.int .i64 t220)) (fun _ hk => hk.2) (.int .i64 t221)) (fun _ h_ => h_.1))) hb); have n1_ := Aside0.mk (Kd.R_below (by (with_reducible repeat (first | apply Kd.R_alloc | apply Kd.R_drewN | apply Kd.R_drew)); exact (Kd.R_mono (Kd.R_far (p := ⟨gb222, 1, none⟩) (Kd.R_far (p := ⟨gb222, 0, none⟩) (Kd.R_types HO219.out BK222.out (by decide)) (fun _ hk => hk.2) (.int .i64 t220)) (fun _ hk => hk.2) (.int .i64 t221)) (fun _ h_ => h_.1))) hb); have n2_ := Aside0.mk (blk_below (g := gb216) (o := .cells #[.int .i64 t214, .int .i64 t215] 26 (0, 0)) (by (with_reducible repeat (first | refine blk_drewN ?_ _ | refine blk_drew ?_ | refine blk_alloc ?_ _)); refine blk_far ?_ NB216_222.out _; (with_reducible repeat (first | refine blk_drewN ?_ _ | refine blk_drew ?_ | refine blk_alloc ?_ _)); refine blk_far ?_ NB216_222.out _; (with_reducible repeat (first | refine blk_drewN ?_ _ | refine blk_drew ?_ | refine blk_alloc ?_ _)); exact BK216.out) hb); have n3_ := Aside0.mk (blk_below (g := gb222) (o := .cells #[.int .i64 t220, .int .i64 t221] 26 (0, 0)) (by (with_reducible repeat (first | refine blk_drewN ?_ _ | refine blk_drew ?_ | refine blk_alloc ?_ _)); refine blk_put (cs := #[.int .i64 t220, .int .i64 0]) ?_ 1 _ rfl; (with_reducible repeat (first | refine blk_drewN ?_ _ | refine blk_drew ?_ | refine blk_alloc ?_ _)); refine blk_put (cs := #[.int .i64 0, .int .i64 0]) ?_ 0 _ rfl; (with_reducible repeat (first | refine blk_drewN ?_ _ | refine blk_drew ?_ | refine blk_alloc ?_ _)); exact BK222.out) hb); have n4_ := Aside0.mk (below_step (by repeat (first | (with_reducible first | exact HB.out | apply below_alloc | apply pw_below_drewN | apply below_drew1 | refine below_set ?_ GE216.out | refine below_set ?_ GE222.out) | exact HB.out)) hb); clear HO213; clear HO219; clear BK216; clear BK222; clear HB; have HO213 := n0_; have HO219 := n1_; have BK216 := n2_; have BK222 := n3_; have HB := n4_; clear n0_ n1_ n2_ n3_ n4_; (try clear hb); (try clear hb2); (try clear hk); (try clear hi)) | (go_at_call 13; (with_reducible refine (witheref6_Keyword.calls kj4 a1 t225 _ A15.out).mono ?_); rintro e w30 ⟨rfl, hb⟩; have n0_ := Aside0.mk (Kd.R_below (by (with_reducible repeat (first | apply Kd.R_alloc | apply Kd.R_drewN | apply Kd.R_drew)); exact HO213.out) hb); have n1_ := Aside0.mk (Kd.R_below (by (with_reducible repeat (first | apply Kd.R_alloc | apply Kd.R_drewN | apply Kd.R_drew)); exact HO219.out) hb); have n2_ := Aside0.mk (blk_below (g := gb216) (o := .cells #[.int .i64 t214, .int .i64 t215] 26 (0, 0)) (by (with_reducible repeat (first | refine blk_drewN ?_ _ | refine blk_drew ?_ | refine blk_alloc ?_ _)); exact BK216.out) hb); have n3_ := Aside0.mk (blk_below (g := gb222) (o := .cells #[.int .i64 t220, .int .i64 t221] 26 (0, 0)) (by (with_reducible repeat (first | refine blk_drewN ?_ _ | refine blk_drew ?_ | refine blk_alloc ?_ _)); exact BK222.out) hb); have n4_ := Aside0.mk (below_step (by repeat (first | (with_reducible first | exact HB.out | apply below_alloc | apply pw_below_drewN | apply below_drew1 | refine below_set ?_ GE216.out | refine below_set ?_ GE222.out) | exact HB.out)) hb); clear HO213; clear HO219; clear BK216; clear BK222; clear HB; have HO213 := n0_; have HO219 := n1_; have BK216 := n2_; have BK222 := n3_; have HB := n4_; clear n0_ n1_ n2_ n3_ n4_; (try clear hb); (try clear hb2); (try clear hk); (try clear hi)) | (go_at_call 14; (with_reducible refine (lex_Name.calls kj4 a1 t226 _ A17.out).mono ?_); rintro e w31 ⟨rfl, hb⟩; have n0_ := Aside0.mk (Kd.R_below (by (with_reducible repeat (first | apply Kd.R_alloc | apply Kd.R_drewN | apply Kd.R_drew)); exact HO213.out) hb); have n1_ := Aside0.mk (Kd.R_below (by (with_reducible repeat (first | apply Kd.R_alloc | apply Kd.R_drewN | apply Kd.R_drew)); exact HO219.out) hb); have n2_ := Aside0.mk (blk_below (g := gb216) (o := .cells #[.int .i64 t214, .int .i64 t215] 26 (0, 0)) (by (with_reducible repeat (first | refine blk_drewN ?_ _ | refine blk_drew ?_ | refine blk_alloc ?_ _)); exact BK216.out) hb); have n3_ := Aside0.mk (blk_below (g := gb222) (o := .cells #[.int .i64 t220, .int .i64 t221] 26 (0, 0)) (by (with_reducible repeat (first | refine blk_drewN ?_ _ | refine blk_drew ?_ | refine blk_alloc ?_ _)); exact BK222.out) hb); have n4_ := Aside0.mk (below_step (by repeat (first | (with_reducible first | exact HB.out | apply below_alloc | apply pw_below_drewN | apply below_drew1 | refine below_set ?_ GE216.out | refine below_set ?_ GE222.out) | exact HB.out)) hb); clear HO213; clear HO219; clear BK216; clear BK222; clear HB; have HO213 := n0_; have HO219 := n1_; have BK216 := n2_; have BK222 := n3_; have HB := n4_; clear n0_ n1_ n2_ n3_ n4_; (try clear hb); (try clear hb2); (try clear hk); (try clear hi)) | (go_at_call 15; (with_reducible refine (witheref6_Name.calls kj4 a1 t227 _ A18.out).mono ?_); rintro e w32 ⟨rfl, hb⟩; have n0_ := Aside0.mk (Kd.R_below (by (with_reducible repeat (first | apply Kd.R_alloc | apply Kd.R_drewN | apply Kd.R_drew)); exact HO213.out) hb); have n1_ := Aside0.mk (Kd.R_below (by (with_reducible repeat (first | apply Kd.R_alloc | apply Kd.R_drewN | apply Kd.R_drew)); exact HO219.out) hb); have n2_ := Aside0.mk (blk_below (g := gb216) (o := .cells #[.int .i64 t214, .int .i64 t215] 26 (0, 0)) (by (with_reducible repeat (first | refine blk_drewN ?_ _ | refine blk_drew ?_ | refine blk_alloc ?_ _)); exact BK216.out) hb); have n3_ := Aside0.mk (blk_below (g := gb222) (o := .cells #[.int .i64 t220, .int .i64 t221] 26 (0, 0)) (by (with_reducible repeat (first | refine blk_drewN ?_ _ | refine blk_drew ?_ | refine blk_alloc ?_ _)); exact BK222.out) hb); have n4_ := Aside0.mk (below_step (by repeat (first | (with_reducible first | exact HB.out | apply below_alloc | apply pw_below_drewN | apply below_drew1 | refine below_set ?_ GE216.out | refine below_set ?_ GE222.out) | exact HB.out)) hb); clear HO213; clear HO219; clear BK216; clear BK222; clear HB; have HO213 := n0_; have HO219 := n1_; have BK216 := n2_; have BK222 := n3_; have HB := n4_; clear n0_ n1_ n2_ n3_ n4_; (try clear hb); (try clear hb2); (try clear hk); (try clear hi)))
                go_ret
                exact ⟨by first | rfl | (simp [errW_none, errW_some] <;> rfl) | (simp [*, errW_none, errW_some] <;> rfl), by repeat (first | (with_reducible first | exact HB.out | apply below_alloc | apply pw_below_drewN | apply below_drew1 | refine below_set ?_ GE216.out | refine below_set ?_ GE222.out) | exact HB.out)⟩
              · rw [if_neg c16] at H
                exact absurd H (by simp)
            · rw [if_neg c13] at H
              exact absurd H (by simp)
          · replace c12 := Bool.eq_false_iff.mpr c12
            subst c12
            have H1 : (none) = some r := by rw [if_neg (show ¬ (false = true) by decide)] at H; exact H
            clear H
            have H := H1
            clear H1
            exact absurd H (by simp)
  · replace c4 := Bool.eq_false_iff.mpr c4
    subst c4
    have H1 : (none) = some r := by rw [if_neg (show ¬ (false = true) by decide)] at H; exact H
    clear H
    have H := H1
    clear H1
    exact absurd H (by simp)

/-- THE ONE PURE STATEMENT of withelaw6_LexAll: yours. -/
def withelaw6_LexAll.Pure : Prop := ∀ (a0 : ByteArray) (a1 : ByteArray), a0.size ≤ 140737488351232 → a1.size ≤ 140737488351232 → ∃ k, withelaw6_LexAll.f k a0 a1 = some true
theorem withelaw6_LexAll.walk (P : withelaw6_LexAll.Pure) (a0 : ByteArray) (a1 : ByteArray) (w : World) (w0 : a0.size ≤ 140737488351232) (w1 : a1.size ≤ 140737488351232) :
    Calls Try.prog 3 #[.string a0, .string a1] w fun e w' => e = .returned (.bool true) ∧ Below w.heap.size w w' := by
  obtain ⟨k, h⟩ := P a0 a1 w0 w1
  refine (withelaw6_LexAll.calls k a0 a1 true w h).mono ?_
  rintro e w' ⟨rfl, hd⟩
  exact ⟨rfl, hd⟩

end Go.Proofs.Ytmifncmnchnioaa.PL
