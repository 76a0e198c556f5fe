-- made by fvprint.py over the kit's print
import Derived.Test.YtlpdcdkjmcpfdaaDoorPTx0
import Derived.Test.YtlpdcdkjmcpfdaaDoorPTx2
namespace Go.Proofs.YtlpdcdkjmcpfdaaDoor.PT
open Go.RowKit Go.Proofs.YtlpdcdkjmcpfdaaDoorW.PrintWords Go.Proofs.YtlpdcdkjmcpfdaaDoorW.PrintLast Go.Proofs.YtlpdcdkjmcpfdaaDoorW.PrintMore
attribute [local go_sem] max2_int min2_int max_two min_two max_three min_three max_four min_four   -- for this text's walks alone
set_option linter.unusedVariables false
set_option linter.unusedSimpArgs false

attribute [local go_sem] cell_set_some
/-! ### witheref9_head: function 72 -/
def witheref9_head.j0 : Nat → Bool → ByteArray → Int → List (S57) → List (List (S61)) → Int → Int → Int → ByteArray → Int → List (S35) → Option (Int)
  | 0, _, _, _, _, _, _, _, _, _, _, _ => none
  | k + 1, x8, x113000, x113001, x113002, x113003, x113004, x113005, x113006, x113007, x113008, x113009 => if x8 = true then (some 1) else (if (x113002.length : Int) > 4 then (some 3) else (if (x113003.length : Int) = 0 then (some 1) else (if (x113003.length : Int) > 4 then (some 3) else (some 0))))
def witheref9_head.f (k : Nat) (a0_0 : ByteArray) (a0_1 : Int) (l0_2 : List (S57)) (l0_3 : List (List (S61))) (a0_4 : Int) (a0_5 : Int) (a0_6 : Int) (a0_7 : ByteArray) (a0_8 : Int) (l0_9 : List (S35)) : Option (Int) := (witheref6_Name.f k a0_0).bind fun t113 => (if t113 = true then (if a0_1 < 2 then (witheref9_head.j0 k true a0_0 a0_1 l0_2 l0_3 a0_4 a0_5 a0_6 a0_7 a0_8 l0_9) else (witheref9_head.j0 k (decide (a0_1 > 4)) a0_0 a0_1 l0_2 l0_3 a0_4 a0_5 a0_6 a0_7 a0_8 l0_9)) else (some 4))
theorem witheref9_head.mono_l : ∀ k, (∀ y0 y1 y2 y3 y4 y5 y6 y7 y8 y9 y10, LeO (witheref9_head.j0 k y0 y1 y2 y3 y4 y5 y6 y7 y8 y9 y10) (witheref9_head.j0 (k + 1) y0 y1 y2 y3 y4 y5 y6 y7 y8 y9 y10))
  | 0 => fun _ _ _ _ _ _ _ _ _ _ _ r h => by simp [witheref9_head.j0] at h
  | k + 1 => by
    have ih0 := witheref9_head.mono_l k
    · intro y0 y1 y2 y3 y4 y5 y6 y7 y8 y9 y10
      unfold witheref9_head.j0
      repeat' first
      | (with_reducible exact ih0 _ _ _ _ _ _ _ _ _ _ _)
      | (with_reducible exact witheref6_Name.mono _ _)
      | (with_reducible exact LeO.refl _)
      | (with_reducible exact LeO.none _)
      | (with_reducible refine LeO.ite ?_ ?_)
      | (with_reducible refine LeO.bind ?_ (fun _ => ?_))
      | exact ih0 _ _ _ _ _ _ _ _ _ _ _
      | exact witheref6_Name.mono _ _
      | exact LeO.none _
      | refine LeO.ite ?_ ?_
      | refine LeO.bind ?_ (fun _ => ?_)
theorem witheref9_head.mono : ∀ a0 a1 a2 a3 a4 a5 a6 a7 a8 a9 k, LeO (witheref9_head.f k a0 a1 a2 a3 a4 a5 a6 a7 a8 a9) (witheref9_head.f (k + 1) a0 a1 a2 a3 a4 a5 a6 a7 a8 a9) := by
  intro a0 a1 a2 a3 a4 a5 a6 a7 a8 a9 k
  have ih0 := witheref9_head.mono_l k
  unfold witheref9_head.f
  repeat' first
      | (with_reducible exact ih0 _ _ _ _ _ _ _ _ _ _ _)
      | (with_reducible exact witheref6_Name.mono _ _)
      | (with_reducible exact LeO.refl _)
      | (with_reducible exact LeO.none _)
      | (with_reducible refine LeO.ite ?_ ?_)
      | (with_reducible refine LeO.bind ?_ (fun _ => ?_))
      | exact ih0 _ _ _ _ _ _ _ _ _ _ _
      | exact witheref6_Name.mono _ _
      | exact LeO.none _
      | refine LeO.ite ?_ ?_
      | refine LeO.bind ?_ (fun _ => ?_)
set_option maxHeartbeats 8000000 in
set_option maxRecDepth 100000 in
theorem witheref9_head.calls (k : Nat) (a0_0 : ByteArray) (a0_1 : Int) (A0_2 : Option Addr) (c0_2 : Nat) (l0_2 : List (S57)) (A0_3 : Option Addr) (c0_3 : Nat) (l0_3 : List (List (S61))) (a0_4 : Int) (a0_5 : Int) (a0_6 : Int) (a0_7 : ByteArray) (a0_8 : Int) (A0_9 : Option Addr) (c0_9 : Nat) (l0_9 : List (S35)) (r : Int) (w : World) (hr0_2 : Kd.C k57 w A0_2 l0_2.length l0_2) (hc0_2 : l0_2.length ≤ c0_2) (hr0_3 : Kd.C (Kd.slice 61 k61) w A0_3 l0_3.length l0_3) (hc0_3 : l0_3.length ≤ c0_3) (hr0_9 : Kd.C k35 w A0_9 l0_9.length l0_9) (hc0_9 : l0_9.length ≤ c0_9) (h : witheref9_head.f k a0_0 a0_1 l0_2 l0_3 a0_4 a0_5 a0_6 a0_7 a0_8 l0_9 = some r) :
    Calls Tryd.prog 72 #[.agg #[.string a0_0, .int .i64 a0_1, .slice A0_2 l0_2.length c0_2, .slice A0_3 l0_3.length c0_3, .int .i64 a0_4, .int .i64 a0_5, .int .i64 a0_6, .string a0_7, .int .i64 a0_8, .slice A0_9 l0_9.length c0_9]] w fun e w' => e = .returned (.int .i64 r) ∧ Below w.heap.size w w' := by
  have hu37 := Tryd.underlying37
  have HR0_2 := Aside0.mk hr0_2
  have HC0_2 := Aside0.mk hc0_2
  clear hr0_2 hc0_2
  have HR0_3 := Aside0.mk hr0_3
  have HC0_3 := Aside0.mk hc0_3
  clear hr0_3 hc0_3
  have HR0_9 := Aside0.mk hr0_9
  have HC0_9 := Aside0.mk hc0_9
  clear hr0_9 hc0_9
  have HB := Aside0.mk (Below.refl w.heap.size w)
  have H : ((witheref6_Name.f k a0_0).bind fun t113 => (if t113 = true then (if a0_1 < 2 then (witheref9_head.j0 k true a0_0 a0_1 l0_2 l0_3 a0_4 a0_5 a0_6 a0_7 a0_8 l0_9) else (witheref9_head.j0 k (decide (a0_1 > 4)) a0_0 a0_1 l0_2 l0_3 a0_4 a0_5 a0_6 a0_7 a0_8 l0_9)) else (some 4))) = some r := h
  clear h
  replace H := Option.bind_eq_some_iff.mp H
  obtain ⟨t113, A20, H⟩ := H
  replace H : (if t113 = true then (if a0_1 < 2 then (witheref9_head.j0 k true a0_0 a0_1 l0_2 l0_3 a0_4 a0_5 a0_6 a0_7 a0_8 l0_9) else (witheref9_head.j0 k (decide (a0_1 > 4)) a0_0 a0_1 l0_2 l0_3 a0_4 a0_5 a0_6 a0_7 a0_8 l0_9)) else (some 4)) = some r := H
  have A2 := Aside0.mk A20
  clear A20
  by_cases c3 : t113 = true
  · subst c3
    have H1 : (if a0_1 < 2 then (witheref9_head.j0 k true a0_0 a0_1 l0_2 l0_3 a0_4 a0_5 a0_6 a0_7 a0_8 l0_9) else (witheref9_head.j0 k (decide (a0_1 > 4)) a0_0 a0_1 l0_2 l0_3 a0_4 a0_5 a0_6 a0_7 a0_8 l0_9)) = some r := by rw [if_pos rfl] at H; exact H
    clear H
    have H := H1
    clear H1
    have HC4 := Aside0.mk H
    clear H
    go_enter Tryd.func72, Tryd.ntmps72
    go_upto_region 3 with (first | ((with_reducible refine gate_dst (N := 1) rfl ?_); refine box_event ?hg (N := 1) ?hd (cs := #[.string a0_0, .int .i64 a0_1, .slice A0_2 l0_2.length c0_2, .slice A0_3 l0_3.length c0_3, .int .i64 a0_4, .int .i64 a0_5, .int .i64 a0_6, .string a0_7, .int .i64 a0_8, .slice A0_9 l0_9.length c0_9]) (t := 37) ?hr ?_; (case hd => rfl); (case hg => rfl); (case hr => first | (go_simp; done) | (go_simp; rfl)); intro gb112 hg w5 hbox hb; have n0_ := Aside0.mk (below_step (by repeat (first | (with_reducible first | exact HB.out | apply below_alloc | apply pw_below_drewN | apply below_drew1) | exact HB.out)) hb); have n1_ := Aside0.mk (hbox); have n2_ := Aside0.mk ((by rw [hg]; exact (below_size (by repeat (first | (with_reducible first | exact HB.out | apply below_alloc | apply pw_below_drewN | apply below_drew1) | exact HB.out))) : w.heap.size ≤ gb112)); have n3_ := Aside0.mk ((by rw [hg]; exact (below_size (by repeat (first | (with_reducible first | exact HB.out | apply below_alloc | apply pw_below_drewN | apply below_drew1) | exact HB.out))) : w.heap.size ≤ gb112)); clear HB; have HB := n0_; have BK112 := n1_; have GW112 := n2_; have GE112 := n3_; clear n0_ n1_ n2_ n3_; clear hb hbox hg; have hcz6_0 : w5.cell? ⟨gb112, 0, none⟩ = some (.string a0_0) := (blk_cell BK112.out 0).trans rfl; have hcz6_1 : w5.cell? ⟨gb112, 1, none⟩ = some (.int .i64 a0_1) := (blk_cell BK112.out 1).trans rfl; have hcz6_2 : w5.cell? ⟨gb112, 2, none⟩ = some (.slice A0_2 l0_2.length c0_2) := (blk_cell BK112.out 2).trans rfl; have hcz6_3 : w5.cell? ⟨gb112, 3, none⟩ = some (.slice A0_3 l0_3.length c0_3) := (blk_cell BK112.out 3).trans rfl; have hcz6_4 : w5.cell? ⟨gb112, 4, none⟩ = some (.int .i64 a0_4) := (blk_cell BK112.out 4).trans rfl; have hcz6_5 : w5.cell? ⟨gb112, 5, none⟩ = some (.int .i64 a0_5) := (blk_cell BK112.out 5).trans rfl; have hcz6_6 : w5.cell? ⟨gb112, 6, none⟩ = some (.int .i64 a0_6) := (blk_cell BK112.out 6).trans rfl; have hcz6_7 : w5.cell? ⟨gb112, 7, none⟩ = some (.string a0_7) := (blk_cell BK112.out 7).trans rfl; have hcz6_8 : w5.cell? ⟨gb112, 8, none⟩ = some (.int .i64 a0_8) := (blk_cell BK112.out 8).trans rfl; have hcz6_9 : w5.cell? ⟨gb112, 9, none⟩ = some (.slice A0_9 l0_9.length c0_9) := (blk_cell BK112.out 9).trans rfl; have hfz6_0 := blk_frozen BK112.out 0; have hfz6_1 := blk_frozen BK112.out 1; have hfz6_2 := blk_frozen BK112.out 2; have hfz6_3 := blk_frozen BK112.out 3; have hfz6_4 := blk_frozen BK112.out 4; have hfz6_5 := blk_frozen BK112.out 5; have hfz6_6 := blk_frozen BK112.out 6; have hfz6_7 := blk_frozen BK112.out 7; have hfz6_8 := blk_frozen BK112.out 8; have hfz6_9 := blk_frozen BK112.out 9) | ((with_reducible refine gate_callee (f := 73) rfl ?_); refine goesL_ (some 6) rfl rfl Tryd.func73 (by kernel_rfl) rfl #[.string a0_0] rfl (by (try simp only [List.map_toArray, List.map_cons, List.map_nil]); first | done | rfl | (simp only [List.length_drop, List.length_take]; rfl)) ?_; (with_reducible refine (witheref6_Name.calls k a0_0 true _ A2.out).mono ?_); rintro e w7 ⟨rfl, hb⟩; refine ⟨_, rfl, ?_⟩; have n0_ := Aside0.mk (blk_below (g := gb112) (o := .cells #[.string a0_0, .int .i64 a0_1, .slice A0_2 l0_2.length c0_2, .slice A0_3 l0_3.length c0_3, .int .i64 a0_4, .int .i64 a0_5, .int .i64 a0_6, .string a0_7, .int .i64 a0_8, .slice A0_9 l0_9.length c0_9] 37 (0, 0)) (by (with_reducible repeat (first | refine blk_drewN ?_ _ | refine blk_drew ?_ | refine blk_alloc ?_ _)); exact BK112.out) hb); have n1_ := Aside0.mk (below_step (by repeat (first | (with_reducible first | exact HB.out | apply below_alloc | apply pw_below_drewN | apply below_drew1 | refine below_set ?_ GE112.out) | exact HB.out)) hb); clear BK112; clear HB; have BK112 := n0_; have HB := n1_; clear n0_ n1_; (try clear hb); (try clear hb2); (try clear hk); (try clear hi)))
    (try simp only [Act.put, List.setIfInBounds_toArray, List.set_cons_zero, List.set_cons_succ])
    go_cut [8] (fun v8 wc => ∃ (kq : Nat) (x8_3 : Bool), v8 = .bool x8_3 ∧ Aside0 (witheref9_head.j0 kq x8_3 a0_0 a0_1 l0_2 l0_3 a0_4 a0_5 a0_6 a0_7 a0_8 l0_9 = some r) ∧ Aside0 (kq ≤ k) ∧ Aside0 (wc.heap[gb112]? = some (.cells #[.string a0_0, .int .i64 a0_1, (.slice A0_2 l0_2.length c0_2), (.slice A0_3 l0_3.length c0_3), .int .i64 a0_4, .int .i64 a0_5, .int .i64 a0_6, .string a0_7, .int .i64 a0_8, (.slice A0_9 l0_9.length c0_9)] 37 (0, 0))) ∧ Aside0 (Below w.heap.size w wc))
    case first =>
      have H := HC4.out
      clear HC4
      by_cases c8 : a0_1 < 2
      · rw [if_pos c8] at H
        have c8b0 : decide (a0_1 < 2) = true := decide_eq_true c8
        clear c8
        (first | rw [c8b0] | (simp only [i64_w, i32_w]; rw [c8b0]) | skip)
        have H' := Aside0.mk H
        clear H
        have hcz9_0 : w7.cell? ⟨gb112, 0, none⟩ = some (.string a0_0) := (blk_cell BK112.out 0).trans rfl
        have hcz9_1 : w7.cell? ⟨gb112, 1, none⟩ = some (.int .i64 a0_1) := (blk_cell BK112.out 1).trans rfl
        have hcz9_2 : w7.cell? ⟨gb112, 2, none⟩ = some (.slice A0_2 l0_2.length c0_2) := (blk_cell BK112.out 2).trans rfl
        have hcz9_3 : w7.cell? ⟨gb112, 3, none⟩ = some (.slice A0_3 l0_3.length c0_3) := (blk_cell BK112.out 3).trans rfl
        have hcz9_4 : w7.cell? ⟨gb112, 4, none⟩ = some (.int .i64 a0_4) := (blk_cell BK112.out 4).trans rfl
        have hcz9_5 : w7.cell? ⟨gb112, 5, none⟩ = some (.int .i64 a0_5) := (blk_cell BK112.out 5).trans rfl
        have hcz9_6 : w7.cell? ⟨gb112, 6, none⟩ = some (.int .i64 a0_6) := (blk_cell BK112.out 6).trans rfl
        have hcz9_7 : w7.cell? ⟨gb112, 7, none⟩ = some (.string a0_7) := (blk_cell BK112.out 7).trans rfl
        have hcz9_8 : w7.cell? ⟨gb112, 8, none⟩ = some (.int .i64 a0_8) := (blk_cell BK112.out 8).trans rfl
        have hcz9_9 : w7.cell? ⟨gb112, 9, none⟩ = some (.slice A0_9 l0_9.length c0_9) := (blk_cell BK112.out 9).trans rfl
        have hfz9_0 := blk_frozen BK112.out 0
        have hfz9_1 := blk_frozen BK112.out 1
        have hfz9_2 := blk_frozen BK112.out 2
        have hfz9_3 := blk_frozen BK112.out 3
        have hfz9_4 := blk_frozen BK112.out 4
        have hfz9_5 := blk_frozen BK112.out 5
        have hfz9_6 := blk_frozen BK112.out 6
        have hfz9_7 := blk_frozen BK112.out 7
        have hfz9_8 := blk_frozen BK112.out 8
        have hfz9_9 := blk_frozen BK112.out 9
        go_wp2
        go_meet
        case rel => exact ⟨_, (true), (by first | rfl | (simp; done) | (simp [*]; done)), H', ⟨by first | omega | exact Nat.le_refl _⟩, ⟨by (with_reducible repeat (first | refine blk_drewN ?_ _ | refine blk_drew ?_ | refine blk_alloc ?_ _)); exact BK112.out⟩, ⟨by repeat (first | (with_reducible first | exact HB.out | apply below_alloc | apply pw_below_drewN | apply below_drew1 | refine below_set ?_ GE112.out) | exact HB.out)⟩⟩
      · rw [if_neg c8] at H
        have c8b0 : decide (a0_1 < 2) = false := decide_eq_false c8
        clear c8
        (first | rw [c8b0] | (simp only [i64_w, i32_w]; rw [c8b0]) | skip)
        have H' := Aside0.mk H
        clear H
        have hcz10_0 : w7.cell? ⟨gb112, 0, none⟩ = some (.string a0_0) := (blk_cell BK112.out 0).trans rfl
        have hcz10_1 : w7.cell? ⟨gb112, 1, none⟩ = some (.int .i64 a0_1) := (blk_cell BK112.out 1).trans rfl
        have hcz10_2 : w7.cell? ⟨gb112, 2, none⟩ = some (.slice A0_2 l0_2.length c0_2) := (blk_cell BK112.out 2).trans rfl
        have hcz10_3 : w7.cell? ⟨gb112, 3, none⟩ = some (.slice A0_3 l0_3.length c0_3) := (blk_cell BK112.out 3).trans rfl
        have hcz10_4 : w7.cell? ⟨gb112, 4, none⟩ = some (.int .i64 a0_4) := (blk_cell BK112.out 4).trans rfl
        have hcz10_5 : w7.cell? ⟨gb112, 5, none⟩ = some (.int .i64 a0_5) := (blk_cell BK112.out 5).trans rfl
        have hcz10_6 : w7.cell? ⟨gb112, 6, none⟩ = some (.int .i64 a0_6) := (blk_cell BK112.out 6).trans rfl
        have hcz10_7 : w7.cell? ⟨gb112, 7, none⟩ = some (.string a0_7) := (blk_cell BK112.out 7).trans rfl
        have hcz10_8 : w7.cell? ⟨gb112, 8, none⟩ = some (.int .i64 a0_8) := (blk_cell BK112.out 8).trans rfl
        have hcz10_9 : w7.cell? ⟨gb112, 9, none⟩ = some (.slice A0_9 l0_9.length c0_9) := (blk_cell BK112.out 9).trans rfl
        have hfz10_0 := blk_frozen BK112.out 0
        have hfz10_1 := blk_frozen BK112.out 1
        have hfz10_2 := blk_frozen BK112.out 2
        have hfz10_3 := blk_frozen BK112.out 3
        have hfz10_4 := blk_frozen BK112.out 4
        have hfz10_5 := blk_frozen BK112.out 5
        have hfz10_6 := blk_frozen BK112.out 6
        have hfz10_7 := blk_frozen BK112.out 7
        have hfz10_8 := blk_frozen BK112.out 8
        have hfz10_9 := blk_frozen BK112.out 9
        go_wp2
        go_meet
        case rel => exact ⟨_, (decide (a0_1 > 4)), (by first | rfl | (simp; done) | (simp [*]; done)), H', ⟨by first | omega | exact Nat.le_refl _⟩, ⟨by (with_reducible repeat (first | refine blk_drewN ?_ _ | refine blk_drew ?_ | refine blk_alloc ?_ _)); exact BK112.out⟩, ⟨by repeat (first | (with_reducible first | exact HB.out | apply below_alloc | apply pw_below_drewN | apply below_drew1 | refine below_set ?_ GE112.out) | exact HB.out)⟩⟩
    case rest =>
      clear HC4
      try clear p2
      try clear c3
      try clear c7
      try clear c8
      try clear c8b0
      try clear hcz10_0
      try clear hcz10_1
      try clear hcz10_2
      try clear hcz10_3
      try clear hcz10_4
      try clear hcz10_5
      try clear hcz10_6
      try clear hcz10_7
      try clear hcz10_8
      try clear hcz10_9
      try clear hcz6_0
      try clear hcz6_1
      try clear hcz6_2
      try clear hcz6_3
      try clear hcz6_4
      try clear hcz6_5
      try clear hcz6_6
      try clear hcz6_7
      try clear hcz6_8
      try clear hcz6_9
      try clear hcz9_0
      try clear hcz9_1
      try clear hcz9_2
      try clear hcz9_3
      try clear hcz9_4
      try clear hcz9_5
      try clear hcz9_6
      try clear hcz9_7
      try clear hcz9_8
      try clear hcz9_9
      try clear hfz10_0
      try clear hfz10_1
      try clear hfz10_2
      try clear hfz10_3
      try clear hfz10_4
      try clear hfz10_5
      try clear hfz10_6
      try clear hfz10_7
      try clear hfz10_8
      try clear hfz10_9
      try clear hfz6_0
      try clear hfz6_1
      try clear hfz6_2
      try clear hfz6_3
      try clear hfz6_4
      try clear hfz6_5
      try clear hfz6_6
      try clear hfz6_7
      try clear hfz6_8
      try clear hfz6_9
      try clear hfz9_0
      try clear hfz9_1
      try clear hfz9_2
      try clear hfz9_3
      try clear hfz9_4
      try clear hfz9_5
      try clear hfz9_6
      try clear hfz9_7
      try clear hfz9_8
      try clear hfz9_9
      obtain ⟨kq, x8_3, rfl, HA, HJ3, BK112, HB⟩ := hcut
      cases kq with
      | zero => exact absurd HA.out (by simp [witheref9_head.j0])
      | succ kj3 =>
        have H := HA.out
        clear HA
        simp only [witheref9_head.j0] at H
        by_cases c11 : x8_3 = true
        · subst c11
          have H1 : (some 1) = some r := by rw [if_pos rfl] at H; exact H
          clear H
          have H := H1
          clear H1
          obtain rfl := Option.some.inj H
          go_wp2
          go_ret
          exact ⟨by first | rfl | (simp [errW_none, errW_some] <;> rfl) | (simp [*, errW_none, errW_some] <;> rfl), by repeat (first | (with_reducible first | exact HB.out | apply below_alloc | apply pw_below_drewN | apply below_drew1 | refine below_set ?_ GE112.out) | exact HB.out)⟩
        · replace c11 := Bool.eq_false_iff.mpr c11
          subst c11
          have H1 : (if (l0_2.length : Int) > 4 then (some 3) else (if (l0_3.length : Int) = 0 then (some 1) else (if (l0_3.length : Int) > 4 then (some 3) else (some 0)))) = some r := by rw [if_neg (show ¬ (false = true) by decide)] at H; exact H
          clear H
          have H := H1
          clear H1
          by_cases c12 : (l0_2.length : Int) > 4
          · rw [if_pos c12] at H
            have c12b0 : decide (4 < (l0_2.length : Int)) = true := decide_eq_true c12
            have c12b1 : decide (4 < l0_2.length) = true := decide_eq_true (by omega)
            clear c12
            obtain rfl := Option.some.inj H
            have hcz13_0 : wc.cell? ⟨gb112, 0, none⟩ = some (.string a0_0) := (blk_cell BK112.out 0).trans rfl
            have hcz13_1 : wc.cell? ⟨gb112, 1, none⟩ = some (.int .i64 a0_1) := (blk_cell BK112.out 1).trans rfl
            have hcz13_2 : wc.cell? ⟨gb112, 2, none⟩ = some (.slice A0_2 l0_2.length c0_2) := (blk_cell BK112.out 2).trans rfl
            have hcz13_3 : wc.cell? ⟨gb112, 3, none⟩ = some (.slice A0_3 l0_3.length c0_3) := (blk_cell BK112.out 3).trans rfl
            have hcz13_4 : wc.cell? ⟨gb112, 4, none⟩ = some (.int .i64 a0_4) := (blk_cell BK112.out 4).trans rfl
            have hcz13_5 : wc.cell? ⟨gb112, 5, none⟩ = some (.int .i64 a0_5) := (blk_cell BK112.out 5).trans rfl
            have hcz13_6 : wc.cell? ⟨gb112, 6, none⟩ = some (.int .i64 a0_6) := (blk_cell BK112.out 6).trans rfl
            have hcz13_7 : wc.cell? ⟨gb112, 7, none⟩ = some (.string a0_7) := (blk_cell BK112.out 7).trans rfl
            have hcz13_8 : wc.cell? ⟨gb112, 8, none⟩ = some (.int .i64 a0_8) := (blk_cell BK112.out 8).trans rfl
            have hcz13_9 : wc.cell? ⟨gb112, 9, none⟩ = some (.slice A0_9 l0_9.length c0_9) := (blk_cell BK112.out 9).trans rfl
            have hfz13_0 := blk_frozen BK112.out 0
            have hfz13_1 := blk_frozen BK112.out 1
            have hfz13_2 := blk_frozen BK112.out 2
            have hfz13_3 := blk_frozen BK112.out 3
            have hfz13_4 := blk_frozen BK112.out 4
            have hfz13_5 := blk_frozen BK112.out 5
            have hfz13_6 := blk_frozen BK112.out 6
            have hfz13_7 := blk_frozen BK112.out 7
            have hfz13_8 := blk_frozen BK112.out 8
            have hfz13_9 := blk_frozen BK112.out 9
            go_wp2
            go_ret
            exact ⟨by first | rfl | (simp [errW_none, errW_some] <;> rfl) | (simp [*, errW_none, errW_some] <;> rfl), by repeat (first | (with_reducible first | exact HB.out | apply below_alloc | apply pw_below_drewN | apply below_drew1 | refine below_set ?_ GE112.out) | exact HB.out)⟩
          · rw [if_neg c12] at H
            have c12b0 : decide (4 < (l0_2.length : Int)) = false := decide_eq_false c12
            have c12b1 : decide (4 < l0_2.length) = false := decide_eq_false (by omega)
            clear c12
            by_cases c14 : (l0_3.length : Int) = 0
            · rw [if_pos c14] at H
              have c14b0 : ((l0_3.length : Int) == 0) = true := beq_iff_eq.mpr c14
              have c14b1 : ((l0_3.length : Int) != 0) = false := bne_eq_false_iff_eq.mpr c14
              clear c14
              obtain rfl := Option.some.inj H
              have hcz15_0 : wc.cell? ⟨gb112, 0, none⟩ = some (.string a0_0) := (blk_cell BK112.out 0).trans rfl
              have hcz15_1 : wc.cell? ⟨gb112, 1, none⟩ = some (.int .i64 a0_1) := (blk_cell BK112.out 1).trans rfl
              have hcz15_2 : wc.cell? ⟨gb112, 2, none⟩ = some (.slice A0_2 l0_2.length c0_2) := (blk_cell BK112.out 2).trans rfl
              have hcz15_3 : wc.cell? ⟨gb112, 3, none⟩ = some (.slice A0_3 l0_3.length c0_3) := (blk_cell BK112.out 3).trans rfl
              have hcz15_4 : wc.cell? ⟨gb112, 4, none⟩ = some (.int .i64 a0_4) := (blk_cell BK112.out 4).trans rfl
              have hcz15_5 : wc.cell? ⟨gb112, 5, none⟩ = some (.int .i64 a0_5) := (blk_cell BK112.out 5).trans rfl
              have hcz15_6 : wc.cell? ⟨gb112, 6, none⟩ = some (.int .i64 a0_6) := (blk_cell BK112.out 6).trans rfl
              have hcz15_7 : wc.cell? ⟨gb112, 7, none⟩ = some (.string a0_7) := (blk_cell BK112.out 7).trans rfl
              have hcz15_8 : wc.cell? ⟨gb112, 8, none⟩ = some (.int .i64 a0_8) := (blk_cell BK112.out 8).trans rfl
              have hcz15_9 : wc.cell? ⟨gb112, 9, none⟩ = some (.slice A0_9 l0_9.length c0_9) := (blk_cell BK112.out 9).trans rfl
              have hfz15_0 := blk_frozen BK112.out 0
              have hfz15_1 := blk_frozen BK112.out 1
              have hfz15_2 := blk_frozen BK112.out 2
              have hfz15_3 := blk_frozen BK112.out 3
              have hfz15_4 := blk_frozen BK112.out 4
              have hfz15_5 := blk_frozen BK112.out 5
              have hfz15_6 := blk_frozen BK112.out 6
              have hfz15_7 := blk_frozen BK112.out 7
              have hfz15_8 := blk_frozen BK112.out 8
              have hfz15_9 := blk_frozen BK112.out 9
              go_wp2
              go_ret
              exact ⟨by first | rfl | (simp [errW_none, errW_some] <;> rfl) | (simp [*, errW_none, errW_some] <;> rfl), by repeat (first | (with_reducible first | exact HB.out | apply below_alloc | apply pw_below_drewN | apply below_drew1 | refine below_set ?_ GE112.out) | exact HB.out)⟩
            · rw [if_neg c14] at H
              have c14b0 : ((l0_3.length : Int) == 0) = false := beq_eq_false_iff_ne.mpr c14
              have c14b1 : ((l0_3.length : Int) != 0) = true := bne_iff_ne.mpr c14
              have c14b2 : ¬ (l0_3 = []) := fun h_ => c14 (by rw [h_]; rfl)
              by_cases c16 : (l0_3.length : Int) > 4
              · rw [if_pos c16] at H
                have c16b0 : decide (4 < (l0_3.length : Int)) = true := decide_eq_true c16
                have c16b1 : decide (4 < l0_3.length) = true := decide_eq_true (by omega)
                clear c16
                obtain rfl := Option.some.inj H
                have hcz17_0 : wc.cell? ⟨gb112, 0, none⟩ = some (.string a0_0) := (blk_cell BK112.out 0).trans rfl
                have hcz17_1 : wc.cell? ⟨gb112, 1, none⟩ = some (.int .i64 a0_1) := (blk_cell BK112.out 1).trans rfl
                have hcz17_2 : wc.cell? ⟨gb112, 2, none⟩ = some (.slice A0_2 l0_2.length c0_2) := (blk_cell BK112.out 2).trans rfl
                have hcz17_3 : wc.cell? ⟨gb112, 3, none⟩ = some (.slice A0_3 l0_3.length c0_3) := (blk_cell BK112.out 3).trans rfl
                have hcz17_4 : wc.cell? ⟨gb112, 4, none⟩ = some (.int .i64 a0_4) := (blk_cell BK112.out 4).trans rfl
                have hcz17_5 : wc.cell? ⟨gb112, 5, none⟩ = some (.int .i64 a0_5) := (blk_cell BK112.out 5).trans rfl
                have hcz17_6 : wc.cell? ⟨gb112, 6, none⟩ = some (.int .i64 a0_6) := (blk_cell BK112.out 6).trans rfl
                have hcz17_7 : wc.cell? ⟨gb112, 7, none⟩ = some (.string a0_7) := (blk_cell BK112.out 7).trans rfl
                have hcz17_8 : wc.cell? ⟨gb112, 8, none⟩ = some (.int .i64 a0_8) := (blk_cell BK112.out 8).trans rfl
                have hcz17_9 : wc.cell? ⟨gb112, 9, none⟩ = some (.slice A0_9 l0_9.length c0_9) := (blk_cell BK112.out 9).trans rfl
                have hfz17_0 := blk_frozen BK112.out 0
                have hfz17_1 := blk_frozen BK112.out 1
                have hfz17_2 := blk_frozen BK112.out 2
                have hfz17_3 := blk_frozen BK112.out 3
                have hfz17_4 := blk_frozen BK112.out 4
                have hfz17_5 := blk_frozen BK112.out 5
                have hfz17_6 := blk_frozen BK112.out 6
                have hfz17_7 := blk_frozen BK112.out 7
                have hfz17_8 := blk_frozen BK112.out 8
                have hfz17_9 := blk_frozen BK112.out 9
                go_wp2
                go_ret
                exact ⟨by first | rfl | (simp [errW_none, errW_some] <;> rfl) | (simp [*, errW_none, errW_some] <;> rfl), by repeat (first | (with_reducible first | exact HB.out | apply below_alloc | apply pw_below_drewN | apply below_drew1 | refine below_set ?_ GE112.out) | exact HB.out)⟩
              · rw [if_neg c16] at H
                have c16b0 : decide (4 < (l0_3.length : Int)) = false := decide_eq_false c16
                have c16b1 : decide (4 < l0_3.length) = false := decide_eq_false (by omega)
                clear c16
                obtain rfl := Option.some.inj H
                have hcz18_0 : wc.cell? ⟨gb112, 0, none⟩ = some (.string a0_0) := (blk_cell BK112.out 0).trans rfl
                have hcz18_1 : wc.cell? ⟨gb112, 1, none⟩ = some (.int .i64 a0_1) := (blk_cell BK112.out 1).trans rfl
                have hcz18_2 : wc.cell? ⟨gb112, 2, none⟩ = some (.slice A0_2 l0_2.length c0_2) := (blk_cell BK112.out 2).trans rfl
                have hcz18_3 : wc.cell? ⟨gb112, 3, none⟩ = some (.slice A0_3 l0_3.length c0_3) := (blk_cell BK112.out 3).trans rfl
                have hcz18_4 : wc.cell? ⟨gb112, 4, none⟩ = some (.int .i64 a0_4) := (blk_cell BK112.out 4).trans rfl
                have hcz18_5 : wc.cell? ⟨gb112, 5, none⟩ = some (.int .i64 a0_5) := (blk_cell BK112.out 5).trans rfl
                have hcz18_6 : wc.cell? ⟨gb112, 6, none⟩ = some (.int .i64 a0_6) := (blk_cell BK112.out 6).trans rfl
                have hcz18_7 : wc.cell? ⟨gb112, 7, none⟩ = some (.string a0_7) := (blk_cell BK112.out 7).trans rfl
                have hcz18_8 : wc.cell? ⟨gb112, 8, none⟩ = some (.int .i64 a0_8) := (blk_cell BK112.out 8).trans rfl
                have hcz18_9 : wc.cell? ⟨gb112, 9, none⟩ = some (.slice A0_9 l0_9.length c0_9) := (blk_cell BK112.out 9).trans rfl
                have hfz18_0 := blk_frozen BK112.out 0
                have hfz18_1 := blk_frozen BK112.out 1
                have hfz18_2 := blk_frozen BK112.out 2
                have hfz18_3 := blk_frozen BK112.out 3
                have hfz18_4 := blk_frozen BK112.out 4
                have hfz18_5 := blk_frozen BK112.out 5
                have hfz18_6 := blk_frozen BK112.out 6
                have hfz18_7 := blk_frozen BK112.out 7
                have hfz18_8 := blk_frozen BK112.out 8
                have hfz18_9 := blk_frozen BK112.out 9
                go_wp2
                go_ret
                exact ⟨by first | rfl | (simp [errW_none, errW_some] <;> rfl) | (simp [*, errW_none, errW_some] <;> rfl), by repeat (first | (with_reducible first | exact HB.out | apply below_alloc | apply pw_below_drewN | apply below_drew1 | refine below_set ?_ GE112.out) | exact HB.out)⟩
  · replace c3 := Bool.eq_false_iff.mpr c3
    subst c3
    have H1 : (some 4) = some r := by rw [if_neg (show ¬ (false = true) by decide)] at H; exact H
    clear H
    have H := H1
    clear H1
    obtain rfl := Option.some.inj H
    go_enter Tryd.func72, Tryd.ntmps72
    go_wp2_with (first | ((with_reducible refine gate_dst (N := 1) rfl ?_); refine box_event ?hg (N := 1) ?hd (cs := #[.string a0_0, .int .i64 a0_1, .slice A0_2 l0_2.length c0_2, .slice A0_3 l0_3.length c0_3, .int .i64 a0_4, .int .i64 a0_5, .int .i64 a0_6, .string a0_7, .int .i64 a0_8, .slice A0_9 l0_9.length c0_9]) (t := 37) ?hr ?_; (case hd => rfl); (case hg => rfl); (case hr => first | (go_simp; done) | (go_simp; rfl)); intro gb112 hg w19 hbox hb; have n0_ := Aside0.mk (below_step (by repeat (first | (with_reducible first | exact HB.out | apply below_alloc | apply pw_below_drewN | apply below_drew1) | exact HB.out)) hb); have n1_ := Aside0.mk (hbox); have n2_ := Aside0.mk ((by rw [hg]; exact (below_size (by repeat (first | (with_reducible first | exact HB.out | apply below_alloc | apply pw_below_drewN | apply below_drew1) | exact HB.out))) : w.heap.size ≤ gb112)); have n3_ := Aside0.mk ((by rw [hg]; exact (below_size (by repeat (first | (with_reducible first | exact HB.out | apply below_alloc | apply pw_below_drewN | apply below_drew1) | exact HB.out))) : w.heap.size ≤ gb112)); clear HB; have HB := n0_; have BK112 := n1_; have GW112 := n2_; have GE112 := n3_; clear n0_ n1_ n2_ n3_; clear hb hbox hg; have hcz20_0 : w19.cell? ⟨gb112, 0, none⟩ = some (.string a0_0) := (blk_cell BK112.out 0).trans rfl; have hcz20_1 : w19.cell? ⟨gb112, 1, none⟩ = some (.int .i64 a0_1) := (blk_cell BK112.out 1).trans rfl; have hcz20_2 : w19.cell? ⟨gb112, 2, none⟩ = some (.slice A0_2 l0_2.length c0_2) := (blk_cell BK112.out 2).trans rfl; have hcz20_3 : w19.cell? ⟨gb112, 3, none⟩ = some (.slice A0_3 l0_3.length c0_3) := (blk_cell BK112.out 3).trans rfl; have hcz20_4 : w19.cell? ⟨gb112, 4, none⟩ = some (.int .i64 a0_4) := (blk_cell BK112.out 4).trans rfl; have hcz20_5 : w19.cell? ⟨gb112, 5, none⟩ = some (.int .i64 a0_5) := (blk_cell BK112.out 5).trans rfl; have hcz20_6 : w19.cell? ⟨gb112, 6, none⟩ = some (.int .i64 a0_6) := (blk_cell BK112.out 6).trans rfl; have hcz20_7 : w19.cell? ⟨gb112, 7, none⟩ = some (.string a0_7) := (blk_cell BK112.out 7).trans rfl; have hcz20_8 : w19.cell? ⟨gb112, 8, none⟩ = some (.int .i64 a0_8) := (blk_cell BK112.out 8).trans rfl; have hcz20_9 : w19.cell? ⟨gb112, 9, none⟩ = some (.slice A0_9 l0_9.length c0_9) := (blk_cell BK112.out 9).trans rfl; have hfz20_0 := blk_frozen BK112.out 0; have hfz20_1 := blk_frozen BK112.out 1; have hfz20_2 := blk_frozen BK112.out 2; have hfz20_3 := blk_frozen BK112.out 3; have hfz20_4 := blk_frozen BK112.out 4; have hfz20_5 := blk_frozen BK112.out 5; have hfz20_6 := blk_frozen BK112.out 6; have hfz20_7 := blk_frozen BK112.out 7; have hfz20_8 := blk_frozen BK112.out 8; have hfz20_9 := blk_frozen BK112.out 9) | ((with_reducible refine gate_callee (f := 73) rfl ?_); refine goesL_ (some 6) rfl rfl Tryd.func73 (by kernel_rfl) rfl #[.string a0_0] rfl (by (try simp only [List.map_toArray, List.map_cons, List.map_nil]); first | done | rfl | (simp only [List.length_drop, List.length_take]; rfl)) ?_; (with_reducible refine (witheref6_Name.calls k a0_0 false _ A2.out).mono ?_); rintro e w21 ⟨rfl, hb⟩; refine ⟨_, rfl, ?_⟩; have n0_ := Aside0.mk (blk_below (g := gb112) (o := .cells #[.string a0_0, .int .i64 a0_1, .slice A0_2 l0_2.length c0_2, .slice A0_3 l0_3.length c0_3, .int .i64 a0_4, .int .i64 a0_5, .int .i64 a0_6, .string a0_7, .int .i64 a0_8, .slice A0_9 l0_9.length c0_9] 37 (0, 0)) (by (with_reducible repeat (first | refine blk_drewN ?_ _ | refine blk_drew ?_ | refine blk_alloc ?_ _)); exact BK112.out) hb); have n1_ := Aside0.mk (below_step (by repeat (first | (with_reducible first | exact HB.out | apply below_alloc | apply pw_below_drewN | apply below_drew1 | refine below_set ?_ GE112.out) | exact HB.out)) hb); clear BK112; clear HB; have BK112 := n0_; have HB := n1_; clear n0_ n1_; (try clear hb); (try clear hb2); (try clear hk); (try clear hi)))
    go_ret
    exact ⟨by first | rfl | (simp [errW_none, errW_some] <;> rfl) | (simp [*, errW_none, errW_some] <;> rfl), by repeat (first | (with_reducible first | exact HB.out | apply below_alloc | apply pw_below_drewN | apply below_drew1 | refine below_set ?_ GE112.out) | exact HB.out)⟩

end Go.Proofs.YtlpdcdkjmcpfdaaDoor.PT
