-- made by fvprint.py over the kit's print
import Derived.Test.YtbgcmbnnkigjjaaDoorPPx0
namespace Go.Proofs.YtbgcmbnnkigjjaaDoor.PP
open Go.RowKit Go.Proofs.YtbgcmbnnkigjjaaDoorW.PrintWords Go.Proofs.YtbgcmbnnkigjjaaDoorW.PrintLast Go.Proofs.YtbgcmbnnkigjjaaDoorW.PrintMore
attribute [local go_sem] max2_int min2_int max_two min_two max_three min_three max_four min_four   -- for this text's walks alone
set_option linter.unusedVariables false
set_option linter.unusedSimpArgs false

attribute [local go_sem] cell_set_some
/-! ### withelaw11_light: function 9 -/
mutual
def withelaw11_light.j0 : Nat → Bool → List (List Int) → List Int → Option (Bool)
  | 0, _, _, _ => none
  | k + 1, x13, x209000, x209001 => if x13 = true then (some false) else (withelaw11_light.l0 k 0 x209000 x209001)
def withelaw11_light.l0 : Nat → Int → List (List Int) → List Int → Option (Bool)
  | 0, _, _, _ => none
  | k + 1, x3, x209000, x209001 => if x3 < (x209000.length : Int) then (if 0 ≤ x3 then (if ((rd_L3 x209000 x3).length : Int) > 8 then (some false) else (withelaw11_light.l0 k (wrap64 (x3 + 1)) x209000 x209001)) else (none)) else (some true)
end
def withelaw11_light.f (k : Nat) (l0_0 : List (List Int)) (l0_1 : List Int) : Option (Bool) := if (l0_0.length : Int) > 6 then (withelaw11_light.j0 k true l0_0 l0_1) else (withelaw11_light.j0 k (decide ((l0_1.length : Int) > 8)) l0_0 l0_1)
theorem withelaw11_light.mono_l : ∀ k, (∀ y0 y1 y2, LeO (withelaw11_light.j0 k y0 y1 y2) (withelaw11_light.j0 (k + 1) y0 y1 y2)) ∧ (∀ y0 y1 y2, LeO (withelaw11_light.l0 k y0 y1 y2) (withelaw11_light.l0 (k + 1) y0 y1 y2))
  | 0 => ⟨fun _ _ _ r h => by simp [withelaw11_light.j0] at h, fun _ _ _ r h => by simp [withelaw11_light.l0] at h⟩
  | k + 1 => by
    obtain ⟨ih0, ih1⟩ := withelaw11_light.mono_l k
    refine ⟨?_, ?_⟩
    · intro y0 y1 y2
      unfold withelaw11_light.j0
      repeat' first
      | (with_reducible exact ih0 _ _ _)
      | (with_reducible exact ih1 _ _ _)
      | (with_reducible exact LeO.refl _)
      | (with_reducible exact LeO.none _)
      | (with_reducible refine LeO.ite ?_ ?_)
      | (with_reducible refine LeO.bind ?_ (fun _ => ?_))
      | exact ih0 _ _ _
      | exact ih1 _ _ _
      | exact LeO.none _
      | refine LeO.ite ?_ ?_
      | refine LeO.bind ?_ (fun _ => ?_)
    · intro y0 y1 y2
      unfold withelaw11_light.l0
      repeat' first
      | (with_reducible exact ih0 _ _ _)
      | (with_reducible exact ih1 _ _ _)
      | (with_reducible exact LeO.refl _)
      | (with_reducible exact LeO.none _)
      | (with_reducible refine LeO.ite ?_ ?_)
      | (with_reducible refine LeO.bind ?_ (fun _ => ?_))
      | exact ih0 _ _ _
      | exact ih1 _ _ _
      | exact LeO.none _
      | refine LeO.ite ?_ ?_
      | refine LeO.bind ?_ (fun _ => ?_)
theorem withelaw11_light.mono : ∀ a0 a1 k, LeO (withelaw11_light.f k a0 a1) (withelaw11_light.f (k + 1) a0 a1) := by
  intro a0 a1 k
  obtain ⟨ih0, ih1⟩ := withelaw11_light.mono_l k
  unfold withelaw11_light.f
  repeat' first
      | (with_reducible exact ih0 _ _ _)
      | (with_reducible exact ih1 _ _ _)
      | (with_reducible exact LeO.refl _)
      | (with_reducible exact LeO.none _)
      | (with_reducible refine LeO.ite ?_ ?_)
      | (with_reducible refine LeO.bind ?_ (fun _ => ?_))
      | exact ih0 _ _ _
      | exact ih1 _ _ _
      | exact LeO.none _
      | refine LeO.ite ?_ ?_
      | refine LeO.bind ?_ (fun _ => ?_)
set_option maxHeartbeats 8000000 in
set_option maxRecDepth 100000 in
theorem withelaw11_light.calls (k : Nat) (A0_0 : Option Addr) (c0_0 : Nat) (l0_0 : List (List Int)) (A0_1 : Option Addr) (c0_1 : Nat) (l0_1 : List Int) (r : Bool) (w : World) (hr0_0 : Kd.C (Kd.slice 3 (Kd.int .i64)) w A0_0 l0_0.length l0_0) (hc0_0 : l0_0.length ≤ c0_0) (hr0_1 : Kd.C (Kd.int .i64) w A0_1 l0_1.length l0_1) (hc0_1 : l0_1.length ≤ c0_1) (h : withelaw11_light.f k l0_0 l0_1 = some r) :
    Calls Tryd.prog 9 #[.agg #[.slice A0_0 l0_0.length c0_0, .slice A0_1 l0_1.length c0_1]] w fun e w' => e = .returned (.bool r) ∧ Below w.heap.size w w' := by
  have hu30 := Tryd.underlying30
  have HR0_0 := Aside0.mk hr0_0
  have HC0_0 := Aside0.mk hc0_0
  clear hr0_0 hc0_0
  have HR0_1 := Aside0.mk hr0_1
  have HC0_1 := Aside0.mk hc0_1
  clear hr0_1 hc0_1
  have HB := Aside0.mk (Below.refl w.heap.size w)
  have H : (if (l0_0.length : Int) > 6 then (withelaw11_light.j0 k true l0_0 l0_1) else (withelaw11_light.j0 k (decide ((l0_1.length : Int) > 8)) l0_0 l0_1)) = some r := h
  clear h
  have HC2 := Aside0.mk H
  clear H
  go_enter Tryd.func9, Tryd.ntmps9
  go_upto_region 1 with (first | ((with_reducible refine gate_dst (N := 1) rfl ?_); (try (refine gate_guard (by rfl) ?_; dsimp only)); refine box_event ?hg (N := 1) ?hd (cs := #[.slice A0_0 l0_0.length c0_0, .slice A0_1 l0_1.length c0_1]) (t := 30) ?hr ?_; (case hd => rfl); (case hg => rfl); (case hr => first | (go_simp; done) | (go_simp; rfl)); intro gb208 hg w3 hbox hb; have n0_ := Aside0.mk (below_step (by repeat (first | (with_reducible first | exact HB.out | apply below_alloc | apply pw_below_drewN | apply below_drew1) | exact HB.out)) hb); have n1_ := Aside0.mk (hbox); have n2_ := Aside0.mk ((by rw [hg]; exact (below_size (by repeat (first | (with_reducible first | exact HB.out | apply below_alloc | apply pw_below_drewN | apply below_drew1) | exact HB.out))) : w.heap.size ≤ gb208)); have n3_ := Aside0.mk ((by rw [hg]; exact (below_size (by repeat (first | (with_reducible first | exact HB.out | apply below_alloc | apply pw_below_drewN | apply below_drew1) | exact HB.out))) : w.heap.size ≤ gb208)); clear HB; have HB := n0_; have BK208 := n1_; have GW208 := n2_; have GE208 := n3_; clear n0_ n1_ n2_ n3_; clear hb hbox hg))
  (try simp only [Act.put, List.setIfInBounds_toArray, List.set_cons_zero, List.set_cons_succ])
  go_cut [13] (fun v13 wc => ∃ (kq : Nat) (x13_1 : Bool), v13 = .bool x13_1 ∧ Aside0 (withelaw11_light.j0 kq x13_1 l0_0 l0_1 = some r) ∧ Aside0 (kq ≤ k) ∧ Aside0 (wc.heap[gb208]? = some (.cells #[(.slice A0_0 l0_0.length c0_0), (.slice A0_1 l0_1.length c0_1)] 30 (0, 0))) ∧ Aside0 (Below w.heap.size w wc))
  case first =>
    have H := HC2.out
    clear HC2
    by_cases c4 : (l0_0.length : Int) > 6
    · rw [if_pos c4] at H
      have c4b0 : decide (6 < (l0_0.length : Int)) = true := decide_eq_true c4
      have c4b1 : decide (6 < l0_0.length) = true := decide_eq_true (by omega)
      clear c4
      (first | rw [c4b0] | (simp only [i64_w, i32_w]; rw [c4b0]) | skip)
      have H' := Aside0.mk H
      clear H
      have hcz5_0 : w3.cell? ⟨gb208, 0, none⟩ = some (.slice A0_0 l0_0.length c0_0) := (blk_cell BK208.out 0).trans rfl
      have hcz5_1 : w3.cell? ⟨gb208, 1, none⟩ = some (.slice A0_1 l0_1.length c0_1) := (blk_cell BK208.out 1).trans rfl
      have hfz5_0 := blk_frozen BK208.out 0
      have hfz5_1 := blk_frozen BK208.out 1
      go_wp2
      go_meet
      case rel => exact ⟨_, (true), (by first | rfl | (simp; done) | (simp [*]; done)), H', ⟨by first | omega | exact Nat.le_refl _⟩, ⟨by (with_reducible repeat (first | refine blk_drewN ?_ _ | refine blk_drew ?_ | refine blk_alloc ?_ _)); exact BK208.out⟩, ⟨by repeat (first | (with_reducible first | exact HB.out | apply below_alloc | apply pw_below_drewN | apply below_drew1 | refine below_set ?_ GE208.out) | exact HB.out)⟩⟩
    · rw [if_neg c4] at H
      have c4b0 : decide (6 < (l0_0.length : Int)) = false := decide_eq_false c4
      have c4b1 : decide (6 < l0_0.length) = false := decide_eq_false (by omega)
      clear c4
      (first | rw [c4b0] | (simp only [i64_w, i32_w]; rw [c4b0]) | skip)
      have H' := Aside0.mk H
      clear H
      have hcz6_0 : w3.cell? ⟨gb208, 0, none⟩ = some (.slice A0_0 l0_0.length c0_0) := (blk_cell BK208.out 0).trans rfl
      have hcz6_1 : w3.cell? ⟨gb208, 1, none⟩ = some (.slice A0_1 l0_1.length c0_1) := (blk_cell BK208.out 1).trans rfl
      have hfz6_0 := blk_frozen BK208.out 0
      have hfz6_1 := blk_frozen BK208.out 1
      go_wp2
      go_meet
      case rel => exact ⟨_, (decide ((l0_1.length : Int) > 8)), (by first | rfl | (simp; done) | (simp [*]; done)), H', ⟨by first | omega | exact Nat.le_refl _⟩, ⟨by (with_reducible repeat (first | refine blk_drewN ?_ _ | refine blk_drew ?_ | refine blk_alloc ?_ _)); exact BK208.out⟩, ⟨by repeat (first | (with_reducible first | exact HB.out | apply below_alloc | apply pw_below_drewN | apply below_drew1 | refine below_set ?_ GE208.out) | exact HB.out)⟩⟩
  case rest =>
    clear HC2
    try clear p2
    try clear c4
    try clear c4b0
    try clear c4b1
    try clear hcz5_0
    try clear hcz5_1
    try clear hcz6_0
    try clear hcz6_1
    try clear hfz5_0
    try clear hfz5_1
    try clear hfz6_0
    try clear hfz6_1
    obtain ⟨kq, x13_1, rfl, HA, HJ1, BK208, HB⟩ := hcut
    cases kq with
    | zero => exact absurd HA.out (by simp [withelaw11_light.j0])
    | succ kj1 =>
      have H := HA.out
      clear HA
      simp only [withelaw11_light.j0] at H
      by_cases c7 : x13_1 = true
      · subst c7
        have H1 : (some false) = some r := by rw [if_pos rfl] at H; exact H
        clear H
        have H := H1
        clear H1
        obtain rfl := Option.some.inj H
        go_wp2
        go_ret
        exact ⟨by first | rfl | (simp [errW_none, errW_some] <;> rfl) | (simp [*, errW_none, errW_some] <;> rfl), by repeat (first | (with_reducible first | exact HB.out | apply below_alloc | apply pw_below_drewN | apply below_drew1 | refine below_set ?_ GE208.out) | exact HB.out)⟩
      · replace c7 := Bool.eq_false_iff.mpr c7
        subst c7
        have H1 : (withelaw11_light.l0 kj1 0 l0_0 l0_1) = some r := by rw [if_neg (show ¬ (false = true) by decide)] at H; exact H
        clear H
        have H := H1
        clear H1
        have H' := Aside0.mk H
        clear H
        go_wp2
        try go_simp
        go_loopg [3] kj1 (fun kq v3 w' => ∃ (x3_2 : Int), v3 = .int .i64 x3_2 ∧ Aside0 (withelaw11_light.l0 kq x3_2 l0_0 l0_1 = some r) ∧ Aside0 (kq ≤ kj1) ∧ Aside0 (w'.heap[gb208]? = some (.cells #[(.slice A0_0 l0_0.length c0_0), (.slice A0_1 l0_1.length c0_1)] 30 (0, 0))) ∧ Aside0 (Below w.heap.size w w'))
        case atStart => exact ⟨(0), (by first | rfl | (simp; done) | (simp [*]; done)), H', ⟨Nat.le_refl _⟩, ⟨by (with_reducible repeat (first | refine blk_drewN ?_ _ | refine blk_drew ?_ | refine blk_alloc ?_ _)); exact BK208.out⟩, ⟨by repeat (first | (with_reducible first | exact HB.out | apply below_alloc | apply pw_below_drewN | apply below_drew1 | refine below_set ?_ GE208.out) | exact HB.out)⟩⟩
        case round =>
          clear H'
          try clear p2
          try clear c4
          try clear c4b0
          try clear c4b1
          try clear c7
          try clear hcz5_0
          try clear hcz5_1
          try clear hcz6_0
          try clear hcz6_1
          try clear hfz5_0
          try clear hfz5_1
          try clear hfz6_0
          try clear hfz6_1
          try clear p2
          obtain ⟨x3_2, rfl, HA, HK2, BK208, HB⟩ := hrel
          cases gk with
          | zero => exact absurd HA.out (by simp [withelaw11_light.l0])
          | succ k2 =>
            have H := HA.out
            clear HA
            simp only [withelaw11_light.l0] at H
            by_cases c8 : x3_2 < (l0_0.length : Int)
            · rw [if_pos c8] at H
              have c8b0 : decide (x3_2 < (l0_0.length : Int)) = true := decide_eq_true c8
              clear c8
              by_cases c9 : 0 ≤ x3_2
              · rw [if_pos c9] at H
                have c9b0 : decide (0 ≤ x3_2) = true := decide_eq_true c9
                clear c9
                by_cases c10 : ((rd_L3 l0_0 x3_2).length : Int) > 8
                · rw [if_pos c10] at H
                  have c10b0 : decide (8 < ((rd_L3 l0_0 x3_2).length : Int)) = true := decide_eq_true c10
                  have c10b1 : decide (8 < (rd_L3 l0_0 x3_2).length) = true := decide_eq_true (by omega)
                  clear c10
                  obtain rfl := Option.some.inj H
                  have hcz11_0 : wr.cell? ⟨gb208, 0, none⟩ = some (.slice A0_0 l0_0.length c0_0) := (blk_cell BK208.out 0).trans rfl
                  have hcz11_1 : wr.cell? ⟨gb208, 1, none⟩ = some (.slice A0_1 l0_1.length c0_1) := (blk_cell BK208.out 1).trans rfl
                  have hfz11_0 := blk_frozen BK208.out 0
                  have hfz11_1 := blk_frozen BK208.out 1
                  have p209 : 0 ≤ (x3_2 : Int) := of_decide_eq_true (by first | (with_reducible assumption) | assumption)
                  have q209 : x3_2 < (l0_0.length : Int) := of_decide_eq_true (by first | (with_reducible assumption) | assumption)
                  obtain ⟨ad209, A209_0, c209_0, e209, hx209_0, hl209_0, hi209_0⟩ := at_L3 HR0_0.out x3_2 p209 q209
                  cases e209
                  replace hx209_0 := (HB.out.cell (World.block_lt_of_cell? w _ hx209_0)).trans hx209_0
                  have HR209_0 := Aside0.mk hi209_0
                  have HC209_0 := Aside0.mk hl209_0
                  clear hi209_0 hl209_0
                  replace p209 := eq_true p209
                  replace q209 := eq_true q209
                  go_wp2
                  go_ret
                  exact ⟨by first | rfl | (simp [errW_none, errW_some] <;> rfl) | (simp [*, errW_none, errW_some] <;> rfl), by repeat (first | (with_reducible first | exact HB.out | apply below_alloc | apply pw_below_drewN | apply below_drew1 | refine below_set ?_ GE208.out) | exact HB.out)⟩
                · rw [if_neg c10] at H
                  have c10b0 : decide (8 < ((rd_L3 l0_0 x3_2).length : Int)) = false := decide_eq_false c10
                  have c10b1 : decide (8 < (rd_L3 l0_0 x3_2).length) = false := decide_eq_false (by omega)
                  clear c10
                  have H' := Aside0.mk H
                  clear H
                  have hcz12_0 : wr.cell? ⟨gb208, 0, none⟩ = some (.slice A0_0 l0_0.length c0_0) := (blk_cell BK208.out 0).trans rfl
                  have hcz12_1 : wr.cell? ⟨gb208, 1, none⟩ = some (.slice A0_1 l0_1.length c0_1) := (blk_cell BK208.out 1).trans rfl
                  have hfz12_0 := blk_frozen BK208.out 0
                  have hfz12_1 := blk_frozen BK208.out 1
                  have p209 : 0 ≤ (x3_2 : Int) := of_decide_eq_true (by first | (with_reducible assumption) | assumption)
                  have q209 : x3_2 < (l0_0.length : Int) := of_decide_eq_true (by first | (with_reducible assumption) | assumption)
                  obtain ⟨ad209, A209_0, c209_0, e209, hx209_0, hl209_0, hi209_0⟩ := at_L3 HR0_0.out x3_2 p209 q209
                  cases e209
                  replace hx209_0 := (HB.out.cell (World.block_lt_of_cell? w _ hx209_0)).trans hx209_0
                  have HR209_0 := Aside0.mk hi209_0
                  have HC209_0 := Aside0.mk hl209_0
                  clear hi209_0 hl209_0
                  replace p209 := eq_true p209
                  replace q209 := eq_true q209
                  go_wp2
                  go_roundg k2
                  case measure => have := HJ1.out; have := HK2.out; omega
                  case rel => exact ⟨(wrap64 (x3_2 + 1)), (by first | rfl | (simp; done) | (simp [*]; done)), H', ⟨by have := HJ1.out; have := HK2.out; omega⟩, ⟨by (with_reducible repeat (first | refine blk_drewN ?_ _ | refine blk_drew ?_ | refine blk_alloc ?_ _)); exact BK208.out⟩, ⟨by repeat (first | (with_reducible first | exact HB.out | apply below_alloc | apply pw_below_drewN | apply below_drew1 | refine below_set ?_ GE208.out) | exact HB.out)⟩⟩
              · rw [if_neg c9] at H
                exact absurd H (by simp)
            · rw [if_neg c8] at H
              have c8b0 : decide (x3_2 < (l0_0.length : Int)) = false := decide_eq_false c8
              clear c8
              obtain rfl := Option.some.inj H
              have hcz13_0 : wr.cell? ⟨gb208, 0, none⟩ = some (.slice A0_0 l0_0.length c0_0) := (blk_cell BK208.out 0).trans rfl
              have hcz13_1 : wr.cell? ⟨gb208, 1, none⟩ = some (.slice A0_1 l0_1.length c0_1) := (blk_cell BK208.out 1).trans rfl
              have hfz13_0 := blk_frozen BK208.out 0
              have hfz13_1 := blk_frozen BK208.out 1
              go_wp2
              go_ret
              exact ⟨by first | rfl | (simp [errW_none, errW_some] <;> rfl) | (simp [*, errW_none, errW_some] <;> rfl), by repeat (first | (with_reducible first | exact HB.out | apply below_alloc | apply pw_below_drewN | apply below_drew1 | refine below_set ?_ GE208.out) | exact HB.out)⟩

/-! ### witheref9_condDeep: function 21 -/
mutual
def witheref9_condDeep.l0 : Nat → Int → Int → Int → Int → ByteArray → Int → List (S24) → Option (Int)
  | 0, _, _, _, _, _, _, _ => none
  | k + 1, x3, x4, x211000, x211001, x211002, x211003, x211004 => if x4 < (x211004.length : Int) then (if 0 ≤ x4 then ((witheref9_condDeep.f k ((rd_T24 x211004 x4).f0) ((rd_T24 x211004 x4).f1) ((rd_T24 x211004 x4).f2) ((rd_T24 x211004 x4).f3) ((rd_T24 x211004 x4).f4)).bind fun t212 => (if t212 > x3 then (witheref9_condDeep.l0 k t212 (wrap64 (x4 + 1)) x211000 x211001 x211002 x211003 x211004) else (witheref9_condDeep.l0 k x3 (wrap64 (x4 + 1)) x211000 x211001 x211002 x211003 x211004))) else (none)) else (some (wrap64 (x3 + 1)))
def witheref9_condDeep.f : Nat → Int → Int → ByteArray → Int → List (S24) → Option (Int)
  | 0, _, _, _, _, _ => none
  | k + 1, a0_0, a0_1, a0_2, a0_3, l0_4 => witheref9_condDeep.l0 k 0 0 a0_0 a0_1 a0_2 a0_3 l0_4
end
theorem witheref9_condDeep.mono_l : ∀ k, (∀ y0 y1 y2 y3 y4, LeO (witheref9_condDeep.f k y0 y1 y2 y3 y4) (witheref9_condDeep.f (k + 1) y0 y1 y2 y3 y4)) ∧ (∀ y0 y1 y2 y3 y4 y5 y6, LeO (witheref9_condDeep.l0 k y0 y1 y2 y3 y4 y5 y6) (witheref9_condDeep.l0 (k + 1) y0 y1 y2 y3 y4 y5 y6))
  | 0 => ⟨fun _ _ _ _ _ r h => by simp [witheref9_condDeep.f] at h, fun _ _ _ _ _ _ _ r h => by simp [witheref9_condDeep.l0] at h⟩
  | k + 1 => by
    obtain ⟨ih0, ih1⟩ := witheref9_condDeep.mono_l k
    refine ⟨?_, ?_⟩
    · intro y0 y1 y2 y3 y4
      unfold witheref9_condDeep.f
      repeat' first
      | (with_reducible exact ih0 _ _ _ _ _)
      | (with_reducible exact ih1 _ _ _ _ _ _ _)
      | (with_reducible exact LeO.refl _)
      | (with_reducible exact LeO.none _)
      | (with_reducible refine LeO.ite ?_ ?_)
      | (with_reducible refine LeO.bind ?_ (fun _ => ?_))
      | exact ih0 _ _ _ _ _
      | exact ih1 _ _ _ _ _ _ _
      | exact LeO.none _
      | refine LeO.ite ?_ ?_
      | refine LeO.bind ?_ (fun _ => ?_)
    · intro y0 y1 y2 y3 y4 y5 y6
      unfold witheref9_condDeep.l0
      repeat' first
      | (with_reducible exact ih0 _ _ _ _ _)
      | (with_reducible exact ih1 _ _ _ _ _ _ _)
      | (with_reducible exact LeO.refl _)
      | (with_reducible exact LeO.none _)
      | (with_reducible refine LeO.ite ?_ ?_)
      | (with_reducible refine LeO.bind ?_ (fun _ => ?_))
      | exact ih0 _ _ _ _ _
      | exact ih1 _ _ _ _ _ _ _
      | exact LeO.none _
      | refine LeO.ite ?_ ?_
      | refine LeO.bind ?_ (fun _ => ?_)
theorem witheref9_condDeep.mono : ∀ a0 a1 a2 a3 a4 k, LeO (witheref9_condDeep.f k a0 a1 a2 a3 a4) (witheref9_condDeep.f (k + 1) a0 a1 a2 a3 a4) := by
  intro a0 a1 a2 a3 a4 k
  obtain ⟨ih0, ih1⟩ := witheref9_condDeep.mono_l k
  exact ih0 a0 a1 a2 a3 a4
set_option maxHeartbeats 8000000 in
set_option maxRecDepth 100000 in
theorem witheref9_condDeep.calls (k : Nat) : ∀ (a0_0 : Int) (a0_1 : Int) (a0_2 : ByteArray) (a0_3 : Int) (A0_4 : Option Addr) (c0_4 : Nat) (l0_4 : List (S24)) (r : Int) (w : World) (hr0_4 : Kd.C k24 w A0_4 l0_4.length l0_4) (hc0_4 : l0_4.length ≤ c0_4) (h : witheref9_condDeep.f k a0_0 a0_1 a0_2 a0_3 l0_4 = some r),
    Calls Tryd.prog 21 #[.agg #[.int .i64 a0_0, .int .i64 a0_1, .string a0_2, .int .i64 a0_3, .slice A0_4 l0_4.length c0_4]] w fun e w' => e = .returned (.int .i64 r) ∧ Below w.heap.size w w' := by
  induction k using Nat.strongRecOn with
  | _ k ih =>
  intro a0_0 a0_1 a0_2 a0_3 A0_4 c0_4 l0_4 r w hr0_4 hc0_4 h
  cases k with
  | zero => exact absurd h (by simp [witheref9_condDeep.f])
  | succ k =>
  simp only [witheref9_condDeep.f] at h
  have hu24 := Tryd.underlying24
  have HR0_4 := Aside0.mk hr0_4
  have HC0_4 := Aside0.mk hc0_4
  clear hr0_4 hc0_4
  have HB := Aside0.mk (Below.refl w.heap.size w)
  have H : (witheref9_condDeep.l0 k 0 0 a0_0 a0_1 a0_2 a0_3 l0_4) = some r := h
  clear h
  have H' := Aside0.mk H
  clear H
  go_enter Tryd.func21, Tryd.ntmps21
  go_wp2_with (first | ((with_reducible refine gate_dst (N := 1) rfl ?_); refine box_event ?hg (N := 1) ?hd (cs := #[.int .i64 a0_0, .int .i64 a0_1, .string a0_2, .int .i64 a0_3, .slice A0_4 l0_4.length c0_4]) (t := 24) ?hr ?_; (case hd => rfl); (case hg => rfl); (case hr => first | (go_simp; done) | (go_simp; rfl)); intro gb210 hg w2 hbox hb; have n0_ := Aside0.mk (below_step (by repeat (first | (with_reducible first | exact HB.out | apply below_alloc | apply pw_below_drewN | apply below_drew1) | exact HB.out)) hb); have n1_ := Aside0.mk (hbox); have n2_ := Aside0.mk ((by rw [hg]; exact (below_size (by repeat (first | (with_reducible first | exact HB.out | apply below_alloc | apply pw_below_drewN | apply below_drew1) | exact HB.out))) : w.heap.size ≤ gb210)); have n3_ := Aside0.mk ((by rw [hg]; exact (below_size (by repeat (first | (with_reducible first | exact HB.out | apply below_alloc | apply pw_below_drewN | apply below_drew1) | exact HB.out))) : w.heap.size ≤ gb210)); clear HB; have HB := n0_; have BK210 := n1_; have GW210 := n2_; have GE210 := n3_; clear n0_ n1_ n2_ n3_; clear hb hbox hg))
  try go_simp
  go_loopg [3, 4] k (fun kq v3 v4 w' => ∃ (x3_1 : Int) (x4_1 : Int), v3 = .int .i64 x3_1 ∧ v4 = .int .i64 x4_1 ∧ Aside0 (witheref9_condDeep.l0 kq x3_1 x4_1 a0_0 a0_1 a0_2 a0_3 l0_4 = some r) ∧ Aside0 (kq ≤ k) ∧ Aside0 (w'.heap[gb210]? = some (.cells #[.int .i64 a0_0, .int .i64 a0_1, .string a0_2, .int .i64 a0_3, (.slice A0_4 l0_4.length c0_4)] 24 (0, 0))) ∧ Aside0 (Below w.heap.size w w'))
  case atStart => exact ⟨(0), (0), (by first | rfl | (simp; done) | (simp [*]; done)), (by first | rfl | (simp; done) | (simp [*]; done)), H', ⟨Nat.le_refl _⟩, ⟨by (with_reducible repeat (first | refine blk_drewN ?_ _ | refine blk_drew ?_ | refine blk_alloc ?_ _)); exact BK210.out⟩, ⟨by repeat (first | (with_reducible first | exact HB.out | apply below_alloc | apply pw_below_drewN | apply below_drew1 | refine below_set ?_ GE210.out) | exact HB.out)⟩⟩
  case round =>
    clear H'
    try clear c2
    try clear p2
    obtain ⟨x3_1, x4_1, rfl, rfl, HA, HK1, BK210, HB⟩ := hrel
    cases gk with
    | zero => exact absurd HA.out (by simp [witheref9_condDeep.l0])
    | succ k1 =>
      have H := HA.out
      clear HA
      simp only [witheref9_condDeep.l0] at H
      by_cases c3 : x4_1 < (l0_4.length : Int)
      · rw [if_pos c3] at H
        have c3b0 : decide (x4_1 < (l0_4.length : Int)) = true := decide_eq_true c3
        clear c3
        by_cases c4 : 0 ≤ x4_1
        · rw [if_pos c4] at H
          have c4b0 : decide (0 ≤ x4_1) = true := decide_eq_true c4
          clear c4
          replace H := Option.bind_eq_some_iff.mp H
          obtain ⟨t212, A50, H⟩ := H
          replace H : (if t212 > x3_1 then (witheref9_condDeep.l0 k1 t212 (wrap64 (x4_1 + 1)) a0_0 a0_1 a0_2 a0_3 l0_4) else (witheref9_condDeep.l0 k1 x3_1 (wrap64 (x4_1 + 1)) a0_0 a0_1 a0_2 a0_3 l0_4)) = some r := H
          have A5 := Aside0.mk A50
          clear A50
          by_cases c6 : t212 > x3_1
          · rw [if_pos c6] at H
            have c6b0 : decide (x3_1 < t212) = true := decide_eq_true c6
            clear c6
            have H' := Aside0.mk H
            clear H
            have hcz7_0 : wr.cell? ⟨gb210, 0, none⟩ = some (.int .i64 a0_0) := (blk_cell BK210.out 0).trans rfl
            have hcz7_1 : wr.cell? ⟨gb210, 1, none⟩ = some (.int .i64 a0_1) := (blk_cell BK210.out 1).trans rfl
            have hcz7_2 : wr.cell? ⟨gb210, 2, none⟩ = some (.string a0_2) := (blk_cell BK210.out 2).trans rfl
            have hcz7_3 : wr.cell? ⟨gb210, 3, none⟩ = some (.int .i64 a0_3) := (blk_cell BK210.out 3).trans rfl
            have hcz7_4 : wr.cell? ⟨gb210, 4, none⟩ = some (.slice A0_4 l0_4.length c0_4) := (blk_cell BK210.out 4).trans rfl
            have hfz7_0 := blk_frozen BK210.out 0
            have hfz7_1 := blk_frozen BK210.out 1
            have hfz7_2 := blk_frozen BK210.out 2
            have hfz7_3 := blk_frozen BK210.out 3
            have hfz7_4 := blk_frozen BK210.out 4
            have p211 : 0 ≤ (x4_1 : Int) := of_decide_eq_true (by first | (with_reducible assumption) | assumption)
            have q211 : x4_1 < (l0_4.length : Int) := of_decide_eq_true (by first | (with_reducible assumption) | assumption)
            obtain ⟨ad211, A211_4, c211_4, e211, hx211_0, hx211_1, hx211_2, hx211_3, hx211_4, hl211_4, hi211_4⟩ := at_T24 HR0_4.out x4_1 p211 q211
            cases e211
            replace hx211_0 := (HB.out.cell (World.block_lt_of_cell? w _ hx211_0)).trans hx211_0
            replace hx211_1 := (HB.out.cell (World.block_lt_of_cell? w _ hx211_1)).trans hx211_1
            replace hx211_2 := (HB.out.cell (World.block_lt_of_cell? w _ hx211_2)).trans hx211_2
            replace hx211_3 := (HB.out.cell (World.block_lt_of_cell? w _ hx211_3)).trans hx211_3
            replace hx211_4 := (HB.out.cell (World.block_lt_of_cell? w _ hx211_4)).trans hx211_4
            have HR211_4 := Aside0.mk hi211_4
            have HC211_4 := Aside0.mk hl211_4
            clear hi211_4 hl211_4
            replace p211 := eq_true p211
            replace q211 := eq_true q211
            go_wp2_with (first | ((with_reducible refine gate_callee (f := 21) rfl ?_); refine goesL_ (some 18) rfl rfl Tryd.func21 (by kernel_rfl) rfl #[.agg #[.int .i64 ((rd_T24 l0_4 x4_1).f0), .int .i64 ((rd_T24 l0_4 x4_1).f1), .string ((rd_T24 l0_4 x4_1).f2), .int .i64 ((rd_T24 l0_4 x4_1).f3), .slice A211_4 ((rd_T24 l0_4 x4_1).f4).length c211_4]] rfl (by (try simp only [List.map_toArray, List.map_cons, List.map_nil]); first | done | rfl | (simp only [List.length_drop, List.length_take]; rfl)) ?_; (with_reducible refine (ih k1 (by have := HK1.out; omega) ((rd_T24 l0_4 x4_1).f0) ((rd_T24 l0_4 x4_1).f1) ((rd_T24 l0_4 x4_1).f2) ((rd_T24 l0_4 x4_1).f3) _ _ ((rd_T24 l0_4 x4_1).f4) t212 _ ?side1 ?side2 A5.out).mono ?_); (case side1 => repeat (first | exact (Kd.C_below HR211_4.out HB.out) | (with_reducible refine Kd.C_alloc ?_ _) | (with_reducible refine Kd.C_drewN ?_ _) | (with_reducible refine Kd.C_drew ?_))); (case side2 => exact HC211_4.out); rintro e w8 ⟨rfl, hb⟩; refine ⟨_, rfl, ?_⟩; have n0_ := Aside0.mk (blk_below (g := gb210) (o := .cells #[.int .i64 a0_0, .int .i64 a0_1, .string a0_2, .int .i64 a0_3, .slice (some ad211) l0_4.length c0_4] 24 (0, 0)) (by (with_reducible repeat (first | refine blk_drewN ?_ _ | refine blk_drew ?_ | refine blk_alloc ?_ _)); exact BK210.out) hb); have n1_ := Aside0.mk (below_step (by repeat (first | (with_reducible first | exact HB.out | apply below_alloc | apply pw_below_drewN | apply below_drew1 | refine below_set ?_ GE210.out) | exact HB.out)) hb); clear BK210; clear HB; have BK210 := n0_; have HB := n1_; clear n0_ n1_; (try clear hb); (try clear hb2); (try clear hk); (try clear hi)))
            go_roundg k1
            case measure => have := HK1.out; omega
            case rel => exact ⟨(t212), (wrap64 (x4_1 + 1)), (by first | rfl | (simp; done) | (simp [*]; done)), (by first | rfl | (simp; done) | (simp [*]; done)), H', ⟨by have := HK1.out; omega⟩, ⟨by (with_reducible repeat (first | refine blk_drewN ?_ _ | refine blk_drew ?_ | refine blk_alloc ?_ _)); exact BK210.out⟩, ⟨by repeat (first | (with_reducible first | exact HB.out | apply below_alloc | apply pw_below_drewN | apply below_drew1 | refine below_set ?_ GE210.out) | exact HB.out)⟩⟩
          · rw [if_neg c6] at H
            have c6b0 : decide (x3_1 < t212) = false := decide_eq_false c6
            clear c6
            have H' := Aside0.mk H
            clear H
            have hcz9_0 : wr.cell? ⟨gb210, 0, none⟩ = some (.int .i64 a0_0) := (blk_cell BK210.out 0).trans rfl
            have hcz9_1 : wr.cell? ⟨gb210, 1, none⟩ = some (.int .i64 a0_1) := (blk_cell BK210.out 1).trans rfl
            have hcz9_2 : wr.cell? ⟨gb210, 2, none⟩ = some (.string a0_2) := (blk_cell BK210.out 2).trans rfl
            have hcz9_3 : wr.cell? ⟨gb210, 3, none⟩ = some (.int .i64 a0_3) := (blk_cell BK210.out 3).trans rfl
            have hcz9_4 : wr.cell? ⟨gb210, 4, none⟩ = some (.slice A0_4 l0_4.length c0_4) := (blk_cell BK210.out 4).trans rfl
            have hfz9_0 := blk_frozen BK210.out 0
            have hfz9_1 := blk_frozen BK210.out 1
            have hfz9_2 := blk_frozen BK210.out 2
            have hfz9_3 := blk_frozen BK210.out 3
            have hfz9_4 := blk_frozen BK210.out 4
            have p211 : 0 ≤ (x4_1 : Int) := of_decide_eq_true (by first | (with_reducible assumption) | assumption)
            have q211 : x4_1 < (l0_4.length : Int) := of_decide_eq_true (by first | (with_reducible assumption) | assumption)
            obtain ⟨ad211, A211_4, c211_4, e211, hx211_0, hx211_1, hx211_2, hx211_3, hx211_4, hl211_4, hi211_4⟩ := at_T24 HR0_4.out x4_1 p211 q211
            cases e211
            replace hx211_0 := (HB.out.cell (World.block_lt_of_cell? w _ hx211_0)).trans hx211_0
            replace hx211_1 := (HB.out.cell (World.block_lt_of_cell? w _ hx211_1)).trans hx211_1
            replace hx211_2 := (HB.out.cell (World.block_lt_of_cell? w _ hx211_2)).trans hx211_2
            replace hx211_3 := (HB.out.cell (World.block_lt_of_cell? w _ hx211_3)).trans hx211_3
            replace hx211_4 := (HB.out.cell (World.block_lt_of_cell? w _ hx211_4)).trans hx211_4
            have HR211_4 := Aside0.mk hi211_4
            have HC211_4 := Aside0.mk hl211_4
            clear hi211_4 hl211_4
            replace p211 := eq_true p211
            replace q211 := eq_true q211
            go_wp2_with (first | ((with_reducible refine gate_callee (f := 21) rfl ?_); refine goesL_ (some 18) rfl rfl Tryd.func21 (by kernel_rfl) rfl #[.agg #[.int .i64 ((rd_T24 l0_4 x4_1).f0), .int .i64 ((rd_T24 l0_4 x4_1).f1), .string ((rd_T24 l0_4 x4_1).f2), .int .i64 ((rd_T24 l0_4 x4_1).f3), .slice A211_4 ((rd_T24 l0_4 x4_1).f4).length c211_4]] rfl (by (try simp only [List.map_toArray, List.map_cons, List.map_nil]); first | done | rfl | (simp only [List.length_drop, List.length_take]; rfl)) ?_; (with_reducible refine (ih k1 (by have := HK1.out; omega) ((rd_T24 l0_4 x4_1).f0) ((rd_T24 l0_4 x4_1).f1) ((rd_T24 l0_4 x4_1).f2) ((rd_T24 l0_4 x4_1).f3) _ _ ((rd_T24 l0_4 x4_1).f4) t212 _ ?side1 ?side2 A5.out).mono ?_); (case side1 => repeat (first | exact (Kd.C_below HR211_4.out HB.out) | (with_reducible refine Kd.C_alloc ?_ _) | (with_reducible refine Kd.C_drewN ?_ _) | (with_reducible refine Kd.C_drew ?_))); (case side2 => exact HC211_4.out); rintro e w10 ⟨rfl, hb⟩; refine ⟨_, rfl, ?_⟩; have n0_ := Aside0.mk (blk_below (g := gb210) (o := .cells #[.int .i64 a0_0, .int .i64 a0_1, .string a0_2, .int .i64 a0_3, .slice (some ad211) l0_4.length c0_4] 24 (0, 0)) (by (with_reducible repeat (first | refine blk_drewN ?_ _ | refine blk_drew ?_ | refine blk_alloc ?_ _)); exact BK210.out) hb); have n1_ := Aside0.mk (below_step (by repeat (first | (with_reducible first | exact HB.out | apply below_alloc | apply pw_below_drewN | apply below_drew1 | refine below_set ?_ GE210.out) | exact HB.out)) hb); clear BK210; clear HB; have BK210 := n0_; have HB := n1_; clear n0_ n1_; (try clear hb); (try clear hb2); (try clear hk); (try clear hi)))
            go_roundg k1
            case measure => have := HK1.out; omega
            case rel => exact ⟨(x3_1), (wrap64 (x4_1 + 1)), (by first | rfl | (simp; done) | (simp [*]; done)), (by first | rfl | (simp; done) | (simp [*]; done)), H', ⟨by have := HK1.out; omega⟩, ⟨by (with_reducible repeat (first | refine blk_drewN ?_ _ | refine blk_drew ?_ | refine blk_alloc ?_ _)); exact BK210.out⟩, ⟨by repeat (first | (with_reducible first | exact HB.out | apply below_alloc | apply pw_below_drewN | apply below_drew1 | refine below_set ?_ GE210.out) | exact HB.out)⟩⟩
        · rw [if_neg c4] at H
          exact absurd H (by simp)
      · rw [if_neg c3] at H
        have c3b0 : decide (x4_1 < (l0_4.length : Int)) = false := decide_eq_false c3
        clear c3
        obtain rfl := Option.some.inj H
        have hcz11_0 : wr.cell? ⟨gb210, 0, none⟩ = some (.int .i64 a0_0) := (blk_cell BK210.out 0).trans rfl
        have hcz11_1 : wr.cell? ⟨gb210, 1, none⟩ = some (.int .i64 a0_1) := (blk_cell BK210.out 1).trans rfl
        have hcz11_2 : wr.cell? ⟨gb210, 2, none⟩ = some (.string a0_2) := (blk_cell BK210.out 2).trans rfl
        have hcz11_3 : wr.cell? ⟨gb210, 3, none⟩ = some (.int .i64 a0_3) := (blk_cell BK210.out 3).trans rfl
        have hcz11_4 : wr.cell? ⟨gb210, 4, none⟩ = some (.slice A0_4 l0_4.length c0_4) := (blk_cell BK210.out 4).trans rfl
        have hfz11_0 := blk_frozen BK210.out 0
        have hfz11_1 := blk_frozen BK210.out 1
        have hfz11_2 := blk_frozen BK210.out 2
        have hfz11_3 := blk_frozen BK210.out 3
        have hfz11_4 := blk_frozen BK210.out 4
        go_wp2
        go_ret
        exact ⟨by first | rfl | (simp [errW_none, errW_some] <;> rfl) | (simp [*, errW_none, errW_some] <;> rfl), by repeat (first | (with_reducible first | exact HB.out | apply below_alloc | apply pw_below_drewN | apply below_drew1 | refine below_set ?_ GE210.out) | exact HB.out)⟩

end Go.Proofs.YtbgcmbnnkigjjaaDoor.PP
