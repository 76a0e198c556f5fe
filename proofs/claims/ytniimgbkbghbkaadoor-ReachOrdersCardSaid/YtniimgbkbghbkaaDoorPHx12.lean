-- made by fvprint.py over the kit's print
import Derived.Test.YtniimgbkbghbkaaDoorPHx0
namespace Go.Proofs.YtniimgbkbghbkaaDoor.PH
open Go.RowKit Go.Proofs.YtniimgbkbghbkaaDoorW.PrintWords Go.Proofs.YtniimgbkbghbkaaDoorW.PrintLast Go.Proofs.YtniimgbkbghbkaaDoorW.PrintMore
attribute [local go_sem] max2_int min2_int max_two min_two max_three min_three max_four min_four   -- for this text's walks alone
set_option linter.unusedVariables false
set_option linter.unusedSimpArgs false

attribute [local go_sem] cell_set_some
/-! ### withelaw3_some: function 9 -/
def withelaw3_some.l0 : Nat → List Int → Bool → List Int → Int → Option (List Int)
  | 0, _, _, _, _ => none
  | k + 1, x0, x2, x7, x8 => if (wrap64 (x8 + 1)) < (x0.length : Int) then (if 0 ≤ x8 then (if x8 < (x0.length : Int) then (if (x7.length : Int) = 0 then (none) else (if 0 ≤ (wrap64 (x8 + 1)) then (if x2 = true then (if (Int.tmod (wrap64 (rd x0 x8)) (x7.length : Int)) ≥ (Int.tmod (wrap64 (rd x0 (wrap64 (x8 + 1)))) (x7.length : Int)) then (withelaw3_some.l0 k x0 x2 x7 (wrap64 (x8 + 2))) else (if 0 ≤ (Int.tmod (wrap64 (rd x0 x8)) (x7.length : Int)) then (if (Int.tmod (wrap64 (rd x0 x8)) (x7.length : Int)) < (x7.length : Int) then (if 0 ≤ (IntKind.u64.wrap (Int.tmod (wrap64 (rd x0 (wrap64 (x8 + 1)))) (x7.length : Int))) then (withelaw3_some.l0 k x0 x2 (x7.set ((Int.tmod (wrap64 (rd x0 x8)) (x7.length : Int)) : Int).toNat (Go.bits .or .u64 (rd x7 (Int.tmod (wrap64 (rd x0 x8)) (x7.length : Int))) (shl .u64 1 (IntKind.u64.wrap (Int.tmod (wrap64 (rd x0 (wrap64 (x8 + 1)))) (x7.length : Int)))))) (wrap64 (x8 + 2))) else (none)) else (none)) else (none))) else (if 0 ≤ (Int.tmod (wrap64 (rd x0 x8)) (x7.length : Int)) then (if (Int.tmod (wrap64 (rd x0 x8)) (x7.length : Int)) < (x7.length : Int) then (if 0 ≤ (IntKind.u64.wrap (Int.tmod (wrap64 (rd x0 (wrap64 (x8 + 1)))) (x7.length : Int))) then (withelaw3_some.l0 k x0 x2 (x7.set ((Int.tmod (wrap64 (rd x0 x8)) (x7.length : Int)) : Int).toNat (Go.bits .or .u64 (rd x7 (Int.tmod (wrap64 (rd x0 x8)) (x7.length : Int))) (shl .u64 1 (IntKind.u64.wrap (Int.tmod (wrap64 (rd x0 (wrap64 (x8 + 1)))) (x7.length : Int)))))) (wrap64 (x8 + 2))) else (none)) else (none)) else (none))) else (none))) else (none)) else (none)) else (some x7)
def withelaw3_some.f (k : Nat) (l0 : List Int) (a1 : Int) (a2 : Bool) : Option (List Int) := if 0 ≤ (wrap64 ((wrap64 (Int.tmod a1 16)) + 1)) then (if (wrap64 ((wrap64 (Int.tmod a1 16)) + 1) : Int).toNat ≤ 35184372088832 then (withelaw3_some.l0 k l0 a2 (List.replicate (wrap64 ((wrap64 (Int.tmod a1 16)) + 1) : Int).toNat 0) 0) else (none)) else (none)
theorem withelaw3_some.mono_l : ∀ k, (∀ y0 y1 y2 y3, LeO (withelaw3_some.l0 k y0 y1 y2 y3) (withelaw3_some.l0 (k + 1) y0 y1 y2 y3))
  | 0 => fun _ _ _ _ r h => by simp [withelaw3_some.l0] at h
  | k + 1 => by
    have ih0 := withelaw3_some.mono_l k
    · intro y0 y1 y2 y3
      unfold withelaw3_some.l0
      repeat' first
      | (with_reducible exact ih0 _ _ _ _)
      | (with_reducible exact LeO.refl _)
      | (with_reducible exact LeO.none _)
      | (with_reducible refine LeO.ite ?_ ?_)
      | (with_reducible refine LeO.bind ?_ (fun _ => ?_))
      | exact ih0 _ _ _ _
      | exact LeO.none _
      | refine LeO.ite ?_ ?_
      | refine LeO.bind ?_ (fun _ => ?_)
theorem withelaw3_some.mono : ∀ a0 a1 a2 k, LeO (withelaw3_some.f k a0 a1 a2) (withelaw3_some.f (k + 1) a0 a1 a2) := by
  intro a0 a1 a2 k
  have ih0 := withelaw3_some.mono_l k
  unfold withelaw3_some.f
  repeat' first
      | (with_reducible exact ih0 _ _ _ _)
      | (with_reducible exact LeO.refl _)
      | (with_reducible exact LeO.none _)
      | (with_reducible refine LeO.ite ?_ ?_)
      | (with_reducible refine LeO.bind ?_ (fun _ => ?_))
      | exact ih0 _ _ _ _
      | exact LeO.none _
      | refine LeO.ite ?_ ?_
      | refine LeO.bind ?_ (fun _ => ?_)
set_option maxHeartbeats 8000000 in
set_option maxRecDepth 100000 in
theorem withelaw3_some.calls (k : Nat) (A0 : Option Addr) (c0 : Nat) (l0 : List Int) (a1 : Int) (a2 : Bool) (r : List Int) (w : World) (hr0 : Kd.C (Kd.int .u8) w A0 l0.length l0) (hc0 : l0.length ≤ c0) (h : withelaw3_some.f k l0 a1 a2 = some r) :
    Calls Tryd.prog 9 #[.slice A0 l0.length c0, .int .u8 a1, .bool a2] w fun e w' => ∃ v0_ : Value, e = .returned (v0_) ∧ Kd.R (Kd.int .u64) 23 w' w.heap.size (fun _ => True) v0_ r ∧ Below w.heap.size w w' := by
  have HR0 := Aside0.mk hr0
  have HC0 := Aside0.mk hc0
  clear hr0 hc0
  have HB := Aside0.mk (Below.refl w.heap.size w)
  have H : (if 0 ≤ (wrap64 ((wrap64 (Int.tmod a1 16)) + 1)) then (if (wrap64 ((wrap64 (Int.tmod a1 16)) + 1) : Int).toNat ≤ 35184372088832 then (withelaw3_some.l0 k l0 a2 (List.replicate (wrap64 ((wrap64 (Int.tmod a1 16)) + 1) : Int).toNat 0) 0) else (none)) else (none)) = some r := h
  clear h
  obtain ⟨ji4, hji4⟩ : ∃ j_ : Int, (wrap64 ((wrap64 (Int.tmod a1 16)) + 1)) = j_ := ⟨_, rfl⟩
  replace H : (if 0 ≤ (ji4) then (if (ji4 : Int).toNat ≤ 35184372088832 then (withelaw3_some.l0 k l0 a2 (List.replicate (ji4 : Int).toNat 0) 0) else (none)) else (none)) = some r := by first | (rw [hji4] at H; exact H) | (simp only [hji4] at H ⊢; exact H)
  have hji4w : (IntKind.i64.wrap ((wrap64 (Int.tmod a1 16)) + 1)) = ji4 := (i64_w _).trans hji4
  by_cases c5 : 0 ≤ (ji4)
  · rw [if_pos c5] at H
    have c5b0 := eq_true c5
    have c5b1 : decide (0 ≤ (ji4)) = true := decide_eq_true c5
    clear c5
    by_cases c6 : (ji4 : Int).toNat ≤ 35184372088832
    · rw [if_pos c6] at H
      have c6b0 := eq_true c6
      have c6b1 : decide ((ji4 : Int).toNat ≤ 35184372088832) = true := decide_eq_true c6
      clear c6
      obtain ⟨y255, hy255⟩ : ∃ y_ : List Int, y_ = (List.replicate (ji4 : Int).toNat 0) := ⟨_, rfl⟩
      replace H : (withelaw3_some.l0 k l0 a2 y255 0) = some r := by first | (rw [hy255]; with_reducible exact H) | (have H2_ := (Option.bind_some _ _).symm.trans H; rw [hy255]; with_reducible exact H2_) | (have H2_ := (Option.bind_some _ _).symm.trans H; with_reducible exact H2_) | with_reducible exact H | (rw [hy255]; exact H) | exact H
      have Ny255 := Aside0.mk hy255
      clear hy255
      have H' := Aside0.mk H
      clear H
      go_enter Tryd.func9, Tryd.ntmps9
      go_wp2_with (first | ((with_reducible refine gate_dst (N := 15) rfl ?_); refine Kd.R_make (Kd.int .u64) _ 23 rfl (N := 15) rfl 25 _ _ rfl ji4 rfl rfl Tryd.underlying25 (.int .u64 0) 8 info23 rfl (by decide) (by omega) 0 (ok := fun _ => True) (okp := fun _ => True) rfl (fun _ hk => hk) trivial (of_decide_eq_true (by first | (with_reducible assumption) | assumption)) (Nat.le_trans (Nat.mul_le_mul_right _ (of_decide_eq_true (by first | (with_reducible assumption) | assumption) : ji4.toNat ≤ 35184372088832)) (by omega)) (Below.refl _ _) (Nat.le_refl _) ?_; intro v256 w7 ho8 hb hg_ hnew_; clear hg_ hnew_; (first | rw [← Ny255.out] at ho8 | (simp only [Int.reduceToNat] at ho8; rw [← Ny255.out] at ho8)); have n0_ := Aside0.mk (Kd.R_lower ho8 (below_size (by repeat (first | (with_reducible first | exact HB.out | apply below_alloc | apply pw_below_drewN | apply below_drew1) | exact HB.out)))); have n1_ := Aside0.mk (below_step (by repeat (first | (with_reducible first | exact HB.out | apply below_alloc | apply pw_below_drewN | apply below_drew1) | exact HB.out)) hb); clear HB; have HO257 := n0_; have HB := n1_; clear n0_ n1_; clear hb ho8))
      repeat (go_quiet (first | ((with_reducible refine gate_dst (N := 15) rfl ?_); refine Kd.R_make (Kd.int .u64) _ 23 rfl (N := 15) rfl 25 _ _ rfl ji4 rfl rfl Tryd.underlying25 (.int .u64 0) 8 info23 rfl (by decide) (by omega) 0 (ok := fun _ => True) (okp := fun _ => True) rfl (fun _ hk => hk) trivial (of_decide_eq_true (by first | (with_reducible assumption) | assumption)) (Nat.le_trans (Nat.mul_le_mul_right _ (of_decide_eq_true (by first | (with_reducible assumption) | assumption) : ji4.toNat ≤ 35184372088832)) (by omega)) (Below.refl _ _) (Nat.le_refl _) ?_; intro v256 w7 ho8 hb hg_ hnew_; clear hg_ hnew_; (first | rw [← Ny255.out] at ho8 | (simp only [Int.reduceToNat] at ho8; rw [← Ny255.out] at ho8)); have n0_ := Aside0.mk (Kd.R_lower ho8 (below_size (by repeat (first | (with_reducible first | exact HB.out | apply below_alloc | apply pw_below_drewN | apply below_drew1) | exact HB.out)))); have n1_ := Aside0.mk (below_step (by repeat (first | (with_reducible first | exact HB.out | apply below_alloc | apply pw_below_drewN | apply below_drew1) | exact HB.out)) hb); clear HB; have HO257 := n0_; have HB := n1_; clear n0_ n1_; clear hb ho8)); try go_wp2_with (first | ((with_reducible refine gate_dst (N := 15) rfl ?_); refine Kd.R_make (Kd.int .u64) _ 23 rfl (N := 15) rfl 25 _ _ rfl ji4 rfl rfl Tryd.underlying25 (.int .u64 0) 8 info23 rfl (by decide) (by omega) 0 (ok := fun _ => True) (okp := fun _ => True) rfl (fun _ hk => hk) trivial (of_decide_eq_true (by first | (with_reducible assumption) | assumption)) (Nat.le_trans (Nat.mul_le_mul_right _ (of_decide_eq_true (by first | (with_reducible assumption) | assumption) : ji4.toNat ≤ 35184372088832)) (by omega)) (Below.refl _ _) (Nat.le_refl _) ?_; intro v256 w7 ho8 hb hg_ hnew_; clear hg_ hnew_; (first | rw [← Ny255.out] at ho8 | (simp only [Int.reduceToNat] at ho8; rw [← Ny255.out] at ho8)); have n0_ := Aside0.mk (Kd.R_lower ho8 (below_size (by repeat (first | (with_reducible first | exact HB.out | apply below_alloc | apply pw_below_drewN | apply below_drew1) | exact HB.out)))); have n1_ := Aside0.mk (below_step (by repeat (first | (with_reducible first | exact HB.out | apply below_alloc | apply pw_below_drewN | apply below_drew1) | exact HB.out)) hb); clear HB; have HO257 := n0_; have HB := n1_; clear n0_ n1_; clear hb ho8)))
      try go_simp
      go_loopg [8] k (fun kq v8 w' => ∃ (x7_1 : List Int) (x8_1 : Int), v8 = .int .i64 x8_1 ∧ Aside0 (withelaw3_some.l0 kq l0 a2 x7_1 x8_1 = some r) ∧ Aside0 (kq ≤ k) ∧ Aside0 (Kd.R (Kd.int .u64) 23 w' w.heap.size (fun _ => True) v256 x7_1) ∧ Aside0 (Below w.heap.size w w'))
      case atStart => exact ⟨(y255), (0), (by first | rfl | (simp; done) | (simp [*]; done)), H', ⟨Nat.le_refl _⟩, ⟨by (with_reducible repeat (first | apply Kd.R_alloc | apply Kd.R_drewN | apply Kd.R_drew)); exact HO257.out⟩, ⟨by repeat (first | (with_reducible first | exact HB.out | apply below_alloc | apply pw_below_drewN | apply below_drew1) | exact HB.out)⟩⟩
      case round =>
        clear H'
        try clear p2
        try clear c5
        try clear c5b0
        try clear c5b1
        try clear c6
        try clear c6b0
        try clear c6b1
        try clear p6
        obtain ⟨x7_1, x8_1, rfl, HA, HK1, HO_7, HB⟩ := hrel
        cases gk with
        | zero => exact absurd HA.out (by simp [withelaw3_some.l0])
        | succ k1 =>
          have H := HA.out
          clear HA
          simp only [withelaw3_some.l0] at H
          by_cases c9 : (wrap64 (x8_1 + 1)) < (l0.length : Int)
          · rw [if_pos c9] at H
            have c9b0 : decide ((wrap64 (x8_1 + 1)) < (l0.length : Int)) = true := decide_eq_true c9
            clear c9
            by_cases c10 : 0 ≤ x8_1
            · rw [if_pos c10] at H
              have c10b0 : decide (0 ≤ x8_1) = true := decide_eq_true c10
              clear c10
              by_cases c11 : x8_1 < (l0.length : Int)
              · rw [if_pos c11] at H
                have c11b0 : decide (x8_1 < (l0.length : Int)) = true := decide_eq_true c11
                clear c11
                by_cases c12 : (x7_1.length : Int) = 0
                · rw [if_pos c12] at H
                  exact absurd H (by simp)
                · rw [if_neg c12] at H
                  have c12b0 : ((x7_1.length : Int) == 0) = false := beq_eq_false_iff_ne.mpr c12
                  have c12b1 : ((x7_1.length : Int) != 0) = true := bne_iff_ne.mpr c12
                  have c12b2 : ¬ (x7_1 = []) := fun h_ => c12 (by rw [h_]; rfl)
                  obtain ⟨ji13, hji13⟩ : ∃ j_ : Int, (wrap64 (x8_1 + 1)) = j_ := ⟨_, rfl⟩
                  replace H : (if 0 ≤ (ji13) then (if a2 = true then (if (Int.tmod (wrap64 (rd l0 x8_1)) (x7_1.length : Int)) ≥ (Int.tmod (wrap64 (rd l0 (ji13))) (x7_1.length : Int)) then (withelaw3_some.l0 k1 l0 a2 x7_1 (wrap64 (x8_1 + 2))) else (if 0 ≤ (Int.tmod (wrap64 (rd l0 x8_1)) (x7_1.length : Int)) then (if (Int.tmod (wrap64 (rd l0 x8_1)) (x7_1.length : Int)) < (x7_1.length : Int) then (if 0 ≤ (IntKind.u64.wrap (Int.tmod (wrap64 (rd l0 (ji13))) (x7_1.length : Int))) then (withelaw3_some.l0 k1 l0 a2 (x7_1.set ((Int.tmod (wrap64 (rd l0 x8_1)) (x7_1.length : Int)) : Int).toNat (Go.bits .or .u64 (rd x7_1 (Int.tmod (wrap64 (rd l0 x8_1)) (x7_1.length : Int))) (shl .u64 1 (IntKind.u64.wrap (Int.tmod (wrap64 (rd l0 (ji13))) (x7_1.length : Int)))))) (wrap64 (x8_1 + 2))) else (none)) else (none)) else (none))) else (if 0 ≤ (Int.tmod (wrap64 (rd l0 x8_1)) (x7_1.length : Int)) then (if (Int.tmod (wrap64 (rd l0 x8_1)) (x7_1.length : Int)) < (x7_1.length : Int) then (if 0 ≤ (IntKind.u64.wrap (Int.tmod (wrap64 (rd l0 (ji13))) (x7_1.length : Int))) then (withelaw3_some.l0 k1 l0 a2 (x7_1.set ((Int.tmod (wrap64 (rd l0 x8_1)) (x7_1.length : Int)) : Int).toNat (Go.bits .or .u64 (rd x7_1 (Int.tmod (wrap64 (rd l0 x8_1)) (x7_1.length : Int))) (shl .u64 1 (IntKind.u64.wrap (Int.tmod (wrap64 (rd l0 (ji13))) (x7_1.length : Int)))))) (wrap64 (x8_1 + 2))) else (none)) else (none)) else (none))) else (none)) = some r := by first | (rw [hji13] at H; exact H) | (simp only [hji13] at H ⊢; exact H)
                  (try rw [hji13] at c9b0)
                  have hji13w : (IntKind.i64.wrap (x8_1 + 1)) = ji13 := (i64_w _).trans hji13
                  by_cases c14 : 0 ≤ (ji13)
                  · rw [if_pos c14] at H
                    have c14b0 : decide (0 ≤ (ji13)) = true := decide_eq_true c14
                    clear c14
                    by_cases c15 : a2 = true
                    · subst c15
                      have H1 : (if (Int.tmod (wrap64 (rd l0 x8_1)) (x7_1.length : Int)) ≥ (Int.tmod (wrap64 (rd l0 (ji13))) (x7_1.length : Int)) then (withelaw3_some.l0 k1 l0 true x7_1 (wrap64 (x8_1 + 2))) else (if 0 ≤ (Int.tmod (wrap64 (rd l0 x8_1)) (x7_1.length : Int)) then (if (Int.tmod (wrap64 (rd l0 x8_1)) (x7_1.length : Int)) < (x7_1.length : Int) then (if 0 ≤ (IntKind.u64.wrap (Int.tmod (wrap64 (rd l0 (ji13))) (x7_1.length : Int))) then (withelaw3_some.l0 k1 l0 true (x7_1.set ((Int.tmod (wrap64 (rd l0 x8_1)) (x7_1.length : Int)) : Int).toNat (Go.bits .or .u64 (rd x7_1 (Int.tmod (wrap64 (rd l0 x8_1)) (x7_1.length : Int))) (shl .u64 1 (IntKind.u64.wrap (Int.tmod (wrap64 (rd l0 (ji13))) (x7_1.length : Int)))))) (wrap64 (x8_1 + 2))) else (none)) else (none)) else (none))) = some r := by rw [if_pos rfl] at H; exact H
                      clear H
                      have H := H1
                      clear H1
                      by_cases c16 : (Int.tmod (wrap64 (rd l0 x8_1)) (x7_1.length : Int)) ≥ (Int.tmod (wrap64 (rd l0 (ji13))) (x7_1.length : Int))
                      · rw [if_pos c16] at H
                        have c16b0 : decide ((Int.tmod (wrap64 (rd l0 (ji13))) (x7_1.length : Int)) ≤ (Int.tmod (wrap64 (rd l0 x8_1)) (x7_1.length : Int))) = true := decide_eq_true c16
                        try (have c16b0i : decide ((Int.tmod (IntKind.i64.wrap (rd l0 (ji13))) (x7_1.length : Int)) ≤ (Int.tmod (IntKind.i64.wrap (rd l0 x8_1)) (x7_1.length : Int))) = true := by simpa only [i64_w] using c16b0)
                        clear c16
                        have H' := Aside0.mk H
                        clear H
                        have p258 : 0 ≤ (x8_1 : Int) := of_decide_eq_true (by first | (with_reducible assumption) | assumption)
                        have q258 : x8_1 < (l0.length : Int) := of_decide_eq_true (by first | (with_reducible assumption) | assumption)
                        obtain ⟨ad258, e258, hx258_0⟩ := Kd.at_int HR0.out x8_1 p258 q258
                        cases e258
                        replace hx258_0 := (HB.out.cell (World.block_lt_of_cell? w _ hx258_0)).trans hx258_0
                        replace p258 := eq_true p258
                        replace q258 := eq_true q258
                        obtain ⟨Ao17, co17, eo17⟩ := Kd.R_slice HO_7.out
                        subst eo17
                        have p259 : 0 ≤ ((ji13) : Int) := of_decide_eq_true (by first | (with_reducible assumption) | assumption)
                        have q259 : (ji13) < (l0.length : Int) := of_decide_eq_true (by first | (with_reducible assumption) | assumption)
                        obtain ⟨ad259, e259, hx259_0⟩ := Kd.at_int HR0.out (ji13) p259 q259
                        obtain rfl : ad258 = ad259 := (by injection e259)
                        replace hx259_0 := (HB.out.cell (World.block_lt_of_cell? w _ hx259_0)).trans hx259_0
                        replace p259 := eq_true p259
                        replace q259 := eq_true q259
                        go_wp2
                        repeat (go_quiet (fail); try go_wp2)
                        go_roundg k1
                        case measure => have := HK1.out; omega
                        case rel => exact ⟨(x7_1), (wrap64 (x8_1 + 2)), (by first | rfl | (simp; done) | (simp [*]; done)), H', ⟨by have := HK1.out; omega⟩, ⟨by (with_reducible repeat (first | apply Kd.R_alloc | apply Kd.R_drewN | apply Kd.R_drew)); exact HO_7.out⟩, ⟨by repeat (first | (with_reducible first | exact HB.out | apply below_alloc | apply pw_below_drewN | apply below_drew1) | exact HB.out)⟩⟩
                      · rw [if_neg c16] at H
                        have c16b0 : decide ((Int.tmod (wrap64 (rd l0 (ji13))) (x7_1.length : Int)) ≤ (Int.tmod (wrap64 (rd l0 x8_1)) (x7_1.length : Int))) = false := decide_eq_false c16
                        try (have c16b0i : decide ((Int.tmod (IntKind.i64.wrap (rd l0 (ji13))) (x7_1.length : Int)) ≤ (Int.tmod (IntKind.i64.wrap (rd l0 x8_1)) (x7_1.length : Int))) = false := by simpa only [i64_w] using c16b0)
                        clear c16
                        obtain ⟨ji18, hji18⟩ : ∃ j_ : Int, (Int.tmod (wrap64 (rd l0 x8_1)) (x7_1.length : Int)) = j_ := ⟨_, rfl⟩
                        replace H : (if 0 ≤ (ji18) then (if (ji18) < (x7_1.length : Int) then (if 0 ≤ (IntKind.u64.wrap (Int.tmod (wrap64 (rd l0 (ji13))) (x7_1.length : Int))) then (withelaw3_some.l0 k1 l0 true (x7_1.set ((ji18) : Int).toNat (Go.bits .or .u64 (rd x7_1 (ji18)) (shl .u64 1 (IntKind.u64.wrap (Int.tmod (wrap64 (rd l0 (ji13))) (x7_1.length : Int)))))) (wrap64 (x8_1 + 2))) else (none)) else (none)) else (none)) = some r := by first | (rw [hji18] at H; exact H) | (simp only [hji18] at H ⊢; exact H)
                        (try rw [hji18] at c16b0)
                        by_cases c19 : 0 ≤ (ji18)
                        · rw [if_pos c19] at H
                          have c19b0 : decide (0 ≤ (ji18)) = true := decide_eq_true c19
                          clear c19
                          by_cases c20 : (ji18) < (x7_1.length : Int)
                          · rw [if_pos c20] at H
                            have c20b0 : decide ((ji18) < (x7_1.length : Int)) = true := decide_eq_true c20
                            clear c20
                            obtain ⟨ji21, hji21⟩ : ∃ j_ : Int, (IntKind.u64.wrap (Int.tmod (wrap64 (rd l0 (ji13))) (x7_1.length : Int))) = j_ := ⟨_, rfl⟩
                            replace H : (if 0 ≤ (ji21) then (withelaw3_some.l0 k1 l0 true (x7_1.set ((ji18) : Int).toNat (Go.bits .or .u64 (rd x7_1 (ji18)) (shl .u64 1 (ji21)))) (wrap64 (x8_1 + 2))) else (none)) = some r := by first | (rw [hji21] at H; exact H) | (simp only [hji21] at H ⊢; exact H)
                            by_cases c22 : 0 ≤ (ji21)
                            · rw [if_pos c22] at H
                              have c22b0 := eq_true c22
                              have c22b1 : decide (0 ≤ (ji21)) = true := decide_eq_true c22
                              clear c22
                              obtain ⟨ji23, hji23⟩ : ∃ j_ : Int, (shl .u64 1 (ji21)) = j_ := ⟨_, rfl⟩
                              replace H : (withelaw3_some.l0 k1 l0 true (x7_1.set ((ji18) : Int).toNat (Go.bits .or .u64 (rd x7_1 (ji18)) (ji23))) (wrap64 (x8_1 + 2))) = some r := by first | (rw [hji23] at H; exact H) | (simp only [hji23] at H ⊢; exact H)
                              have hji23_ : (IntKind.u64.wrap (1 * 2 ^ min (ji21).toNat 64)) = ji23 := hji23
                              have hji23z : (ji21) ≤ 64 → (IntKind.u64.wrap (1 * 2 ^ (ji21).toNat)) = ji23 := shl_small hji23
                              have hji23u : (IntKind.u64.wrap (2 ^ min (ji21).toNat 64)) = ji23 := by have h_ := hji23_; rw [Int.one_mul] at h_; exact h_
                              have hji23v : (ji21) ≤ 64 → (IntKind.u64.wrap (2 ^ (ji21).toNat)) = ji23 := fun hle_ => by have h_ := hji23z hle_; rw [Int.one_mul] at h_; exact h_
                              obtain ⟨y261, hy261⟩ : ∃ y_ : List Int, y_ = (x7_1.set ((ji18) : Int).toNat (Go.bits .or .u64 (rd x7_1 (ji18)) (ji23))) := ⟨_, rfl⟩
                              replace H : (withelaw3_some.l0 k1 l0 true y261 (wrap64 (x8_1 + 2))) = some r := by first | (rw [hy261]; with_reducible exact H) | (have H2_ := (Option.bind_some _ _).symm.trans H; rw [hy261]; with_reducible exact H2_) | (have H2_ := (Option.bind_some _ _).symm.trans H; with_reducible exact H2_) | with_reducible exact H | (rw [hy261]; exact H) | exact H
                              have Ny261 := Aside0.mk hy261
                              clear hy261
                              have H' := Aside0.mk H
                              clear H
                              have p258 : 0 ≤ (x8_1 : Int) := of_decide_eq_true (by first | (with_reducible assumption) | assumption)
                              have q258 : x8_1 < (l0.length : Int) := of_decide_eq_true (by first | (with_reducible assumption) | assumption)
                              obtain ⟨ad258, e258, hx258_0⟩ := Kd.at_int HR0.out x8_1 p258 q258
                              cases e258
                              replace hx258_0 := (HB.out.cell (World.block_lt_of_cell? w _ hx258_0)).trans hx258_0
                              replace p258 := eq_true p258
                              replace q258 := eq_true q258
                              obtain ⟨Ao25, co25, eo25⟩ := Kd.R_slice HO_7.out
                              subst eo25
                              have p259 : 0 ≤ ((ji13) : Int) := of_decide_eq_true (by first | (with_reducible assumption) | assumption)
                              have q259 : (ji13) < (l0.length : Int) := of_decide_eq_true (by first | (with_reducible assumption) | assumption)
                              obtain ⟨ad259, e259, hx259_0⟩ := Kd.at_int HR0.out (ji13) p259 q259
                              obtain rfl : ad258 = ad259 := (by injection e259)
                              replace hx259_0 := (HB.out.cell (World.block_lt_of_cell? w _ hx259_0)).trans hx259_0
                              replace p259 := eq_true p259
                              replace q259 := eq_true q259
                              have p260 : 0 ≤ ((ji18) : Int) := of_decide_eq_true (by first | (with_reducible assumption) | assumption)
                              have q260 : (ji18) < (x7_1.length : Int) := of_decide_eq_true (by first | (with_reducible assumption) | assumption)
                              obtain ⟨ad260, e260, hx260_0⟩ := Kd.at_int (Kd.R_reads' HO_7.out).2.2 (ji18) p260 q260
                              cases e260
                              replace p260 := eq_true p260
                              replace q260 := eq_true q260
                              have p24 : 0 ≤ ((ji18) : Int) := of_decide_eq_true (by first | (with_reducible assumption) | assumption)
                              have q24 : ((ji18) : Int) < ((x7_1.length : Int) : Int) := of_decide_eq_true (by first | (with_reducible assumption) | assumption)
                              obtain ⟨go24, co24, eo24, gb24, gl24, cl24, HG24⟩ := Kd.R_form HO_7.out (by omega)
                              (first | cases eo24 | (injection eo24 with ea_ en_ ec_; (first | subst ea_ | (injection ea_ with ea_; subst ea_)); subst ec_; clear en_))
                              have GB24 := Aside0.mk gb24
                              have GG24 := Aside0.mk HG24
                              clear gb24 gl24 HG24
                              (first | simp only [add_plain] at hx260_0 | skip)
                              obtain ⟨hx24_0, hf24_0⟩ := Kd.R_celln 0 HO_7.out ((ji18) : Int) p24 q24
                              replace p24 := eq_true p24
                              replace q24 := eq_true q24
                              have HP26 := Kd.R_putg HO_7.out ((ji18) : Int) (Go.bits .or .u64 (rd x7_1 (ji18)) (ji23))
                              go_wp2
                              go_quiet (fail)
                              go_wp2
                              go_roundg k1
                              case measure => have := HK1.out; omega
                              case rel => exact ⟨(y261), (wrap64 (x8_1 + 2)), (by first | rfl | (simp; done) | (simp [*]; done)), H', ⟨by have := HK1.out; omega⟩, ⟨by rw [Ny261.out]; exact (Kd.R_putg (Kd.R_drewN HO_7.out _) ((ji18) : Int) _).1⟩, ⟨below_set (pw_below_drewN HB.out _) GB24.out⟩⟩
                            · rw [if_neg c22] at H
                              exact absurd H (by simp)
                          · rw [if_neg c20] at H
                            exact absurd H (by simp)
                        · rw [if_neg c19] at H
                          exact absurd H (by simp)
                    · replace c15 := Bool.eq_false_iff.mpr c15
                      subst c15
                      have H1 : (if 0 ≤ (Int.tmod (wrap64 (rd l0 x8_1)) (x7_1.length : Int)) then (if (Int.tmod (wrap64 (rd l0 x8_1)) (x7_1.length : Int)) < (x7_1.length : Int) then (if 0 ≤ (IntKind.u64.wrap (Int.tmod (wrap64 (rd l0 (ji13))) (x7_1.length : Int))) then (withelaw3_some.l0 k1 l0 false (x7_1.set ((Int.tmod (wrap64 (rd l0 x8_1)) (x7_1.length : Int)) : Int).toNat (Go.bits .or .u64 (rd x7_1 (Int.tmod (wrap64 (rd l0 x8_1)) (x7_1.length : Int))) (shl .u64 1 (IntKind.u64.wrap (Int.tmod (wrap64 (rd l0 (ji13))) (x7_1.length : Int)))))) (wrap64 (x8_1 + 2))) else (none)) else (none)) else (none)) = some r := by rw [if_neg (show ¬ (false = true) by decide)] at H; exact H
                      clear H
                      have H := H1
                      clear H1
                      obtain ⟨ji28, hji28⟩ : ∃ j_ : Int, (Int.tmod (wrap64 (rd l0 x8_1)) (x7_1.length : Int)) = j_ := ⟨_, rfl⟩
                      replace H : (if 0 ≤ (ji28) then (if (ji28) < (x7_1.length : Int) then (if 0 ≤ (IntKind.u64.wrap (Int.tmod (wrap64 (rd l0 (ji13))) (x7_1.length : Int))) then (withelaw3_some.l0 k1 l0 false (x7_1.set ((ji28) : Int).toNat (Go.bits .or .u64 (rd x7_1 (ji28)) (shl .u64 1 (IntKind.u64.wrap (Int.tmod (wrap64 (rd l0 (ji13))) (x7_1.length : Int)))))) (wrap64 (x8_1 + 2))) else (none)) else (none)) else (none)) = some r := by first | (rw [hji28] at H; exact H) | (simp only [hji28] at H ⊢; exact H)
                      by_cases c29 : 0 ≤ (ji28)
                      · rw [if_pos c29] at H
                        have c29b0 : decide (0 ≤ (ji28)) = true := decide_eq_true c29
                        clear c29
                        by_cases c30 : (ji28) < (x7_1.length : Int)
                        · rw [if_pos c30] at H
                          have c30b0 : decide ((ji28) < (x7_1.length : Int)) = true := decide_eq_true c30
                          clear c30
                          obtain ⟨ji31, hji31⟩ : ∃ j_ : Int, (IntKind.u64.wrap (Int.tmod (wrap64 (rd l0 (ji13))) (x7_1.length : Int))) = j_ := ⟨_, rfl⟩
                          replace H : (if 0 ≤ (ji31) then (withelaw3_some.l0 k1 l0 false (x7_1.set ((ji28) : Int).toNat (Go.bits .or .u64 (rd x7_1 (ji28)) (shl .u64 1 (ji31)))) (wrap64 (x8_1 + 2))) else (none)) = some r := by first | (rw [hji31] at H; exact H) | (simp only [hji31] at H ⊢; exact H)
                          by_cases c32 : 0 ≤ (ji31)
                          · rw [if_pos c32] at H
                            have c32b0 := eq_true c32
                            have c32b1 : decide (0 ≤ (ji31)) = true := decide_eq_true c32
                            clear c32
                            obtain ⟨ji33, hji33⟩ : ∃ j_ : Int, (shl .u64 1 (ji31)) = j_ := ⟨_, rfl⟩
                            replace H : (withelaw3_some.l0 k1 l0 false (x7_1.set ((ji28) : Int).toNat (Go.bits .or .u64 (rd x7_1 (ji28)) (ji33))) (wrap64 (x8_1 + 2))) = some r := by first | (rw [hji33] at H; exact H) | (simp only [hji33] at H ⊢; exact H)
                            have hji33_ : (IntKind.u64.wrap (1 * 2 ^ min (ji31).toNat 64)) = ji33 := hji33
                            have hji33z : (ji31) ≤ 64 → (IntKind.u64.wrap (1 * 2 ^ (ji31).toNat)) = ji33 := shl_small hji33
                            have hji33u : (IntKind.u64.wrap (2 ^ min (ji31).toNat 64)) = ji33 := by have h_ := hji33_; rw [Int.one_mul] at h_; exact h_
                            have hji33v : (ji31) ≤ 64 → (IntKind.u64.wrap (2 ^ (ji31).toNat)) = ji33 := fun hle_ => by have h_ := hji33z hle_; rw [Int.one_mul] at h_; exact h_
                            obtain ⟨y263, hy263⟩ : ∃ y_ : List Int, y_ = (x7_1.set ((ji28) : Int).toNat (Go.bits .or .u64 (rd x7_1 (ji28)) (ji33))) := ⟨_, rfl⟩
                            replace H : (withelaw3_some.l0 k1 l0 false y263 (wrap64 (x8_1 + 2))) = some r := by first | (rw [hy263]; with_reducible exact H) | (have H2_ := (Option.bind_some _ _).symm.trans H; rw [hy263]; with_reducible exact H2_) | (have H2_ := (Option.bind_some _ _).symm.trans H; with_reducible exact H2_) | with_reducible exact H | (rw [hy263]; exact H) | exact H
                            have Ny263 := Aside0.mk hy263
                            clear hy263
                            have H' := Aside0.mk H
                            clear H
                            have p258 : 0 ≤ (x8_1 : Int) := of_decide_eq_true (by first | (with_reducible assumption) | assumption)
                            have q258 : x8_1 < (l0.length : Int) := of_decide_eq_true (by first | (with_reducible assumption) | assumption)
                            obtain ⟨ad258, e258, hx258_0⟩ := Kd.at_int HR0.out x8_1 p258 q258
                            cases e258
                            replace hx258_0 := (HB.out.cell (World.block_lt_of_cell? w _ hx258_0)).trans hx258_0
                            replace p258 := eq_true p258
                            replace q258 := eq_true q258
                            obtain ⟨Ao35, co35, eo35⟩ := Kd.R_slice HO_7.out
                            subst eo35
                            have p259 : 0 ≤ ((ji13) : Int) := of_decide_eq_true (by first | (with_reducible assumption) | assumption)
                            have q259 : (ji13) < (l0.length : Int) := of_decide_eq_true (by first | (with_reducible assumption) | assumption)
                            obtain ⟨ad259, e259, hx259_0⟩ := Kd.at_int HR0.out (ji13) p259 q259
                            obtain rfl : ad258 = ad259 := (by injection e259)
                            replace hx259_0 := (HB.out.cell (World.block_lt_of_cell? w _ hx259_0)).trans hx259_0
                            replace p259 := eq_true p259
                            replace q259 := eq_true q259
                            have p262 : 0 ≤ ((ji28) : Int) := of_decide_eq_true (by first | (with_reducible assumption) | assumption)
                            have q262 : (ji28) < (x7_1.length : Int) := of_decide_eq_true (by first | (with_reducible assumption) | assumption)
                            obtain ⟨ad262, e262, hx262_0⟩ := Kd.at_int (Kd.R_reads' HO_7.out).2.2 (ji28) p262 q262
                            cases e262
                            replace p262 := eq_true p262
                            replace q262 := eq_true q262
                            have p34 : 0 ≤ ((ji28) : Int) := of_decide_eq_true (by first | (with_reducible assumption) | assumption)
                            have q34 : ((ji28) : Int) < ((x7_1.length : Int) : Int) := of_decide_eq_true (by first | (with_reducible assumption) | assumption)
                            obtain ⟨go34, co34, eo34, gb34, gl34, cl34, HG34⟩ := Kd.R_form HO_7.out (by omega)
                            (first | cases eo34 | (injection eo34 with ea_ en_ ec_; (first | subst ea_ | (injection ea_ with ea_; subst ea_)); subst ec_; clear en_))
                            have GB34 := Aside0.mk gb34
                            have GG34 := Aside0.mk HG34
                            clear gb34 gl34 HG34
                            (first | simp only [add_plain] at hx262_0 | skip)
                            obtain ⟨hx34_0, hf34_0⟩ := Kd.R_celln 0 HO_7.out ((ji28) : Int) p34 q34
                            replace p34 := eq_true p34
                            replace q34 := eq_true q34
                            have HP36 := Kd.R_putg HO_7.out ((ji28) : Int) (Go.bits .or .u64 (rd x7_1 (ji28)) (ji33))
                            go_wp2
                            go_quiet (fail)
                            go_wp2
                            go_roundg k1
                            case measure => have := HK1.out; omega
                            case rel => exact ⟨(y263), (wrap64 (x8_1 + 2)), (by first | rfl | (simp; done) | (simp [*]; done)), H', ⟨by have := HK1.out; omega⟩, ⟨by rw [Ny263.out]; exact (Kd.R_putg (Kd.R_drewN HO_7.out _) ((ji28) : Int) _).1⟩, ⟨below_set (pw_below_drewN HB.out _) GB34.out⟩⟩
                          · rw [if_neg c32] at H
                            exact absurd H (by simp)
                        · rw [if_neg c30] at H
                          exact absurd H (by simp)
                      · rw [if_neg c29] at H
                        exact absurd H (by simp)
                  · rw [if_neg c14] at H
                    exact absurd H (by simp)
              · rw [if_neg c11] at H
                exact absurd H (by simp)
            · rw [if_neg c10] at H
              exact absurd H (by simp)
          · rw [if_neg c9] at H
            have c9b0 : decide ((wrap64 (x8_1 + 1)) < (l0.length : Int)) = false := decide_eq_false c9
            clear c9
            obtain rfl := Option.some.inj H
            go_wp2
            repeat (go_quiet (fail); try go_wp2)
            go_ret
            exact ⟨_, by first | rfl | (simp [errW_none, errW_some] <;> rfl) | (simp only [← hji4]; first | rfl | (simp [errW_none, errW_some] <;> rfl)) | (simp [*, errW_none, errW_some] <;> rfl), by (with_reducible repeat (first | apply Kd.R_alloc | apply Kd.R_drewN | apply Kd.R_drew)); exact HO_7.out, by repeat (first | (with_reducible first | exact HB.out | apply below_alloc | apply pw_below_drewN | apply below_drew1) | exact HB.out)⟩
    · rw [if_neg c6] at H
      exact absurd H (by simp)
  · rw [if_neg c5] at H
    exact absurd H (by simp)

/-! ### witheref1_Has: function 21 -/
def witheref1_Has.f (a0 : Int) (a1 : Int) : Option (Bool) := if a1 < 0 then (some false) else (if a1 > 63 then (some false) else (if 0 ≤ (IntKind.u64.wrap (a1)) then (some ((Int.tmod (shr .u64 a0 (IntKind.u64.wrap (a1))) 2) == 1)) else (none)))
set_option maxHeartbeats 8000000 in
set_option maxRecDepth 100000 in
theorem witheref1_Has.calls (a0 : Int) (a1 : Int) (r : Bool) (w : World) (h : witheref1_Has.f a0 a1 = some r) :
    Calls Tryd.prog 21 #[.int .u64 a0, .int .i64 a1] w fun e w' => e = .returned (.bool r) ∧ Drawn0 w w' := by
  have H : (if a1 < 0 then (some false) else (if a1 > 63 then (some false) else (if 0 ≤ (IntKind.u64.wrap (a1)) then (some ((Int.tmod (shr .u64 a0 (IntKind.u64.wrap (a1))) 2) == 1)) else (none)))) = some r := h
  clear h
  by_cases c3 : a1 < 0
  · rw [if_pos c3] at H
    have c3b0 : decide (a1 < 0) = true := decide_eq_true c3
    clear c3
    obtain rfl := Option.some.inj H
    go_enter Tryd.func21, Tryd.ntmps21
    go_wp2
    go_ret
    exact ⟨by first | rfl | (simp; done) | (simp [*]; done), by repeat (first | exact Drawn0.refl _ | apply Drawn0.step)⟩
  · rw [if_neg c3] at H
    have c3b0 : decide (a1 < 0) = false := decide_eq_false c3
    clear c3
    by_cases c4 : a1 > 63
    · rw [if_pos c4] at H
      have c4b0 : decide (63 < a1) = true := decide_eq_true c4
      clear c4
      obtain rfl := Option.some.inj H
      go_enter Tryd.func21, Tryd.ntmps21
      go_wp2
      go_ret
      exact ⟨by first | rfl | (simp; done) | (simp [*]; done), by repeat (first | exact Drawn0.refl _ | apply Drawn0.step)⟩
    · rw [if_neg c4] at H
      have c4b0 : decide (63 < a1) = false := decide_eq_false c4
      clear c4
      obtain ⟨ji5, hji5⟩ : ∃ j_ : Int, (IntKind.u64.wrap (a1)) = j_ := ⟨_, rfl⟩
      replace H : (if 0 ≤ (ji5) then (some ((Int.tmod (shr .u64 a0 (ji5)) 2) == 1)) else (none)) = some r := by first | (rw [hji5] at H; exact H) | (simp only [hji5] at H ⊢; exact H)
      by_cases c6 : 0 ≤ (ji5)
      · rw [if_pos c6] at H
        have c6b0 := eq_true c6
        have c6b1 : decide (0 ≤ (ji5)) = true := decide_eq_true c6
        clear c6
        obtain ⟨ji7, hji7⟩ : ∃ j_ : Int, (shr .u64 a0 (ji5)) = j_ := ⟨_, rfl⟩
        replace H : (some ((Int.tmod (ji7) 2) == 1)) = some r := by first | (rw [hji7] at H; exact H) | (simp only [hji7] at H ⊢; exact H)
        have hji7_ : (a0 / 2 ^ min (ji5).toNat 64) = ji7 := hji7
        have hji7z : (ji5) ≤ 64 → (a0 / 2 ^ (ji5).toNat) = ji7 := shr_small hji7
        obtain rfl := Option.some.inj H
        go_enter Tryd.func21, Tryd.ntmps21
        go_wp2
        go_ret
        exact ⟨by first | rfl | (simp; done) | (simp only [← hji5, ← hji7] <;> (first | rfl | simp)) | (simp [*]; done), by repeat (first | exact Drawn0.refl _ | apply Drawn0.step)⟩
      · rw [if_neg c6] at H
        exact absurd H (by simp)

/-! ### witheref1_Within: function 38 -/
def witheref1_Within.f (a0 : Int) (a1 : Int) : Option (Bool) := some ((Go.bits .or .u64 a0 a1) == a1)
set_option maxHeartbeats 8000000 in
set_option maxRecDepth 100000 in
theorem witheref1_Within.calls (a0 : Int) (a1 : Int) (r : Bool) (w : World) (h : witheref1_Within.f a0 a1 = some r) :
    Calls Tryd.prog 38 #[.int .u64 a0, .int .u64 a1] w fun e w' => e = .returned (.bool r) ∧ Drawn0 w w' := by
  have H : (some ((Go.bits .or .u64 a0 a1) == a1)) = some r := h
  clear h
  obtain rfl := Option.some.inj H
  go_enter Tryd.func38, Tryd.ntmps38
  go_wp2
  go_ret
  exact ⟨by first | rfl | (simp; done) | (simp [*]; done), by repeat (first | exact Drawn0.refl _ | apply Drawn0.step)⟩

end Go.Proofs.YtniimgbkbghbkaaDoor.PH
