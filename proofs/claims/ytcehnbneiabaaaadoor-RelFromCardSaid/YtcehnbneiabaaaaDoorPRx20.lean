-- made by fvprint.py over the kit's print
import Derived.Test.YtcehnbneiabaaaaDoorPRx0
namespace Go.Proofs.YtcehnbneiabaaaaDoor.PR
open Go.RowKit Go.Proofs.YtcehnbneiabaaaaDoorW.PrintWords Go.Proofs.YtcehnbneiabaaaaDoorW.PrintLast Go.Proofs.YtcehnbneiabaaaaDoorW.PrintMore
attribute [local go_sem] max2_int min2_int max_two min_two max_three min_three max_four min_four   -- for this text's walks alone
set_option linter.unusedVariables false
set_option linter.unusedSimpArgs false

attribute [local go_sem] cell_set_some
/-! ### withelaw2_some: function 31 -/
def withelaw2_some.l0 : Nat → List Int → List Int → Int → Option (List Int)
  | 0, _, _, _ => none
  | k + 1, x0, x5, x6 => if (wrap64 (x6 + 1)) < (x0.length : Int) then (if 0 ≤ x6 then (if x6 < (x0.length : Int) then (if (x5.length : Int) = 0 then (none) else (if 0 ≤ (wrap64 (x6 + 1)) then (if 0 ≤ (Int.tmod (wrap64 (rd x0 x6)) (x5.length : Int)) then (if (Int.tmod (wrap64 (rd x0 x6)) (x5.length : Int)) < (x5.length : Int) then (if 0 ≤ (IntKind.u64.wrap (Int.tmod (wrap64 (rd x0 (wrap64 (x6 + 1)))) (x5.length : Int))) then (withelaw2_some.l0 k x0 (x5.set ((Int.tmod (wrap64 (rd x0 x6)) (x5.length : Int)) : Int).toNat (Go.bits .or .u64 (rd x5 (Int.tmod (wrap64 (rd x0 x6)) (x5.length : Int))) (shl .u64 1 (IntKind.u64.wrap (Int.tmod (wrap64 (rd x0 (wrap64 (x6 + 1)))) (x5.length : Int)))))) (wrap64 (x6 + 2))) else (none)) else (none)) else (none)) else (none))) else (none)) else (none)) else (some x5)
def withelaw2_some.f (k : Nat) (l0 : List Int) (a1 : Int) : Option (List Int) := if 0 ≤ (wrap64 ((wrap64 (Int.tmod a1 20)) + 1)) then (if (wrap64 ((wrap64 (Int.tmod a1 20)) + 1) : Int).toNat ≤ 35184372088832 then (withelaw2_some.l0 k l0 (List.replicate (wrap64 ((wrap64 (Int.tmod a1 20)) + 1) : Int).toNat 0) 0) else (none)) else (none)
theorem withelaw2_some.mono_l : ∀ k, (∀ y0 y1 y2, LeO (withelaw2_some.l0 k y0 y1 y2) (withelaw2_some.l0 (k + 1) y0 y1 y2))
  | 0 => fun _ _ _ r h => by simp [withelaw2_some.l0] at h
  | k + 1 => by
    have ih0 := withelaw2_some.mono_l k
    · intro y0 y1 y2
      unfold withelaw2_some.l0
      repeat' first
      | (with_reducible exact ih0 _ _ _)
      | (with_reducible exact LeO.refl _)
      | (with_reducible exact LeO.none _)
      | (with_reducible refine LeO.ite ?_ ?_)
      | (with_reducible refine LeO.bind ?_ (fun _ => ?_))
      | exact ih0 _ _ _
      | exact LeO.none _
      | refine LeO.ite ?_ ?_
      | refine LeO.bind ?_ (fun _ => ?_)
theorem withelaw2_some.mono : ∀ a0 a1 k, LeO (withelaw2_some.f k a0 a1) (withelaw2_some.f (k + 1) a0 a1) := by
  intro a0 a1 k
  have ih0 := withelaw2_some.mono_l k
  unfold withelaw2_some.f
  repeat' first
      | (with_reducible exact ih0 _ _ _)
      | (with_reducible exact LeO.refl _)
      | (with_reducible exact LeO.none _)
      | (with_reducible refine LeO.ite ?_ ?_)
      | (with_reducible refine LeO.bind ?_ (fun _ => ?_))
      | exact ih0 _ _ _
      | exact LeO.none _
      | refine LeO.ite ?_ ?_
      | refine LeO.bind ?_ (fun _ => ?_)
set_option maxHeartbeats 8000000 in
set_option maxRecDepth 100000 in
theorem withelaw2_some.calls (k : Nat) (A0 : Option Addr) (c0 : Nat) (l0 : List Int) (a1 : Int) (r : List Int) (w : World) (hr0 : Kd.C (Kd.int .u8) w A0 l0.length l0) (hc0 : l0.length ≤ c0) (h : withelaw2_some.f k l0 a1 = some r) :
    Calls Tryd.prog 31 #[.slice A0 l0.length c0, .int .u8 a1] w fun e w' => ∃ v0_ : Value, e = .returned (v0_) ∧ Kd.R (Kd.int .u64) 23 w' w.heap.size (fun _ => True) v0_ r ∧ Below w.heap.size w w' := by
  have HR0 := Aside0.mk hr0
  have HC0 := Aside0.mk hc0
  clear hr0 hc0
  have HB := Aside0.mk (Below.refl w.heap.size w)
  have H : (if 0 ≤ (wrap64 ((wrap64 (Int.tmod a1 20)) + 1)) then (if (wrap64 ((wrap64 (Int.tmod a1 20)) + 1) : Int).toNat ≤ 35184372088832 then (withelaw2_some.l0 k l0 (List.replicate (wrap64 ((wrap64 (Int.tmod a1 20)) + 1) : Int).toNat 0) 0) else (none)) else (none)) = some r := h
  clear h
  obtain ⟨ji3, hji3⟩ : ∃ j_ : Int, (wrap64 ((wrap64 (Int.tmod a1 20)) + 1)) = j_ := ⟨_, rfl⟩
  replace H : (if 0 ≤ (ji3) then (if (ji3 : Int).toNat ≤ 35184372088832 then (withelaw2_some.l0 k l0 (List.replicate (ji3 : Int).toNat 0) 0) else (none)) else (none)) = some r := by first | (rw [hji3] at H; exact H) | (simp only [hji3] at H ⊢; exact H)
  have hji3w : (IntKind.i64.wrap ((wrap64 (Int.tmod a1 20)) + 1)) = ji3 := (i64_w _).trans hji3
  by_cases c4 : 0 ≤ (ji3)
  · rw [if_pos c4] at H
    have c4b0 := eq_true c4
    have c4b1 : decide (0 ≤ (ji3)) = true := decide_eq_true c4
    clear c4
    by_cases c5 : (ji3 : Int).toNat ≤ 35184372088832
    · rw [if_pos c5] at H
      have c5b0 := eq_true c5
      have c5b1 : decide ((ji3 : Int).toNat ≤ 35184372088832) = true := decide_eq_true c5
      clear c5
      obtain ⟨y433, hy433⟩ : ∃ y_ : List Int, y_ = (List.replicate (ji3 : Int).toNat 0) := ⟨_, rfl⟩
      replace H : (withelaw2_some.l0 k l0 y433 0) = some r := by first | (rw [hy433]; with_reducible exact H) | (have H2_ := (Option.bind_some _ _).symm.trans H; rw [hy433]; with_reducible exact H2_) | (have H2_ := (Option.bind_some _ _).symm.trans H; with_reducible exact H2_) | with_reducible exact H | (rw [hy433]; exact H) | exact H
      have Ny433 := Aside0.mk hy433
      clear hy433
      have H' := Aside0.mk H
      clear H
      go_enter Tryd.func31, Tryd.ntmps31
      go_wp2_with (first | ((with_reducible refine gate_dst (N := 13) rfl ?_); refine Kd.R_make (Kd.int .u64) _ 23 rfl (N := 13) rfl 22 _ _ rfl ji3 rfl rfl Tryd.underlying22 (.int .u64 0) 8 info23 rfl (by decide) (by omega) 0 (ok := fun _ => True) (okp := fun _ => True) rfl (fun _ hk => hk) trivial (of_decide_eq_true (by first | (with_reducible assumption) | assumption)) (Nat.le_trans (Nat.mul_le_mul_right _ (of_decide_eq_true (by first | (with_reducible assumption) | assumption) : ji3.toNat ≤ 35184372088832)) (by omega)) (Below.refl _ _) (Nat.le_refl _) ?_; intro v434 w6 ho7 hb hg_ hnew_; clear hg_ hnew_; (first | rw [← Ny433.out] at ho7 | (simp only [Int.reduceToNat] at ho7; rw [← Ny433.out] at ho7)); have n0_ := Aside0.mk (Kd.R_lower ho7 (below_size (by repeat (first | (with_reducible first | exact HB.out | apply below_alloc | apply pw_below_drewN | apply below_drew1) | exact HB.out)))); have n1_ := Aside0.mk (below_step (by repeat (first | (with_reducible first | exact HB.out | apply below_alloc | apply pw_below_drewN | apply below_drew1) | exact HB.out)) hb); clear HB; have HO435 := n0_; have HB := n1_; clear n0_ n1_; clear hb ho7))
      repeat (go_quiet (first | ((with_reducible refine gate_dst (N := 13) rfl ?_); refine Kd.R_make (Kd.int .u64) _ 23 rfl (N := 13) rfl 22 _ _ rfl ji3 rfl rfl Tryd.underlying22 (.int .u64 0) 8 info23 rfl (by decide) (by omega) 0 (ok := fun _ => True) (okp := fun _ => True) rfl (fun _ hk => hk) trivial (of_decide_eq_true (by first | (with_reducible assumption) | assumption)) (Nat.le_trans (Nat.mul_le_mul_right _ (of_decide_eq_true (by first | (with_reducible assumption) | assumption) : ji3.toNat ≤ 35184372088832)) (by omega)) (Below.refl _ _) (Nat.le_refl _) ?_; intro v434 w6 ho7 hb hg_ hnew_; clear hg_ hnew_; (first | rw [← Ny433.out] at ho7 | (simp only [Int.reduceToNat] at ho7; rw [← Ny433.out] at ho7)); have n0_ := Aside0.mk (Kd.R_lower ho7 (below_size (by repeat (first | (with_reducible first | exact HB.out | apply below_alloc | apply pw_below_drewN | apply below_drew1) | exact HB.out)))); have n1_ := Aside0.mk (below_step (by repeat (first | (with_reducible first | exact HB.out | apply below_alloc | apply pw_below_drewN | apply below_drew1) | exact HB.out)) hb); clear HB; have HO435 := n0_; have HB := n1_; clear n0_ n1_; clear hb ho7)); try go_wp2_with (first | ((with_reducible refine gate_dst (N := 13) rfl ?_); refine Kd.R_make (Kd.int .u64) _ 23 rfl (N := 13) rfl 22 _ _ rfl ji3 rfl rfl Tryd.underlying22 (.int .u64 0) 8 info23 rfl (by decide) (by omega) 0 (ok := fun _ => True) (okp := fun _ => True) rfl (fun _ hk => hk) trivial (of_decide_eq_true (by first | (with_reducible assumption) | assumption)) (Nat.le_trans (Nat.mul_le_mul_right _ (of_decide_eq_true (by first | (with_reducible assumption) | assumption) : ji3.toNat ≤ 35184372088832)) (by omega)) (Below.refl _ _) (Nat.le_refl _) ?_; intro v434 w6 ho7 hb hg_ hnew_; clear hg_ hnew_; (first | rw [← Ny433.out] at ho7 | (simp only [Int.reduceToNat] at ho7; rw [← Ny433.out] at ho7)); have n0_ := Aside0.mk (Kd.R_lower ho7 (below_size (by repeat (first | (with_reducible first | exact HB.out | apply below_alloc | apply pw_below_drewN | apply below_drew1) | exact HB.out)))); have n1_ := Aside0.mk (below_step (by repeat (first | (with_reducible first | exact HB.out | apply below_alloc | apply pw_below_drewN | apply below_drew1) | exact HB.out)) hb); clear HB; have HO435 := n0_; have HB := n1_; clear n0_ n1_; clear hb ho7)))
      try go_simp
      go_loopg [6] k (fun kq v6 w' => ∃ (x5_1 : List Int) (x6_1 : Int), v6 = .int .i64 x6_1 ∧ Aside0 (withelaw2_some.l0 kq l0 x5_1 x6_1 = some r) ∧ Aside0 (kq ≤ k) ∧ Aside0 (Kd.R (Kd.int .u64) 23 w' w.heap.size (fun _ => True) v434 x5_1) ∧ Aside0 (Below w.heap.size w w'))
      case atStart => exact ⟨(y433), (0), (by first | rfl | (simp; done) | (simp [*]; done)), H', ⟨Nat.le_refl _⟩, ⟨by (with_reducible repeat (first | apply Kd.R_alloc | apply Kd.R_drewN | apply Kd.R_drew)); exact HO435.out⟩, ⟨by repeat (first | (with_reducible first | exact HB.out | apply below_alloc | apply pw_below_drewN | apply below_drew1) | exact HB.out)⟩⟩
      case round =>
        clear H'
        try clear p2
        try clear c3
        try clear c4
        try clear c4b0
        try clear c4b1
        try clear c5
        try clear c5b0
        try clear c5b1
        try clear p6
        obtain ⟨x5_1, x6_1, rfl, HA, HK1, HO_5, HB⟩ := hrel
        cases gk with
        | zero => exact absurd HA.out (by simp [withelaw2_some.l0])
        | succ k1 =>
          have H := HA.out
          clear HA
          simp only [withelaw2_some.l0] at H
          by_cases c8 : (wrap64 (x6_1 + 1)) < (l0.length : Int)
          · rw [if_pos c8] at H
            have c8b0 : decide ((wrap64 (x6_1 + 1)) < (l0.length : Int)) = true := decide_eq_true c8
            clear c8
            by_cases c9 : 0 ≤ x6_1
            · rw [if_pos c9] at H
              have c9b0 : decide (0 ≤ x6_1) = true := decide_eq_true c9
              clear c9
              by_cases c10 : x6_1 < (l0.length : Int)
              · rw [if_pos c10] at H
                have c10b0 : decide (x6_1 < (l0.length : Int)) = true := decide_eq_true c10
                clear c10
                by_cases c11 : (x5_1.length : Int) = 0
                · rw [if_pos c11] at H
                  exact absurd H (by simp)
                · rw [if_neg c11] at H
                  have c11b0 : ((x5_1.length : Int) == 0) = false := beq_eq_false_iff_ne.mpr c11
                  have c11b1 : ((x5_1.length : Int) != 0) = true := bne_iff_ne.mpr c11
                  have c11b2 : ¬ (x5_1 = []) := fun h_ => c11 (by rw [h_]; rfl)
                  obtain ⟨ji12, hji12⟩ : ∃ j_ : Int, (wrap64 (x6_1 + 1)) = j_ := ⟨_, rfl⟩
                  replace H : (if 0 ≤ (ji12) then (if 0 ≤ (Int.tmod (wrap64 (rd l0 x6_1)) (x5_1.length : Int)) then (if (Int.tmod (wrap64 (rd l0 x6_1)) (x5_1.length : Int)) < (x5_1.length : Int) then (if 0 ≤ (IntKind.u64.wrap (Int.tmod (wrap64 (rd l0 (ji12))) (x5_1.length : Int))) then (withelaw2_some.l0 k1 l0 (x5_1.set ((Int.tmod (wrap64 (rd l0 x6_1)) (x5_1.length : Int)) : Int).toNat (Go.bits .or .u64 (rd x5_1 (Int.tmod (wrap64 (rd l0 x6_1)) (x5_1.length : Int))) (shl .u64 1 (IntKind.u64.wrap (Int.tmod (wrap64 (rd l0 (ji12))) (x5_1.length : Int)))))) (wrap64 (x6_1 + 2))) else (none)) else (none)) else (none)) else (none)) = some r := by first | (rw [hji12] at H; exact H) | (simp only [hji12] at H ⊢; exact H)
                  (try rw [hji12] at c8b0)
                  have hji12w : (IntKind.i64.wrap (x6_1 + 1)) = ji12 := (i64_w _).trans hji12
                  by_cases c13 : 0 ≤ (ji12)
                  · rw [if_pos c13] at H
                    have c13b0 : decide (0 ≤ (ji12)) = true := decide_eq_true c13
                    clear c13
                    obtain ⟨ji14, hji14⟩ : ∃ j_ : Int, (Int.tmod (wrap64 (rd l0 x6_1)) (x5_1.length : Int)) = j_ := ⟨_, rfl⟩
                    replace H : (if 0 ≤ (ji14) then (if (ji14) < (x5_1.length : Int) then (if 0 ≤ (IntKind.u64.wrap (Int.tmod (wrap64 (rd l0 (ji12))) (x5_1.length : Int))) then (withelaw2_some.l0 k1 l0 (x5_1.set ((ji14) : Int).toNat (Go.bits .or .u64 (rd x5_1 (ji14)) (shl .u64 1 (IntKind.u64.wrap (Int.tmod (wrap64 (rd l0 (ji12))) (x5_1.length : Int)))))) (wrap64 (x6_1 + 2))) else (none)) else (none)) else (none)) = some r := by first | (rw [hji14] at H; exact H) | (simp only [hji14] at H ⊢; exact H)
                    by_cases c15 : 0 ≤ (ji14)
                    · rw [if_pos c15] at H
                      have c15b0 : decide (0 ≤ (ji14)) = true := decide_eq_true c15
                      clear c15
                      by_cases c16 : (ji14) < (x5_1.length : Int)
                      · rw [if_pos c16] at H
                        have c16b0 : decide ((ji14) < (x5_1.length : Int)) = true := decide_eq_true c16
                        clear c16
                        obtain ⟨ji17, hji17⟩ : ∃ j_ : Int, (IntKind.u64.wrap (Int.tmod (wrap64 (rd l0 (ji12))) (x5_1.length : Int))) = j_ := ⟨_, rfl⟩
                        replace H : (if 0 ≤ (ji17) then (withelaw2_some.l0 k1 l0 (x5_1.set ((ji14) : Int).toNat (Go.bits .or .u64 (rd x5_1 (ji14)) (shl .u64 1 (ji17)))) (wrap64 (x6_1 + 2))) else (none)) = some r := by first | (rw [hji17] at H; exact H) | (simp only [hji17] at H ⊢; exact H)
                        by_cases c18 : 0 ≤ (ji17)
                        · rw [if_pos c18] at H
                          have c18b0 := eq_true c18
                          have c18b1 : decide (0 ≤ (ji17)) = true := decide_eq_true c18
                          clear c18
                          obtain ⟨ji19, hji19⟩ : ∃ j_ : Int, (shl .u64 1 (ji17)) = j_ := ⟨_, rfl⟩
                          replace H : (withelaw2_some.l0 k1 l0 (x5_1.set ((ji14) : Int).toNat (Go.bits .or .u64 (rd x5_1 (ji14)) (ji19))) (wrap64 (x6_1 + 2))) = some r := by first | (rw [hji19] at H; exact H) | (simp only [hji19] at H ⊢; exact H)
                          have hji19_ : (IntKind.u64.wrap (1 * 2 ^ min (ji17).toNat 64)) = ji19 := hji19
                          have hji19z : (ji17) ≤ 64 → (IntKind.u64.wrap (1 * 2 ^ (ji17).toNat)) = ji19 := shl_small hji19
                          have hji19u : (IntKind.u64.wrap (2 ^ min (ji17).toNat 64)) = ji19 := by have h_ := hji19_; rw [Int.one_mul] at h_; exact h_
                          have hji19v : (ji17) ≤ 64 → (IntKind.u64.wrap (2 ^ (ji17).toNat)) = ji19 := fun hle_ => by have h_ := hji19z hle_; rw [Int.one_mul] at h_; exact h_
                          obtain ⟨y439, hy439⟩ : ∃ y_ : List Int, y_ = (x5_1.set ((ji14) : Int).toNat (Go.bits .or .u64 (rd x5_1 (ji14)) (ji19))) := ⟨_, rfl⟩
                          replace H : (withelaw2_some.l0 k1 l0 y439 (wrap64 (x6_1 + 2))) = some r := by first | (rw [hy439]; with_reducible exact H) | (have H2_ := (Option.bind_some _ _).symm.trans H; rw [hy439]; with_reducible exact H2_) | (have H2_ := (Option.bind_some _ _).symm.trans H; with_reducible exact H2_) | with_reducible exact H | (rw [hy439]; exact H) | exact H
                          have Ny439 := Aside0.mk hy439
                          clear hy439
                          have H' := Aside0.mk H
                          clear H
                          have p436 : 0 ≤ (x6_1 : Int) := of_decide_eq_true (by first | (with_reducible assumption) | assumption)
                          have q436 : x6_1 < (l0.length : Int) := of_decide_eq_true (by first | (with_reducible assumption) | assumption)
                          obtain ⟨ad436, e436, hx436_0⟩ := Kd.at_int HR0.out x6_1 p436 q436
                          cases e436
                          replace hx436_0 := (HB.out.cell (World.block_lt_of_cell? w _ hx436_0)).trans hx436_0
                          replace p436 := eq_true p436
                          replace q436 := eq_true q436
                          obtain ⟨Ao21, co21, eo21⟩ := Kd.R_slice HO_5.out
                          subst eo21
                          have p437 : 0 ≤ ((ji12) : Int) := of_decide_eq_true (by first | (with_reducible assumption) | assumption)
                          have q437 : (ji12) < (l0.length : Int) := of_decide_eq_true (by first | (with_reducible assumption) | assumption)
                          obtain ⟨ad437, e437, hx437_0⟩ := Kd.at_int HR0.out (ji12) p437 q437
                          obtain rfl : ad436 = ad437 := (by injection e437)
                          replace hx437_0 := (HB.out.cell (World.block_lt_of_cell? w _ hx437_0)).trans hx437_0
                          replace p437 := eq_true p437
                          replace q437 := eq_true q437
                          have p438 : 0 ≤ ((ji14) : Int) := of_decide_eq_true (by first | (with_reducible assumption) | assumption)
                          have q438 : (ji14) < (x5_1.length : Int) := of_decide_eq_true (by first | (with_reducible assumption) | assumption)
                          obtain ⟨ad438, e438, hx438_0⟩ := Kd.at_int (Kd.R_reads' HO_5.out).2.2 (ji14) p438 q438
                          cases e438
                          replace p438 := eq_true p438
                          replace q438 := eq_true q438
                          have p20 : 0 ≤ ((ji14) : Int) := of_decide_eq_true (by first | (with_reducible assumption) | assumption)
                          have q20 : ((ji14) : Int) < ((x5_1.length : Int) : Int) := of_decide_eq_true (by first | (with_reducible assumption) | assumption)
                          obtain ⟨go20, co20, eo20, gb20, gl20, cl20, HG20⟩ := Kd.R_form HO_5.out (by omega)
                          (first | cases eo20 | (injection eo20 with ea_ en_ ec_; (first | subst ea_ | (injection ea_ with ea_; subst ea_)); subst ec_; clear en_))
                          have GB20 := Aside0.mk gb20
                          have GG20 := Aside0.mk HG20
                          clear gb20 gl20 HG20
                          (first | simp only [add_plain] at hx438_0 | skip)
                          obtain ⟨hx20_0, hf20_0⟩ := Kd.R_celln 0 HO_5.out ((ji14) : Int) p20 q20
                          replace p20 := eq_true p20
                          replace q20 := eq_true q20
                          have HP22 := Kd.R_putg HO_5.out ((ji14) : Int) (Go.bits .or .u64 (rd x5_1 (ji14)) (ji19))
                          go_wp2
                          go_quiet (fail)
                          go_wp2
                          go_roundg k1
                          case measure => have := HK1.out; omega
                          case rel => exact ⟨(y439), (wrap64 (x6_1 + 2)), (by first | rfl | (simp; done) | (simp [*]; done)), H', ⟨by have := HK1.out; omega⟩, ⟨by rw [Ny439.out]; exact (Kd.R_putg (Kd.R_drewN HO_5.out _) ((ji14) : Int) _).1⟩, ⟨below_set (pw_below_drewN HB.out _) GB20.out⟩⟩
                        · rw [if_neg c18] at H
                          exact absurd H (by simp)
                      · rw [if_neg c16] at H
                        exact absurd H (by simp)
                    · rw [if_neg c15] at H
                      exact absurd H (by simp)
                  · rw [if_neg c13] at H
                    exact absurd H (by simp)
              · rw [if_neg c10] at H
                exact absurd H (by simp)
            · rw [if_neg c9] at H
              exact absurd H (by simp)
          · rw [if_neg c8] at H
            have c8b0 : decide ((wrap64 (x6_1 + 1)) < (l0.length : Int)) = false := decide_eq_false c8
            clear c8
            obtain rfl := Option.some.inj H
            go_wp2
            repeat (go_quiet (fail); try go_wp2)
            go_ret
            exact ⟨_, by first | rfl | (simp [errW_none, errW_some] <;> rfl) | (simp only [← hji3]; first | rfl | (simp [errW_none, errW_some] <;> rfl)) | (simp [*, errW_none, errW_some] <;> rfl), by (with_reducible repeat (first | apply Kd.R_alloc | apply Kd.R_drewN | apply Kd.R_drew)); exact HO_5.out, by repeat (first | (with_reducible first | exact HB.out | apply below_alloc | apply pw_below_drewN | apply below_drew1) | exact HB.out)⟩
    · rw [if_neg c5] at H
      exact absurd H (by simp)
  · rw [if_neg c4] at H
    exact absurd H (by simp)

end Go.Proofs.YtcehnbneiabaaaaDoor.PR
