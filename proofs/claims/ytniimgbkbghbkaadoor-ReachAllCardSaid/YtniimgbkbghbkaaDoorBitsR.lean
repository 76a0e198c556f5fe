/- The document's functions of sets come to the same. -/
import Derived.Test.YtniimgbkbghbkaaDoorBitsB
import Derived.Test.YtniimgbkbghbkaaDoorPHx12
import Derived.Test.YtniimgbkbghbkaaDoorPHx13
import Derived.Test.YtniimgbkbghbkaaDoorPHx14
import Derived.Test.YtniimgbkbghbkaaDoorPHx17
namespace Go.Proofs.YtniimgbkbghbkaaDoor.PH
open Go.RowKit Go.Proofs.YtniimgbkbghbkaaDoorW.PrintWords Go.Proofs.YtniimgbkbghbkaaDoorW.PrintLast Go.Proofs.YtniimgbkbghbkaaDoorW.PrintMore
set_option linter.unusedVariables false
set_option linter.unusedSimpArgs false

theorem sameRel_f (a b : List Int) (ha : a.length ≤ 1000000) : Ev (fun k => witheref1_SameRel.f k a b) (decide (a = b)) := by
  unfold witheref1_SameRel.f
  refine ev_ite (fun hl => ?_) (fun hl => ?_)
  · have hl' : a.length = b.length := by omega
    have key : ∀ (d i : Nat), a.length - i = d → i ≤ a.length → (∀ j, j < i → a[j]? = b[j]?) → Ev (fun k => witheref1_SameRel.l0 k a b (i : Int)) (decide (a = b)) := by
      intro d
      induction d with
      | zero =>
        intro i h1 h2 h3
        refine Ev.step (fun k => by simp only [witheref1_SameRel.l0]; rfl) (ev_else (by omega) (ev_eq (Ev.now _) ?_))
        symm
        rw [decide_eq_true_iff]
        refine List.ext_getElem? fun j => ?_
        by_cases hj : j < i
        · exact h3 j hj
        · rw [List.getElem?_eq_none (by omega), List.getElem?_eq_none (by omega)]
      | succ d ih =>
        intro i h1 h2 h3
        refine Ev.step (fun k => by simp only [witheref1_SameRel.l0]; rfl) (ev_if (by omega) (ev_if (by omega) (ev_if (by omega) ?_)))
        have e1 : a[i]? = some (rd a (i : Int)) := by
          unfold rd
          rw [List.getD_eq_getElem?_getD, show ((i : Nat) : Int).toNat = i from rfl, List.getElem?_eq_getElem (by omega)]
          rfl
        have e2 : b[i]? = some (rd b (i : Int)) := by
          unfold rd
          rw [List.getD_eq_getElem?_getD, show ((i : Nat) : Int).toNat = i from rfl, List.getElem?_eq_getElem (by omega)]
          rfl
        refine ev_ite (fun he => ?_) (fun he => ?_)
        · rw [w64 (by omega) (by omega)]
          refine ih (i + 1) (by omega) (by omega) fun j hj => ?_
          by_cases hji : j < i
          · exact h3 j hji
          · obtain rfl : j = i := by omega
            rw [e1, e2, he]
        · refine ev_eq (Ev.now _) ?_
          symm
          rw [decide_eq_false_iff_not]
          rintro rfl
          exact he rfl
    exact key a.length 0 rfl (by omega) (fun j hj => absurd hj (Nat.not_lt_zero j))
  · refine ev_eq (Ev.now _) ?_
    symm
    rw [decide_eq_false_iff_not]
    rintro rfl
    exact hl rfl
/-! the document's -/
theorem refHas_f {s : Int} (h : U s) (i : Int) : witheref1_Has.f s i = some (hasB s i) := by
  unfold witheref1_Has.f hasB
  by_cases h0 : i < 0
  · rw [if_pos h0]
    have : decide (0 ≤ i ∧ i < 64) = false := by simp; omega
    rw [this]
    rfl
  · by_cases h1 : i > 63
    · rw [if_neg h0, if_pos h1]
      have : decide (0 ≤ i ∧ i < 64) = false := by simp; omega
      rw [this]
      rfl
    · have hw : IntKind.u64.wrap i = i := by rw [IntKind.wrap_u64]; omega
      rw [if_neg h0, if_neg h1, hw, if_pos (by omega)]
      have : decide (0 ≤ i ∧ i < 64) = true := by simp; omega
      rw [this, Bool.true_and]
      congr 1
      unfold shr tb
      have hm : min i.toNat IntKind.u64.bits = i.toNat := by
        have : IntKind.u64.bits = 64 := rfl
        omega
      rw [hm, Nat.testBit_eq_decide_div_mod_eq]
      have e : s / 2 ^ i.toNat = ((s.toNat / 2 ^ i.toNat : Nat) : Int) := by
        rw [Int.natCast_ediv, h.nat.1]
        simp
      rw [e, Int.tmod_eq_emod_of_nonneg (Int.natCast_nonneg _)]
      generalize s.toNat / 2 ^ i.toNat = m
      rw [Bool.eq_iff_iff]
      simp
      omega
theorem power_f (n : Nat) (hn : n < 64) : Ev (fun k => witheref1_Power.f k (n : Int)) ((2 ^ n : Nat) : Int) := by
  unfold witheref1_Power.f
  have key : ∀ (d i : Nat), n - i = d → i ≤ n → Ev (fun k => witheref1_Power.l0 k (n : Int) ((2 ^ i : Nat) : Int) (i : Int)) ((2 ^ n : Nat) : Int) := by
    intro d
    induction d with
    | zero =>
      intro i h1 h2
      obtain rfl : i = n := by omega
      exact Ev.step (fun k => by simp only [witheref1_Power.l0]; rfl) (ev_else (by omega) (Ev.now _))
    | succ d ih =>
      intro i h1 h2
      refine Ev.step (fun k => by simp only [witheref1_Power.l0]; rfl) (ev_if (by omega) ?_)
      rw [w64 (by omega) (by omega)]
      have h3 : 2 ^ (i + 1) < 2 ^ 64 := Nat.pow_lt_pow_right (by decide) (by omega)
      have h4 : (2 : Nat) ^ 64 = 18446744073709551616 := by decide
      have h5 : 2 ^ (i + 1) = 2 ^ i * 2 := Nat.pow_succ 2 i
      have e : IntKind.u64.wrap (((2 ^ i : Nat) : Int) + ((2 ^ i : Nat) : Int)) = ((2 ^ (i + 1) : Nat) : Int) := by
        rw [IntKind.wrap_u64, h5]
        rw [h5] at h3
        generalize 2 ^ i = m at h3 ⊢
        omega
      rw [e]
      exact ih (i + 1) (by omega) (by omega)
  exact key n 0 rfl (by omega)
theorem refPut_f {s : Int} (h : U s) (i : Int) : Ev (fun k => witheref1_Put.f k s i) (bits .or .u64 s (oneI i)) := by
  unfold witheref1_Put.f
  have hid : (¬ (0 ≤ i ∧ i < 64) ∨ hasB s i = true) → s = bits .or .u64 s (oneI i) := by
    intro hh
    refine tb_ext h (or_U h (one_U i)) fun j hj => ?_
    rw [or_tb h (one_U i), one_tb]
    by_cases hij : 0 ≤ i ∧ i < 64 ∧ i = (j : Int)
    · obtain ⟨h0, h1, rfl⟩ := hij
      rcases hh with hh | hh
      · omega
      · rw [hasB_nat h] at hh
        simp [hh]
    · simp [hij]
  refine ev_ite (fun h0 => ev_eq (Ev.now _) (hid (.inl (by omega)))) (fun h0 => ?_)
  refine ev_ite (fun h1 => ev_eq (Ev.now _) (hid (.inl (by omega)))) (fun h1 => ?_)
  refine ev_bind0 (refHas_f h i) ?_
  refine ev_ite (fun hb => ev_eq (Ev.now _) (hid (.inr hb))) (fun hb => ?_)
  have hp := power_f i.toNat (by omega)
  rw [show ((i.toNat : Nat) : Int) = i by omega] at hp
  refine Ev.bind hp (ev_eq (Ev.now _) ?_)
  have hone : oneI i = ((2 ^ i.toNat : Nat) : Int) := by
    unfold oneI
    rw [if_pos (by omega)]
  have hlt : 2 ^ i.toNat < 18446744073709551616 := Nat.lt_of_lt_of_le (Nat.pow_lt_pow_right (by decide) (show i.toNat < 64 by omega)) (by decide)
  have hz : BitVec.ofNat 64 s.toNat &&& BitVec.ofNat 64 (2 ^ i.toNat) = 0#64 := by
    refine BitVec.eq_of_getLsbD_eq fun j hj => ?_
    rw [BitVec.getLsbD_and, BitVec.getLsbD_ofNat, BitVec.getLsbD_ofNat, Nat.testBit_two_pow, BitVec.getLsbD_zero]
    by_cases hij : i.toNat = j
    · subst hij
      have : tb s i.toNat = false := by
        rw [← hasB_nat h, show ((i.toNat : Nat) : Int) = i by omega]
        simpa using hb
      unfold tb at this
      simp [this]
    · simp [hij]
  have hadd := BitVec.add_eq_or_of_and_eq_zero _ _ hz
  have hn := congrArg BitVec.toNat hadd
  rw [BitVec.toNat_add, BitVec.toNat_or, BitVec.toNat_ofNat, BitVec.toNat_ofNat, Nat.mod_eq_of_lt (a := s.toNat) h.nat.2, Nat.mod_eq_of_lt (a := 2 ^ i.toNat) hlt] at hn
  rw [or_eq h (one_U i), hone, show (((2 ^ i.toNat : Nat) : Int)).toNat = 2 ^ i.toNat from rfl, ← hn, IntKind.wrap_u64]
  have := h.nat.1
  generalize 2 ^ i.toNat = m at *
  omega
theorem refRange_f (n : Nat) (hn : n ≤ 64) : Ev (fun k => witheref1_Range.f k 0 (n : Int)) (rng n) := by
  unfold witheref1_Range.f
  have key : ∀ (d i : Nat), 64 - i = d → i ≤ 64 → Ev (fun k => witheref1_Range.l0 k 0 (n : Int) (rng (min i n)) (i : Int)) (rng n) := by
    intro d
    induction d with
    | zero =>
      intro i h1 h2
      refine Ev.step (fun k => by simp only [witheref1_Range.l0]; rfl) (ev_else (by omega) (ev_eq (Ev.now _) ?_))
      rw [show min i n = n by omega]
    | succ d ih =>
      intro i h1 h2
      refine Ev.step (fun k => by simp only [witheref1_Range.l0]; rfl) (ev_if (by omega) (ev_if (by omega) ?_))
      have hnext := ih (i + 1) (by omega) (by omega)
      refine ev_ite (fun hin => ?_) (fun hin => ?_)
      · rw [show min i n = i by omega]
        refine Ev.bind (refPut_f (rng_U (by omega)) _) ?_
        rw [rng_succ (by omega), w64 (by omega) (by omega)]
        rw [show min (i + 1) n = i + 1 by omega] at hnext
        exact hnext
      · rw [w64 (by omega) (by omega)]
        rw [show min (i + 1) n = min i n by omega] at hnext
        exact hnext
  have := key 64 0 rfl (by omega)
  rw [show min 0 n = 0 by omega] at this
  exact this
theorem refWithin_f {s : Int} (h : U s) (n : Nat) (hn : n ≤ 64) : witheref1_Within.f s (rng n) = some (decide (s.toNat < 2 ^ n)) := by
  unfold witheref1_Within.f
  congr 1
  have hz := less_zero h n hn
  have : bits .or .u64 s (rng n) = rng n ↔ bits .andNot .u64 s (rng n) = 0 := by
    constructor
    · intro he
      refine tb_ext (less_U h (rng_U hn)) U_zero fun i hi => ?_
      have h1 := or_tb h (rng_U hn) i
      rw [he] at h1
      rw [less_tb h (rng_U hn), tb_zero]
      cases h2 : tb s i <;> cases h3 : tb (rng n) i <;> simp_all
    · intro he
      refine tb_ext (or_U h (rng_U hn)) (rng_U hn) fun i hi => ?_
      have h1 := less_tb h (rng_U hn) i
      rw [he, tb_zero] at h1
      rw [or_tb h (rng_U hn)]
      cases h2 : tb s i <;> cases h3 : tb (rng n) i <;> simp_all
  rw [Bool.eq_iff_iff]
  simp only [beq_iff_eq, decide_eq_true_eq]
  exact this.trans hz
theorem refMay_f {r : List Int} (h : Us r) : Ev (fun k => witheref1_May.f k r) (mayB r) := by
  unfold witheref1_May.f
  refine ev_ite (fun hl => ?_) (fun hl => ?_)
  · refine ev_eq (Ev.now _) ?_
    unfold mayB
    have : decide (r.length ≤ 64) = false := by simp; omega
    rw [this]
    rfl
  · have hd : decide (r.length ≤ 64) = true := by simp; omega
    have key : ∀ (d i : Nat), r.length - i = d → i ≤ r.length → (∀ j, j < i → (rd r (j : Int)).toNat < 2 ^ r.length) → Ev (fun k => witheref1_May.l0 k r (i : Int)) (mayB r) := by
      intro d
      induction d with
      | zero =>
        intro i h1 h2 h3
        refine Ev.step (fun k => by simp only [witheref1_May.l0]; rfl) (ev_else (by omega) (ev_eq (Ev.now _) ?_))
        symm
        rw [mayB_iff]
        refine ⟨by omega, fun s hs => ?_⟩
        obtain ⟨j, hj, rfl⟩ := List.getElem_of_mem hs
        have := h3 j (by omega)
        unfold rd at this
        rw [List.getD_eq_getElem?_getD, show ((j : Nat) : Int).toNat = j from rfl, List.getElem?_eq_getElem hj] at this
        exact this
      | succ d ih =>
        intro i h1 h2 h3
        refine Ev.step (fun k => by simp only [witheref1_May.l0]; rfl) (ev_if (by omega) (ev_if (by omega) (Ev.bind (refRange_f r.length (by omega)) (ev_bind0 (refWithin_f (h.at_ _) r.length (by omega)) ?_))))
        refine ev_ite (fun hin => ?_) (fun hin => ?_)
        · rw [w64 (by omega) (by omega)]
          refine ih (i + 1) (by omega) (by omega) fun j hj => ?_
          by_cases hji : j < i
          · exact h3 j hji
          · obtain rfl : j = i := by omega
            simpa using hin
        · refine ev_eq (Ev.now _) ?_
          symm
          rw [Bool.eq_false_iff]
          intro hm
          have := ((mayB_iff r).mp hm).2 (rd r (i : Int)) (by
            unfold rd
            rw [List.getD_eq_getElem?_getD, show ((i : Nat) : Int).toNat = i from rfl, List.getElem?_eq_getElem (by omega)]
            exact List.getElem_mem _)
          exact hin (by simpa using this)
    exact key r.length 0 rfl (by omega) (fun j hj => absurd hj (Nat.not_lt_zero j))
/-- Does the relation have the pair? -/
def atB (r : List Int) (a b : Int) : Bool := decide (0 ≤ a ∧ a < (r.length : Int)) && hasB (rd r a) b
theorem refAt_f {r : List Int} (h : Us r) (a b : Int) : witheref1_At.f r a b = some (atB r a b) := by
  unfold witheref1_At.f atB
  by_cases h0 : a ≥ 0
  · by_cases h1 : a < (r.length : Int)
    · rw [if_pos h0, if_pos h1, if_pos (by omega), refHas_f (h.at_ a)]
      have : decide (0 ≤ a ∧ a < (r.length : Int)) = true := by simp; omega
      rw [this]
      rfl
    · rw [if_pos h0, if_neg h1]
      have : decide (0 ≤ a ∧ a < (r.length : Int)) = false := by simp; omega
      rw [this]
      rfl
  · rw [if_neg h0]
    have : decide (0 ≤ a ∧ a < (r.length : Int)) = false := by simp; omega
    rw [this]
    rfl
end Go.Proofs.YtniimgbkbghbkaaDoor.PH
