/- Sets as numbers: what or, and, less, one, Range, List come to, said of the bits. -/
import Derived.Test.YtcehnbneiabaaaaDoorEvs
import Derived.Test.YtcehnbneiabaaaaDoorPRx2
import Derived.Laws.Bits64b
import Derived.DataShut
namespace Go.Proofs.YtcehnbneiabaaaaDoor.PR
open Go.RowKit Go.Proofs.YtcehnbneiabaaaaDoorW.PrintWords Go.Proofs.YtcehnbneiabaaaaDoorW.PrintLast Go.Proofs.YtcehnbneiabaaaaDoorW.PrintMore
set_option linter.unusedVariables false
set_option linter.unusedSimpArgs false

def U (x : Int) : Prop := 0 ≤ x ∧ x < 18446744073709551616
def tb (x : Int) (i : Nat) : Bool := x.toNat.testBit i
theorem wf_u64 {n : Int} (h : (Lit.int .u64 n).wf = true) : U n := by
  have h1 := (Lit.wf_int_iff _ _).mp h
  simp [IntKind.min, IntKind.max, IntKind.signed, IntKind.bits] at h1
  unfold U
  omega
theorem U.nat {x : Int} (h : U x) : ((x.toNat : Nat) : Int) = x ∧ x.toNat < 18446744073709551616 := by
  unfold U at h
  omega
theorem U_zero : U 0 := ⟨by decide, by decide⟩
theorem U_nat {n : Nat} (h : n < 18446744073709551616) : U (n : Int) := by
  unfold U
  omega
theorem tb_nat (n i : Nat) : tb (n : Int) i = n.testBit i := rfl
theorem tb_zero (i : Nat) : tb 0 i = false := by simp [tb]
theorem tb_far {x : Int} (h : U x) {i : Nat} (hi : 64 ≤ i) : tb x i = false := by
  refine Nat.testBit_lt_two_pow (Nat.lt_of_lt_of_le h.nat.2 ?_)
  exact Nat.le_trans (by decide : 18446744073709551616 ≤ 2 ^ 64) (Nat.pow_le_pow_right (by decide) hi)
theorem tb_ext {a b : Int} (ha : U a) (hb : U b) (h : ∀ i, i < 64 → tb a i = tb b i) : a = b := by
  have e : a.toNat = b.toNat := Nat.eq_of_testBit_eq fun i => by
    by_cases hi : i < 64
    · exact h i hi
    · exact (tb_far ha (by omega)).trans (tb_far hb (by omega)).symm
  rw [← ha.nat.1, ← hb.nat.1, e]
theorem or_eq {a b : Int} (ha : U a) (hb : U b) : bits .or .u64 a b = ((a.toNat ||| b.toNat : Nat) : Int) := by
  have := bits_or_u64_nat a.toNat b.toNat ha.nat.2 hb.nat.2
  rwa [ha.nat.1, hb.nat.1] at this
theorem and_eq {a b : Int} (ha : U a) (hb : U b) : bits .and .u64 a b = ((a.toNat &&& b.toNat : Nat) : Int) := by
  have := bits_and_u64_nat a.toNat b.toNat ha.nat.2 hb.nat.2
  rwa [ha.nat.1, hb.nat.1] at this
theorem or_U {a b : Int} (ha : U a) (hb : U b) : U (bits .or .u64 a b) := by
  rw [or_eq ha hb]
  exact U_nat (Nat.or_lt_two_pow (n := 64) ha.nat.2 hb.nat.2)
theorem and_U {a b : Int} (ha : U a) (hb : U b) : U (bits .and .u64 a b) := by
  rw [and_eq ha hb]
  exact U_nat (Nat.and_lt_two_pow (n := 64) _ hb.nat.2)
theorem or_tb {a b : Int} (ha : U a) (hb : U b) (i : Nat) : tb (bits .or .u64 a b) i = (tb a i || tb b i) := by
  rw [or_eq ha hb, tb_nat, Nat.testBit_or]
  rfl
theorem and_tb {a b : Int} (ha : U a) (hb : U b) (i : Nat) : tb (bits .and .u64 a b) i = (tb a i && tb b i) := by
  rw [and_eq ha hb, tb_nat, Nat.testBit_and]
  rfl
theorem ofInt_nat {x : Int} (h : U x) : BitVec.ofInt 64 x = BitVec.ofNat 64 x.toNat := by
  have := BitVec.ofInt_natCast 64 x.toNat
  rwa [h.nat.1] at this
theorem less_eq {a b : Int} (ha : U a) (hb : U b) : bits .andNot .u64 a b = (((BitVec.ofNat 64 a.toNat &&& ~~~BitVec.ofNat 64 b.toNat).toNat : Nat) : Int) := by
  show IntKind.u64.wrap ((BitVec.ofInt 64 a &&& ~~~BitVec.ofInt 64 b).toNat : Int) = _
  rw [ofInt_nat ha, ofInt_nat hb, IntKind.wrap_u64]
  have := (BitVec.ofNat 64 a.toNat &&& ~~~BitVec.ofNat 64 b.toNat).isLt
  omega
theorem less_U {a b : Int} (ha : U a) (hb : U b) : U (bits .andNot .u64 a b) := by
  rw [less_eq ha hb]
  exact U_nat (BitVec.isLt _)
theorem less_tb {a b : Int} (ha : U a) (hb : U b) (i : Nat) : tb (bits .andNot .u64 a b) i = (tb a i && !tb b i) := by
  by_cases hi : i < 64
  · rw [less_eq ha hb, tb_nat, BitVec.testBit_toNat, BitVec.getLsbD_and, BitVec.getLsbD_not, BitVec.getLsbD_ofNat, BitVec.getLsbD_ofNat]
    simp [hi, tb]
  · rw [tb_far (less_U ha hb) (by omega), tb_far ha (by omega)]
    rfl
/-- One element. -/
def oneI (i : Int) : Int := if 0 ≤ i ∧ i < 64 then ((2 ^ i.toNat : Nat) : Int) else 0
theorem one_f (i : Int) : bits_one.f i = some (oneI i) := by
  unfold bits_one.f oneI
  by_cases h : i < 0
  · rw [if_pos h, if_neg (by omega)]
  · by_cases h2 : i ≥ 64
    · rw [if_neg h, if_pos h2, if_neg (by omega)]
    · rw [if_neg h, if_neg h2, if_pos (by omega), if_pos (by omega)]
      unfold shl
      have hm : min i.toNat IntKind.u64.bits = i.toNat := by
        have : IntKind.u64.bits = 64 := rfl
        omega
      rw [hm, Int.one_mul, IntKind.wrap_u64]
      have hlt : 2 ^ i.toNat < 2 ^ 64 := Nat.pow_lt_pow_right (by decide) (by omega)
      have e : ((2 : Int) ^ i.toNat) = ((2 ^ i.toNat : Nat) : Int) := by simp
      rw [e]
      congr 1
      have h3 : 2 ^ i.toNat < 18446744073709551616 := Nat.lt_of_lt_of_le hlt (by decide)
      generalize (2 ^ i.toNat : Nat) = m at h3 ⊢
      omega
theorem one_U (i : Int) : U (oneI i) := by
  unfold oneI
  split
  · have hlt : 2 ^ i.toNat < 2 ^ 64 := Nat.pow_lt_pow_right (by decide) (by omega)
    exact U_nat hlt
  · exact U_zero
theorem one_tb (i : Int) (j : Nat) : tb (oneI i) j = decide (0 ≤ i ∧ i < 64 ∧ i = (j : Int)) := by
  unfold oneI
  by_cases h : 0 ≤ i ∧ i < 64
  · rw [if_pos h, tb_nat, Nat.testBit_two_pow]
    congr 1
    rw [eq_iff_iff]
    omega
  · rw [if_neg h, tb_zero]
    symm
    rw [decide_eq_false_iff_not]
    omega
/-- The first n numbers. -/
def rng (n : Nat) : Int := ((2 ^ n - 1 : Nat) : Int)
theorem rng_U {n : Nat} (h : n ≤ 64) : U (rng n) := by
  have : 2 ^ n ≤ 2 ^ 64 := Nat.pow_le_pow_right (by decide) h
  have h64 : (2 : Nat) ^ 64 = 18446744073709551616 := by decide
  have := Nat.two_pow_pos n
  exact U_nat (by omega)
theorem rng_tb (n i : Nat) : tb (rng n) i = decide (i < n) := by
  unfold rng
  rw [tb_nat, Nat.testBit_two_pow_sub_one]
theorem rng_succ {n : Nat} (h : n < 64) : bits .or .u64 (rng n) (oneI (n : Int)) = rng (n + 1) := by
  refine tb_ext (or_U (rng_U (by omega)) (one_U _)) (rng_U (by omega)) fun i hi => ?_
  rw [or_tb (rng_U (by omega)) (one_U _), rng_tb, rng_tb, one_tb]
  rw [Bool.eq_iff_iff]
  simp
  omega
theorem range_f (n : Nat) (hn : n ≤ 64) : Ev (fun k => bits_Range.f k 0 (n : Int)) (rng n) := by
  unfold bits_Range.f
  have hm : mx 0 0 = 0 := rfl
  rw [hm]
  have key : ∀ (d i : Nat), n - i = d → i ≤ n → Ev (fun k => bits_Range.l0 k (n : Int) (rng i) (i : Int)) (rng n) := by
    intro d
    induction d with
    | zero =>
      intro i h1 h2
      obtain rfl : i = n := by omega
      refine Ev.step (fun k => by simp only [bits_Range.l0]; rfl) (ev_else ?_ (Ev.now _))
      unfold mn
      split <;> omega
    | succ d ih =>
      intro i h1 h2
      refine Ev.step (fun k => by simp only [bits_Range.l0]; rfl) (ev_if ?_ (ev_bind0 (one_f _) ?_))
      · unfold mn
        split <;> omega
      · rw [rng_succ (by omega), w64 (by omega) (by omega)]
        exact ih (i + 1) (by omega) (by omega)
  exact key n 0 rfl (by omega)
theorem less_zero {a : Int} (ha : U a) (n : Nat) (hn : n ≤ 64) : (bits .andNot .u64 a (rng n) = 0) ↔ a.toNat < 2 ^ n := by
  constructor
  · intro h
    refine Nat.lt_pow_two_of_testBit _ fun i hi => ?_
    have h1 := less_tb ha (rng_U hn) i
    rw [h, tb_zero, rng_tb] at h1
    have : decide (i < n) = false := by simp; omega
    rw [this] at h1
    simpa [tb] using h1.symm
  · intro h
    refine tb_ext (less_U ha (rng_U hn)) U_zero fun i hi => ?_
    rw [less_tb ha (rng_U hn), tb_zero, rng_tb]
    by_cases hin : i < n
    · simp [hin]
    · have : tb a i = false := Nat.testBit_lt_two_pow (Nat.lt_of_lt_of_le h (Nat.pow_le_pow_right (by decide) (by omega)))
      simp [this]
/-- What may be a relation: no more than 64 rows, and no row reaches beyond. -/
def mayB (r : List Int) : Bool := decide (r.length ≤ 64) && r.all fun s => decide (s.toNat < 2 ^ r.length)
theorem mayB_iff (r : List Int) : mayB r = true ↔ r.length ≤ 64 ∧ ∀ s ∈ r, s.toNat < 2 ^ r.length := by simp [mayB]
/-- The elements, rising. -/
def els (s : Int) : List Nat := (List.range 64).filter (tb s)
theorem bitsFrom_eq : ∀ (f s j : Nat), bitsFrom f s j = ((List.range f).filter (s.testBit ·)).map fun i => ((j + i : Nat) : Int)
  | 0, s, j => rfl
  | f + 1, s, j => by
    have ih := bitsFrom_eq f (s / 2) (j + 1)
    rw [bitsFrom, ih, List.range_succ_eq_map]
    have e : (List.map Nat.succ (List.range f)).filter (s.testBit ·) = ((List.range f).filter ((s / 2).testBit ·)).map Nat.succ := by
      rw [List.filter_map]
      congr 1
      refine List.filter_congr fun x _ => ?_
      simp [Nat.testBit_succ]
    by_cases h : s % 2 = 1
    · rw [if_pos h, List.filter_cons_of_pos (by simp [Nat.testBit_zero, h]), e, List.map_cons, List.map_map]
      congr 1
      refine List.map_congr_left fun x _ => ?_
      simp
      omega
    · rw [if_neg h, List.filter_cons_of_neg (by simp [Nat.testBit_zero, h]), e, List.map_map]
      refine List.map_congr_left fun x _ => ?_
      simp
      omega
theorem list_f {s : Int} (h : U s) : bits_List.f s = some ((els s).map Int.ofNat) := by
  unfold bits_List.f
  rw [if_pos (show 0 ≤ s ∧ s < 18446744073709551616 from h), bitsFrom_eq]
  congr 1
  refine List.map_congr_left fun x _ => ?_
  simp
theorem mem_els {s : Int} (h : U s) (i : Nat) : i ∈ els s ↔ tb s i = true := by
  unfold els
  rw [List.mem_filter, List.mem_range]
  constructor
  · exact fun h => h.2
  · intro hi
    refine ⟨?_, hi⟩
    by_cases h64 : i < 64
    · exact h64
    · rw [tb_far h (by omega)] at hi
      cases hi
theorem els_len (s : Int) : (els s).length ≤ 64 := by
  unfold els
  exact Nat.le_trans (List.length_filter_le _ _) (by simp)
/-- Is it in? -/
def hasB (s i : Int) : Bool := decide (0 ≤ i ∧ i < 64) && tb s i.toNat
theorem hasB_nat {s : Int} (h : U s) (i : Nat) : hasB s (i : Int) = tb s i := by
  unfold hasB
  by_cases hi : i < 64
  · have : decide (0 ≤ (i : Int) ∧ (i : Int) < 64) = true := by simp; omega
    rw [this]
    rfl
  · have : decide (0 ≤ (i : Int) ∧ (i : Int) < 64) = false := by simp; omega
    rw [this, tb_far (i := i) h (by omega)]
    rfl
theorem and_one {s i : Int} (hs : U s) : (bits .and .u64 s (oneI i) != 0) = hasB s i := by
  have key : bits .and .u64 s (oneI i) = 0 ↔ hasB s i = false := by
    constructor
    · intro h
      unfold hasB
      by_cases hi : 0 ≤ i ∧ i < 64
      · have h1 := and_tb hs (one_U i) i.toNat
        rw [h, tb_zero, one_tb] at h1
        have : decide (0 ≤ i ∧ i < 64 ∧ i = (i.toNat : Int)) = true := by simp; omega
        rw [this] at h1
        have h2 : tb s i.toNat = false := by simpa using h1.symm
        rw [h2, Bool.and_false]
      · simp [hi]
    · intro h
      refine tb_ext (and_U hs (one_U i)) U_zero fun j hj => ?_
      rw [and_tb hs (one_U i), tb_zero, one_tb]
      by_cases hij : 0 ≤ i ∧ i < 64 ∧ i = (j : Int)
      · obtain ⟨h0, h1, rfl⟩ := hij
        rw [hasB_nat hs] at h
        simp [h]
      · simp [hij]
  cases hb : hasB s i with
  | false => simp [key.mpr hb]
  | true =>
    have : ¬ bits .and .u64 s (oneI i) = 0 := fun h => by rw [key.mp h] at hb; cases hb
    simpa using this
end Go.Proofs.YtcehnbneiabaaaaDoor.PR
