/- How many bits: the sums of neighbours, at widths 1, 2, 4, then all bytes. -/
import Derived.Test.YtcehnbneiabaaaaDoorBitsA
import Derived.Test.YtcehnbneiabaaaaDoorPRx3
namespace Go.Proofs.YtcehnbneiabaaaaDoor.PR
open Go.RowKit Go.Proofs.YtcehnbneiabaaaaDoorW.PrintWords Go.Proofs.YtcehnbneiabaaaaDoorW.PrintLast Go.Proofs.YtcehnbneiabaaaaDoorW.PrintMore
set_option linter.unusedVariables false
set_option linter.unusedSimpArgs false

/-- The mask: the low half of each of n blocks of 2w bits. -/
def maskN (w : Nat) : Nat → Nat
  | 0 => 0
  | n + 1 => (2 ^ w - 1) + 2 ^ (2 * w) * maskN w n
/-- The low halves. -/
def lowN (w : Nat) : Nat → Nat → Nat
  | 0, _ => 0
  | n + 1, x => x % 2 ^ w + 2 ^ (2 * w) * lowN w n (x / 2 ^ (2 * w))
/-- The sums of the halves. -/
def sumN (w : Nat) : Nat → Nat → Nat
  | 0, _ => 0
  | n + 1, x => (x % 2 ^ w + x / 2 ^ w % 2 ^ w) + 2 ^ (2 * w) * sumN w n (x / 2 ^ (2 * w))
/-- The digits' sum. -/
def digN (w : Nat) : Nat → Nat → Nat
  | 0, _ => 0
  | n + 1, x => x % 2 ^ w + digN w n (x / 2 ^ w)
theorem pw_lt (w : Nat) (hw : 0 < w) : 2 * 2 ^ w ≤ 2 ^ (2 * w) := by
  have : 2 ^ (2 * w) = 2 ^ w * 2 ^ w := by rw [Nat.two_mul, Nat.pow_add]
  rw [this]
  have h2 : 2 ≤ 2 ^ w := by
    have := Nat.pow_le_pow_right (show 0 < 2 by decide) hw
    simpa using this
  exact Nat.mul_le_mul_right _ h2
theorem and_block (B a b m M : Nat) (k : Nat) (hB : B = 2 ^ k) (ha : a < B) (hm : m < B) : (a + B * b) &&& (m + B * M) = (a &&& m) + B * (b &&& M) := by
  subst hB
  have h1 : ((a + 2 ^ k * b) &&& (m + 2 ^ k * M)) % 2 ^ k = a &&& m := by
    rw [Nat.and_mod_two_pow, Nat.add_mul_mod_self_left, Nat.add_mul_mod_self_left, Nat.mod_eq_of_lt ha, Nat.mod_eq_of_lt hm]
  have h2 : ((a + 2 ^ k * b) &&& (m + 2 ^ k * M)) / 2 ^ k = b &&& M := by
    rw [Nat.and_div_two_pow, Nat.add_mul_div_left _ _ (Nat.two_pow_pos k), Nat.add_mul_div_left _ _ (Nat.two_pow_pos k), Nat.div_eq_of_lt ha, Nat.div_eq_of_lt hm, Nat.zero_add, Nat.zero_add]
  have h3 := Nat.mod_add_div ((a + 2 ^ k * b) &&& (m + 2 ^ k * M)) (2 ^ k)
  rw [h1, h2] at h3
  exact h3.symm
theorem and_mask (w : Nat) (hw : 0 < w) : ∀ (n x : Nat), x &&& maskN w n = lowN w n x
  | 0, x => Nat.and_zero x
  | n + 1, x => by
    have h := and_mask w hw n (x / 2 ^ (2 * w))
    have hp := pw_lt w hw
    have hpos := Nat.two_pow_pos w
    have hx := Nat.mod_add_div x (2 ^ (2 * w))
    have key := and_block (2 ^ (2 * w)) (x % 2 ^ (2 * w)) (x / 2 ^ (2 * w)) (2 ^ w - 1) (maskN w n) (2 * w) rfl (Nat.mod_lt _ (Nat.two_pow_pos _)) (by omega)
    rw [hx, h] at key
    rw [maskN, lowN, key, Nat.and_two_pow_sub_one_eq_mod]
    congr 1
    exact Nat.mod_mod_of_dvd x (Nat.pow_dvd_pow 2 (by omega))
theorem low_sum (w : Nat) (hw : 0 < w) : ∀ (n x : Nat), lowN w n (x / 2 ^ w) + lowN w n x = sumN w n x
  | 0, x => rfl
  | n + 1, x => by
    have h := low_sum w hw n (x / 2 ^ (2 * w))
    have e : x / 2 ^ w / 2 ^ (2 * w) = x / 2 ^ (2 * w) / 2 ^ w := by rw [Nat.div_div_eq_div_mul, Nat.div_div_eq_div_mul, Nat.mul_comm]
    rw [lowN, lowN, sumN, e, ← h, Nat.mul_add]
    omega
theorem half (w x : Nat) : x / 2 ^ w / 2 ^ w = x / 2 ^ (2 * w) := by rw [Nat.div_div_eq_div_mul, ← Nat.pow_add, Nat.two_mul]
theorem dig_sum (w : Nat) (hw : 0 < w) : ∀ (n x : Nat), digN (2 * w) n (sumN w n x) = digN w (2 * n) x
  | 0, x => rfl
  | n + 1, x => by
    have h := dig_sum w hw n (x / 2 ^ (2 * w))
    have hp := pw_lt w hw
    have h1 := Nat.mod_lt x (Nat.two_pow_pos w)
    have h2 := Nat.mod_lt (x / 2 ^ w) (Nat.two_pow_pos w)
    have hlt : x % 2 ^ w + x / 2 ^ w % 2 ^ w < 2 ^ (2 * w) := by omega
    rw [sumN, digN, Nat.add_mul_mod_self_left, Nat.mod_eq_of_lt hlt, Nat.add_mul_div_left _ _ (Nat.two_pow_pos _), Nat.div_eq_of_lt hlt, Nat.zero_add, h]
    rw [show 2 * (n + 1) = 2 * n + 1 + 1 by omega, digN, digN, half]
    omega
theorem sum_lt (w : Nat) (hw : 0 < w) : ∀ (n x : Nat), sumN w n x < 2 ^ (2 * w * n)
  | 0, x => by simp [sumN]
  | n + 1, x => by
    have h := sum_lt w hw n (x / 2 ^ (2 * w))
    have hp := pw_lt w hw
    have h1 := Nat.mod_lt x (Nat.two_pow_pos w)
    have h2 := Nat.mod_lt (x / 2 ^ w) (Nat.two_pow_pos w)
    rw [sumN, Nat.mul_succ, Nat.pow_add, Nat.mul_comm (2 ^ (2 * w * n))]
    have h3 : 2 ^ (2 * w) * (sumN w n (x / 2 ^ (2 * w)) + 1) ≤ 2 ^ (2 * w) * 2 ^ (2 * w * n) := Nat.mul_le_mul_left _ h
    rw [Nat.mul_succ] at h3
    omega
/-- All of n digits to the base 16, two by two, are at most 6. -/
def Small : Nat → Nat → Prop
  | 0, x => x = 0
  | n + 1, x => x % 16 ≤ 6 ∧ x / 16 % 16 ≤ 6 ∧ Small n (x / 256)
theorem small_two (p q s : Nat) (hp : p ≤ 6) (hq : q ≤ 6) : (p + 16 * (q + 16 * s)) % 16 ≤ 6 ∧ (p + 16 * (q + 16 * s)) / 16 % 16 ≤ 6 ∧ (p + 16 * (q + 16 * s)) / 256 = s := by omega
theorem small_sum : ∀ (n x : Nat), Small n (sumN 2 (2 * n) x)
  | 0, x => rfl
  | n + 1, x => by
    have h := small_sum n (x / 16 / 16)
    rw [show 2 * (n + 1) = 2 * n + 1 + 1 by omega, sumN, sumN]
    rw [show 2 ^ (2 * 2) = 16 from rfl, show 2 ^ 2 = 4 from rfl]
    obtain ⟨h1, h2, h3⟩ := small_two (x % 4 + x / 4 % 4) (x / 16 % 4 + x / 16 / 4 % 4) (sumN 2 (2 * n) (x / 16 / 16)) (by omega) (by omega)
    refine ⟨h1, h2, ?_⟩
    rw [h3]
    exact h
theorem low_add : ∀ (n x : Nat), Small n x → lowN 4 n (x / 16 + x) = sumN 4 n x
  | 0, x, _ => rfl
  | n + 1, x, hx => by
    obtain ⟨h1, h2, h3⟩ := hx
    have h := low_add n (x / 256) h3
    rw [lowN, sumN, show 2 ^ (2 * 4) = 256 from rfl, show 2 ^ 4 = 16 from rfl]
    have hy : x / 256 % 16 ≤ 6 := by
      cases n with
      | zero =>
        have : x / 256 = 0 := h3
        omega
      | succ n => exact h3.1
    have hc : x / 16 / 16 = x / 256 := Nat.div_div_eq_div_mul x 16 16
    have e : (x / 16 + x) / 256 = x / 256 / 16 + x / 256 := by
      have h4 := Nat.mod_add_div x 16
      have h5 := Nat.mod_add_div (x / 16) 16
      have h6 := Nat.mod_add_div (x / 256) 16
      rw [hc] at h5
      generalize x / 256 = y at *
      generalize y / 16 = z at *
      generalize x / 16 = u at *
      omega
    rw [e, h]
    have e2 : (x / 16 + x) % 16 = x % 16 + x / 16 % 16 := by omega
    rw [e2]
theorem bits_len : ∀ (f s j : Nat), (bitsFrom f s j).length = digN 1 f s
  | 0, s, j => rfl
  | f + 1, s, j => by
    have h := bits_len f (s / 2) (j + 1)
    rw [bitsFrom, digN, show 2 ^ 1 = 2 from rfl, ← h]
    rcases Nat.mod_two_eq_zero_or_one s with e | e
    · rw [if_neg (by omega), e, Nat.zero_add]
    · rw [if_pos e, e, List.length_cons, Nat.add_comm]
theorem els_dig {s : Int} (h : U s) : (els s).length = digN 1 64 s.toNat := by
  have h1 := list_f h
  unfold bits_List.f at h1
  rw [if_pos (show 0 ≤ s ∧ s < 18446744073709551616 from h)] at h1
  have h2 := congrArg List.length (Option.some.inj h1)
  rw [bits_len, List.length_map] at h2
  exact h2.symm
theorem mask_add (x w n m : Nat) (hw : 0 < w) (hm : maskN w n = m) (hx : x < 18446744073709551616) (hn : 2 * w * n ≤ 64) (hm64 : m < 18446744073709551616) (d : Int) (hd : d = ((2 ^ w : Nat) : Int)) :
    IntKind.u64.wrap (bits .and .u64 ((x : Int) / d) (m : Int) + bits .and .u64 (x : Int) (m : Int)) = ((sumN w n x : Nat) : Int) := by
  subst hd
  have h1 : ((x : Int) / ((2 ^ w : Nat) : Int)) = ((x / 2 ^ w : Nat) : Int) := (Int.natCast_ediv _ _).symm
  have h2 : x / 2 ^ w < 18446744073709551616 := Nat.lt_of_le_of_lt (Nat.div_le_self _ _) hx
  rw [h1, bits_and_u64_nat _ _ h2 hm64, bits_and_u64_nat _ _ hx hm64, ← hm, and_mask w hw, and_mask w hw]
  have h3 := low_sum w hw n x
  have h4 := sum_lt w hw n x
  have h5 : 2 ^ (2 * w * n) ≤ 2 ^ 64 := Nat.pow_le_pow_right (by decide) hn
  have h6 : (2 : Nat) ^ 64 = 18446744073709551616 := by decide
  rw [IntKind.wrap_u64]
  generalize lowN w n (x / 2 ^ w) = p at *
  generalize lowN w n x = q at *
  omega
theorem m1 : maskN 1 32 = 6148914691236517205 := by decide +kernel
theorem m2 : maskN 2 16 = 3689348814741910323 := by decide +kernel
theorem m4 : maskN 4 8 = 1085102592571150095 := by decide +kernel
theorem tail_sum (x : Nat) (hx : Small 8 x) : ∃ d0 d1 d2 d3 d4 d5 d6 d7 : Nat, d0 ≤ 12 ∧ d1 ≤ 12 ∧ d2 ≤ 12 ∧ d3 ≤ 12 ∧ d4 ≤ 12 ∧ d5 ≤ 12 ∧ d6 ≤ 12 ∧ d7 ≤ 12 ∧
    sumN 4 8 x = d0 + 256 * (d1 + 256 * (d2 + 256 * (d3 + 256 * (d4 + 256 * (d5 + 256 * (d6 + 256 * d7)))))) ∧ digN 8 8 (sumN 4 8 x) = d0 + d1 + d2 + d3 + d4 + d5 + d6 + d7 := by
  have step : ∀ n y, Small (n + 1) y → ∃ d, d ≤ 12 ∧ sumN 4 (n + 1) y = d + 256 * sumN 4 n (y / 256) ∧ Small n (y / 256) := by
    intro n y hy
    exact ⟨y % 16 + y / 16 % 16, by have := hy.1; have := hy.2.1; omega, rfl, hy.2.2⟩
  obtain ⟨d0, b0, e0, s0⟩ := step 7 x hx
  obtain ⟨d1, b1, e1, s1⟩ := step 6 _ s0
  obtain ⟨d2, b2, e2, s2⟩ := step 5 _ s1
  obtain ⟨d3, b3, e3, s3⟩ := step 4 _ s2
  obtain ⟨d4, b4, e4, s4⟩ := step 3 _ s3
  obtain ⟨d5, b5, e5, s5⟩ := step 2 _ s4
  obtain ⟨d6, b6, e6, s6⟩ := step 1 _ s5
  obtain ⟨d7, b7, e7, s7⟩ := step 0 _ s6
  have e8 : sumN 4 0 (x / 256 / 256 / 256 / 256 / 256 / 256 / 256 / 256) = 0 := rfl
  rw [e8] at e7
  rw [e7] at e6
  rw [e6] at e5
  rw [e5] at e4
  rw [e4] at e3
  rw [e3] at e2
  rw [e2] at e1
  rw [e1] at e0
  refine ⟨d0, d1, d2, d3, d4, d5, d6, d7, b0, b1, b2, b3, b4, b5, b6, b7, by rw [e0]; rfl, ?_⟩
  rw [e0]
  have peel : ∀ n d y, d ≤ 12 → digN 8 (n + 1) (d + 256 * y) = d + digN 8 n y := by
    intro n d y hd
    rw [digN, show 2 ^ 8 = 256 from rfl]
    have : (d + 256 * y) / 256 = y := by omega
    rw [this]
    omega
  rw [peel _ _ _ b0, peel _ _ _ b1, peel _ _ _ b2, peel _ _ _ b3, peel _ _ _ b4, peel _ _ _ b5, peel _ _ _ b6, peel _ _ _ b7]
  simp only [digN]
  omega
theorem div_of (r B q : Nat) (h : r < B) : (r + B * q) / B = q := by
  rw [Nat.add_mul_div_left _ _ (by omega), Nat.div_eq_of_lt h, Nat.zero_add]
theorem tail_nat (d0 d1 d2 d3 d4 d5 d6 d7 S S1 : Nat) (b0 : d0 ≤ 12) (b1 : d1 ≤ 12) (b2 : d2 ≤ 12) (b3 : d3 ≤ 12) (b4 : d4 ≤ 12) (b5 : d5 ≤ 12) (b6 : d6 ≤ 12) (b7 : d7 ≤ 12)
    (e1 : S1 = d1 + 256 * (d2 + 256 * (d3 + 256 * (d4 + 256 * (d5 + 256 * (d6 + 256 * d7)))))) (e : S = d0 + 256 * S1) :
    ∃ q q' w, S / 256 = S1 ∧ (S + S1) / 65536 = q ∧ (S + S1 + q) / 4294967296 = q' ∧ S + S1 + q + q' = (d0 + d1 + d2 + d3 + d4 + d5 + d6 + d7) + 256 * w ∧ S + S1 + q + q' < 9223372036854775808 := by
  have a1 : S / 256 = S1 := by omega
  have a2 : S + S1 = (d0 + d1 + 256 * (d1 + d2)) + 65536 * (d2 + d3 + 256 * (d3 + d4 + 256 * (d4 + d5 + 256 * (d5 + d6 + 256 * (d6 + d7 + 256 * d7))))) := by omega
  have a3 : (S + S1) / 65536 = d2 + d3 + 256 * (d3 + d4 + 256 * (d4 + d5 + 256 * (d5 + d6 + 256 * (d6 + d7 + 256 * d7)))) := by
    rw [a2]
    clear a1 a2 e e1
    exact div_of (d0 + d1 + 256 * (d1 + d2)) 65536 _ (by omega)
  have a4 : S + S1 + (d2 + d3 + 256 * (d3 + d4 + 256 * (d4 + d5 + 256 * (d5 + d6 + 256 * (d6 + d7 + 256 * d7))))) = (d0 + d1 + d2 + d3 + 256 * (d1 + d2 + d3 + d4 + 256 * (d2 + d3 + d4 + d5 + 256 * (d3 + d4 + d5 + d6)))) + 4294967296 * (d4 + d5 + d6 + d7 + 256 * (d5 + d6 + d7 + 256 * (d6 + d7 + 256 * d7))) := by
    rw [a2]
    clear a1 a2 a3 e e1
    omega
  have a5 : (S + S1 + (d2 + d3 + 256 * (d3 + d4 + 256 * (d4 + d5 + 256 * (d5 + d6 + 256 * (d6 + d7 + 256 * d7)))))) / 4294967296 = d4 + d5 + d6 + d7 + 256 * (d5 + d6 + d7 + 256 * (d6 + d7 + 256 * d7)) := by
    rw [a4]
    clear a1 a2 a3 a4 e e1
    exact div_of _ 4294967296 _ (by omega)
  refine ⟨_, _, (d1 + d2 + d3 + d4 + 256 * (d2 + d3 + d4 + d5 + 256 * (d3 + d4 + d5 + d6))) + 16777216 * (d4 + d5 + d6 + d7 + 256 * (d5 + d6 + d7 + 256 * (d6 + d7 + 256 * d7))) + (d5 + d6 + d7 + 256 * (d6 + d7 + 256 * d7)), a1, a3, a5, ?_, ?_⟩
  · rw [a4]
    clear a1 a2 a3 a4 a5 e e1
    omega
  · rw [a4]
    clear a1 a2 a3 a4 a5 e e1
    omega
theorem wrap_nat {n : Nat} (h : n < 18446744073709551616) : IntKind.u64.wrap (n : Int) = (n : Int) := by
  rw [IntKind.wrap_u64]
  omega
theorem tail_f (x : Nat) (hx : Small 8 x) : bits .and .i64 (wrap64 (IntKind.u64.wrap ((IntKind.u64.wrap ((IntKind.u64.wrap (((sumN 4 8 x : Nat) : Int) + (((sumN 4 8 x : Nat) : Int) / 256))) + ((IntKind.u64.wrap (((sumN 4 8 x : Nat) : Int) + (((sumN 4 8 x : Nat) : Int) / 256))) / 65536))) + ((IntKind.u64.wrap ((IntKind.u64.wrap (((sumN 4 8 x : Nat) : Int) + (((sumN 4 8 x : Nat) : Int) / 256))) + ((IntKind.u64.wrap (((sumN 4 8 x : Nat) : Int) + (((sumN 4 8 x : Nat) : Int) / 256))) / 65536))) / 4294967296)))) 127 = ((digN 8 8 (sumN 4 8 x) : Nat) : Int) := by
  obtain ⟨d0, d1, d2, d3, d4, d5, d6, d7, b0, b1, b2, b3, b4, b5, b6, b7, e, es⟩ := tail_sum x hx
  obtain ⟨S1, hS1⟩ : ∃ S1, S1 = d1 + 256 * (d2 + 256 * (d3 + 256 * (d4 + 256 * (d5 + 256 * (d6 + 256 * d7))))) := ⟨_, rfl⟩
  obtain ⟨S, hS⟩ : ∃ S, S = sumN 4 8 x := ⟨_, rfl⟩
  rw [es]
  rw [← hS, ← hS1] at e
  rw [← hS]
  obtain ⟨q, q', v, a1, a2, a3, a4, a5⟩ := tail_nat d0 d1 d2 d3 d4 d5 d6 d7 S S1 b0 b1 b2 b3 b4 b5 b6 b7 hS1 e
  clear e es hS hS1
  have c1 : (S : Int) / 256 = (S1 : Int) := by rw [← a1]; exact (Int.natCast_ediv S 256).symm
  have c2 : IntKind.u64.wrap ((S : Int) + (S1 : Int)) = ((S + S1 : Nat) : Int) := by rw [← Int.natCast_add]; exact wrap_nat (by omega)
  have c3 : ((S + S1 : Nat) : Int) / 65536 = (q : Int) := by rw [← a2]; exact (Int.natCast_ediv (S + S1) 65536).symm
  have c4 : IntKind.u64.wrap (((S + S1 : Nat) : Int) + (q : Int)) = ((S + S1 + q : Nat) : Int) := by rw [← Int.natCast_add]; exact wrap_nat (by omega)
  have c5 : ((S + S1 + q : Nat) : Int) / 4294967296 = (q' : Int) := by rw [← a3]; exact (Int.natCast_ediv (S + S1 + q) 4294967296).symm
  have c6 : IntKind.u64.wrap (((S + S1 + q : Nat) : Int) + (q' : Int)) = ((S + S1 + q + q' : Nat) : Int) := by rw [← Int.natCast_add]; exact wrap_nat (by omega)
  rw [c1, c2, c3, c4, c5, c6, w64 (by omega) (by omega)]
  obtain ⟨V, hV⟩ : ∃ V, V = S + S1 + q + q' := ⟨_, rfl⟩
  rw [← hV] at a4 a5 ⊢
  have h7 : (BitVec.ofInt 64 (V : Int)).toNat = V := by
    rw [BitVec.ofInt_natCast, BitVec.toNat_ofNat]
    exact Nat.mod_eq_of_lt (by omega)
  show IntKind.i64.wrap ((BitVec.ofInt 64 (V : Int) &&& BitVec.ofInt 64 127).toNat : Int) = _
  rw [BitVec.toNat_and, h7, show (BitVec.ofInt 64 127).toNat = 2 ^ 7 - 1 from rfl, Nat.and_two_pow_sub_one_eq_mod, i64_w, show 2 ^ 7 = 128 from rfl]
  clear c1 c2 c3 c4 c5 c6 h7 a1 a2 a3
  have h8 : V % 128 = d0 + d1 + d2 + d3 + d4 + d5 + d6 + d7 := by omega
  rw [h8, w64 (by omega) (by omega)]
set_option maxHeartbeats 2000000 in
theorem ones_f {s : Int} (h : U s) : bits_OnesCount64.f s = some (((els s).length : Nat) : Int) := by
  obtain ⟨x, rfl⟩ : ∃ x : Nat, s = (x : Int) := ⟨s.toNat, h.nat.1.symm⟩
  have hx : x < 18446744073709551616 := h.nat.2
  have a1 := mask_add x 1 32 6148914691236517205 (by decide) m1 hx (by decide) (by decide) 2 (by decide)
  have l1 := sum_lt 1 (by decide) 32 x
  have a2 := mask_add (sumN 1 32 x) 2 16 3689348814741910323 (by decide) m2 (Nat.lt_of_lt_of_le l1 (by decide)) (by decide) (by decide) 4 (by decide)
  have l2 := sum_lt 2 (by decide) 16 (sumN 1 32 x)
  have s2 := small_sum 8 (sumN 1 32 x)
  rw [show 2 * 8 = 16 from rfl] at s2
  have d1 := dig_sum 1 (by decide) 32 x
  have d2 := dig_sum 2 (by decide) 16 (sumN 1 32 x)
  have d3 := dig_sum 4 (by decide) 8 (sumN 2 16 (sumN 1 32 x))
  have hl2 : sumN 2 16 (sumN 1 32 x) < 7378697629483820647 := by
    clear a1 a2 d1 d2 d3
    have : ∀ n y, Small n y → y ≤ (16 ^ (2 * n) - 1) / 15 * 6 := by
      intro n
      induction n with
      | zero =>
        intro y hy
        have : y = 0 := hy
        omega
      | succ n ih =>
        intro y hy
        have h1 := ih _ hy.2.2
        have h2 := hy.1
        have h3 := hy.2.1
        have e : 16 ^ (2 * (n + 1)) = 256 * 16 ^ (2 * n) := by rw [Nat.mul_succ, Nat.pow_add]; omega
        have hp : 16 ^ (2 * n) % 15 = 1 := by
          clear h1 h2 h3 e ih hy
          rw [Nat.pow_mod]
          simp
        rw [e]
        generalize 16 ^ (2 * n) = P at *
        omega
    have := this 8 _ s2
    exact Nat.lt_of_le_of_lt this (by decide)
  have l3 := sum_lt 4 (by decide) 8 (sumN 2 16 (sumN 1 32 x))
  unfold bits_OnesCount64.f
  refine congrArg some ?_
  have b1 : IntKind.u64.wrap (bits .and .u64 ((x : Int) / 2) 6148914691236517205 + bits .and .u64 (x : Int) 6148914691236517205) = ((sumN 1 32 x : Nat) : Int) := a1
  have b2 : IntKind.u64.wrap (bits .and .u64 (((sumN 1 32 x : Nat) : Int) / 4) 3689348814741910323 + bits .and .u64 ((sumN 1 32 x : Nat) : Int) 3689348814741910323) = ((sumN 2 16 (sumN 1 32 x) : Nat) : Int) := a2
  rw [b1, b2]
  obtain ⟨y, hy⟩ : ∃ y, y = sumN 2 16 (sumN 1 32 x) := ⟨_, rfl⟩
  rw [← hy] at s2 d3 hl2 ⊢
  have e3 : IntKind.u64.wrap ((y : Int) / 16 + (y : Int)) = ((y / 16 + y : Nat) : Int) := by
    rw [IntKind.wrap_u64]
    omega
  have e4 : bits .and .u64 ((y / 16 + y : Nat) : Int) 1085102592571150095 = ((sumN 4 8 y : Nat) : Int) := by
    have := bits_and_u64_nat (y / 16 + y) 1085102592571150095 (by omega) (by decide)
    have hm := m4
    rw [← hm, and_mask 4 (by decide), low_add 8 y s2] at this
    rw [hm] at this
    exact this
  rw [e3, e4, tail_f y s2, d3, hy, d2, d1, els_dig h]
  rfl
end Go.Proofs.YtcehnbneiabaaaaDoor.PR
