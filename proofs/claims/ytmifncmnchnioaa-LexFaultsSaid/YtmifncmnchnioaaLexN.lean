/- Digits: what a number's text is, and what it comes to. -/
import Derived.Test.YtmifncmnchnioaaLexU
import Derived.Test.YtmifncmnchnioaaPLx7
import Derived.Test.YtmifncmnchnioaaPLx14
namespace Go.Proofs.Ytmifncmnchnioaa.PL
open Go.RowKit Go.Proofs.YtmifncmnchnioaaW.PrintWords Go.Proofs.YtmifncmnchnioaaW.PrintLast Go.Proofs.YtmifncmnchnioaaW.PrintMore
set_option linter.unusedVariables false
set_option linter.unusedSimpArgs false

theorem begun_at : withelaw6_begun.f 40 = some true := by decide +kernel
theorem begun_ev : Ev (fun k => withelaw6_begun.f k) true := Ev.of (fun k => withelaw6_begun.mono k) begun_at

def digS (n : Nat) : List UInt8 := if n < 10 then [UInt8.ofNat (48 + n)] else digS (n / 10) ++ [UInt8.ofNat (48 + n % 10)]
termination_by n
theorem digS_small (n : Nat) (h : n < 10) : digS n = [UInt8.ofNat (48 + n)] := by rw [digS, if_pos h]
theorem digS_great (n : Nat) (h : ¬ n < 10) : digS n = digS (n / 10) ++ [UInt8.ofNat (48 + n % 10)] := by rw [digS, if_neg h]
theorem digS_len : ∀ (b n : Nat), n < 10 ^ b → 0 < b → (digS n).length ≤ b ∧ 0 < (digS n).length := by
  intro b
  induction b with
  | zero => intro n _ h; omega
  | succ b ih =>
    intro n h _
    by_cases h1 : n < 10
    · rw [digS_small n h1]; simp
    · rw [digS_great n h1]
      have hb : 0 < b := by
        rcases Nat.eq_zero_or_pos b with rfl | hb
        · simp at h; omega
        · exact hb
      have := ih (n / 10) (by rw [Nat.pow_succ] at h; omega) hb
      simp
      omega
theorem one_digit (n : Nat) (h : n < 10) : (UInt8.ofNat (48 + n)).toNat = 48 + n := by
  rw [UInt8.toNat_ofNat']
  omega
theorem digits_ev : ∀ (d n : Nat), n ≤ d → n < 9223372036854775808 → Ev (fun k => witheref6_Digits.f k (n : Int)) (⟨(digS n).toArray⟩ : ByteArray) := by
  intro d
  induction d using Nat.strongRecOn with
  | _ d ih =>
    intro n hd hn
    refine Ev.step (fun k => by simp only [witheref6_Digits.f]; rfl) ?_
    refine ev_if (by omega) ?_
    refine Ev.step (fun k => by simp only [witheref6_Digits.j0]; rfl) ?_
    by_cases h : n < 10
    · refine ev_if (by simpa using (by omega : (n : Int) < 10)) ?_
      refine ev_eq (Ev.now _) ?_
      rw [w64 (by omega) (by omega), digS_small n h]
      unfold strOfNums
      congr 2
      simp only [List.map_cons, List.map_nil]
      congr 2
      omega
    · refine ev_else (by simpa using (by omega : ¬ (n : Int) < 10)) (ev_if (by omega) ?_)
      have e1 : wrap64 (Int.tdiv (n : Int) 10) = ((n / 10 : Nat) : Int) := by
        rw [Int.tdiv_eq_ediv_of_nonneg (by omega), w64 (by omega) (by omega)]
        omega
      have e2 : Int.tmod (n : Int) 10 = ((n % 10 : Nat) : Int) := by
        rw [Int.tmod_eq_emod_of_nonneg (by omega)]
        omega
      rw [e1, e2]
      refine Ev.bind (ih (n / 10) (by omega) (n / 10) (by omega) (by omega)) (Ev.bind (ih (n % 10) (by omega) (n % 10) (by omega) (by omega)) ?_)
      have l1 := digS_len 20 (n / 10) (by omega) (by omega)
      rw [digS_small (n % 10) (by omega)]
      refine ev_if ?_ (ev_eq (Ev.now _) ?_)
      · simp only [ByteArray.size, List.size_toArray, List.length_cons, List.length_nil]
        omega
      · rw [digS_great n h]
        have := Go.Lib.mk_data ((⟨(digS (n / 10)).toArray⟩ : ByteArray) ++ (⟨#[UInt8.ofNat (48 + n % 10)]⟩ : ByteArray))
        simp only [ByteArray.data_append] at this
        rw [← this]
        simp
theorem digits_all (n : Nat) : ∀ c ∈ digS n, isDigit c = true := by
  induction n using Nat.strongRecOn with
  | _ n ih =>
    intro c hc
    by_cases h : n < 10
    · rw [digS_small n h] at hc
      simp only [List.mem_singleton] at hc
      subst hc
      simp only [isDigit, one_digit n h]
      simp
      omega
    · rw [digS_great n h, List.mem_append] at hc
      rcases hc with hc | hc
      · exact ih _ (by omega) c hc
      · simp only [List.mem_singleton] at hc
        subst hc
        simp only [isDigit, one_digit (n % 10) (by omega)]
        simp
        omega
theorem worth_snoc (l : List UInt8) (b : UInt8) : worthAll (l ++ [b]) = worthStep (worthAll l) b := by
  simp [worthAll, List.foldl_append]
theorem step_digit (m : Int) (r : Nat) (hr : r < 10) : worthStep (m, true) (UInt8.ofNat (48 + r)) = if (4611686018427387904 - (r : Int)) / 10 < m then (0, false) else (10 * m + r, true) := by
  unfold worthStep
  rw [if_pos rfl, one_digit r hr]
  have : (((48 + r : Nat) : Int) - 48) % 256 = r := by omega
  rw [this]
theorem worth_zeros : ∀ (z : Nat) (l : List UInt8), worthAll (List.replicate z 48 ++ l) = worthAll l
  | 0, l => rfl
  | z + 1, l => by
    rw [List.replicate_succ, List.cons_append]
    show List.foldl worthStep (worthStep (0, true) 48) _ = _
    have : worthStep (0, true) 48 = (0, true) := by decide
    rw [this]
    exact worth_zeros z l
theorem worth_digits (n : Nat) : if n ≤ 4611686018427387904 then worthAll (digS n) = ((n : Int), true) else (worthAll (digS n)).2 = false := by
  induction n using Nat.strongRecOn with
  | _ n ih =>
    by_cases h : n < 10
    · rw [if_pos (by omega), digS_small n h]
      have := worth_snoc [] (UInt8.ofNat (48 + n))
      rw [List.nil_append] at this
      rw [this]
      show worthStep (0, true) _ = _
      rw [step_digit 0 n h, if_neg (by omega)]
      simp
    · have h1 := ih (n / 10) (by omega)
      rw [digS_great n h, worth_snoc]
      split
      · rename_i h2
        rw [if_pos (by omega)] at h1
        rw [h1, step_digit _ _ (by omega), if_neg (by omega)]
        congr 1
        omega
      · rename_i h2
        by_cases h3 : n / 10 ≤ 4611686018427387904
        · rw [if_pos h3] at h1
          rw [h1, step_digit _ _ (by omega), if_pos (by omega)]
        · rw [if_neg h3] at h1
          unfold worthStep
          rw [if_neg (by rw [h1]; simp)]
          exact h1
theorem takeWhile_all {p : UInt8 → Bool} (l : List UInt8) (h : ∀ c ∈ l, p c = true) : l.takeWhile p = l := by
  induction l with
  | nil => rfl
  | cons c l ih => rw [List.takeWhile_cons_of_pos (h c (by simp)), ih (fun d hd => h d (by simp [hd]))]
end Go.Proofs.Ytmifncmnchnioaa.PL
