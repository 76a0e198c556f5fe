/- LexNumbers: digits come to what they come to, noughts ahead or not, up to the greatest number; above it ErrLong is told at the first digit. For every number and every count of noughts. -/
import Derived.DataShut
import Derived.Test.YtmifncmnchnioaaLexN
import Derived.Test.YtmifncmnchnioaaPLx12
namespace Go.Proofs.Ytmifncmnchnioaa.Pure
open Go.RowKit Go.Proofs.Ytmifncmnchnioaa.PL Go.Proofs.YtmifncmnchnioaaW.PrintWords Go.Proofs.YtmifncmnchnioaaW.PrintLast
set_option linter.unusedVariables false
set_option linter.unusedSimpArgs false

theorem digit_head (t : List UInt8) (h : ∀ c ∈ t, isDigit c = true) : gapS false t = 0 := by
  match t with
  | [] => rfl
  | [c] =>
    have := h c (by simp)
    simp only [isDigit, Bool.and_eq_true, decide_eq_true_eq] at this
    have hb : isBlank c = false := by simp [isBlank]; omega
    simp [gapS, hb]
  | c :: d :: l =>
    have := h c (by simp)
    simp only [isDigit, Bool.and_eq_true, decide_eq_true_eq] at this
    have hb : isBlank c = false := by simp [isBlank]; omega
    have h47 : ¬ c = 47 := by
      intro e
      rw [e] at this
      have h2 : (47 : UInt8).toNat = 47 := rfl
      omega
    simp [gapS, hb, h47]
theorem digit_letter (c : UInt8) (h : isDigit c = true) : isLetter c = false := by
  simp only [isDigit, Bool.and_eq_true, decide_eq_true_eq] at h
  simp [isLetter]
  omega
/-- What Lex tells of a blank and digits. -/
theorem lex_digits (t : List UInt8) (h : ∀ c ∈ t, isDigit c = true) (h0 : t ≠ []) (hl : t.length ≤ 4000) :
    lexAll (⟨#[32]⟩ ++ (⟨t.toArray⟩ : ByteArray)) = if (worthAll t).2 = true then ([(⟨2, (⟨t.toArray⟩ : ByteArray), (worthAll t).1, 1⟩ : S37), (⟨4, (⟨#[]⟩ : ByteArray), 0, ((1 + t.length : Nat) : Int)⟩ : S37)], 0, 0) else ([], 3, 1) := by
  have hd : ((⟨#[32]⟩ : ByteArray) ++ (⟨t.toArray⟩ : ByteArray)).data.toList = 32 :: t := by simp [ByteArray.data_append]
  have hz : ((⟨#[32]⟩ : ByteArray) ++ (⟨t.toArray⟩ : ByteArray)).size = t.length + 1 := by rw [Go.Lib.size_eq, hd]; rfl
  unfold lexAll
  rw [hd, hz, if_neg (by omega)]
  have hg : gapS false (32 :: t) = 1 := by rw [gapS_blank _ _ (by decide), digit_head t h]
  match t, h0 with
  | c :: m, _ =>
    have hc := h c (by simp)
    have ht : (c :: m).takeWhile isDigit = c :: m := takeWhile_all _ h
    rw [lexS, hg, List.drop_succ_cons, List.drop_zero, if_neg (by simp)]
    cases hw : (worthAll (c :: m)).2 with
    | true =>
      rw [tokS_num c m (digit_letter c hc) hc (by rw [ht]; exact hw), ht]
      rw [if_pos rfl, if_pos rfl]
      simp only [List.drop_length]
      rw [show (c :: m).length + 1 = (m.length + 1) + 1 from rfl]
      rw [lexS]
      simp [gapS]
    | false =>
      rw [tokS_much c m (digit_letter c hc) hc (by rw [ht]; exact hw)]
      simp
theorem bytes_app (a b : List UInt8) : (⟨a.toArray⟩ : ByteArray) ++ (⟨b.toArray⟩ : ByteArray) = (⟨(a ++ b).toArray⟩ : ByteArray) := by
  apply ByteArray.ext
  simp [ByteArray.data_append]
theorem numbers_loop (a0 a1 : Int) (n z : Nat) (h0 : a0 = (n : Int)) (hn : n < 9223372036854775808) (hz : wrap64 (Int.tmod a1 30) = (z : Int)) (hz2 : z < 30) : ∀ (d j : Nat), j + d = z →
    Ev (fun k => withelaw6_LexNumbers.l0 k a0 a1 (⟨(List.replicate j 48 ++ digS n).toArray⟩ : ByteArray) (j : Int)) true := by
  have hlen := digS_len 20 n (by omega) (by omega)
  intro d
  induction d with
  | zero =>
    intro j hj
    obtain rfl : j = z := by omega
    refine Ev.step (fun k => by simp only [withelaw6_LexNumbers.l0]; rfl) ?_
    rw [hz]
    refine ev_else (by omega) (ev_if ?_ ?_)
    · simp only [ByteArray.size, List.size_toArray, List.length_append, List.length_replicate]
      omega
    · have hall : ∀ c ∈ List.replicate j 48 ++ digS n, isDigit c = true := by
        intro c hc
        rw [List.mem_append] at hc
        rcases hc with hc | hc
        · rw [List.eq_of_mem_replicate hc]; rfl
        · exact digits_all n c hc
      have hne : List.replicate j 48 ++ digS n ≠ [] := by
        intro he
        have := congrArg List.length he
        simp at this
        rw [this.2] at hlen
        simp at hlen
      have hL := lex_digits _ hall hne (by simp; omega)
      rw [worth_zeros] at hL
      have hw := worth_digits n
      by_cases hbig : n ≤ 4611686018427387904
      · rw [if_pos hbig] at hw
        rw [hw, if_pos rfl] at hL
        refine Ev.bind (ev_eq (lex_f _) hL) ?_
        rw [h0]
        refine ev_else (by omega) (ev_if (by simp) (ev_if (by simp) (ev_if (by simp) (ev_eq (Ev.now _) ?_))))
        simp [rd_T37]
      · rw [if_neg hbig] at hw
        rw [hw, if_neg (by simp)] at hL
        refine Ev.bind (ev_eq (lex_f _) hL) ?_
        rw [h0]
        exact ev_if (by omega) (ev_if (by simp) (ev_eq (Ev.now _) (by simp)))
  | succ d ih =>
    intro j hj
    refine Ev.step (fun k => by simp only [withelaw6_LexNumbers.l0]; rfl) ?_
    rw [hz]
    refine ev_if (by omega) (ev_if ?_ ?_)
    · simp only [ByteArray.size, List.size_toArray, List.length_append, List.length_replicate]
      omega
    · rw [w64 (by omega) (by omega), show ((j : Int) + 1) = ((j + 1 : Nat) : Int) by omega]
      have e : (⟨#[48]⟩ : ByteArray) ++ (⟨(List.replicate j 48 ++ digS n).toArray⟩ : ByteArray) = (⟨(List.replicate (j + 1) 48 ++ digS n).toArray⟩ : ByteArray) := by
        rw [List.replicate_succ]
        exact bytes_app [48] _
      rw [e]
      exact ih (j + 1) (by omega)
theorem LexNumbers : withelaw6_LexNumbers.Pure := by
  intro a0 a1 w0 w1
  have h0 := (Lit.wf_int_iff _ _).mp w0
  have h1 := (Lit.wf_int_iff _ _).mp w1
  simp only [IntKind.min, IntKind.max, IntKind.signed, IntKind.bits] at h0 h1
  refine Ev.rounds ?_
  unfold withelaw6_LexNumbers.f
  refine Ev.bind begun_ev (ev_if rfl ?_)
  by_cases hneg : a0 < 0
  · exact ev_if hneg (Ev.now _)
  · refine ev_else hneg ?_
    obtain ⟨n, rfl⟩ := Int.eq_ofNat_of_zero_le (by omega : 0 ≤ a0)
    have hn : n < 9223372036854775808 := by simp at h0; omega
    refine Ev.bind (digits_ev n n (Nat.le_refl _) hn) ?_
    have ha : 0 ≤ a1 ∧ a1 ≤ 255 := by simp at h1; omega
    have hz : wrap64 (Int.tmod a1 30) = ((a1.toNat % 30 : Nat) : Int) := by
      rw [Int.tmod_eq_emod_of_nonneg (by omega), w64 (by omega) (by omega)]
      omega
    have := numbers_loop (n : Int) a1 n (a1.toNat % 30) rfl hn hz (by omega) (a1.toNat % 30) 0 (by omega)
    simpa using this
end Go.Proofs.Ytmifncmnchnioaa.Pure
