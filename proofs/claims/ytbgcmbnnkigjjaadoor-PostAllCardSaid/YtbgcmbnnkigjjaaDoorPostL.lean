/- Outcomes as text: the code's Line and the document's are one. -/
import Derived.Test.YtbgcmbnnkigjjaaDoorPostO
import Derived.Lib.ItoaLen
import Derived.Lib.Join
namespace Go.Proofs.YtbgcmbnnkigjjaaDoor.PA
open Go.RowKit Go.Proofs.YtbgcmbnnkigjjaaDoor.PP Go.Proofs.YtbgcmbnnkigjjaaDoorW.PrintWords Go.Proofs.YtbgcmbnnkigjjaaDoorW.PrintLast Go.Proofs.YtbgcmbnnkigjjaaDoorW.PrintMore
open Go.Lib (decDigits)
set_option linter.unusedVariables false
set_option linter.unusedSimpArgs false
def R64 (n : Int) : Prop := -9223372036854775808 ≤ n ∧ n ≤ 9223372036854775807
def it (n : Int) : ByteArray := ⟨(Go.Lib.itoa n).toArray⟩
theorem it_size {n : Int} (h : R64 n) : (it n).size ≤ 21 := by
  simpa [it, ByteArray.size] using Go.Lib.itoa_length_le n h.1 h.2
theorem sz_app (a b : ByteArray) : (a ++ b).size = a.size + b.size := ByteArray.size_append
theorem sz_one (c : UInt8) : (⟨#[c]⟩ : ByteArray).size = 1 := rfl
theorem ba_ext {a b : ByteArray} (h : a.data.toList = b.data.toList) : a = b := by
  cases a; cases b
  simp only [ByteArray.mk.injEq]
  exact Array.toList_inj.mp h
theorem dec_small {n : Nat} (h : n < 10) : decDigits n = [UInt8.ofNat (48 + n)] := by rw [decDigits, dif_pos h]
theorem dec_great {n : Nat} (h : ¬ n < 10) : decDigits n = decDigits (n / 10) ++ [UInt8.ofNat (48 + n % 10)] := by rw [decDigits, dif_neg h]
theorem dec_len {n : Nat} (h : n < 18446744073709551616) : (decDigits n).length ≤ 20 := by
  rw [Go.Lib.decDigits_length]
  exact Go.Lib.nDigits_le20 n h
theorem sz_of (l : List UInt8) : (⟨l.toArray⟩ : ByteArray).size = l.length := by simp [ByteArray.size]
theorem dig_nat : ∀ (d n : Nat), n ≤ d → n ≤ 9223372036854775807 → Ev (fun k => witheref6_Digits.f k (n : Int)) (⟨(decDigits n).toArray⟩ : ByteArray) := by
  intro d
  induction d using Nat.strongRecOn with
  | _ d ih =>
    intro n hd hn
    refine Ev.step (fun k => by simp only [witheref6_Digits.f]; rfl) ?_
    refine ev_if (by omega) ?_
    refine Ev.step (fun k => by simp only [witheref6_Digits.j0]; rfl) ?_
    by_cases h : n < 10
    · refine ev_if (by simpa using (by omega : (n : Int) < 10)) ?_
      refine ev_eq (Ev.now _) ?_
      rw [w64 (by omega) (by omega), dec_small h]
      unfold strOfNums
      congr 2
      simp only [List.map_cons, List.map_nil]
      congr 2
      omega
    · refine ev_else (by simpa using (by omega : ¬ (n : Int) < 10)) (ev_if (by omega) ?_)
      have e1 : wrap64 (Int.tdiv (n : Int) 10) = ((n / 10 : Nat) : Int) := by
        rw [Int.tdiv_eq_ediv_of_nonneg (by omega), w64 (by omega) (by omega)]
        omega
      have e2 : Int.tmod (n : Int) 10 = ((n % 10 : Nat) : Int) := by
        rw [Int.tmod_eq_emod_of_nonneg (by omega)]
        omega
      rw [e1, e2]
      refine Ev.bind (ih (n / 10) (by omega) (n / 10) (by omega) (by omega)) (Ev.bind (ih (n % 10) (by omega) (n % 10) (by omega) (by omega)) ?_)
      have l1 := dec_len (n := n / 10) (by omega)
      have l2 := dec_len (n := n % 10) (by omega)
      refine ev_if ?_ (ev_eq (Ev.now _) ?_)
      · rw [sz_of, sz_of]
        omega
      · rw [dec_great h, dec_small (n := n % 10) (by omega)]
        apply ba_ext
        simp
theorem dig_neg : ∀ (d m : Nat), m ≤ d → 0 < m → m ≤ 9223372036854775808 → Ev (fun k => witheref6_Digits.f k (-(m : Int))) (⟨(45 :: decDigits m).toArray⟩ : ByteArray) := by
  intro d
  induction d using Nat.strongRecOn with
  | _ d ih =>
    intro m hd h0 hm
    refine Ev.step (fun k => by simp only [witheref6_Digits.f]; rfl) ?_
    refine ev_else (by omega) ?_
    refine Ev.step (fun k => by simp only [witheref6_Digits.j0]; rfl) ?_
    refine ev_else (by decide) (ev_else (by omega) ?_)
    by_cases h : m < 10
    · refine ev_if (by omega) ?_
      have e1 : wrap64 (-(-(m : Int))) = (m : Int) := by rw [w64 (by omega) (by omega)]; omega
      rw [e1]
      refine Ev.bind (dig_nat m m (Nat.le_refl _) (by omega)) ?_
      have l1 := dec_len (n := m) (by omega)
      refine ev_if ?_ (ev_eq (Ev.now _) ?_)
      · rw [sz_of]
        omega
      · apply ba_ext
        simp
    · refine ev_else (by omega) ?_
      have e1 : wrap64 (Int.tdiv (-(m : Int)) 10) = -((m / 10 : Nat) : Int) := by
        rw [Int.neg_tdiv, Int.tdiv_eq_ediv_of_nonneg (by omega), w64 (by omega) (by omega)]
        omega
      have e2 : wrap64 (-(Int.tmod (-(m : Int)) 10)) = ((m % 10 : Nat) : Int) := by
        rw [Int.neg_tmod, Int.tmod_eq_emod_of_nonneg (by omega), w64 (by omega) (by omega)]
        omega
      rw [e1, e2]
      refine Ev.bind (ih (m / 10) (by omega) (m / 10) (by omega) (by omega) (by omega)) (Ev.bind (dig_nat (m % 10) (m % 10) (by omega) (by omega)) ?_)
      have l1 := dec_len (n := m / 10) (by omega)
      have l2 := dec_len (n := m % 10) (by omega)
      refine ev_if ?_ (ev_eq (Ev.now _) ?_)
      · rw [sz_of, sz_of]
        simp only [List.length_cons]
        omega
      · rw [dec_great h, dec_small (n := m % 10) (by omega)]
        apply ba_ext
        simp
theorem dig_f {n : Int} (h : R64 n) : Ev (fun k => witheref6_Digits.f k n) (it n) := by
  unfold it Go.Lib.itoa
  unfold R64 at h
  by_cases hn : n < 0
  · rw [if_pos hn]
    obtain ⟨m, rfl⟩ : ∃ m : Nat, n = -(m : Int) := ⟨n.natAbs, by omega⟩
    rw [show (-(m : Int)).natAbs = m by omega]
    exact dig_neg m m (Nat.le_refl _) (by omega) (by omega)
  · rw [if_neg hn]
    obtain ⟨m, rfl⟩ : ∃ m : Nat, n = (m : Int) := ⟨n.toNat, by omega⟩
    exact dig_nat m m (Nat.le_refl _) (by omega)
theorem ito_f {n : Int} (h : R64 n) : strconv_Itoa_26.f n = some (it n) := by
  unfold strconv_Itoa_26.f
  exact if_pos h
end Go.Proofs.YtbgcmbnnkigjjaaDoor.PA
