/- Texts of expressions and conditions: what both printers come to. -/
import Derived.Test.YtpldhihdlgghlaaDoorPSx3
import Derived.Test.YtpldhihdlgghlaaDoorPSx11
import Derived.Test.YtpldhihdlgghlaaDoorPSx9
import Derived.Lib.ItoaLen
namespace Go.Proofs.YtpldhihdlgghlaaDoor.PS
open Go.RowKit Go.Proofs.YtpldhihdlgghlaaDoorW.PrintWords Go.Proofs.YtpldhihdlgghlaaDoorW.PrintLast Go.Proofs.YtpldhihdlgghlaaDoorW.PrintMore
open Go.Lib (decDigits)
set_option linter.unusedVariables false
set_option linter.unusedSimpArgs false
theorem ev_if {α : Type} {c : Prop} [Decidable c] {f g : Nat → Option α} {r : α} (h : c) (k : Ev f r) : Ev (fun n => if c then f n else g n) r := by
  simpa only [if_pos h] using k
theorem ev_else {α : Type} {c : Prop} [Decidable c] {f g : Nat → Option α} {r : α} (h : ¬ c) (k : Ev g r) : Ev (fun n => if c then f n else g n) r := by
  simpa only [if_neg h] using k
theorem ev_bind0 {α β : Type} {f : Option α} {g : Nat → α → Option β} {a : α} {r : β} (h : f = some a) (k : Ev (fun n => g n a) r) : Ev (fun n => f.bind (g n)) r := by
  subst h
  exact k
theorem ev_eq {α : Type} {g : Nat → Option α} {r r' : α} (h : Ev g r) (e : r = r') : Ev g r' := e ▸ h
theorem ev_some {α : Type} {g : Option α} {r : α} (h : g = some r) : Ev (fun _ => g) r := by
  subst h
  exact Ev.now _
theorem w64 {n : Int} (h : -9223372036854775808 ≤ n) (h2 : n < 9223372036854775808) : wrap64 n = n := by
  unfold wrap64
  omega
def R64 (n : Int) : Prop := -9223372036854775808 ≤ n ∧ n ≤ 9223372036854775807
def it (n : Int) : ByteArray := ⟨(Go.Lib.itoa n).toArray⟩
theorem it_size {n : Int} (h : R64 n) : (it n).size ≤ 21 := by
  simpa [it, ByteArray.size] using Go.Lib.itoa_length_le n h.1 h.2
theorem ba_ext {a b : ByteArray} (h : a.data.toList = b.data.toList) : a = b := by
  cases a; cases b
  simp only [ByteArray.mk.injEq]
  exact Array.toList_inj.mp h
theorem dec_small {n : Nat} (h : n < 10) : decDigits n = [UInt8.ofNat (48 + n)] := by rw [decDigits, dif_pos h]
theorem dec_great {n : Nat} (h : ¬ n < 10) : decDigits n = decDigits (n / 10) ++ [UInt8.ofNat (48 + n % 10)] := by rw [decDigits, dif_neg h]
theorem dec_len {n : Nat} (h : n < 18446744073709551616) : (decDigits n).length ≤ 20 := by
  rw [Go.Lib.decDigits_length]
  exact Go.Lib.nDigits_le20 n h
theorem sz_of (l : List UInt8) : (⟨l.toArray⟩ : ByteArray).size = l.length := by simp [ByteArray.size]
theorem dig_nat : ∀ (d n : Nat), n ≤ d → n ≤ 9223372036854775807 → Ev (fun k => witheref6_Digits.f k (n : Int)) (⟨(decDigits n).toArray⟩ : ByteArray) := by
  intro d
  induction d using Nat.strongRecOn with
  | _ d ih =>
    intro n hd hn
    refine Ev.step (fun k => by simp only [witheref6_Digits.f]; rfl) ?_
    refine ev_if (by omega) ?_
    refine Ev.step (fun k => by simp only [witheref6_Digits.j0]; rfl) ?_
    by_cases h : n < 10
    · refine ev_if (by simpa using (by omega : (n : Int) < 10)) ?_
      refine ev_eq (Ev.now _) ?_
      rw [w64 (by omega) (by omega), dec_small h]
      unfold strOfNums
      congr 2
      simp only [List.map_cons, List.map_nil]
      congr 2
      omega
    · refine ev_else (by simpa using (by omega : ¬ (n : Int) < 10)) (ev_if (by omega) ?_)
      have e1 : wrap64 (Int.tdiv (n : Int) 10) = ((n / 10 : Nat) : Int) := by
        rw [Int.tdiv_eq_ediv_of_nonneg (by omega), w64 (by omega) (by omega)]
        omega
      have e2 : Int.tmod (n : Int) 10 = ((n % 10 : Nat) : Int) := by
        rw [Int.tmod_eq_emod_of_nonneg (by omega)]
        omega
      rw [e1, e2]
      refine Ev.bind (ih (n / 10) (by omega) (n / 10) (by omega) (by omega)) (Ev.bind (ih (n % 10) (by omega) (n % 10) (by omega) (by omega)) ?_)
      have l1 := dec_len (n := n / 10) (by omega)
      have l2 := dec_len (n := n % 10) (by omega)
      refine ev_if ?_ (ev_eq (Ev.now _) ?_)
      · rw [sz_of, sz_of]
        omega
      · rw [dec_great h, dec_small (n := n % 10) (by omega)]
        apply ba_ext
        simp
theorem dig_neg : ∀ (d m : Nat), m ≤ d → 0 < m → m ≤ 9223372036854775808 → Ev (fun k => witheref6_Digits.f k (-(m : Int))) (⟨(45 :: decDigits m).toArray⟩ : ByteArray) := by
  intro d
  induction d using Nat.strongRecOn with
  | _ d ih =>
    intro m hd h0 hm
    refine Ev.step (fun k => by simp only [witheref6_Digits.f]; rfl) ?_
    refine ev_else (by omega) ?_
    refine Ev.step (fun k => by simp only [witheref6_Digits.j0]; rfl) ?_
    refine ev_else (by decide) (ev_else (by omega) ?_)
    by_cases h : m < 10
    · refine ev_if (by omega) ?_
      have e1 : wrap64 (-(-(m : Int))) = (m : Int) := by rw [w64 (by omega) (by omega)]; omega
      rw [e1]
      refine Ev.bind (dig_nat m m (Nat.le_refl _) (by omega)) ?_
      have l1 := dec_len (n := m) (by omega)
      refine ev_if ?_ (ev_eq (Ev.now _) ?_)
      · rw [sz_of]
        omega
      · apply ba_ext
        simp
    · refine ev_else (by omega) ?_
      have e1 : wrap64 (Int.tdiv (-(m : Int)) 10) = -((m / 10 : Nat) : Int) := by
        rw [Int.neg_tdiv, Int.tdiv_eq_ediv_of_nonneg (by omega), w64 (by omega) (by omega)]
        omega
      have e2 : wrap64 (-(Int.tmod (-(m : Int)) 10)) = ((m % 10 : Nat) : Int) := by
        rw [Int.neg_tmod, Int.tmod_eq_emod_of_nonneg (by omega), w64 (by omega) (by omega)]
        omega
      rw [e1, e2]
      refine Ev.bind (ih (m / 10) (by omega) (m / 10) (by omega) (by omega) (by omega)) (Ev.bind (dig_nat (m % 10) (m % 10) (by omega) (by omega)) ?_)
      have l1 := dec_len (n := m / 10) (by omega)
      have l2 := dec_len (n := m % 10) (by omega)
      refine ev_if ?_ (ev_eq (Ev.now _) ?_)
      · rw [sz_of, sz_of]
        simp only [List.length_cons]
        omega
      · rw [dec_great h, dec_small (n := m % 10) (by omega)]
        apply ba_ext
        simp
theorem dig_f {n : Int} (h : R64 n) : Ev (fun k => witheref6_Digits.f k n) (it n) := by
  unfold it Go.Lib.itoa
  unfold R64 at h
  by_cases hn : n < 0
  · rw [if_pos hn]
    obtain ⟨m, rfl⟩ : ∃ m : Nat, n = -(m : Int) := ⟨n.natAbs, by omega⟩
    rw [show (-(m : Int)).natAbs = m by omega]
    exact dig_neg m m (Nat.le_refl _) (by omega) (by omega)
  · rw [if_neg hn]
    obtain ⟨m, rfl⟩ : ∃ m : Nat, n = (m : Int) := ⟨n.toNat, by omega⟩
    exact dig_nat m m (Nat.le_refl _) (by omega)
theorem ito_f {n : Int} (h : R64 n) : strconv_Itoa_18.f n = some (it n) := by
  unfold strconv_Itoa_18.f
  exact if_pos h
/-- The bytes that an expression of some depth has at most. -/
def bnd : Nat → Nat
  | 0 => 0
  | k + 1 => 2 * bnd k + 50
theorem bnd_le : ∀ k, k ≤ 13 → bnd k ≤ 409550 := by decide
/-- An expression of at most this depth, of names of at most 40 bytes. -/
def EX : Nat → S31 → Prop
  | 0, _ => False
  | k + 1, e => R64 e.f1 ∧ e.f2.size ≤ 40 ∧ ∀ x ∈ e.f3, EX k x
def midS (op : Int) : ByteArray := if op = 3 then ⟨#[32, 43, 32]⟩ else if op = 4 then ⟨#[32, 45, 32]⟩ else if op = 5 then ⟨#[32, 61, 61, 32]⟩ else ⟨#[32, 60, 32]⟩
/-- An expression's text. -/
def exS : Nat → S31 → ByteArray
  | 0, _ => ⟨#[]⟩
  | k + 1, e => if e.f0 = 1 then it e.f1 else if e.f0 = 2 then e.f2 else if 3 ≤ e.f0 ∧ e.f0 ≤ 6 then
      (⟨#[40]⟩ : ByteArray) ++ (match e.f3[0]? with | none => ⟨#[]⟩ | some x => exS k x) ++ midS e.f0 ++ (match e.f3[1]? with | none => ⟨#[]⟩ | some x => exS k x) ++ ⟨#[41]⟩ else ⟨#[]⟩
def kidS (k : Nat) (l : List S31) (i : Nat) : ByteArray := match l[i]? with | none => ⟨#[]⟩ | some x => exS k x
theorem mid_size (op : Int) : (midS op).size ≤ 4 := by
  unfold midS
  split
  · decide
  · split
    · decide
    · split <;> decide
theorem exS_size : ∀ k e, EX k e → (exS k e).size ≤ bnd k
  | 0, e, h => h.elim
  | k + 1, e, h => by
    obtain ⟨h1, h2, h3⟩ := h
    have hi := it_size h1
    have kid : ∀ i : Nat, (kidS k e.f3 i).size ≤ bnd k := by
      intro i
      unfold kidS
      cases hx : e.f3[i]? with
      | none => exact Nat.zero_le _
      | some x => exact exS_size k x (h3 x (List.mem_of_getElem? hx))
    have k0 := kid 0
    have k1 := kid 1
    have hm := mid_size e.f0
    unfold kidS at k0 k1
    unfold exS bnd
    split
    · omega
    · split
      · omega
      · split
        · simp only [ByteArray.size_append, show (⟨#[40]⟩ : ByteArray).size = 1 from rfl, show (⟨#[41]⟩ : ByteArray).size = 1 from rfl]
          omega
        · exact Nat.zero_le _
theorem kidS_size {k : Nat} {l : List S31} (h : ∀ x ∈ l, EX k x) (i : Nat) : (kidS k l i).size ≤ bnd k := by
  unfold kidS
  cases hx : l[i]? with
  | none => exact Nat.zero_le _
  | some x => exact exS_size k x (h x (List.mem_of_getElem? hx))
/-- A condition of at most this depth, of names of at most 40 bytes. -/
def CX : Nat → S26 → Prop
  | 0, _ => False
  | k + 1, c => R64 c.f1 ∧ R64 c.f3 ∧ c.f2.size ≤ 40 ∧ ∀ x ∈ c.f4, CX k x
def sideM (f : S26 → ByteArray) (l : List S26) (i : Nat) : ByteArray := match l[i]? with | none => ⟨#[]⟩ | some x => f x
def isS (c : S26) : ByteArray := c.f2 ++ ⟨#[32, 61, 61, 32]⟩ ++ it c.f3
/-- A condition's text. -/
def cdS : Nat → S26 → ByteArray
  | 0, _ => ⟨#[]⟩
  | k + 1, c => if c.f0 = 1 then isS c else if c.f0 = 2 then it c.f1 ++ ⟨#[58]⟩ ++ isS c else if c.f0 = 3 then (⟨#[110, 111, 116, 32]⟩ : ByteArray) ++ sideM (cdS k) c.f4 0
      else if c.f0 = 4 then (⟨#[40]⟩ : ByteArray) ++ sideM (cdS k) c.f4 0 ++ ⟨#[32, 97, 110, 100, 32]⟩ ++ sideM (cdS k) c.f4 1 ++ ⟨#[41]⟩
      else if c.f0 = 5 then (⟨#[40]⟩ : ByteArray) ++ sideM (cdS k) c.f4 0 ++ ⟨#[32, 111, 114, 32]⟩ ++ sideM (cdS k) c.f4 1 ++ ⟨#[41]⟩ else ⟨#[]⟩
def bndC : Nat → Nat
  | 0 => 0
  | k + 1 => 2 * bndC k + 100
theorem bndC_le : ∀ k, k ≤ 13 → bndC k ≤ 819100 := by decide
theorem sideM_size {k : Nat} {l : List S26} (f : S26 → ByteArray) (B : Nat) (h : ∀ x ∈ l, (f x).size ≤ B) (i : Nat) : (sideM f l i).size ≤ B := by
  unfold sideM
  cases hx : l[i]? with
  | none => exact Nat.zero_le _
  | some x => exact h x (List.mem_of_getElem? hx)
theorem isS_size {c : S26} (h1 : R64 c.f3) (h2 : c.f2.size ≤ 40) : (isS c).size ≤ 65 := by
  have := it_size h1
  simp only [isS, ByteArray.size_append, show (⟨#[32, 61, 61, 32]⟩ : ByteArray).size = 4 from rfl]
  omega
theorem cdS_size : ∀ k c, CX k c → (cdS k c).size ≤ bndC k
  | 0, c, h => h.elim
  | k + 1, c, h => by
    obtain ⟨h0, h1, h2, h3⟩ := h
    have hi := it_size h0
    have hs := isS_size h1 h2
    have k0 := sideM_size (k := k) (cdS k) (bndC k) (fun x hx => cdS_size k x (h3 x hx)) 0
    have k1 := sideM_size (k := k) (cdS k) (bndC k) (fun x hx => cdS_size k x (h3 x hx)) 1
    unfold cdS bndC
    simp only [show ∀ a b : ByteArray, (a ++ b).size = a.size + b.size from fun a b => ByteArray.size_append, apply_ite ByteArray.size, show (⟨#[40]⟩ : ByteArray).size = 1 from rfl, show (⟨#[41]⟩ : ByteArray).size = 1 from rfl, show (⟨#[58]⟩ : ByteArray).size = 1 from rfl, show (⟨#[110, 111, 116, 32]⟩ : ByteArray).size = 4 from rfl, show (⟨#[32, 97, 110, 100, 32]⟩ : ByteArray).size = 5 from rfl, show (⟨#[32, 111, 114, 32]⟩ : ByteArray).size = 4 from rfl, show (⟨#[]⟩ : ByteArray).size = 0 from rfl]
    repeat' split
    all_goals omega
end Go.Proofs.YtpldhihdlgghlaaDoor.PS
