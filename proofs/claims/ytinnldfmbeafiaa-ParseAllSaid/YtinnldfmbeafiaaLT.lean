/- Plain theory of the lexer: what runs, gaps, signs and tokens come to, on lists of bytes; no program in sight but the printed functions. -/
import Derived.Test.YtinnldfmbeafiaaQK
import Derived.Test.YtinnldfmbeafiaaPAx5
namespace Go.Proofs.Ytinnldfmbeafiaa.PA
open Go.RowKit Go.Proofs.YtinnldfmbeafiaaW.PrintWords Go.Proofs.YtinnldfmbeafiaaW.PrintLast Go.Proofs.YtinnldfmbeafiaaW.PrintMore
set_option linter.unusedVariables false
set_option linter.unusedSimpArgs false


/-! bytes -/
def isBlank (c : UInt8) : Bool := c.toNat == 32 || c.toNat == 9 || c.toNat == 10 || c.toNat == 13
def isLetter (c : UInt8) : Bool := decide (65 ≤ c.toNat) && decide (c.toNat ≤ 90) || decide (97 ≤ c.toNat) && decide (c.toNat ≤ 122)
def isDigit (c : UInt8) : Bool := decide (48 ≤ c.toNat) && decide (c.toNat ≤ 57)
def isTail (c : UInt8) : Bool := isLetter c || isDigit c
def isInner (c : UInt8) : Bool := !(c.toNat == 10)
theorem blank_f (c : UInt8) : lex_char_blank.f (c.toNat : Int) = some (isBlank c) := by
  unfold lex_char_blank.f isBlank
  have e32 : ((c.toNat : Int) = 32) ↔ c.toNat = 32 := by omega
  have e9 : ((c.toNat : Int) = 9) ↔ c.toNat = 9 := by omega
  have e10 : ((c.toNat : Int) = 10) ↔ c.toNat = 10 := by omega
  have e13 : ((c.toNat : Int) == 13) = (c.toNat == 13) := by rw [Bool.eq_iff_iff]; simp; omega
  simp only [e32, e9, e10, e13]
  by_cases h1 : c.toNat = 32 <;> by_cases h2 : c.toNat = 9 <;> by_cases h3 : c.toNat = 10 <;> simp [h1, h2, h3]
theorem letter_f (c : UInt8) : lex_char_letter.f (c.toNat : Int) = some (isLetter c) := by
  unfold lex_char_letter.f isLetter
  by_cases h1 : 65 ≤ c.toNat <;> by_cases h2 : c.toNat ≤ 90 <;> by_cases h3 : 97 ≤ c.toNat <;>
    simp [show ((c.toNat : Int) ≥ 65) ↔ 65 ≤ c.toNat by omega, show ((c.toNat : Int) ≤ 90) ↔ c.toNat ≤ 90 by omega, show ((c.toNat : Int) ≥ 97) ↔ 97 ≤ c.toNat by omega, show ((c.toNat : Int) ≤ 122) ↔ c.toNat ≤ 122 by omega, h1, h2, h3] <;> omega
theorem digit_f (c : UInt8) : lex_char_digit.f (c.toNat : Int) = some (isDigit c) := by
  unfold lex_char_digit.f isDigit
  by_cases h1 : 48 ≤ c.toNat <;>
    simp [show ((c.toNat : Int) ≥ 48) ↔ 48 ≤ c.toNat by omega, show ((c.toNat : Int) ≤ 57) ↔ c.toNat ≤ 57 by omega, h1]
theorem tail_f (c : UInt8) : lex_char_tail.f (c.toNat : Int) = some (isTail c) := by
  unfold lex_char_tail.f isTail
  rw [letter_f, digit_f]
  cases isLetter c <;> simp
theorem inner_f (c : UInt8) : lex_char_inner.f (c.toNat : Int) = some (isInner c) := by
  unfold lex_char_inner.f isInner
  congr 1
  rw [Bool.eq_iff_iff]
  simp
  omega

/-! a text from a place on -/
def suf (s : ByteArray) (i : Nat) : List UInt8 := s.data.toList.drop i
theorem suf_len (s : ByteArray) (i : Nat) : (suf s i).length = s.size - i := by
  unfold suf
  rw [List.length_drop, ← Go.Lib.size_eq]
theorem suf_cons (s : ByteArray) (i : Nat) (h : i < s.size) : suf s i = s[i] :: suf s (i + 1) := by
  unfold suf
  rw [List.drop_eq_getElem_cons (by simpa using h)]
  rfl
theorem suf_nil (s : ByteArray) (i : Nat) (h : s.size ≤ i) : suf s i = [] := by
  unfold suf
  exact List.drop_of_length_le (by simpa using h)
theorem suf_drop (s : ByteArray) (i j : Nat) : (suf s i).drop j = suf s (i + j) := by
  unfold suf
  rw [List.drop_drop]
theorem bt_suf (s : ByteArray) (i : Nat) (h : i < s.size) : bt s (i : Int) = ((s[i]).toNat : Int) := by
  unfold bt
  simp [h]
theorem cut_suf (s : ByteArray) (i n : Nat) : s.extract i (i + n) = (⟨((suf s i).take n).toArray⟩ : ByteArray) := by
  rw [Go.Lib.extract_eq]
  unfold suf
  rw [show i + n - i = n by omega]

/-- A run: how many bytes of a kind there are. -/
theorem run_ev (L : Nat → ByteArray → Int → Int → Option Int) (f : Int → Option Bool) (p : UInt8 → Bool) (hf : ∀ c : UInt8, f (c.toNat : Int) = some (p c))
    (hL : ∀ k x0 x1 x7, L (k + 1) x0 x1 x7 = if (wrap64 (x1 + x7)) < (x0.size : Int) then (if 0 ≤ (wrap64 (x1 + x7)) then ((f (bt x0 (wrap64 (x1 + x7)))).bind fun t => (if t = true then (L k x0 x1 (wrap64 (x7 + 1))) else (some x7))) else (none)) else (some x7))
    (s : ByteArray) (hs : s.size ≤ 140737488351232) (i : Nat) : ∀ (d j : Nat), i + j ≤ s.size → s.size - (i + j) = d → Ev (fun k => L k s (i : Int) (j : Int)) ((j + ((suf s (i + j)).takeWhile p).length : Nat) : Int) := by
  intro d
  induction d with
  | zero =>
    intro j h1 h2
    refine Ev.step (hL · s i j) ?_
    rw [w64 (by omega) (by omega)]
    refine ev_else (by omega) ?_
    rw [suf_nil s _ (by omega)]
    exact Ev.now _
  | succ d ih =>
    intro j h1 h2
    have hlt : i + j < s.size := by omega
    refine Ev.step (hL · s i j) ?_
    rw [w64 (by omega) (by omega), show ((i : Int) + (j : Int)) = ((i + j : Nat) : Int) by omega]
    refine ev_if (by omega) (ev_if (by omega) ?_)
    rw [bt_suf s _ hlt]
    refine ev_bind0 (hf _) ?_
    rw [suf_cons s _ hlt]
    cases hp : p s[i + j] with
    | true =>
      refine ev_if rfl ?_
      rw [w64 (by omega) (by omega), List.takeWhile_cons_of_pos hp]
      exact ev_eq (ih (j + 1) (by omega) (by omega)) (by rw [List.length_cons, show i + j + 1 = i + (j + 1) by omega]; omega)
    | false =>
      refine ev_else (by simp) ?_
      rw [List.takeWhile_cons_of_neg (by simp [hp])]
      exact Ev.now _
theorem run_blank (s : ByteArray) (hs : s.size ≤ 140737488351232) (i : Nat) (hi : i ≤ s.size) : Ev (fun k => lex_run_at_lex_char_blank.f k s (i : Int)) (((suf s i).takeWhile isBlank).length : Int) :=
  ev_eq (run_ev lex_run_at_lex_char_blank.l0 _ _ blank_f (fun _ _ _ _ => rfl) s hs i (s.size - i) 0 (by omega) (by omega)) (by simp)
theorem run_inner (s : ByteArray) (hs : s.size ≤ 140737488351232) (i : Nat) (hi : i ≤ s.size) : Ev (fun k => lex_run_at_lex_char_inner.f k s (i : Int)) (((suf s i).takeWhile isInner).length : Int) :=
  ev_eq (run_ev lex_run_at_lex_char_inner.l0 _ _ inner_f (fun _ _ _ _ => rfl) s hs i (s.size - i) 0 (by omega) (by omega)) (by simp)
theorem run_tail (s : ByteArray) (hs : s.size ≤ 140737488351232) (i : Nat) (hi : i ≤ s.size) : Ev (fun k => lex_run_at_lex_char_tail.f k s (i : Int)) (((suf s i).takeWhile isTail).length : Int) :=
  ev_eq (run_ev lex_run_at_lex_char_tail.l0 _ _ tail_f (fun _ _ _ _ => rfl) s hs i (s.size - i) 0 (by omega) (by omega)) (by simp)
theorem run_digit (s : ByteArray) (hs : s.size ≤ 140737488351232) (i : Nat) (hi : i ≤ s.size) : Ev (fun k => lex_run_at_lex_char_digit.f k s (i : Int)) (((suf s i).takeWhile isDigit).length : Int) :=
  ev_eq (run_ev lex_run_at_lex_char_digit.l0 _ _ digit_f (fun _ _ _ _ => rfl) s hs i (s.size - i) 0 (by omega) (by omega)) (by simp)

/-! blanks and remarks -/
def gapS : Bool → List UInt8 → Nat
  | _, [] => 0
  | true, c :: l => if c.toNat = 10 then gapS false l + 1 else gapS true l + 1
  | false, [c] => if isBlank c = true then 1 else 0
  | false, c :: d :: l => if isBlank c = true then gapS false (d :: l) + 1 else if c = 47 ∧ d = 47 then gapS true l + 2 else 0
theorem gapS_blank (c : UInt8) (l : List UInt8) (h : isBlank c = true) : gapS false (c :: l) = gapS false l + 1 := by
  cases l with
  | nil => simp [gapS, h]
  | cons d l => simp [gapS, h]
theorem gapS_blanks : ∀ (l : List UInt8), gapS false l = (l.takeWhile isBlank).length + gapS false (l.dropWhile isBlank)
  | [] => by simp
  | c :: l => by
    cases h : isBlank c with
    | true => rw [gapS_blank c l h, List.takeWhile_cons_of_pos h, List.dropWhile_cons_of_pos h, gapS_blanks l, List.length_cons]; omega
    | false => rw [List.takeWhile_cons_of_neg (by simp [h]), List.dropWhile_cons_of_neg (by simp [h])]; simp
theorem gapS_inner : ∀ (l : List UInt8), gapS true l = (l.takeWhile isInner).length + gapS false (l.dropWhile isInner)
  | [] => by simp [gapS]
  | c :: l => by
    by_cases h : c.toNat = 10
    · have h1 : isInner c = false := by simp [isInner, h]
      rw [List.takeWhile_cons_of_neg (by simp [h1]), List.dropWhile_cons_of_neg (by simp [h1]), gapS_blank c l (by simp [isBlank, h])]
      simp [gapS, h]
    · have h1 : isInner c = true := by simp [isInner, h]
      rw [List.takeWhile_cons_of_pos h1, List.dropWhile_cons_of_pos h1, List.length_cons, show gapS true (c :: l) = gapS true l + 1 by simp [gapS, h], gapS_inner l]
      omega
theorem gapS_le : ∀ (b : Bool) (l : List UInt8), gapS b l ≤ l.length
  | _, [] => by simp [gapS]
  | true, c :: l => by
    unfold gapS
    have h1 := gapS_le false l
    have h2 := gapS_le true l
    split <;> simp <;> omega
  | false, [c] => by unfold gapS; split <;> simp
  | false, c :: d :: l => by
    unfold gapS
    have h1 := gapS_le false (d :: l)
    have h2 := gapS_le true l
    simp only [List.length_cons] at *
    split
    · omega
    · split <;> omega
theorem take_while_drop {p : UInt8 → Bool} (l : List UInt8) : l.drop (l.takeWhile p).length = l.dropWhile p := by
  induction l with
  | nil => rfl
  | cons c l ih =>
    cases h : p c with
    | true => rw [List.takeWhile_cons_of_pos h, List.dropWhile_cons_of_pos h, List.length_cons, List.drop_succ_cons, ih]
    | false => rw [List.takeWhile_cons_of_neg (by simp [h]), List.dropWhile_cons_of_neg (by simp [h])]; rfl
theorem take_while_le {p : UInt8 → Bool} (l : List UInt8) : (l.takeWhile p).length ≤ l.length := by
  induction l with
  | nil => simp
  | cons c l ih =>
    cases h : p c with
    | true => rw [List.takeWhile_cons_of_pos h]; simpa using ih
    | false => rw [List.takeWhile_cons_of_neg (by simp [h])]; simp
/-- Two bytes that stand at the begin. -/
def two (a b : UInt8) : List UInt8 → Bool
  | c :: d :: _ => c == a && d == b
  | _ => false
theorem two_cut (a b : UInt8) (l : List UInt8) : (l.take 2 == [a, b]) = two a b l := by
  match l with
  | [] => rfl
  | [c] => simp [two]
  | c :: d :: l => simp [two]
theorem prefix_f (s : ByteArray) (i : Nat) (hi : i ≤ s.size) (a b : UInt8) : strings_HasPrefix.f (s.extract i s.size) (⟨#[a, b]⟩ : ByteArray) = some (two a b (suf s i)) := by
  unfold strings_HasPrefix.f stringslite_HasPrefix.f
  have hz : (s.extract i s.size).size = s.size - i := by simp
  rw [hz]
  have h2 : (⟨#[a, b]⟩ : ByteArray).size = 2 := rfl
  rw [h2]
  by_cases h : s.size - i ≥ 2
  · rw [if_pos (by omega), if_pos (by omega), if_pos (by omega)]
    simp only [Option.bind_some]
    congr 1
    rw [Go.Lib.extract_toList, Go.Lib.extract_data]
    rw [show s.data.toList.drop i = suf s i from rfl, show (⟨#[a, b]⟩ : ByteArray).toList = [a, b] by rw [Go.Lib.toList_data], ← two_cut]
    rw [show ((2 : Nat) : Int).toNat = 2 from rfl, List.drop_zero, List.take_take]
    rw [show min (2 - 0) (s.size - i) = 2 by omega]
  · rw [if_neg (by omega)]
    simp only [Option.bind_some]
    have hl := suf_len s i
    match hm : suf s i with
    | [] => rfl
    | [c] => rfl
    | c :: d :: l => rw [hm] at hl; simp at hl; omega
theorem two_two (l : List UInt8) (h : two 47 47 l = true) : ∃ m, l = 47 :: 47 :: m := by
  match l with
  | [] => simp [two] at h
  | [c] => simp [two] at h
  | c :: d :: m =>
    simp [two] at h
    exact ⟨m, by rw [h.1, h.2]⟩
theorem gapS_not (l : List UInt8) (h0 : ∀ c m, l = c :: m → isBlank c = false) (h : two 47 47 l = false) : gapS false l = 0 := by
  match l with
  | [] => simp [gapS]
  | [c] => simp [gapS, h0 c [] rfl]
  | c :: d :: m =>
    simp [two] at h
    simp [gapS, h0 c (d :: m) rfl]
    exact h
theorem dropWhile_head {p : UInt8 → Bool} (l : List UInt8) : ∀ c m, l.dropWhile p = c :: m → p c = false := by
  induction l with
  | nil => simp
  | cons b l ih =>
    intro c m h
    cases hb : p b with
    | true => rw [List.dropWhile_cons_of_pos hb] at h; exact ih c m h
    | false =>
      rw [List.dropWhile_cons_of_neg (by simp [hb])] at h
      obtain ⟨rfl, _⟩ := List.cons.inj h
      exact hb
theorem gap_ev (s : ByteArray) (hs : s.size ≤ 140737488351232) (a : Nat) (ha : a ≤ s.size) : ∀ (d i : Nat), i ≤ s.size → s.size - i ≤ d → Ev (fun k => lex_gap.l0 k s (a : Int) (i : Int)) ((i : Int) + (gapS false (suf s i) : Int) - (a : Int)) := by
  intro d
  induction d using Nat.strongRecOn with
  | _ d ih =>
    intro i hi hd
    refine Ev.step (fun k => by simp only [lex_gap.l0]; rfl) ?_
    refine Ev.bind (run_blank s hs i hi) ?_
    have hb := take_while_le (p := isBlank) (suf s i)
    have hl := suf_len s i
    generalize hn : ((suf s i).takeWhile isBlank).length = n at *
    rw [w64 (by omega) (by omega), show ((i : Int) + (n : Int)) = ((i + n : Nat) : Int) by omega]
    refine ev_if (by omega) (ev_if (by omega) ?_)
    have hsd : (suf s i).dropWhile isBlank = suf s (i + n) := by rw [← take_while_drop, hn, suf_drop]
    have hg := gapS_blanks (suf s i)
    rw [hn, hsd] at hg
    rw [show ((i + n : Nat) : Int).toNat = i + n from rfl]
    refine ev_bind0 (prefix_f s (i + n) (by omega) 47 47) ?_
    cases h2 : two 47 47 (suf s (i + n)) with
    | true =>
      refine ev_if rfl ?_
      obtain ⟨m, hm⟩ := two_two _ h2
      refine Ev.bind (run_inner s hs (i + n) (by omega)) ?_
      have hb2 := take_while_le (p := isInner) (suf s (i + n))
      have hl2 := suf_len s (i + n)
      have e1 : (suf s (i + n)).takeWhile isInner = 47 :: 47 :: m.takeWhile isInner := by
        rw [hm, List.takeWhile_cons_of_pos (by decide), List.takeWhile_cons_of_pos (by decide)]
      have e2 : (suf s (i + n)).dropWhile isInner = m.dropWhile isInner := by
        rw [hm, List.dropWhile_cons_of_pos (by decide), List.dropWhile_cons_of_pos (by decide)]
      have e3 : gapS false (suf s (i + n)) = gapS true m + 2 := by
        rw [hm]
        simp [gapS, isBlank]
      generalize hq : ((suf s (i + n)).takeWhile isInner).length = q at *
      have hq2 : 2 ≤ q := by rw [← hq, e1]; simp
      rw [w64 (by omega) (by omega), show (((i + n : Nat) : Int) + (q : Int)) = ((i + n + q : Nat) : Int) by omega]
      have hsq : (suf s (i + n)).dropWhile isInner = suf s (i + n + q) := by rw [← take_while_drop, hq, suf_drop]
      have e4 := gapS_inner m
      rw [← e2, hsq] at e4
      rw [e1] at hq
      simp only [List.length_cons] at hq
      exact ev_eq (ih (s.size - (i + n + q)) (by omega) (i + n + q) (by omega) (by omega)) (by omega)
    | false =>
      refine ev_else (by simp) ?_
      have h0 := gapS_not (suf s (i + n)) (fun c m h => dropWhile_head (suf s i) c m (hsd.trans h)) h2
      rw [w64 (by omega) (by omega)]
      exact ev_eq (Ev.now _) (by omega)
theorem gap_f (s : ByteArray) (hs : s.size ≤ 140737488351232) (i : Nat) (hi : i ≤ s.size) : Ev (fun k => lex_gap.f k s (i : Int)) ((gapS false (suf s i) : Nat) : Int) :=
  ev_eq (gap_ev s hs i hi (s.size - i) i hi (by omega)) (by omega)
end Go.Proofs.Ytinnldfmbeafiaa.PA
