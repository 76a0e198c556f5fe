/- Plain theory of the lexer, second part: signs, tokens, all of a text. -/
import Derived.Test.YtinnldfmbeafiaaLT
namespace Go.Proofs.Ytinnldfmbeafiaa.PA
open Go.RowKit Go.Proofs.YtinnldfmbeafiaaW.PrintWords Go.Proofs.YtinnldfmbeafiaaW.PrintLast Go.Proofs.YtinnldfmbeafiaaW.PrintMore
set_option linter.unusedVariables false
set_option linter.unusedSimpArgs false

def signs : List UInt8 := [123, 125, 40, 41, 59, 44, 58, 61, 60, 43, 45]
def isSign (c : UInt8) : Bool := signs.contains c
theorem indexByte_neg (l : List UInt8) (c : UInt8) : Go.Lib.indexByte l c < 0 ↔ l.contains c = false := by
  induction l with
  | nil => simp [Go.Lib.indexByte]
  | cons b l ih =>
    unfold Go.Lib.indexByte
    have hge := Go.Lib.indexByte_ge l c
    by_cases hb : (b == c) = true
    · rw [if_pos hb]
      have : b = c := by simpa using hb
      simp [this]
    · rw [if_neg hb]
      have hb' : ¬ c = b := fun h => hb (by simp [h])
      by_cases h1 : (Go.Lib.indexByte l c == -1) = true
      · rw [if_pos h1]
        have : Go.Lib.indexByte l c = -1 := by simpa using h1
        have h2 := ih.mp (by omega)
        simp only [List.contains_cons, h2, Bool.or_false]
        simp [hb']
      · rw [if_neg h1]
        have : ¬ Go.Lib.indexByte l c = -1 := by simpa using h1
        have h2 : ¬ l.contains c = false := fun h => by have := ih.mpr h; omega
        have h3 : l.contains c = true := by simpa using h2
        simp only [List.contains_cons, h3, Bool.or_true]
        constructor
        · intro h; omega
        · intro h; cases h
def signS (l : List UInt8) : List UInt8 := if two 61 61 l = true then [61, 61] else match l with
  | c :: _ => if isSign c = true then [c] else []
  | [] => []
theorem sign_f (s : ByteArray) (hs : s.size ≤ 140737488351232) (i : Nat) (hi : i < s.size) : lex_sign.f s (i : Int) = some (⟨(signS (suf s i)).toArray⟩ : ByteArray) := by
  unfold lex_sign.f
  rw [if_pos (by omega), if_pos (by omega), show ((i : Nat) : Int).toNat = i from rfl, prefix_f s i (by omega)]
  simp only [Option.bind_some]
  unfold signS
  cases h2 : two 61 61 (suf s i) with
  | true => rw [if_pos rfl, if_pos rfl]
  | false =>
    simp only [Bool.false_eq_true, if_false]
    rw [if_pos (show (i : Int) < (s.size : Int) by omega), bt_suf s i hi]
    unfold strings_IndexByte.f stringslite_IndexByte.f
    simp only [Option.bind_some]
    rw [suf_cons s i hi]
    have e : ((s[i].toNat : Int)).toNat.toUInt8 = s[i] := by simp
    rw [e]
    rw [show ([123, 125, 40, 41, 59, 44, 58, 61, 60, 43, 45] : List UInt8) = signs from rfl]
    have hn : Go.Lib.indexByte signs s[i] < 0 ↔ isSign s[i] = false := indexByte_neg signs s[i]
    change _ = some (⟨(if isSign s[i] = true then [s[i]] else []).toArray⟩ : ByteArray)
    by_cases hc : isSign s[i] = true
    · have : ¬ Go.Lib.indexByte signs s[i] < 0 := fun h => by rw [hn.mp h] at hc; cases hc
      rw [if_neg this, w64 (by omega) (by omega), if_pos (by omega), if_pos (by omega), if_pos hc]
      rw [show ((i : Int) + 1).toNat = i + 1 by omega, cut_suf, suf_cons s i hi]
      rfl
    · rw [if_pos (hn.mpr (by simpa using hc)), if_neg hc]

/-- A token: its kind, its text, its number, what is wrong of it. -/
def tokS : List UInt8 → Int × List UInt8 × Int × Int
  | [] => (0, [], 0, 2)
  | c :: m => if isLetter c = true then (1, (c :: m).takeWhile isTail, 0, 0)
    else if isDigit c = true then (if (worthAll ((c :: m).takeWhile isDigit)).2 = true then (2, (c :: m).takeWhile isDigit, (worthAll ((c :: m).takeWhile isDigit)).1, 0) else (0, [], 0, 3))
    else if signS (c :: m) = [] then (0, [], 0, 2) else (3, signS (c :: m), 0, 0)
def atOf (e i : Int) : Int := if e = 0 then i else 0
def tokR (t : Int × List UInt8 × Int × Int) (i : Int) : Int × ByteArray × Int × Int × Int := (t.1, (⟨t.2.1.toArray⟩ : ByteArray), t.2.2.1, atOf t.2.2.2 i, t.2.2.2)
theorem tokS_word (c : UInt8) (m : List UInt8) (h1 : isLetter c = true) : tokS (c :: m) = (1, (c :: m).takeWhile isTail, 0, 0) := by
  rw [tokS, if_pos h1]
theorem tokS_num (c : UInt8) (m : List UInt8) (h1 : isLetter c = false) (h2 : isDigit c = true) (h3 : (worthAll ((c :: m).takeWhile isDigit)).2 = true) : tokS (c :: m) = (2, (c :: m).takeWhile isDigit, (worthAll ((c :: m).takeWhile isDigit)).1, 0) := by
  rw [tokS, if_neg (by simp [h1]), if_pos h2, if_pos h3]
theorem tokS_much (c : UInt8) (m : List UInt8) (h1 : isLetter c = false) (h2 : isDigit c = true) (h3 : (worthAll ((c :: m).takeWhile isDigit)).2 = false) : tokS (c :: m) = (0, [], 0, 3) := by
  rw [tokS, if_neg (by simp [h1]), if_pos h2, if_neg (by rw [h3]; simp)]
theorem tokS_none (c : UInt8) (m : List UInt8) (h1 : isLetter c = false) (h2 : isDigit c = false) (h3 : signS (c :: m) = []) : tokS (c :: m) = (0, [], 0, 2) := by
  rw [tokS, if_neg (by simp [h1]), if_neg (by simp [h2]), if_pos h3]
theorem tokS_sign (c : UInt8) (m : List UInt8) (h1 : isLetter c = false) (h2 : isDigit c = false) (h3 : signS (c :: m) ≠ []) : tokS (c :: m) = (3, signS (c :: m), 0, 0) := by
  rw [tokS, if_neg (by simp [h1]), if_neg (by simp [h2]), if_neg h3]
theorem take_take_while {p : UInt8 → Bool} (l : List UInt8) : l.take (l.takeWhile p).length = l.takeWhile p := by
  induction l with
  | nil => rfl
  | cons c l ih =>
    cases h : p c with
    | true => rw [List.takeWhile_cons_of_pos h, List.length_cons, List.take_succ_cons, ih]
    | false => rw [List.takeWhile_cons_of_neg (by simp [h])]; rfl
theorem digits_low (l : List UInt8) : (l.takeWhile isDigit).all (fun b => decide (b.toNat < 128)) = true := by
  induction l with
  | nil => rfl
  | cons c l ih =>
    cases h : isDigit c with
    | true =>
      rw [List.takeWhile_cons_of_pos h, List.all_cons, ih]
      simp only [isDigit, Bool.and_eq_true, decide_eq_true_eq] at h
      simp
      omega
    | false => rw [List.takeWhile_cons_of_neg (by simp [h])]; rfl
theorem worth_f (l : List UInt8) (h : l.all (fun b => decide (b.toNat < 128)) = true) : lex_worth.f (⟨l.toArray⟩ : ByteArray) = some (worthAll l) := by
  unfold lex_worth.f
  rw [if_pos (by simpa using h)]
theorem token_f (s : ByteArray) (hs : s.size ≤ 140737488351232) (i : Nat) (hi : i < s.size) : Ev (fun k => lex_token.f k s (i : Int)) (tokR (tokS (suf s i)) (i : Int)) := by
  unfold lex_token.f
  refine ev_if (by omega) (ev_if (by omega) ?_)
  rw [bt_suf s i hi]
  refine ev_bind0 (letter_f _) ?_
  have hl := suf_len s i
  have hb1 := take_while_le (p := isTail) (suf s i)
  have hb2 := take_while_le (p := isDigit) (suf s i)
  have hc := suf_cons s i hi
  cases h1 : isLetter s[i] with
  | true =>
    refine ev_if rfl (Ev.bind (run_tail s hs i (by omega)) ?_)
    rw [w64 (by omega) (by omega)]
    refine ev_if (by omega) (ev_if (by omega) ?_)
    refine ev_eq (Ev.now _) ?_
    have : ((i : Int) + (((suf s i).takeWhile isTail).length : Int)).toNat = i + ((suf s i).takeWhile isTail).length := by omega
    rw [this, show ((i : Nat) : Int).toNat = i from rfl, cut_suf, take_take_while]
    rw [hc, tokS_word _ _ h1]
    rfl
  | false =>
    refine ev_else (by simp) (ev_bind0 (digit_f _) ?_)
    cases h2 : isDigit s[i] with
    | true =>
      refine ev_if rfl (Ev.bind (run_digit s hs i (by omega)) ?_)
      rw [w64 (by omega) (by omega)]
      refine ev_if (by omega) (ev_if (by omega) ?_)
      have : ((i : Int) + (((suf s i).takeWhile isDigit).length : Int)).toNat = i + ((suf s i).takeWhile isDigit).length := by omega
      rw [this, show ((i : Nat) : Int).toNat = i from rfl, cut_suf, take_take_while]
      refine ev_bind0 (worth_f _ (digits_low _)) ?_
      have hlow := digits_low (suf s i)
      rw [hc]
      cases h3 : (worthAll ((s[i] :: suf s (i + 1)).takeWhile isDigit)).2 with
      | true =>
        refine ev_if rfl (ev_eq (Ev.now _) ?_)
        rw [tokS_num _ _ h1 h2 h3]
        rfl
      | false =>
        refine ev_else (by simp) (ev_eq (Ev.now _) ?_)
        rw [tokS_much _ _ h1 h2 h3]
        rfl
    | false =>
      refine ev_else (by simp) (ev_bind0 (sign_f s hs i hi) ?_)
      rw [hc]
      by_cases h3 : signS (s[i] :: suf s (i + 1)) = []
      · refine ev_if (by rw [Go.Lib.toList_data, h3]) (ev_eq (Ev.now _) ?_)
        rw [tokS_none _ _ h1 h2 h3]
        rfl
      · refine ev_else (by rw [Go.Lib.toList_data]; simpa using h3) (ev_eq (Ev.now _) ?_)
        rw [tokS_sign _ _ h1 h2 h3]
        rfl
theorem tokS_len (l : List UInt8) (h : (tokS l).2.2.2 = 0) : 0 < (tokS l).2.1.length ∧ (tokS l).2.1.length ≤ l.length := by
  have hb1 := take_while_le (p := isTail) l
  have hb2 := take_while_le (p := isDigit) l
  match l with
  | [] => simp [tokS] at h
  | c :: m =>
    cases h1 : isLetter c with
    | true => rw [tokS_word _ _ h1]; refine ⟨?_, hb1⟩; rw [List.takeWhile_cons_of_pos (by simp [isTail, h1])]; simp
    | false =>
      cases h2 : isDigit c with
      | true =>
        cases h3 : (worthAll ((c :: m).takeWhile isDigit)).2 with
        | true => rw [tokS_num _ _ h1 h2 h3]; refine ⟨?_, hb2⟩; rw [List.takeWhile_cons_of_pos h2]; simp
        | false => rw [tokS_much _ _ h1 h2 h3] at h; simp at h
      | false =>
        by_cases h3 : signS (c :: m) = []
        · rw [tokS_none _ _ h1 h2 h3] at h; simp at h
        · rw [tokS_sign _ _ h1 h2 h3]
          refine ⟨List.length_pos_iff.mpr h3, ?_⟩
          show (signS (c :: m)).length ≤ _
          unfold signS
          cases h4 : two 61 61 (c :: m) with
          | true =>
            match m with
            | [] => simp [two] at h4
            | d :: m => simp
          | false =>
            simp only [if_false, Bool.false_eq_true]
            split <;> simp

/-- All tokens of a text from a place on, or what is wrong of it, and where. -/
def lexS : Nat → Nat → List UInt8 → List S53 × Int × Int
  | 0, _, _ => ([], 0, 0)
  | n + 1, p, l =>
    if l.drop (gapS false l) = [] then ([(⟨4, (⟨#[]⟩ : ByteArray), 0, ((p + gapS false l : Nat) : Int)⟩ : S53)], 0, 0)
    else if (tokS (l.drop (gapS false l))).2.2.2 = 0 then
      (if (lexS n (p + gapS false l + (tokS (l.drop (gapS false l))).2.1.length) ((l.drop (gapS false l)).drop (tokS (l.drop (gapS false l))).2.1.length)).2.1 = 0 then
        ((⟨(tokS (l.drop (gapS false l))).1, (⟨(tokS (l.drop (gapS false l))).2.1.toArray⟩ : ByteArray), (tokS (l.drop (gapS false l))).2.2.1, ((p + gapS false l : Nat) : Int)⟩ : S53) :: (lexS n (p + gapS false l + (tokS (l.drop (gapS false l))).2.1.length) ((l.drop (gapS false l)).drop (tokS (l.drop (gapS false l))).2.1.length)).1, 0, 0)
      else (lexS n (p + gapS false l + (tokS (l.drop (gapS false l))).2.1.length) ((l.drop (gapS false l)).drop (tokS (l.drop (gapS false l))).2.1.length)))
    else ([], (tokS (l.drop (gapS false l))).2.2.2, ((p + gapS false l : Nat) : Int))
def glue (acc : List S53) (r : List S53 × Int × Int) : List S53 × Int × Int := if r.2.1 = 0 then (acc ++ r.1, 0, 0) else ([], r.2.1, r.2.2)
theorem lexS_wrong : ∀ (n p : Nat) (l : List UInt8), (lexS n p l).2.1 ≠ 0 → (lexS n p l).1 = []
  | 0, _, _, h => by simp [lexS] at h
  | n + 1, p, l, h => by
    unfold lexS at h ⊢
    split
    · rename_i h1; simp [h1] at h
    · rename_i h1
      rw [if_neg h1] at h
      split
      · rename_i h2
        rw [if_pos h2] at h
        split
        · rename_i h3; rw [if_pos h3] at h; simp at h
        · rename_i h3
          exact lexS_wrong n _ _ h3
      · rfl
theorem lexS_right : ∀ (n p : Nat) (l : List UInt8), (lexS n p l).2.1 = 0 → (lexS n p l).2.2 = 0
  | 0, p, l, h => rfl
  | n + 1, p, l, h => by
    unfold lexS at h ⊢
    split
    · rfl
    · rename_i h1
      rw [if_neg h1] at h
      split
      · rename_i h2
        rw [if_pos h2] at h
        split
        · rfl
        · rename_i h3
          rw [if_neg h3] at h
          exact absurd h h3
      · rename_i h2
        rw [if_neg h2] at h
        exact absurd h h2
theorem lex_ev (s : ByteArray) (hs : s.size ≤ 4096) : ∀ (n i : Nat) (acc : List S53), i ≤ s.size → s.size - i < n → acc.length ≤ i →
    Ev (fun k => (lex_gap.f k s (i : Int)).bind fun t => lex_Lex.l0 k s acc (wrap64 ((i : Int) + t))) (glue acc (lexS n i (suf s i))) := by
  intro n
  induction n with
  | zero => intro i acc h1 h2; omega
  | succ n ih =>
    intro i acc h1 h2 h3
    refine Ev.bind (gap_f s (by omega) i h1) ?_
    have hl := suf_len s i
    have hg := gapS_le false (suf s i)
    unfold lexS
    rw [suf_drop]
    generalize hq : gapS false (suf s i) = q at *
    rw [w64 (by omega) (by omega), show ((i : Int) + (q : Int)) = ((i + q : Nat) : Int) by omega]
    refine Ev.step (fun k => by simp only [lex_Lex.l0]; rfl) ?_
    by_cases he : i + q < s.size
    · refine ev_if (by omega) ?_
      refine Ev.bind (token_f s (by omega) (i + q) he) ?_
      have hne : ¬ suf s (i + q) = [] := by rw [suf_cons s _ he]; simp
      rw [if_neg hne]
      generalize ht : tokS (suf s (i + q)) = t at *
      by_cases hok : t.2.2.2 = 0
      · have hlen := tokS_len (suf s (i + q)) (by rw [ht]; exact hok)
        rw [ht, suf_len] at hlen
        simp only [tokR]
        refine ev_if hok (ev_if (by omega) ?_)
        rw [if_pos hok]
        have hz : ((⟨t.2.1.toArray⟩ : ByteArray).size : Int) = (t.2.1.length : Int) := by simp [ByteArray.size]
        rw [hz, w64 (by omega) (by omega), show (((i + q : Nat) : Int) + (t.2.1.length : Int)) = ((i + q + t.2.1.length : Nat) : Int) by omega]
        have := ih (i + q + t.2.1.length) (acc ++ [(⟨t.1, (⟨t.2.1.toArray⟩ : ByteArray), t.2.2.1, ((i + q : Nat) : Int)⟩ : S53)]) (by omega) (by omega) (by simp; omega)
        rw [suf_drop]
        have hat : atOf t.2.2.2 ((i + q : Nat) : Int) = ((i + q : Nat) : Int) := by simp [atOf, hok]
        rw [hat]
        refine ev_eq this ?_
        unfold glue
        split
        · simp
        · rfl
      · simp only [tokR]
        refine ev_else hok ?_
        rw [if_neg hok]
        refine ev_eq (Ev.now _) ?_
        simp [glue, hok]
    · refine ev_else (by omega) (ev_if (by omega) ?_)
      rw [if_pos (suf_nil s _ (by omega))]
      refine ev_eq (Ev.now _) ?_
      simp [glue]
      omega
/-- What Lex tells. -/
def lexAll (s : ByteArray) : List S53 × Int × Int := if s.size > 4096 then ([], 3, 0) else lexS (s.size + 1) 0 s.data.toList
theorem lex_f (s : ByteArray) : Ev (fun k => lex_Lex.f k s) (lexAll s) := by
  unfold lex_Lex.f lexAll
  by_cases h : s.size > 4096
  · rw [if_pos h]
    exact ev_if (by omega) (Ev.now _)
  · rw [if_neg h]
    refine ev_else (by omega) ?_
    have := lex_ev s (by omega) (s.size + 1) 0 [] (by omega) (by omega) (by simp)
    have hg := gap_f s (by omega) 0 (by omega)
    have hb := gapS_le false (suf s 0)
    have hl := suf_len s 0
    refine Ev.bind hg ?_
    obtain ⟨K, hK⟩ := this
    obtain ⟨K', hK'⟩ := hg
    refine ev_eq (r := glue [] (lexS (s.size + 1) 0 (suf s 0))) ⟨max K K', fun k hk => ?_⟩ ?_
    · have h1 := hK k (by omega)
      have h2 : lex_gap.f k s ((0 : Nat) : Int) = _ := hK' k (by omega)
      have h3 : ((lex_gap.f k s ((0 : Nat) : Int)).bind fun t => lex_Lex.l0 k s [] (wrap64 (((0 : Nat) : Int) + t))) = _ := h1
      rw [h2] at h3
      simp only [Option.bind_some] at h3
      rw [w64 (by omega) (by omega), show ((0 : Nat) : Int) + (gapS false (suf s 0) : Int) = (gapS false (suf s 0) : Int) by omega] at h3
      exact h3
    · have e : suf s 0 = s.data.toList := List.drop_zero
      rw [e]
      unfold glue
      split
      · rename_i h1
        have h2 := lexS_right _ _ _ h1
        rw [List.nil_append]
        exact Prod.ext rfl (Prod.ext h1.symm h2.symm)
      · rename_i h1
        have := lexS_wrong _ _ _ h1
        rw [← this]
end Go.Proofs.Ytinnldfmbeafiaa.PA
