/- Pieces: texts that are tokens, and what parts them. -/
import Derived.DataShut
import Derived.Test.YtmifncmnchnioaaLexN
import Derived.Test.YtmifncmnchnioaaPLx14
import Derived.Test.YtmifncmnchnioaaPLx11
namespace Go.Proofs.Ytmifncmnchnioaa.PL
open Go.RowKit Go.Proofs.YtmifncmnchnioaaW.PrintWords Go.Proofs.YtmifncmnchnioaaW.PrintLast Go.Proofs.YtmifncmnchnioaaW.PrintMore
set_option linter.unusedVariables false
set_option linter.unusedSimpArgs false

theorem bytes_app (a b : List UInt8) : (⟨a.toArray⟩ : ByteArray) ++ (⟨b.toArray⟩ : ByteArray) = (⟨(a ++ b).toArray⟩ : ByteArray) := by
  apply ByteArray.ext
  simp [ByteArray.data_append]
theorem bytes_size (a : List UInt8) : (⟨a.toArray⟩ : ByteArray).size = a.length := by simp [ByteArray.size]
theorem bytes_list (a : List UInt8) : (⟨a.toArray⟩ : ByteArray).toList = a := by rw [Go.Lib.toList_data]
theorem takeWhile_app {p : UInt8 → Bool} (t rest : List UInt8) (h : ∀ c ∈ t, p c = true) (hr : ∀ c m, rest = c :: m → p c = false) : (t ++ rest).takeWhile p = t := by
  induction t with
  | nil =>
    match rest with
    | [] => rfl
    | c :: m => rw [List.nil_append, List.takeWhile_cons_of_neg (by simp [hr c m rfl])]
  | cons d t ih => rw [List.cons_append, List.takeWhile_cons_of_pos (h d (by simp)), ih (fun c hc => h c (by simp [hc]))]
def wordLike : List UInt8 → Bool
  | c :: m => isLetter c && m.all isTail
  | [] => false
theorem tok_word (t rest : List UInt8) (h : wordLike t = true) (hr : ∀ c m, rest = c :: m → isTail c = false) : tokS (t ++ rest) = (1, t, 0, 0) := by
  match t with
  | [] => simp [wordLike] at h
  | c :: m =>
    simp only [wordLike, Bool.and_eq_true, List.all_eq_true] at h
    have ht : ((c :: m) ++ rest).takeWhile isTail = c :: m := takeWhile_app _ _ (fun d hd => by
      rcases List.mem_cons.mp hd with rfl | hd
      · simp [isTail, h.1]
      · exact h.2 d hd) hr
    rw [List.cons_append] at ht ⊢
    rw [tokS_word _ _ h.1, ht]
theorem tok_digits (t rest : List UInt8) (h : ∀ c ∈ t, isDigit c = true) (h0 : t ≠ []) (hw : (worthAll t).2 = true) (hr : ∀ c m, rest = c :: m → isDigit c = false) : tokS (t ++ rest) = (2, t, (worthAll t).1, 0) := by
  match t, h0 with
  | c :: m, _ =>
    have ht : ((c :: m) ++ rest).takeWhile isDigit = c :: m := takeWhile_app _ _ h hr
    have hc := h c (by simp)
    have hl : isLetter c = false := by
      simp only [isDigit, Bool.and_eq_true, decide_eq_true_eq] at hc
      simp [isLetter]
      omega
    rw [List.cons_append] at ht ⊢
    rw [tokS_num _ _ hl hc (by rw [ht]; exact hw), ht]
theorem sign_facts : ∀ c ∈ signs, isLetter c = false ∧ isDigit c = false ∧ isBlank c = false ∧ c ≠ 47 ∧ c.toNat ≠ 10 := by decide
theorem sign_mem (c : UInt8) (h : isSign c = true) : c ∈ signs := by simpa [isSign] using h
theorem tok_one (c : UInt8) (rest : List UInt8) (h : isSign c = true) (hr : c = 61 → ∀ d m, rest = d :: m → d ≠ 61) : tokS ([c] ++ rest) = (3, [c], 0, 0) := by
  have hf := sign_facts c (sign_mem c h)
  have hs : signS (c :: rest) = [c] := by
    unfold signS
    have h2 : two 61 61 (c :: rest) = false := by
      match rest with
      | [] => rfl
      | d :: m =>
        by_cases hc : c = 61
        · have := hr hc d m rfl
          simp [two, this]
        · simp [two, hc]
    rw [if_neg (by rw [h2]; simp)]
    show (if isSign c = true then [c] else []) = _
    rw [if_pos h]
  rw [List.cons_append, List.nil_append, tokS_sign _ _ hf.1 hf.2.1 (by rw [hs]; simp), hs]
theorem tok_eqeq (rest : List UInt8) : tokS ([61, 61] ++ rest) = (3, [61, 61], 0, 0) := by
  have hs : signS (61 :: 61 :: rest) = [61, 61] := by
    unfold signS
    rw [if_pos (by simp [two])]
  show tokS (61 :: 61 :: rest) = _
  rw [tokS_sign _ _ (by decide) (by decide) (by rw [hs]; simp), hs]
theorem gap_none (c : UInt8) (l : List UInt8) (h : isBlank c = false) (h2 : c ≠ 47) : gapS false (c :: l) = 0 := by
  match l with
  | [] => simp [gapS, h]
  | d :: l => simp [gapS, h, h2]
/-- A text that is a token of a kind, with a number, if this stands behind it. -/
def TokAt (t : List UInt8) (kd n : Int) (rest : List UInt8) : Prop := tokS (t ++ rest) = (kd, t, n, 0) ∧ gapS false (t ++ rest) = 0 ∧ t ≠ []
def isGap (b : List UInt8) : Prop := ∀ rest, gapS false (b ++ rest) = b.length + gapS false rest
theorem gap_nil : isGap [] := fun rest => by simp
theorem gap_one (c : UInt8) (h : isBlank c = true) : isGap [c] := fun rest => by
  rw [List.cons_append, List.nil_append, gapS_blank _ _ h]
  simp
  omega
theorem gap_app (a b : List UInt8) (ha : isGap a) (hb : isGap b) : isGap (a ++ b) := fun rest => by
  rw [List.append_assoc, ha, hb, List.length_append]
  omega
theorem lexS_tok (n p : Nat) (b t rest : List UInt8) (kd x : Int) (hb : isGap b) (ht : TokAt t kd x rest) :
    lexS (n + 1) p (b ++ (t ++ rest)) = if (lexS n (p + b.length + t.length) rest).2.1 = 0 then ((⟨kd, (⟨t.toArray⟩ : ByteArray), x, ((p + b.length : Nat) : Int)⟩ : S37) :: (lexS n (p + b.length + t.length) rest).1, 0, 0) else lexS n (p + b.length + t.length) rest := by
  have hg : gapS false (b ++ (t ++ rest)) = b.length := by rw [hb, ht.2.1]; rfl
  rw [lexS, hg, List.drop_left, if_neg (by simp [ht.2.2]), ht.1]
  simp only [if_true, List.drop_left]
theorem lexS_end (n p : Nat) (b : List UInt8) (hb : isGap b) : lexS (n + 1) p b = ([(⟨4, (⟨#[]⟩ : ByteArray), 0, ((p + b.length : Nat) : Int)⟩ : S37)], 0, 0) := by
  have hg : gapS false b = b.length := by
    have := hb []
    simpa [gapS] using this
  rw [lexS, hg, List.drop_length, if_pos rfl]
theorem lexS_bad (n p : Nat) (b rest : List UInt8) (e : Int) (hb : isGap b) (h0 : gapS false rest = 0) (h1 : rest ≠ []) (h2 : (tokS rest).2.2.2 = e) (h3 : e ≠ 0) : lexS (n + 1) p (b ++ rest) = ([], e, ((p + b.length : Nat) : Int)) := by
  have hg : gapS false (b ++ rest) = b.length := by rw [hb, h0]; rfl
  rw [lexS, hg, List.drop_left, if_neg h1, if_neg (by rw [h2]; exact h3), h2]
def flatB (b : List UInt8) (ps : List (List UInt8 × Int × Int)) : List UInt8 := ps.flatMap fun x => x.1 ++ b
def toksB (b : List UInt8) : Nat → List (List UInt8 × Int × Int) → List S37
  | _, [] => []
  | q, x :: ps => (⟨x.2.1, (⟨x.1.toArray⟩ : ByteArray), x.2.2, (q : Int)⟩ : S37) :: toksB b (q + x.1.length + b.length) ps
def GoodB (b : List UInt8) (x : List UInt8 × Int × Int) : Prop := ∀ rest, TokAt x.1 x.2.1 x.2.2 (b ++ rest)
theorem flatB_cons (b : List UInt8) (x : List UInt8 × Int × Int) (ps) : flatB b (x :: ps) = x.1 ++ (b ++ flatB b ps) := by simp [flatB]
theorem flatB_snoc (b : List UInt8) (x : List UInt8 × Int × Int) (ps) : flatB b (ps ++ [x]) = flatB b ps ++ (x.1 ++ b) := by simp [flatB]
theorem toksB_snoc (b : List UInt8) (x : List UInt8 × Int × Int) : ∀ (ps) (q : Nat), toksB b q (ps ++ [x]) = toksB b q ps ++ [(⟨x.2.1, (⟨x.1.toArray⟩ : ByteArray), x.2.2, ((q + (flatB b ps).length : Nat) : Int)⟩ : S37)]
  | [], q => by simp [toksB, flatB]
  | y :: ps, q => by
    rw [List.cons_append, toksB, toksB_snoc b x ps, toksB, flatB_cons, List.cons_append]
    simp only [List.length_append]
    rw [show q + y.1.length + b.length + (flatB b ps).length = q + (y.1.length + (b.length + (flatB b ps).length)) by omega]
theorem toksB_len (b : List UInt8) : ∀ (ps) (q : Nat), (toksB b q ps).length = ps.length
  | [], q => rfl
  | y :: ps, q => by rw [toksB, List.length_cons, toksB_len b ps, List.length_cons]
theorem lexS_flat (b : List UInt8) (hb : isGap b) : ∀ (ps) (b0 : List UInt8) (n p : Nat), isGap b0 → (∀ x ∈ ps, GoodB b x) → ps.length < n →
    lexS n p (b0 ++ flatB b ps) = (toksB b (p + b0.length) ps ++ [(⟨4, (⟨#[]⟩ : ByteArray), 0, ((p + b0.length + (flatB b ps).length : Nat) : Int)⟩ : S37)], 0, 0)
  | [], b0, n, p, h0, hg, hn => by
    obtain ⟨m, rfl⟩ : ∃ m, n = m + 1 := ⟨n - 1, by omega⟩
    have : b0 ++ flatB b [] = b0 := by simp [flatB]
    rw [this, lexS_end m p b0 h0]
    simp [toksB, flatB]
  | x :: ps, b0, n, p, h0, hg, hn => by
    obtain ⟨m, rfl⟩ : ∃ m, n = m + 1 := ⟨n - 1, by omega⟩
    rw [flatB_cons, lexS_tok m p b0 x.1 _ x.2.1 x.2.2 h0 (hg x (by simp) _)]
    rw [lexS_flat b hb ps b m _ hb (fun y hy => hg y (by simp [hy])) (by simp at hn; omega)]
    rw [if_pos rfl, toksB]
    simp only [List.length_append, List.cons_append]
    rw [show p + b0.length + x.1.length + b.length + (flatB b ps).length = p + b0.length + (x.1.length + (b.length + (flatB b ps).length)) by omega]
theorem lexS_fault (b : List UInt8) (hb : isGap b) (rest : List UInt8) (e : Int) (h0 : gapS false rest = 0) (h1 : rest ≠ []) (h2 : (tokS rest).2.2.2 = e) (h3 : e ≠ 0) : ∀ (ps) (b0 : List UInt8) (n p : Nat), isGap b0 → (∀ x ∈ ps, GoodB b x) → ps.length < n →
    lexS n p (b0 ++ (flatB b ps ++ rest)) = ([], e, ((p + b0.length + (flatB b ps).length : Nat) : Int))
  | [], b0, n, p, hb0, hg, hn => by
    obtain ⟨m, rfl⟩ : ∃ m, n = m + 1 := ⟨n - 1, by omega⟩
    have : flatB b [] = [] := rfl
    rw [this, List.nil_append, lexS_bad m p b0 rest e hb0 h0 h1 h2 h3]
    rfl
  | x :: ps, b0, n, p, hb0, hg, hn => by
    obtain ⟨m, rfl⟩ : ∃ m, n = m + 1 := ⟨n - 1, by omega⟩
    rw [flatB_cons, List.append_assoc, List.append_assoc, lexS_tok m p b0 x.1 _ x.2.1 x.2.2 hb0 (hg x (by simp) _)]
    rw [lexS_fault b hb rest e h0 h1 h2 h3 ps b m _ hb (fun y hy => hg y (by simp [hy])) (by simp at hn; omega)]
    rw [if_neg h3]
    simp only [List.length_append]
    rw [show p + b0.length + x.1.length + b.length + (flatB b ps).length = p + b0.length + (x.1.length + (b.length + (flatB b ps).length)) by omega]

/-! pieces, as the statements make them -/
def Piece (t : List UInt8) (kd a1 : Int) : Prop := (kd = 1 ∧ wordLike t = true) ∨ (kd = 2 ∧ t = digS a1.toNat) ∨ (kd = 3 ∧ (t = [61, 61] ∨ ∃ c, t = [c] ∧ isSign c = true))
theorem rdOf_mem (l : List ByteArray) (d : ByteArray) (i : Int) (h0 : 0 ≤ i) (h1 : i < (l.length : Int)) : rdOf d l i ∈ l := by
  unfold rdOf
  have h : i.toNat < l.length := by omega
  rw [List.getD_eq_getElem?_getD, List.getElem?_eq_getElem h]
  exact List.getElem_mem h
def pieceWords : List ByteArray := [(⟨#[108, 111, 97, 100]⟩ : ByteArray), (⟨#[120]⟩ : ByteArray), (⟨#[114, 49]⟩ : ByteArray), (⟨#[90, 101, 100, 57]⟩ : ByteArray), (⟨#[115, 116, 111, 114, 101]⟩ : ByteArray), (⟨#[97]⟩ : ByteArray), (⟨#[97, 99, 113, 114, 101, 108]⟩ : ByteArray), (⟨#[98, 50, 98]⟩ : ByteArray)]
def pieceSigns : List ByteArray := [(⟨#[123]⟩ : ByteArray), (⟨#[125]⟩ : ByteArray), (⟨#[40]⟩ : ByteArray), (⟨#[41]⟩ : ByteArray), (⟨#[59]⟩ : ByteArray), (⟨#[44]⟩ : ByteArray), (⟨#[58]⟩ : ByteArray), (⟨#[61]⟩ : ByteArray), (⟨#[61, 61]⟩ : ByteArray), (⟨#[60]⟩ : ByteArray), (⟨#[43]⟩ : ByteArray), (⟨#[45]⟩ : ByteArray)]
theorem words_like : ∀ x ∈ pieceWords, wordLike x.data.toList = true ∧ x.data.toList.length ≤ 7 := by decide
def signLike : List UInt8 → Bool
  | [c] => isSign c
  | [c, d] => c == 61 && d == 61
  | _ => false
theorem signs_like : ∀ x ∈ pieceSigns, signLike x.data.toList = true ∧ x.data.toList.length ≤ 7 := by decide
theorem signLike_piece (t : List UInt8) (h : signLike t = true) : t = [61, 61] ∨ ∃ c, t = [c] ∧ isSign c = true := by
  match t with
  | [] => simp [signLike] at h
  | [c] => exact .inr ⟨c, rfl, h⟩
  | [c, d] =>
    simp [signLike] at h
    exact .inl (by rw [h.1, h.2])
  | _ :: _ :: _ :: _ => simp [signLike] at h
theorem piece_ev (a0 a1 : Int) (h0 : 0 ≤ a0) (h0' : a0 ≤ 255) (h1 : 0 ≤ a1) (h1' : a1 ≤ 255) : ∃ (t : List UInt8) (kd : Int), Ev (fun k => withelaw6_piece.f k a0 a1) ((⟨t.toArray⟩ : ByteArray), kd) ∧ t.length ≤ 7 ∧ t ≠ [] ∧ Piece t kd a1 ∧ (a0 = 2 → kd = 3) := by
  have hm : Int.tmod a0 3 = a0 % 3 := Int.tmod_eq_emod_of_nonneg h0
  have hw : wrap64 a1 = a1 := w64 (by omega) (by omega)
  by_cases c0 : a0 % 3 = 0
  · have hi : Int.tmod a1 8 = a1 % 8 := Int.tmod_eq_emod_of_nonneg h1
    have hmem := rdOf_mem pieceWords ByteArray.empty (a1 % 8) (by omega) (by show a1 % 8 < 8; omega)
    have hl := words_like _ hmem
    refine ⟨(rdOf ByteArray.empty pieceWords (a1 % 8)).data.toList, 1, ?_, hl.2, ?_, .inl ⟨rfl, hl.1⟩, by intro h; omega⟩
    · unfold withelaw6_piece.f
      rw [hm, hw]
      refine ev_bind0 rfl (ev_if c0 (ev_bind0 rfl (ev_else (by show ¬ (8 : Int) = 0; decide) ?_)))
      rw [show ((([(⟨#[108, 111, 97, 100]⟩ : ByteArray), (⟨#[120]⟩ : ByteArray), (⟨#[114, 49]⟩ : ByteArray), (⟨#[90, 101, 100, 57]⟩ : ByteArray), (⟨#[115, 116, 111, 114, 101]⟩ : ByteArray), (⟨#[97]⟩ : ByteArray), (⟨#[97, 99, 113, 114, 101, 108]⟩ : ByteArray), (⟨#[98, 50, 98]⟩ : ByteArray)] : List ByteArray).length : Nat) : Int) = 8 from rfl, hi]
      refine ev_if (by omega) (ev_if (by omega) (ev_eq (Ev.now _) ?_))
      rw [Go.Lib.mk_data]
      rfl
    · intro he
      rw [he] at hl
      simp [wordLike] at hl
  · by_cases c1 : a0 % 3 = 1
    · have hl := digS_len 3 a1.toNat (by omega) (by omega)
      refine ⟨digS a1.toNat, 2, ?_, by omega, List.length_pos_iff.mp hl.2, .inr (.inl ⟨rfl, rfl⟩), by intro h; omega⟩
      unfold withelaw6_piece.f
      rw [hm, hw]
      refine ev_bind0 rfl (ev_else c0 (ev_if c1 ?_))
      have hd := digits_ev a1.toNat a1.toNat (Nat.le_refl _) (by omega)
      rw [show ((a1.toNat : Nat) : Int) = a1 by omega] at hd
      exact Ev.bind hd (Ev.now _)
    · have hi : Int.tmod a1 12 = a1 % 12 := Int.tmod_eq_emod_of_nonneg h1
      have hmem := rdOf_mem pieceSigns ByteArray.empty (a1 % 12) (by omega) (by show a1 % 12 < 12; omega)
      have hl := signs_like _ hmem
      refine ⟨(rdOf ByteArray.empty pieceSigns (a1 % 12)).data.toList, 3, ?_, hl.2, ?_, .inr (.inr ⟨rfl, signLike_piece _ hl.1⟩), fun _ => rfl⟩
      · unfold withelaw6_piece.f
        rw [hm, hw]
        refine ev_bind0 rfl (ev_else c0 (ev_else c1 (ev_else (by show ¬ (12 : Int) = 0; decide) ?_)))
        rw [show ((([(⟨#[123]⟩ : ByteArray), (⟨#[125]⟩ : ByteArray), (⟨#[40]⟩ : ByteArray), (⟨#[41]⟩ : ByteArray), (⟨#[59]⟩ : ByteArray), (⟨#[44]⟩ : ByteArray), (⟨#[58]⟩ : ByteArray), (⟨#[61]⟩ : ByteArray), (⟨#[61, 61]⟩ : ByteArray), (⟨#[60]⟩ : ByteArray), (⟨#[43]⟩ : ByteArray), (⟨#[45]⟩ : ByteArray)] : List ByteArray).length : Nat) : Int) = 12 from rfl, hi]
        refine ev_if (by omega) (ev_if (by omega) (ev_eq (Ev.now _) ?_))
        rw [Go.Lib.mk_data]
        rfl
      · intro he
        rw [he] at hl
        simp [signLike] at hl
/-- The token's number. -/
def numOf (kd a1 : Int) : Int := if kd = 2 then a1 else 0
theorem tail_digit (c : UInt8) (h : isTail c = false) : isDigit c = false := by
  simp only [isTail, Bool.or_eq_false_iff] at h
  exact h.2
theorem letter_facts (c : UInt8) (h : isLetter c = true) : isBlank c = false ∧ c ≠ 47 ∧ c.toNat ≠ 10 := by
  simp only [isLetter, Bool.or_eq_true, Bool.and_eq_true, decide_eq_true_eq] at h
  refine ⟨by simp [isBlank]; omega, fun e => ?_, by omega⟩
  have h2 : (47 : UInt8).toNat = 47 := rfl
  rw [e] at h
  omega
theorem digit_facts (c : UInt8) (h : isDigit c = true) : isBlank c = false ∧ c ≠ 47 ∧ c.toNat ≠ 10 := by
  simp only [isDigit, Bool.and_eq_true, decide_eq_true_eq] at h
  refine ⟨by simp [isBlank]; omega, fun e => ?_, by omega⟩
  have h2 : (47 : UInt8).toNat = 47 := rfl
  rw [e] at h
  omega
theorem piece_at (t : List UInt8) (kd a1 : Int) (h1 : 0 ≤ a1) (h1' : a1 ≤ 255) (h : Piece t kd a1) (c : UInt8) (m : List UInt8) (hc : isTail c = false) (hc2 : c ≠ 61) : TokAt t kd (numOf kd a1) (c :: m) := by
  rcases h with ⟨rfl, h⟩ | ⟨rfl, rfl⟩ | ⟨rfl, h⟩
  · refine ⟨tok_word t _ h (fun d l e => by obtain ⟨rfl, _⟩ := List.cons.inj e; exact hc), ?_, fun e => by rw [e] at h; simp [wordLike] at h⟩
    match t with
    | [] => simp [wordLike] at h
    | d :: l =>
      simp only [wordLike, Bool.and_eq_true] at h
      have := letter_facts d h.1
      exact gap_none _ _ this.1 this.2.1
  · have hw := worth_digits a1.toNat
    rw [if_pos (by omega)] at hw
    have hne : digS a1.toNat ≠ [] := List.length_pos_iff.mp (digS_len 3 a1.toNat (by omega) (by omega)).2
    refine ⟨?_, ?_, hne⟩
    · rw [tok_digits _ _ (digits_all _) hne (by rw [hw]) (fun d l e => by obtain ⟨rfl, _⟩ := List.cons.inj e; exact tail_digit _ hc), hw]
      simp [numOf]
      omega
    · have hd := digits_all a1.toNat
      match hm : digS a1.toNat, hne with
      | d :: l, _ =>
        have := digit_facts d (hd d (by rw [hm]; simp))
        exact gap_none _ _ this.1 this.2.1
  · rcases h with rfl | ⟨d, rfl, h⟩
    · exact ⟨tok_eqeq _, gap_none _ _ (by decide) (by decide), by simp⟩
    · have := sign_facts d (sign_mem d h)
      exact ⟨tok_one d _ h (fun _ e l he => by obtain ⟨rfl, _⟩ := List.cons.inj he; exact hc2), gap_none _ _ this.2.2.1 this.2.2.2.1, by simp⟩
theorem same_ev (l : List S37) (hl : l.length ≤ 1000000) : Ev (fun k => witheref6_SameTokens.f k l l) true := by
  have : ∀ (d i : Nat), l.length - i = d → i ≤ l.length → Ev (fun k => witheref6_SameTokens.l0 k l l (i : Int)) true := by
    intro d
    induction d with
    | zero =>
      intro i h1 h2
      exact Ev.step (fun k => by simp only [witheref6_SameTokens.l0]; rfl) (ev_else (by omega) (Ev.now _))
    | succ d ih =>
      intro i h1 h2
      refine Ev.step (fun k => by simp only [witheref6_SameTokens.l0]; rfl) (ev_if (by omega) (ev_if (by omega) (ev_if (by omega) (ev_else (by simp) ?_))))
      rw [w64 (by omega) (by omega)]
      exact ih (i + 1) (by omega) (by omega)
  unfold witheref6_SameTokens.f
  exact ev_if rfl (this l.length 0 (by omega) (by omega))
theorem wf_u8 {n : Int} (h : (Lit.int .u8 n).wf = true) : 0 ≤ n ∧ n ≤ 255 := by
  have h1 := (Lit.wf_int_iff _ _).mp h
  simp [IntKind.min, IntKind.max, IntKind.signed, IntKind.bits] at h1
  omega
theorem rd_u8 (l : List Int) (h : ∀ x ∈ l, (Lit.int .u8 x).wf = true) (i : Int) (h0 : 0 ≤ i) (h1 : i < (l.length : Int)) : 0 ≤ rd l i ∧ rd l i ≤ 255 := by
  unfold rd
  have h2 : i.toNat < l.length := by omega
  rw [List.getD_eq_getElem?_getD, List.getElem?_eq_getElem h2]
  exact wf_u8 (h _ (List.getElem_mem h2))
end Go.Proofs.Ytmifncmnchnioaa.PL
