/- The document's lexer comes to the same: theory. -/
import Derived.Test.YtinnldfmbeafiaaLU
import Derived.Test.YtinnldfmbeafiaaPAx8
namespace Go.Proofs.Ytinnldfmbeafiaa.PA
open Go.RowKit Go.Proofs.YtinnldfmbeafiaaW.PrintWords Go.Proofs.YtinnldfmbeafiaaW.PrintLast Go.Proofs.YtinnldfmbeafiaaW.PrintMore
set_option linter.unusedVariables false
set_option linter.unusedSimpArgs false

theorem mem_take_while {p : UInt8 → Bool} (l : List UInt8) : ∀ c ∈ l.takeWhile p, p c = true := by
  induction l with
  | nil => simp
  | cons d l ih =>
    intro c hc
    cases h : p d with
    | true =>
      rw [List.takeWhile_cons_of_pos h] at hc
      rcases List.mem_cons.mp hc with rfl | hc
      · exact h
      · exact ih c hc
    | false =>
      rw [List.takeWhile_cons_of_neg (by simp [h])] at hc
      simp at hc
theorem rblank_f (c : UInt8) : witheref6_blank.f (c.toNat : Int) = some (isBlank c) := blank_f c
theorem rdigit_f (c : UInt8) : witheref6_digit.f (c.toNat : Int) = some (isDigit c) := digit_f c
theorem rletter_f (c : UInt8) : witheref6_letter.f (c.toNat : Int) = some (isLetter c) := by
  unfold witheref6_letter.f isLetter
  by_cases h1 : 65 ≤ c.toNat <;> by_cases h2 : c.toNat ≤ 90 <;> by_cases h3 : 97 ≤ c.toNat <;> by_cases h4 : c.toNat ≤ 122 <;>
    simp [show ((c.toNat : Int) ≥ 65) ↔ 65 ≤ c.toNat by omega, show ((c.toNat : Int) ≤ 90) ↔ c.toNat ≤ 90 by omega, show ((c.toNat : Int) ≥ 97) ↔ 97 ≤ c.toNat by omega, show ((c.toNat : Int) ≤ 122) ↔ c.toNat ≤ 122 by omega, h1, h2, h3, h4] <;> omega
theorem rnumber_f (s : ByteArray) (hs : s.size ≤ 140737488351232) (hd : ∀ c ∈ s.data.toList, isDigit c = true) : Ev (fun k => witheref6_number.f k s) (worthAll s.data.toList) := by
  have : ∀ (d i : Nat), s.size - i = d → i ≤ s.size → ∀ m : Int, worthAll (s.data.toList.take i) = (m, true) → Ev (fun k => witheref6_number.l0 k s m (i : Int)) (worthAll s.data.toList) := by
    intro d
    induction d with
    | zero =>
      intro i h1 h2 m hm
      refine Ev.step (fun k => by simp only [witheref6_number.l0]; rfl) (ev_else (by omega) (ev_eq (Ev.now _) ?_))
      rw [List.take_of_length_le (by rw [← Go.Lib.size_eq]; omega)] at hm
      exact hm.symm
    | succ d ih =>
      intro i h1 h2 m hm
      have hlt : i < s.size := by omega
      have hlt' : i < s.data.toList.length := by rw [← Go.Lib.size_eq]; exact hlt
      have hb := worthAll_le (s.data.toList.take i) (0, true) (by decide)
      have hm' : (s.data.toList.take i).foldl worthStep (0, true) = (m, true) := hm
      rw [hm'] at hb
      have hc := hd s[i] (by show s.data.toList[i] ∈ _; exact List.getElem_mem _)
      simp only [isDigit, Bool.and_eq_true, decide_eq_true_eq] at hc
      have hts : s.data.toList.take (i + 1) = s.data.toList.take i ++ [s[i]] := worth_take s i hlt
      have hall : worthAll s.data.toList = (s.data.toList.drop (i + 1)).foldl worthStep (worthStep (m, true) s[i]) := by
        have : s.data.toList = s.data.toList.take (i + 1) ++ s.data.toList.drop (i + 1) := (List.take_append_drop _ _).symm
        conv => lhs; rw [this]
        unfold worthAll
        rw [List.foldl_append, hts, List.foldl_append, hm']
        rfl
      refine Ev.step (fun k => by simp only [witheref6_number.l0]; rfl) (ev_if (by omega) (ev_if (by omega) ?_))
      rw [bt_suf s i hlt]
      have hstep : worthStep (m, true) s[i] = if (4611686018427387904 - ((s[i].toNat : Int) - 48) % 256) / 10 < m then (0, false) else (10 * m + (((s[i].toNat : Int) - 48) % 256), true) := by
        unfold worthStep
        rw [if_pos rfl]
      by_cases hbig : (4611686018427387904 - ((s[i].toNat : Int) - 48) % 256) / 10 < m
      · rw [if_pos hbig] at hstep
        refine ev_if hbig (ev_eq (Ev.now _) ?_)
        rw [hall, hstep, worthStep_stop]
      · rw [if_neg hbig] at hstep
        refine ev_else hbig ?_
        have hd2 : ((s[i].toNat : Int) - 48) % 256 = (s[i].toNat : Int) - 48 := by omega
        rw [hd2] at hstep hbig ⊢
        rw [w64 (n := 10 * m) (by omega) (by omega), w64 (n := 10 * m + _) (by omega) (by omega), w64 (n := (i : Int) + 1) (by omega) (by omega)]
        refine ih (i + 1) (by omega) (by omega) _ ?_
        unfold worthAll
        rw [hts, List.foldl_append, hm', List.foldl_cons, List.foldl_nil, hstep]
  unfold witheref6_number.f
  exact this s.size 0 (by omega) (by omega) 0 (by simp [worthAll])
theorem rsign_ev (s : ByteArray) (hs : s.size ≤ 140737488351232) (i : Nat) (hi : i < s.size) : Ev (fun k => witheref6_sign.f k s (i : Int)) (((signS (suf s i)).length : Nat) : Int) := by
  have hl := suf_len s i
  unfold witheref6_sign.f
  refine ev_if (by omega) (ev_if (by omega) ?_)
  rw [bt_suf s i hi]
  have hc := suf_cons s i hi
  by_cases h61 : s[i] = 61
  · refine ev_if (by rw [h61]; rfl) ?_
    rw [w64 (by omega) (by omega)]
    by_cases hmore : i + 1 < s.size
    · have hc2 := suf_cons s (i + 1) hmore
      refine ev_if (by omega) ?_
      rw [w64 (by omega) (by omega)]
      refine ev_if (by omega) (ev_if (by omega) ?_)
      rw [show ((i : Int) + 1) = ((i + 1 : Nat) : Int) by omega, bt_suf s (i + 1) hmore]
      by_cases h2 : s[i + 1] = 61
      · refine ev_if (by rw [h2]; rfl) (ev_eq (Ev.now _) ?_)
        rw [hc, hc2, h61, h2]
        simp [signS, two]
      · have : ¬ ((s[i + 1].toNat : Int) = 61) := by
          intro e
          exact h2 (UInt8.toNat_inj.mp (by have : (61 : UInt8).toNat = 61 := rfl; omega))
        refine ev_else this (ev_eq (Ev.now _) ?_)
        rw [hc, hc2, h61]
        simp [signS, two, h2, isSign, signs]
    · refine ev_else (by omega) (ev_eq (Ev.now _) ?_)
      rw [hc, suf_nil s (i + 1) (by omega), h61]
      simp [signS, two, isSign, signs]
  · have hne : ¬ ((s[i].toNat : Int) = 61) := by
      intro e
      exact h61 (UInt8.toNat_inj.mp (by have : (61 : UInt8).toNat = 61 := rfl; omega))
    refine ev_else hne ?_
    have hS : signS (suf s i) = if isSign s[i] = true then [s[i]] else [] := by
      rw [hc]
      unfold signS
      rw [if_neg]
      intro h
      match hm : suf s (i + 1) with
      | [] => rw [hm] at h; simp [two] at h
      | d :: l => rw [hm] at h; simp [two] at h; exact h61 h.1
    let A : ByteArray := ⟨#[123, 125, 40, 41, 59, 44, 58, 60, 43, 45]⟩
    have hA : A.data.toList = [123, 125, 40, 41, 59, 44, 58, 60, 43, 45] := rfl
    have hsz : A.size = 10 := rfl
    have loop : ∀ (d j : Nat), 10 - j = d → j ≤ 10 → Ev (fun k => witheref6_sign.l0 k s (i : Int) A (j : Int)) (if (A.data.toList.drop j).contains s[i] = true then 1 else 0) := by
      intro d
      induction d with
      | zero =>
        intro j h1 h2
        refine Ev.step (fun k => by simp only [witheref6_sign.l0]; rfl) (ev_else (by rw [hsz]; omega) (ev_eq (Ev.now _) ?_))
        rw [List.drop_of_length_le (by rw [hA]; simp; omega)]
        simp
      | succ d ih =>
        intro j h1 h2
        have hj : j < A.size := by rw [hsz]; omega
        have hdrop : A.data.toList.drop j = A[j] :: A.data.toList.drop (j + 1) := by
          rw [List.drop_eq_getElem_cons (by rw [hA]; simp; omega)]
          rfl
        refine Ev.step (fun k => by simp only [witheref6_sign.l0]; rfl) (ev_if (by rw [hsz]; omega) (ev_if (by omega) (ev_if (by omega) (ev_if (by omega) ?_))))
        rw [bt_suf s i hi, bt_suf A j hj, hdrop]
        by_cases he : A[j] = s[i]
        · refine ev_if (by rw [he]) (ev_eq (Ev.now _) ?_)
          rw [if_pos]
          simp [he]
        · have : ¬ ((A[j].toNat : Int) = (s[i].toNat : Int)) := by
            intro e
            exact he (UInt8.toNat_inj.mp (by omega))
          refine ev_else this ?_
          rw [w64 (by omega) (by omega)]
          refine ev_eq (ih (j + 1) (by omega) (by omega)) ?_
          have : ¬ s[i] = A[j] := fun h => he h.symm
          simp [List.contains_cons, this]
    refine ev_eq (loop 10 0 (by omega) (by omega)) ?_
    rw [hS, List.drop_zero, hA]
    have hsign : isSign s[i] = ([123, 125, 40, 41, 59, 44, 58, 60, 43, 45] : List UInt8).contains s[i] := by
      simp only [isSign, signs, List.contains_cons]
      have : (s[i] == (61 : UInt8)) = false := by simpa using h61
      simp [this]
    rw [hsign]
    split <;> simp
/-- What is left of a text from a place on, behind what was told. -/
theorem lexS_blank (n p : Nat) (c : UInt8) (l : List UInt8) (h : isBlank c = true) : lexS (n + 1) p (c :: l) = lexS (n + 1) (p + 1) l := by
  rw [lexS, lexS, gapS_blank c l h, List.drop_succ_cons]
  rw [show p + (gapS false l + 1) = p + 1 + gapS false l by omega]
theorem lexS_gap (n p m : Nat) (l : List UInt8) (h : gapS false l = m + gapS false (l.drop m)) : lexS (n + 1) p l = lexS (n + 1) (p + m) (l.drop m) := by
  have e1 : l.drop (gapS false l) = (l.drop m).drop (gapS false (l.drop m)) := by rw [h, List.drop_drop]
  have e2 : p + gapS false l = p + m + gapS false (l.drop m) := by omega
  rw [lexS, lexS, e1, e2]
theorem glue_tok (n p : Nat) (l : List UInt8) (acc : List S53) (h0 : gapS false l = 0) (hne : l ≠ []) (h : (tokS l).2.2.2 = 0) :
    glue acc (lexS (n + 1) p l) = glue (acc ++ [(⟨(tokS l).1, (⟨(tokS l).2.1.toArray⟩ : ByteArray), (tokS l).2.2.1, (p : Int)⟩ : S53)]) (lexS n (p + (tokS l).2.1.length) (l.drop (tokS l).2.1.length)) := by
  rw [lexS, h0, List.drop_zero, if_neg hne, if_pos h, Nat.add_zero]
  unfold glue
  split
  · simp
  · rename_i hw
    rfl
theorem glue_bad (n p : Nat) (l : List UInt8) (acc : List S53) (h0 : gapS false l = 0) (hne : l ≠ []) (h : (tokS l).2.2.2 ≠ 0) :
    glue acc (lexS (n + 1) p l) = ([], (tokS l).2.2.2, (p : Int)) := by
  rw [lexS, h0, List.drop_zero, if_neg hne, if_neg h, Nat.add_zero]
  unfold glue
  rw [if_neg h]
theorem remark_ev (s : ByteArray) (hs : s.size ≤ 4096) (acc : List S53) (r : List S53 × Int × Int) : ∀ (d i : Nat), s.size - i = d → i ≤ s.size →
    Ev (fun k => witheref6_Lex.l0 k s acc ((i + ((suf s i).takeWhile isInner).length : Nat) : Int)) r → Ev (fun k => witheref6_Lex.l1 k s acc (i : Int)) r := by
  intro d
  induction d with
  | zero =>
    intro i h1 h2 h
    refine Ev.step (fun k => by simp only [witheref6_Lex.l1]; rfl) (ev_else (by omega) ?_)
    rw [suf_nil s i (by omega)] at h
    simpa using h
  | succ d ih =>
    intro i h1 h2 h
    have hi : i < s.size := by omega
    rw [suf_cons s i hi] at h
    refine Ev.step (fun k => by simp only [witheref6_Lex.l1]; rfl) (ev_if (by omega) (ev_if (by omega) ?_))
    rw [bt_suf s i hi]
    by_cases hc : s[i].toNat = 10
    · have hn : isInner s[i] = false := by simp [isInner, hc]
      rw [List.takeWhile_cons_of_neg (by simp [hn])] at h
      exact ev_if (by omega) (by simpa using h)
    · have hn : isInner s[i] = true := by simp [isInner, hc]
      rw [List.takeWhile_cons_of_pos hn, List.length_cons] at h
      refine ev_else (by omega) ?_
      rw [w64 (by omega) (by omega)]
      refine ih (i + 1) (by omega) (by omega) ?_
      rw [show i + 1 + ((suf s (i + 1)).takeWhile isInner).length = i + (((suf s (i + 1)).takeWhile isInner).length + 1) by omega]
      exact h
theorem word_ev (s : ByteArray) (hs : s.size ≤ 4096) (acc : List S53) (hacc : acc.length ≤ 5000) (b : Nat) (x1 x3 x4 : Int) (x2 : ByteArray) (r : List S53 × Int × Int) : ∀ (d i : Nat), s.size - i = d → i ≤ s.size → b ≤ i →
    Ev (fun k => witheref6_Lex.l0 k s (acc ++ [(⟨1, s.extract b (i + ((suf s i).takeWhile isTail).length), x3, x4⟩ : S53)]) ((i + ((suf s i).takeWhile isTail).length : Nat) : Int)) r → Ev (fun k => witheref6_Lex.l2 k s acc (b : Int) (i : Int) x1 x2 x3 x4) r := by
  intro d
  induction d with
  | zero =>
    intro i h1 h2 hb h
    refine Ev.step (fun k => by simp only [witheref6_Lex.l2]; rfl) (ev_else (by omega) (ev_if (by omega) (ev_if (by omega) (ev_if (by omega) (ev_if (by omega) ?_)))))
    rw [suf_nil s i (by omega)] at h
    simpa using h
  | succ d ih =>
    intro i h1 h2 hb h
    have hi : i < s.size := by omega
    rw [suf_cons s i hi] at h
    refine Ev.step (fun k => by simp only [witheref6_Lex.l2]; rfl) (ev_if (by omega) (ev_if (by omega) ?_))
    rw [bt_suf s i hi]
    have on : isTail s[i] = true → Ev (fun k => witheref6_Lex.l2 k s acc (b : Int) (wrap64 ((i : Int) + 1)) x1 x2 x3 x4) r := by
      intro hn
      rw [List.takeWhile_cons_of_pos hn, List.length_cons] at h
      rw [w64 (by omega) (by omega)]
      refine ih (i + 1) (by omega) (by omega) (by omega) ?_
      rw [show i + 1 + ((suf s (i + 1)).takeWhile isTail).length = i + (((suf s (i + 1)).takeWhile isTail).length + 1) by omega]
      exact h
    refine ev_bind0 (rletter_f _) ?_
    cases hl : isLetter s[i] with
    | true => exact ev_if rfl (on (by simp [isTail, hl]))
    | false =>
      refine ev_else (by simp) (ev_bind0 (rdigit_f _) ?_)
      cases hd : isDigit s[i] with
      | true => exact ev_if rfl (on (by simp [isTail, hd]))
      | false =>
        have hn : isTail s[i] = false := by simp [isTail, hl, hd]
        rw [List.takeWhile_cons_of_neg (by simp [hn])] at h
        exact ev_else (by simp) (ev_if (by omega) (ev_if (by omega) (ev_if (by omega) (ev_if (by omega) (by simpa using h)))))
theorem num_ev (s : ByteArray) (hs : s.size ≤ 4096) (acc : List S53) (hacc : acc.length ≤ 5000) (b : Nat) (x1 x3 x4 : Int) (x2 : ByteArray) (r : List S53 × Int × Int) : ∀ (d i : Nat), s.size - i = d → i ≤ s.size → b ≤ i →
    ((suf s b).take (i + ((suf s i).takeWhile isDigit).length - b)).all isDigit = true →
    (if (worthAll ((suf s b).take (i + ((suf s i).takeWhile isDigit).length - b))).2 = true then
      Ev (fun k => witheref6_Lex.l0 k s (acc ++ [(⟨2, s.extract b (i + ((suf s i).takeWhile isDigit).length), (worthAll ((suf s b).take (i + ((suf s i).takeWhile isDigit).length - b))).1, x4⟩ : S53)]) ((i + ((suf s i).takeWhile isDigit).length : Nat) : Int)) r
      else r = ([], 3, (b : Int))) → Ev (fun k => witheref6_Lex.l3 k s acc (b : Int) (i : Int) x1 x2 x3 x4) r := by
  have done : ∀ (e : Nat), b ≤ e → e ≤ s.size → ((suf s b).take (e - b)).all isDigit = true →
      (if (worthAll ((suf s b).take (e - b))).2 = true then
        Ev (fun k => witheref6_Lex.l0 k s (acc ++ [(⟨2, s.extract b e, (worthAll ((suf s b).take (e - b))).1, x4⟩ : S53)]) ((e : Nat) : Int)) r
        else r = ([], 3, (b : Int))) →
      Ev (fun k => (witheref6_number.f k (s.extract (b : Int).toNat (e : Int).toNat)).bind fun q => if q.2 = true then (if acc.length < 3518437208883 then (witheref6_Lex.l0 k s (acc ++ [(⟨2, s.extract (b : Int).toNat (e : Int).toNat, q.1, x4⟩ : S53)]) (e : Int)) else none) else (some (([] : List (S53)), 3, (b : Int)))) r := by
    intro e h1 h2 h3 h4
    rw [show ((b : Nat) : Int).toNat = b from rfl, show ((e : Nat) : Int).toNat = e from rfl]
    have hcut : (s.extract b e).data.toList = (suf s b).take (e - b) := by
      have := cut_suf s b (e - b)
      rw [show b + (e - b) = e by omega] at this
      rw [this]
    refine Ev.bind (rnumber_f _ (by simp; omega) (by rw [hcut]; exact fun c hc => List.all_eq_true.mp h3 c hc)) ?_
    rw [hcut]
    cases hw : (worthAll ((suf s b).take (e - b))).2 with
    | true =>
      rw [hw, if_pos rfl] at h4
      exact ev_if rfl (ev_if (by omega) h4)
    | false =>
      rw [hw, if_neg (by simp)] at h4
      rw [h4]
      exact ev_else (by simp) (Ev.now _)
  intro d
  induction d with
  | zero =>
    intro i h1 h2 hb ha h
    refine Ev.step (fun k => by simp only [witheref6_Lex.l3]; rfl) (ev_else (by omega) (ev_if (by omega) (ev_if (by omega) (ev_if (by omega) ?_))))
    rw [suf_nil s i (by omega)] at h ha
    simp only [List.takeWhile_nil, List.length_nil, Nat.add_zero] at h ha
    exact done i hb h2 ha h
  | succ d ih =>
    intro i h1 h2 hb ha h
    have hi : i < s.size := by omega
    rw [suf_cons s i hi] at h ha
    refine Ev.step (fun k => by simp only [witheref6_Lex.l3]; rfl) (ev_if (by omega) (ev_if (by omega) ?_))
    rw [bt_suf s i hi]
    refine ev_bind0 (rdigit_f _) ?_
    cases hd : isDigit s[i] with
    | true =>
      rw [List.takeWhile_cons_of_pos hd, List.length_cons] at h ha
      refine ev_if rfl ?_
      rw [w64 (by omega) (by omega)]
      have e : i + 1 + ((suf s (i + 1)).takeWhile isDigit).length = i + (((suf s (i + 1)).takeWhile isDigit).length + 1) := by omega
      exact ih (i + 1) (by omega) (by omega) (by omega) (by rw [e]; exact ha) (by rw [e]; exact h)
    | false =>
      rw [List.takeWhile_cons_of_neg (by simp [hd])] at h ha
      simp only [List.length_nil, Nat.add_zero] at h ha
      exact ev_else (by simp) (ev_if (by omega) (ev_if (by omega) (ev_if (by omega) (done i hb h2 ha h))))
theorem rlex_ev (s : ByteArray) (hs : s.size ≤ 4096) : ∀ (d i n : Nat) (acc : List S53), s.size - i = d → i ≤ s.size → s.size - i < n → acc.length ≤ i →
    Ev (fun k => witheref6_Lex.l0 k s acc (i : Int)) (glue acc (lexS n i (suf s i))) := by
  intro d
  induction d using Nat.strongRecOn with
  | _ d ih =>
  intro i n acc hd h1 h2 h3
  obtain ⟨n, rfl⟩ : ∃ m, n = m + 1 := ⟨n - 1, by omega⟩
  have hl := suf_len s i
  refine Ev.step (fun k => by simp only [witheref6_Lex.l0]; rfl) ?_
  by_cases hi : i < s.size
  · have hc := suf_cons s i hi
    refine ev_if (by omega) (ev_if (by omega) ?_)
    rw [bt_suf s i hi]
    refine ev_bind0 (rblank_f _) ?_
    cases hb : isBlank s[i] with
    | true =>
      refine ev_if rfl ?_
      rw [w64 (by omega) (by omega), hc, lexS_blank _ _ _ _ hb]
      exact ih (s.size - (i + 1)) (by omega) (i + 1) (n + 1) acc rfl (by omega) (by omega) (by omega)
    | false =>
      refine ev_else (by simp) ?_
      -- what stands here is no remark: a token, or nothing
      have tok : two 47 47 (suf s i) = false → Ev (fun k => witheref6_Lex.j1 k s acc (i : Int) false) (glue acc (lexS (n + 1) i (suf s i))) := by
        intro h47
        have h0 : gapS false (suf s i) = 0 := gapS_not _ (fun c m e => by rw [hc] at e; obtain ⟨rfl, _⟩ := List.cons.inj e; exact hb) h47
        have hne : suf s i ≠ [] := by rw [hc]; simp
        refine Ev.step (fun k => by simp only [witheref6_Lex.j1]; rfl) (ev_else (by simp) (ev_if (by omega) (ev_if (by omega) ?_)))
        rw [bt_suf s i hi]
        refine ev_bind0 (rletter_f _) ?_
        have hb1 := take_while_le (p := isTail) (suf s i)
        have hb2 := take_while_le (p := isDigit) (suf s i)
        cases h4 : isLetter s[i] with
        | true =>
          have ht := tokS_word s[i] (suf s (i + 1)) h4
          rw [← hc] at ht
          have hpos : 0 < ((suf s i).takeWhile isTail).length := by rw [hc, List.takeWhile_cons_of_pos (by simp [isTail, h4])]; simp
          refine ev_if rfl (word_ev s hs acc (by omega) i _ _ _ _ _ (s.size - i) i rfl (by omega) (Nat.le_refl _) ?_)
          rw [glue_tok n i _ acc h0 hne (by rw [ht]), ht, cut_suf, take_take_while, suf_drop]
          exact ih (s.size - (i + ((suf s i).takeWhile isTail).length)) (by omega) (i + ((suf s i).takeWhile isTail).length) n _ rfl (by omega) (by omega) (by simp; omega)
        | false =>
          refine ev_else (by simp) (ev_bind0 (rdigit_f _) ?_)
          cases h5 : isDigit s[i] with
          | true =>
            have hpos : 0 < ((suf s i).takeWhile isDigit).length := by rw [hc, List.takeWhile_cons_of_pos h5]; simp
            have htk : (suf s i).take (i + ((suf s i).takeWhile isDigit).length - i) = (suf s i).takeWhile isDigit := by rw [Nat.add_sub_cancel_left, take_take_while]
            refine ev_if rfl (num_ev s hs acc (by omega) i _ _ _ _ _ (s.size - i) i rfl (by omega) (Nat.le_refl _) ?_ ?_)
            · rw [htk]
              exact List.all_eq_true.mpr (mem_take_while _)
            · rw [htk]
              cases hw : (worthAll ((suf s i).takeWhile isDigit)).2 with
              | true =>
                have ht := tokS_num s[i] (suf s (i + 1)) h4 h5 (by rw [← hc]; exact hw)
                rw [← hc] at ht
                rw [if_pos rfl, glue_tok n i _ acc h0 hne (by rw [ht]), ht, cut_suf, take_take_while, suf_drop]
                exact ih (s.size - (i + ((suf s i).takeWhile isDigit).length)) (by omega) (i + ((suf s i).takeWhile isDigit).length) n _ rfl (by omega) (by omega) (by simp; omega)
              | false =>
                have ht := tokS_much s[i] (suf s (i + 1)) h4 h5 (by rw [← hc]; exact hw)
                rw [← hc] at ht
                rw [if_neg (by simp), glue_bad n i _ acc h0 hne (by rw [ht]; simp), ht]
          | false =>
            refine ev_else (by simp) (Ev.bind (rsign_ev s (by omega) i hi) ?_)
            by_cases h6 : signS (suf s i) = []
            · have ht := tokS_none s[i] (suf s (i + 1)) h4 h5 (by rw [← hc]; exact h6)
              rw [← hc] at ht
              rw [h6]
              refine ev_if (by rw [w64] <;> simp <;> omega) (ev_eq (Ev.now _) ?_)
              rw [glue_bad n i _ acc h0 hne (by rw [ht]; simp), ht]
            · have ht := tokS_sign s[i] (suf s (i + 1)) h4 h5 (by rw [← hc]; exact h6)
              rw [← hc] at ht
              have hlen := tokS_len (suf s i) (by rw [ht])
              rw [ht] at hlen
              simp only [suf_len] at hlen
              rw [w64 (by omega) (by omega)]
              refine ev_else (by omega) (ev_if (by omega) (ev_if (by omega) (ev_if (by omega) ?_)))
              have htk : (suf s i).take (signS (suf s i)).length = signS (suf s i) := by
                rw [hc]
                unfold signS
                cases h7 : two 61 61 (s[i] :: suf s (i + 1)) with
                | true =>
                  match hm : suf s (i + 1) with
                  | [] => rw [hm] at h7; simp [two] at h7
                  | e :: l =>
                    rw [hm] at h7
                    simp [two] at h7
                    simp [h7.1, h7.2]
                | false =>
                  simp only [Bool.false_eq_true, if_false]
                  split <;> simp
              rw [glue_tok n i _ acc h0 hne (by rw [ht]), ht]
              rw [show ((i : Nat) : Int).toNat = i from rfl, show ((i : Int) + ((signS (suf s i)).length : Int)).toNat = i + (signS (suf s i)).length by omega, cut_suf, htk, suf_drop]
              rw [show (i : Int) + ((signS (suf s i)).length : Int) = ((i + (signS (suf s i)).length : Nat) : Int) by omega]
              exact ih (s.size - (i + (signS (suf s i)).length)) (by omega) (i + (signS (suf s i)).length) n _ rfl (by omega) (by omega) (by simp; omega)
      by_cases h47 : s[i] = 47
      · refine ev_if (by rw [h47]; rfl) ?_
        rw [w64 (by omega) (by omega)]
        by_cases hmore : i + 1 < s.size
        · have hc2 := suf_cons s (i + 1) hmore
          refine ev_if (by omega) ?_
          rw [w64 (by omega) (by omega)]
          refine ev_if (by omega) (ev_if (by omega) ?_)
          rw [show ((i : Int) + 1) = ((i + 1 : Nat) : Int) by omega, bt_suf s (i + 1) hmore]
          by_cases h2' : s[i + 1] = 47
          · have : ((s[i + 1].toNat : Int) == 47) = true := by rw [h2']; rfl
            rw [this]
            refine Ev.step (fun k => by simp only [witheref6_Lex.j1]; rfl) ?_
            refine ev_if (by simp) ?_
            refine remark_ev s hs acc _ (s.size - i) i rfl (by omega) ?_
            have hb2 := take_while_le (p := isInner) (suf s i)
            have e1 : (suf s i).takeWhile isInner = 47 :: 47 :: (suf s (i + 1 + 1)).takeWhile isInner := by
              rw [hc, hc2, h47, h2', List.takeWhile_cons_of_pos (by decide), List.takeWhile_cons_of_pos (by decide)]
            have e2 : (suf s i).dropWhile isInner = (suf s (i + 1 + 1)).dropWhile isInner := by
              rw [hc, hc2, h47, h2', List.dropWhile_cons_of_pos (by decide), List.dropWhile_cons_of_pos (by decide)]
            have hgap : gapS false (suf s i) = ((suf s i).takeWhile isInner).length + gapS false ((suf s i).drop ((suf s i).takeWhile isInner).length) := by
              rw [take_while_drop, e2, e1]
              have e3 : gapS false (suf s i) = gapS true (suf s (i + 1 + 1)) + 2 := by
                rw [hc, hc2, h47, h2']
                simp [gapS, isBlank]
              have e4 := gapS_inner (suf s (i + 1 + 1))
              simp only [List.length_cons]
              omega
            rw [lexS_gap _ _ _ _ hgap, suf_drop]
            have hq2 : 2 ≤ ((suf s i).takeWhile isInner).length := by rw [e1]; simp
            exact ih (s.size - (i + ((suf s i).takeWhile isInner).length)) (by omega) (i + ((suf s i).takeWhile isInner).length) (n + 1) acc rfl (by omega) (by omega) (by omega)
          · have : ((s[i + 1].toNat : Int) == 47) = false := by
              rw [beq_eq_false_iff_ne]
              intro e
              exact h2' (UInt8.toNat_inj.mp (by have : (47 : UInt8).toNat = 47 := rfl; omega))
            rw [this]
            exact tok (by rw [hc, hc2]; simp [two, h2'])
        · refine ev_else (by omega) (tok (by rw [hc, suf_nil s (i + 1) (by omega)]; rfl))
      · have : ¬ ((s[i].toNat : Int) = 47) := by
          intro e
          exact h47 (UInt8.toNat_inj.mp (by have : (47 : UInt8).toNat = 47 := rfl; omega))
        refine ev_else this (tok ?_)
        rw [hc]
        match suf s (i + 1) with
        | [] => rfl
        | e :: l => simp [two, h47]
  · refine ev_else (by omega) (ev_if (by omega) (ev_eq (Ev.now _) ?_))
    rw [suf_nil s i (by omega)]
    unfold glue lexS
    simp [gapS]
    omega
theorem rlex_f (s : ByteArray) : Ev (fun k => witheref6_Lex.f k s) (lexAll s) := by
  unfold witheref6_Lex.f lexAll
  by_cases h : s.size > 4096
  · rw [if_pos h]
    exact ev_if (by omega) (Ev.now _)
  · rw [if_neg h]
    refine ev_else (by omega) ?_
    have := rlex_ev s (by omega) s.size 0 (s.size + 1) [] (by omega) (by omega) (by omega) (by simp)
    refine ev_eq this ?_
    have e : suf s 0 = s.data.toList := List.drop_zero
    rw [e]
    unfold glue
    split
    · rename_i h1
      have h2 := lexS_right _ _ _ h1
      rw [List.nil_append]
      exact Prod.ext rfl (Prod.ext h1.symm h2.symm)
    · rename_i h1
      have := lexS_wrong _ _ _ h1
      rw [← this]
end Go.Proofs.Ytinnldfmbeafiaa.PA
