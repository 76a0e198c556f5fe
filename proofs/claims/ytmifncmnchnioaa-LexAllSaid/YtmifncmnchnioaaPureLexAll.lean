/- LexAll: Lex, Keyword and Name tell of any text what the document's own answer tells. For all texts of 5,000 bytes. -/
import Derived.Test.YtmifncmnchnioaaLexR
import Derived.Test.YtmifncmnchnioaaLexK
import Derived.Test.YtmifncmnchnioaaPLx7
import Derived.Test.YtmifncmnchnioaaPLx13
namespace Go.Proofs.Ytmifncmnchnioaa.Pure
open Go.RowKit Go.Proofs.Ytmifncmnchnioaa.PL Go.Proofs.YtmifncmnchnioaaW.PrintWords Go.Proofs.YtmifncmnchnioaaW.PrintLast
set_option linter.unusedVariables false
set_option linter.unusedSimpArgs false

theorem all_begun_at : withelaw6_begun.f 40 = some true := by decide +kernel
theorem all_begun : Ev (fun k => withelaw6_begun.f k) true := Ev.of (fun k => withelaw6_begun.mono k) all_begun_at
theorem all_same (l : List S37) (hl : l.length ≤ 1000000) : Ev (fun k => witheref6_SameTokens.f k l l) true := by
  have : ∀ (d i : Nat), l.length - i = d → i ≤ l.length → Ev (fun k => witheref6_SameTokens.l0 k l l (i : Int)) true := by
    intro d
    induction d with
    | zero =>
      intro i h1 h2
      exact Ev.step (fun k => by simp only [witheref6_SameTokens.l0]; rfl) (ev_else (by omega) (Ev.now _))
    | succ d ih =>
      intro i h1 h2
      refine Ev.step (fun k => by simp only [witheref6_SameTokens.l0]; rfl) (ev_if (by omega) (ev_if (by omega) (ev_if (by omega) (ev_else (by simp) ?_))))
      rw [w64 (by omega) (by omega)]
      exact ih (i + 1) (by omega) (by omega)
  unfold witheref6_SameTokens.f
  exact ev_if rfl (this l.length 0 (by omega) (by omega))
theorem lexS_count : ∀ (n p : Nat) (l : List UInt8), (lexS n p l).1.length ≤ n
  | 0, _, _ => by simp [lexS]
  | n + 1, p, l => by
    have h := fun p l => lexS_count n p l
    rw [lexS]
    split
    · simp
    · split
      · split
        · simp only [List.length_cons]
          have := h (p + gapS false l + (tokS (l.drop (gapS false l))).2.1.length) ((l.drop (gapS false l)).drop (tokS (l.drop (gapS false l))).2.1.length)
          omega
        · have := h (p + gapS false l + (tokS (l.drop (gapS false l))).2.1.length) ((l.drop (gapS false l)).drop (tokS (l.drop (gapS false l))).2.1.length)
          omega
      · simp
theorem rkeyword_f (x : ByteArray) : Ev (fun k => witheref6_Keyword.f k x) (kwS x) := by
  have : ∀ (d i : Nat), 21 - i = d → i ≤ 21 → Ev (fun k => witheref6_Keyword.l0 k x kwWords (i : Int)) (isIn (kwWords.drop i) x) := by
    have hlen : kwWords.length = 21 := rfl
    intro d
    induction d with
    | zero =>
      intro i h1 h2
      refine Ev.step (fun k => by simp only [witheref6_Keyword.l0]; rfl) (ev_else (by rw [hlen]; omega) (ev_eq (Ev.now _) ?_))
      rw [List.drop_of_length_le (by omega)]
      rfl
    | succ d ih =>
      intro i h1 h2
      have hi : i < kwWords.length := by omega
      refine Ev.step (fun k => by simp only [witheref6_Keyword.l0]; rfl) (ev_if (by omega) (ev_if (by omega) ?_))
      rw [rdOf_nat kwWords _ i hi, Go.Lib.toList_data, Go.Lib.toList_data, List.drop_eq_getElem_cons hi]
      by_cases he : kwWords[i].data.toList = x.data.toList
      · refine ev_if he (ev_eq (Ev.now _) ?_)
        rw [isIn_cons, he]
        simp
      · refine ev_else he ?_
        rw [w64 (by omega) (by omega)]
        refine ev_eq (ih (i + 1) (by omega) (by omega)) ?_
        have : ¬ x.data.toList = kwWords[i].data.toList := fun h => he h.symm
        rw [isIn_cons, beq_eq_false_iff_ne.mpr this, Bool.false_or]
  unfold witheref6_Keyword.f
  exact ev_bind0 rfl (this 21 0 (by omega) (by omega))
theorem rname_f (x : ByteArray) (hx : x.size ≤ 140737488351232) : Ev (fun k => witheref6_Name.f k x) (nameS x) := by
  have stop : Ev (fun k => witheref6_Name.j0 k x true) false := by
    refine Ev.step (fun k => by simp only [witheref6_Name.j0]; rfl) ?_
    exact ev_if (by simp) (Ev.now _)
  have loop : ∀ (d i : Nat), x.size - i = d → i ≤ x.size → Ev (fun k => witheref6_Name.l0 k x (i : Int)) ((suf x i).all isTail) := by
    intro d
    induction d with
    | zero =>
      intro i h1 h2
      refine Ev.step (fun k => by simp only [witheref6_Name.l0]; rfl) (ev_else (by omega) (ev_eq (Ev.now _) ?_))
      rw [suf_nil x i (by omega)]
      rfl
    | succ d ih =>
      intro i h1 h2
      have hi : i < x.size := by omega
      refine Ev.step (fun k => by simp only [witheref6_Name.l0]; rfl) (ev_if (by omega) (ev_if (by omega) ?_))
      rw [bt_suf x i hi, suf_cons x i hi, List.all_cons]
      refine ev_bind0 (rletter_f _) ?_
      cases hl : isLetter x[i] with
      | true =>
        refine ev_if rfl ?_
        rw [w64 (by omega) (by omega)]
        exact ev_eq (ih (i + 1) (by omega) (by omega)) (by simp [isTail, hl])
      | false =>
        refine ev_else (by simp) (ev_bind0 (rdigit_f _) ?_)
        cases hd : isDigit x[i] with
        | true =>
          refine ev_if rfl ?_
          rw [w64 (by omega) (by omega)]
          exact ev_eq (ih (i + 1) (by omega) (by omega)) (by simp [isTail, hl, hd])
        | false => exact ev_else (by simp) (ev_eq (Ev.now _) (by simp [isTail, hl, hd]))
  unfold witheref6_Name.f nameS
  have hz : x.size = x.data.toList.length := Go.Lib.size_eq x
  rw [Go.Lib.toList_data]
  match hm : x.data.toList with
  | [] => exact ev_if rfl stop
  | c :: m =>
    rw [hm] at hz
    rw [nameL_cons]
    refine ev_else (by simp) ?_
    by_cases h8 : (c :: m).length ≤ 8
    · refine ev_else (by omega) (ev_if (by simp at hz; omega) ?_)
      have hpos : 0 < x.size := by simp at hz; omega
      have hb := bt_suf x 0 hpos
      have h0 : x[0] = c := by
        have : x.data.toList[0]'(by rw [hm]; simp) = c := by simp [hm]
        exact this
      have hb' : bt x 0 = (c.toNat : Int) := by rw [← h0]; exact hb
      rw [hb']
      refine ev_bind0 (rletter_f _) ?_
      cases hl : isLetter c with
      | false =>
        refine ev_else (by simp) (ev_eq stop ?_)
        simp
      | true =>
        refine ev_if rfl (Ev.bind (rkeyword_f x) ?_)
        cases hk : kwS x with
        | true =>
          refine ev_eq stop ?_
          simp
        | false =>
          refine Ev.step (fun k => by simp only [witheref6_Name.j0]; rfl) (ev_else (by simp) ?_)
          have hr := loop x.size 0 (by omega) (by omega)
          have e : suf x 0 = c :: m := by unfold suf; rw [List.drop_zero, hm]
          rw [e] at hr
          refine ev_eq hr ?_
          rw [decide_eq_true h8]
          simp
    · refine ev_if (by omega) (ev_eq stop ?_)
      rw [decide_eq_false h8]
      rfl
theorem LexAll : withelaw6_LexAll.Pure := by
  intro a0 a1 h0 h1
  refine Ev.rounds ?_
  have stop : ∀ x y, Ev (fun k => withelaw6_LexAll.j0 k x y true) true := by
    intro x y
    refine Ev.step (fun k => by simp only [withelaw6_LexAll.j0]; rfl) ?_
    exact ev_if (by simp) (Ev.now _)
  unfold withelaw6_LexAll.f
  refine Ev.bind all_begun (ev_if rfl ?_)
  by_cases c0 : (a0.size : Int) > 5000
  · exact ev_if c0 (stop _ _)
  · refine ev_else c0 ?_
    by_cases c1 : (a1.size : Int) > 5000
    · rw [decide_eq_true c1]
      exact stop _ _
    · rw [decide_eq_false c1]
      refine Ev.step (fun k => by simp only [withelaw6_LexAll.j0]; rfl) (ev_else (by simp) ?_)
      refine Ev.bind (lex_f a0) (Ev.bind (rlex_f a0) (Ev.bind (all_same _ ?_) (ev_if rfl (ev_if (by simp) ?_))))
      · unfold lexAll
        split
        · simp
        · have := lexS_count (a0.size + 1) 0 a0.data.toList
          omega
      · refine Ev.bind (keyword_f a1) (Ev.bind (rkeyword_f a1) (ev_if (by simp) ?_))
        exact Ev.bind (name_f a1 h1) (Ev.bind (rname_f a1 h1) (ev_eq (Ev.now _) (by simp)))
end Go.Proofs.Ytmifncmnchnioaa.Pure
