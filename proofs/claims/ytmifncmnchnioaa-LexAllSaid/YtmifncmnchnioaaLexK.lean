/- Keywords and names: both ways to ask come to the same. -/
import Derived.Test.YtmifncmnchnioaaLexU
import Derived.Test.YtmifncmnchnioaaPLx7
import Derived.Test.YtmifncmnchnioaaPLx6
namespace Go.Proofs.Ytmifncmnchnioaa.PL
open Go.RowKit Go.Proofs.YtmifncmnchnioaaW.PrintWords Go.Proofs.YtmifncmnchnioaaW.PrintLast Go.Proofs.YtmifncmnchnioaaW.PrintMore
set_option linter.unusedVariables false
set_option linter.unusedSimpArgs false

def isIn (L : List ByteArray) (x : ByteArray) : Bool := L.any fun w => x.data.toList == w.data.toList
theorem isIn_cons (w : ByteArray) (L : List ByteArray) (x : ByteArray) : isIn (w :: L) x = ((x.data.toList == w.data.toList) || isIn L x) := List.any_cons
theorem rdOf_nat (L : List ByteArray) (d : ByteArray) (i : Nat) (h : i < L.length) : rdOf d L (i : Int) = L[i] := by
  unfold rdOf
  simp [h]
theorem index_ev (L : List ByteArray) (x : ByteArray) (hL : L.length ≤ 1000000) : ∃ r, Ev (fun k => slices_Index_string_string.f k L x) r ∧ decide (r ≥ 0) = isIn L x := by
  have : ∀ (d i : Nat), L.length - i = d → i ≤ L.length → ∃ r, Ev (fun k => slices_Index_string_string.l0 k L x (L.length : Int) (i : Int)) r ∧ decide (r ≥ 0) = isIn (L.drop i) x := by
    intro d
    induction d with
    | zero =>
      intro i h1 h2
      refine ⟨-1, Ev.step (fun k => by simp only [slices_Index_string_string.l0]; rfl) (ev_else (by omega) (Ev.now _)), ?_⟩
      rw [List.drop_of_length_le (by omega)]
      rfl
    | succ d ih =>
      intro i h1 h2
      have hi : i < L.length := by omega
      obtain ⟨r, hr, hd⟩ := ih (i + 1) (by omega) (by omega)
      by_cases he : x.data.toList = L[i].data.toList
      · refine ⟨(i : Int), Ev.step (fun k => by simp only [slices_Index_string_string.l0]; rfl) (ev_if (by omega) (ev_if (by omega) (ev_if (by omega) ?_))), ?_⟩
        · rw [rdOf_nat L _ i hi, Go.Lib.toList_data, Go.Lib.toList_data]
          exact ev_if he (Ev.now _)
        · rw [List.drop_eq_getElem_cons hi, isIn_cons, he]
          simp
      · refine ⟨r, Ev.step (fun k => by simp only [slices_Index_string_string.l0]; rfl) (ev_if (by omega) (ev_if (by omega) (ev_if (by omega) ?_))), ?_⟩
        · rw [rdOf_nat L _ i hi, Go.Lib.toList_data, Go.Lib.toList_data]
          refine ev_else he ?_
          rw [w64 (by omega) (by omega)]
          exact hr
        · rw [hd, List.drop_eq_getElem_cons hi, isIn_cons, beq_eq_false_iff_ne.mpr he, Bool.false_or]
  unfold slices_Index_string_string.f
  have := this L.length 0 (by omega) (by omega)
  simpa using this
def kwWords : List ByteArray := [(⟨#[108, 105, 116, 109, 117, 115]⟩ : ByteArray), (⟨#[118, 97, 108, 117, 101, 115]⟩ : ByteArray), (⟨#[105, 110, 105, 116]⟩ : ByteArray), (⟨#[116, 104, 114, 101, 97, 100]⟩ : ByteArray), (⟨#[108, 111, 97, 100]⟩ : ByteArray), (⟨#[97, 100, 100]⟩ : ByteArray), (⟨#[99, 97, 115]⟩ : ByteArray), (⟨#[115, 116, 111, 114, 101]⟩ : ByteArray), (⟨#[102, 101, 110, 99, 101]⟩ : ByteArray), (⟨#[105, 102]⟩ : ByteArray), (⟨#[101, 108, 115, 101]⟩ : ByteArray), (⟨#[101, 120, 105, 115, 116, 115]⟩ : ByteArray), (⟨#[102, 111, 114, 97, 108, 108]⟩ : ByteArray), (⟨#[97, 110, 100]⟩ : ByteArray), (⟨#[111, 114]⟩ : ByteArray), (⟨#[110, 111, 116]⟩ : ByteArray), (⟨#[114, 108, 120]⟩ : ByteArray), (⟨#[97, 99, 113]⟩ : ByteArray), (⟨#[114, 101, 108]⟩ : ByteArray), (⟨#[97, 99, 113, 114, 101, 108]⟩ : ByteArray), (⟨#[115, 99]⟩ : ByteArray)]
def kwS (x : ByteArray) : Bool := isIn kwWords x
theorem keyword_f (x : ByteArray) : Ev (fun k => lex_Keyword.f k x) (kwS x) := by
  obtain ⟨r, hr, hd⟩ := index_ev kwWords x (by decide)
  unfold lex_Keyword.f slices_Contains_string_string.f
  exact ev_eq (Ev.bind (Ev.bind hr (Ev.now _)) (Ev.now _)) hd
theorem all_take_while {p : UInt8 → Bool} (l : List UInt8) : ((l.takeWhile p).length = l.length) ↔ l.all p = true := by
  induction l with
  | nil => simp
  | cons c l ih =>
    cases h : p c with
    | true => rw [List.takeWhile_cons_of_pos h]; simp [h, ih]
    | false => rw [List.takeWhile_cons_of_neg (by simp [h])]; simp [h]
def nameL (kw : Bool) : List UInt8 → Bool
  | c :: m => decide ((c :: m).length ≤ 8) && isLetter c && (c :: m).all isTail && !kw
  | [] => false
theorem nameL_cons (kw : Bool) (c : UInt8) (m : List UInt8) : nameL kw (c :: m) = (decide ((c :: m).length ≤ 8) && isLetter c && (c :: m).all isTail && !kw) := rfl
def nameS (x : ByteArray) : Bool := nameL (kwS x) x.data.toList
theorem name_f (x : ByteArray) (hx : x.size ≤ 140737488351232) : Ev (fun k => lex_Name.f k x) (nameS x) := by
  have stop : Ev (fun k => lex_Name.j0 k x true) false := by
    refine Ev.step (fun k => by simp only [lex_Name.j0]; rfl) ?_
    exact ev_if (by simp) (Ev.now _)
  unfold lex_Name.f nameS
  have hz : x.size = x.data.toList.length := Go.Lib.size_eq x
  rw [Go.Lib.toList_data]
  match hm : x.data.toList with
  | [] => exact ev_if rfl stop
  | c :: m =>
    rw [hm] at hz
    rw [nameL_cons]
    refine ev_else (by simp) ?_
    by_cases h8 : (c :: m).length ≤ 8
    · refine ev_else (by omega) (ev_if (by simp at hz; omega) ?_)
      have hpos : 0 < x.size := by simp at hz; omega
      have hb := bt_suf x 0 hpos
      have h0 : x[0] = c := by
        have : x.data.toList[0]'(by rw [hm]; simp) = c := by simp [hm]
        exact this
      have hb' : bt x 0 = (c.toNat : Int) := by rw [← h0]; exact hb
      rw [hb']
      refine ev_bind0 (letter_f _) ?_
      cases hl : isLetter c with
      | false =>
        refine ev_eq stop ?_
        simp
      | true =>
        refine Ev.step (fun k => by simp only [lex_Name.j0]; rfl) (ev_else (by simp) ?_)
        have hr := run_tail x hx 0 (by omega)
        have e : suf x 0 = c :: m := by unfold suf; rw [List.drop_zero, hm]
        rw [e] at hr
        refine Ev.bind hr ?_
        have ha := all_take_while (p := isTail) (c :: m)
        by_cases hall : (c :: m).all isTail = true
        · refine ev_if (by rw [ha.mpr hall, hz]) (Ev.bind (keyword_f x) (ev_eq (Ev.now _) ?_))
          rw [hall, decide_eq_true h8]
          simp
        · have : ¬ (((c :: m).takeWhile isTail).length = (c :: m).length) := fun h => hall (ha.mp h)
          refine ev_else (by rw [hz]; omega) (ev_eq (Ev.now _) ?_)
          have h2 : (c :: m).all isTail = false := by simpa using hall
          rw [h2]
          simp
    · refine ev_if (by omega) (ev_eq stop ?_)
      rw [decide_eq_false h8]
      rfl
end Go.Proofs.Ytmifncmnchnioaa.PL
