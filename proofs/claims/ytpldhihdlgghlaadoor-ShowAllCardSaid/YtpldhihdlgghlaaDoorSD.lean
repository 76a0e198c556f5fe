/- Both printers' expressions come to the same text. -/
import Derived.Test.YtpldhihdlgghlaaDoorSA
namespace Go.Proofs.YtpldhihdlgghlaaDoor.PS
open Go.RowKit Go.Proofs.YtpldhihdlgghlaaDoorW.PrintWords Go.Proofs.YtpldhihdlgghlaaDoorW.PrintLast Go.Proofs.YtpldhihdlgghlaaDoorW.PrintMore
set_option linter.unusedVariables false
set_option linter.unusedSimpArgs false
def signs : List ByteArray := [(⟨#[]⟩ : ByteArray), (⟨#[]⟩ : ByteArray), (⟨#[]⟩ : ByteArray), (⟨#[43]⟩ : ByteArray), (⟨#[45]⟩ : ByteArray), (⟨#[61, 61]⟩ : ByteArray), (⟨#[60]⟩ : ByteArray)]
theorem sign_of {op : Int} (h3 : 3 ≤ op) (h6 : op ≤ 6) : ∃ sg : ByteArray, show_word.f signs op = some sg ∧ sg.toList ≠ [] ∧ sg.size ≤ 2 ∧ midS op = (⟨#[32]⟩ : ByteArray) ++ sg ++ ⟨#[32]⟩ := by
  rcases (by omega : op = 3 ∨ op = 4 ∨ op = 5 ∨ op = 6) with rfl | rfl | rfl | rfl
  · exact ⟨⟨#[43]⟩, by decide, by decide +kernel, by decide, by decide⟩
  · exact ⟨⟨#[45]⟩, by decide, by decide +kernel, by decide, by decide⟩
  · exact ⟨⟨#[61, 61]⟩, by decide, by decide +kernel, by decide, by decide⟩
  · exact ⟨⟨#[60]⟩, by decide, by decide +kernel, by decide, by decide⟩
theorem sign_not {op : Int} (h : ¬ (3 ≤ op ∧ op ≤ 6)) : show_word.f signs op = some (⟨#[]⟩ : ByteArray) := by
  unfold show_word.f
  by_cases h0 : op < 0
  · rw [if_pos h0]
  rw [if_neg h0]
  by_cases h7 : op ≥ (signs.length : Int)
  · rw [if_pos h7]
  rw [if_neg h7]
  have hl : (signs.length : Int) = 7 := rfl
  rcases (by omega : op = 0 ∨ op = 1 ∨ op = 2) with rfl | rfl | rfl <;> decide
theorem rd31 {l : List S31} {i : Int} (h0 : 0 ≤ i) (h1 : i < l.length) : l[i.toNat]? = some (rd_T31 l i) ∧ rd_T31 l i ∈ l := by
  have hl : i.toNat < l.length := by omega
  constructor
  · simp [rd_T31, List.getElem?_eq_getElem hl]
  · simp [rd_T31, hl]
theorem at_ex {k : Nat} {l : List S31} (F : Int → Int → ByteArray → List S31 → Option ByteArray) (h : ∀ x ∈ l, F x.f0 x.f1 x.f2 x.f3 = some (exS k x)) (i : Int) (h0 : 0 ≤ i) : api_Expr_at_show_Expr.b F l i = some (kidS k l i.toNat) := by
  unfold api_Expr_at_show_Expr.b kidS
  by_cases h1 : i ≥ (l.length : Int)
  · have hn : l[i.toNat]? = none := List.getElem?_eq_none (by omega)
    rw [if_pos h1, hn]
  · obtain ⟨e1, e2⟩ := rd31 (l := l) h0 (by omega)
    rw [if_neg h1, if_pos h0, if_pos (by omega), e1, h _ e2]
    rfl
theorem sz40 : (⟨#[40]⟩ : ByteArray).size = 1 := rfl
theorem sz32 : (⟨#[32]⟩ : ByteArray).size = 1 := rfl
theorem show_ex : ∀ k e, EX k e → k ≤ 14 → show_Expr.f k e.f0 e.f1 e.f2 e.f3 = some (exS k e)
  | 0, e, h, _ => h.elim
  | k + 1, e, h, hk => by
    obtain ⟨h1, h2, h3⟩ := h
    unfold show_Expr.f exS
    by_cases c1 : e.f0 = 1
    · rw [if_pos c1, if_pos c1, ito_f h1]
      rfl
    rw [if_neg c1, if_neg c1]
    by_cases c2 : e.f0 = 2
    · rw [if_pos c2, if_pos c2]
    rw [if_neg c2, if_neg c2]
    show (show_word.f signs e.f0).bind _ = _
    by_cases c3 : 3 ≤ e.f0 ∧ e.f0 ≤ 6
    · obtain ⟨sg, hw, hne, hs, hm⟩ := sign_of c3.1 c3.2
      have ih : ∀ x ∈ e.f3, show_Expr.f k x.f0 x.f1 x.f2 x.f3 = some (exS k x) := fun x hx => show_ex k x (h3 x hx) (by omega)
      have a0 : api_Expr_at_show_Expr.b (show_Expr.f k) e.f3 0 = some (kidS k e.f3 0) := at_ex (show_Expr.f k) ih 0 (by decide)
      have a1 : api_Expr_at_show_Expr.b (show_Expr.f k) e.f3 1 = some (kidS k e.f3 1) := at_ex (show_Expr.f k) ih 1 (by decide)
      have b0 := Nat.le_trans (kidS_size h3 0) (bnd_le k (by omega))
      have b1 := Nat.le_trans (kidS_size h3 1) (bnd_le k (by omega))
      rw [if_pos c3, hw, Option.bind_some, if_neg hne, a0, Option.bind_some]
      show (if 1 + (kidS k e.f3 0).size ≤ _ then _ else _) = _
      rw [if_pos (by omega), if_pos (by simp only [ByteArray.size_append, sz40]; omega), if_pos (by simp only [ByteArray.size_append, sz40, sz32]; omega), if_pos (by simp only [ByteArray.size_append, sz40, sz32]; omega), a1, Option.bind_some]
      show (if ((((((⟨#[40]⟩ : ByteArray) ++ kidS k e.f3 0) ++ ⟨#[32]⟩) ++ sg) ++ ⟨#[32]⟩).size + (kidS k e.f3 1).size ≤ _) then _ else _) = _
      rw [if_pos (by simp only [ByteArray.size_append, sz40, sz32]; omega), if_pos (by simp only [ByteArray.size_append, sz40, sz32]; omega), hm]
      refine congrArg some ?_
      show _ = (⟨#[40]⟩ : ByteArray) ++ kidS k e.f3 0 ++ (⟨#[32]⟩ ++ sg ++ ⟨#[32]⟩) ++ kidS k e.f3 1 ++ ⟨#[41]⟩
      simp only [ByteArray.append_assoc]
    · rw [sign_not c3, Option.bind_some, if_pos (show (⟨#[]⟩ : ByteArray).toList = ([] : List UInt8) by decide +kernel), if_neg c3]
/-- What a list's item is shown as, by the code. -/
theorem at_f {l : List S31} (h : ∀ x ∈ l, EX 13 x) (i : Int) (h0 : 0 ≤ i) : api_Expr_at_show_Expr.f 13 l i = some (kidS 13 l i.toNat) :=
  at_ex (show_Expr.f 13) (fun x hx => show_ex 13 x (h x hx) (by decide)) i h0
end Go.Proofs.YtpldhihdlgghlaaDoor.PS
