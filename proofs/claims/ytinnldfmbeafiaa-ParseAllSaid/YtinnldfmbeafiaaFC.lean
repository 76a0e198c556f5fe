/- Parse, Places, and the document's Parse, of any text. -/
import Derived.Test.YtinnldfmbeafiaaFB
import Derived.Test.YtinnldfmbeafiaaQO
import Derived.Test.YtinnldfmbeafiaaDI
namespace Go.Proofs.Ytinnldfmbeafiaa.PA
open Go.RowKit Go.Proofs.YtinnldfmbeafiaaW.PrintWords Go.Proofs.YtinnldfmbeafiaaW.PrintLast Go.Proofs.YtinnldfmbeafiaaW.PrintMore
set_option linter.unusedVariables false
set_option linter.unusedSimpArgs false
theorem noPR_q (b : Nat) (w : World) : VQ b w noPR noProg := ⟨none, 0, none, 0, none, 0, rfl, Nat.le_refl 0, Kd.F_nil _ _ _, Nat.le_refl 0, Kd.F_nil _ _ _, Nat.le_refl 0, Kd.F_nil _ _ _⟩
/-- What a text's reading leaves, at all three functions. -/
def U (a : ByteArray) (w : World) (e : Ending) (w' : World) : Prop := ∃ v A c, e = .returned (.tuple #[v, .slice A (ansS a).q.length c, .agg #[.int .i64 (ansS a).e, .int .i64 (ansS a).p]]) ∧ VQ w.heap.size w' (ansS a).x v ∧ Kd.R (Kd.int .i64) 3 w' w.heap.size (fun _ => True) (.slice A (ansS a).q.length c) (ansS a).q ∧ Below w.heap.size w w'
theorem ans_bad {a : ByteArray} (h : (lexAll a).2.1 ≠ 0) : ansS a = ⟨noPR, [], (lexAll a).2.1, (lexAll a).2.2⟩ := if_neg h
theorem ans_ok {a : ByteArray} (h : (lexAll a).2.1 = 0) : ansS a = ansR (lexAll a).1 (readR (lexAll a).1) := if_pos h
theorem RF.u {a : ByteArray} {w w' : World} {e : Ending} {e2 p : Int} (h : RF w e2 p e w') (hx : ansS a = ⟨noPR, [], e2, p⟩) : U a w e w' := by
  obtain ⟨rfl, hb⟩ := h
  unfold U
  rw [hx]
  exact ⟨noProg, none, 0, rfl, noPR_q _ _, Kd.R_nil _ _ _ _ _, hb⟩
theorem RO.u {a : ByteArray} {w w' : World} {e : Ending} {x : PR} {q : List Int} (h : RO w x q e w') (hx : ansS a = ⟨x, q, 0, 0⟩) : U a w e w' := by
  obtain ⟨v, A, c, rfl, h1, h2, h3⟩ := h
  unfold U
  rw [hx]
  exact ⟨v, A, c, rfl, h1, h2, h3⟩
theorem lex_right {a : ByteArray} (h : (lexAll a).2.1 = 0) : (lexAll a).2.2 = 0 := by
  unfold lexAll at h ⊢
  split at h
  · cases h
  · rename_i hs
    rw [if_neg hs]
    exact lexS_right _ _ _ h
theorem lexAll_eta {a : ByteArray} (h : (lexAll a).2.1 = 0) : lexAll a = ((lexAll a).1, 0, 0) := by
  exact Prod.ext rfl (Prod.ext h (lex_right h))
theorem refparse_u (a : ByteArray) (w : World) : Calls Try.prog 10 #[.string a] w (U a w) := by
  obtain ⟨k, hk⟩ := (rlex_f a).rounds
  by_cases h : (lexAll a).2.1 = 0
  · rw [lexAll_eta h] at hk
    obtain ⟨ht, ht2⟩ := lexAll_row a h
    refine (D.parse_c k a (lexAll a).1 w hk ht ht2 _ _ _ (readR (lexAll a).1) (readR_of _) (readR_ne a h)).mono ?_
    intro e w' hr
    have hx := ans_ok h
    cases hR : readR (lexAll a).1 with
    | out => exact absurd hR (readR_ne a h)
    | fail p => rw [hR] at hr hx; exact RF.u hr hx
    | ok x j q => rw [hR] at hr hx; exact RO.u hr hx
  · exact (D.parse_err k a _ _ _ w hk h).mono fun e w' hr => RF.u hr (ans_bad h)
theorem ans_cases (a : ByteArray) : (∃ e p, ansS a = ⟨noPR, [], e, p⟩ ∧ ∀ w, Calls Try.prog 18 #[.string a] w (RF w e p)) ∨ ∃ x q, ansS a = ⟨x, q, 0, 0⟩ ∧ ∀ w, Calls Try.prog 18 #[.string a] w (RO w x q) := by
  obtain ⟨k, hk⟩ := (lex_f a).rounds
  by_cases h : (lexAll a).2.1 = 0
  · rw [lexAll_eta h] at hk
    have ht := (lexAll_row a h).1
    have hr := fun w => read_c k a (lexAll a).1 w hk ht _ _ _ (readR (lexAll a).1) (readR_of _) (readR_ne a h)
    have hx := ans_ok h
    cases hR : readR (lexAll a).1 with
    | out => exact absurd hR (readR_ne a h)
    | fail p => rw [hR] at hr hx; exact .inl ⟨_, _, hx, hr⟩
    | ok x j q => rw [hR] at hr hx; exact .inr ⟨_, _, hx, hr⟩
  · exact .inl ⟨_, _, ans_bad h, fun w => read_err k a _ _ _ w hk h⟩
theorem parse_u (a : ByteArray) (w : World) : Calls Try.prog 8 #[.string a] w fun e w' => ∃ v, e = .returned (.tuple #[v, .agg #[.int .i64 (ansS a).e, .int .i64 (ansS a).p]]) ∧ VQ w.heap.size w' (ansS a).x v ∧ Below w.heap.size w w' := by
  rcases ans_cases a with ⟨e, p, hx, hC⟩ | ⟨x, q, hx, hC⟩
  · rw [hx]
    exact (parse_bad a e p w hC).mono fun e' w' ⟨h1, h2⟩ => ⟨noProg, h1, noPR_q _ _, h2⟩
  · rw [hx]
    exact (parse_ok a x q w hC).mono fun e' w' ⟨v, h1, h2, h3⟩ => ⟨v, h1, h2, h3⟩
theorem places_u (a : ByteArray) (w : World) : Calls Try.prog 9 #[.string a] w fun e w' => ∃ A c, e = .returned (.tuple #[.slice A (ansS a).q.length c, .agg #[.int .i64 (ansS a).e, .int .i64 (ansS a).p]]) ∧ Kd.R (Kd.int .i64) 3 w' w.heap.size (fun _ => True) (.slice A (ansS a).q.length c) (ansS a).q ∧ Below w.heap.size w w' := by
  rcases ans_cases a with ⟨e, p, hx, hC⟩ | ⟨x, q, hx, hC⟩
  · rw [hx]
    exact (places_bad a e p w hC).mono fun e' w' ⟨h1, h2⟩ => ⟨none, 0, h1, Kd.R_nil _ _ _ _ _, h2⟩
  · rw [hx]
    exact (places_ok a x q w hC).mono fun e' w' ⟨A, c, h1, h2, h3⟩ => ⟨A, c, h1, h2, h3⟩
end Go.Proofs.Ytinnldfmbeafiaa.PA
