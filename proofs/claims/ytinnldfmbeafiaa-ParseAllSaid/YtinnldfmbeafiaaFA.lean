/- There are rounds enough: reading a row of tokens ends. -/
import Derived.Test.YtinnldfmbeafiaaQM
namespace Go.Proofs.Ytinnldfmbeafiaa.PA
open Go.RowKit Go.Proofs.YtinnldfmbeafiaaW.PrintWords Go.Proofs.YtinnldfmbeafiaaW.PrintLast Go.Proofs.YtinnldfmbeafiaaW.PrintMore
set_option linter.unusedVariables false
set_option linter.unusedSimpArgs false
/-- Reading ends, and goes on by so many tokens at least, yet not beyond the last one. -/
structure Fits {α : Type} (E : Env) (i n : Nat) (r : Res α) : Prop where
  ne : r ≠ .out
  adv : ∀ x j q, r = .ok x j q → i + n ≤ j ∧ j < E.ts.length
def Fin (E : Env) : Prop := ∀ i, i < E.ts.length → (E.tk i).f0 ≠ 4 → i + 1 < E.ts.length
section
variable {E : Env} {α β : Type} {i n m : Nat} {r : Res α} {f : α → Nat → Res β}
theorem Fits.bind (h : Fits E i n r) (k : ∀ x j, i + n ≤ j → j < E.ts.length → Fits E j m (f x j)) : Fits E i (n + m) (r.bind f) := by
  cases r with
  | out => exact absurd rfl h.ne
  | fail p => exact ⟨by simp [Res.bind], fun x j q e => by simp [Res.bind] at e⟩
  | ok x j q =>
    obtain ⟨h1, h2⟩ := h.adv x j q rfl
    have h3 := k x j h1 h2
    constructor
    · simp only [Res.bind]
      cases hf : f x j with
      | out => exact absurd hf h3.ne
      | fail p => simp
      | ok y l s => simp
    · intro y l s e
      obtain ⟨x', j', q1, q2, e1, e2⟩ := bind_ok e
      injection e1 with e1 e3 e4
      subst e1 e3
      have := h3.adv _ _ _ e2
      omega
theorem Fits.le (h : Fits E i n r) (hm : m ≤ n) : Fits E i m r := ⟨h.ne, fun x j q e => by have := h.adv x j q e; omega⟩
theorem Fits.fail (p : Nat) : Fits E i n (.fail p : Res α) := ⟨by simp, fun _ _ _ e => by cases e⟩
theorem Fits.ok (x : α) (q : List Int) (h : i < E.ts.length) : Fits E i 0 (.ok x i q) := ⟨by simp, fun _ _ _ e => by injection e with _ e _; omega⟩
theorem fin_t {t : ByteArray} (hF : Fin E) (hi : i < E.ts.length) (h : isT E i t = true) : i + 1 < E.ts.length := by
  refine hF i hi (fun e => ?_)
  unfold isT at h
  rw [e] at h
  simp at h
theorem must_fits (hF : Fin E) (t : ByteArray) (hi : i < E.ts.length) : Fits E i 1 (mustP E t i) := by
  unfold mustP
  split
  · rename_i h
    exact ⟨by simp, fun _ _ _ e => by injection e with _ e _; have := fin_t hF hi h; omega⟩
  · exact .fail _
theorem name_fits (hF : Fin E) (hi : i < E.ts.length) : Fits E i 1 (nameP E i) := by
  unfold nameP
  split
  · rename_i h
    exact ⟨by simp, fun _ _ _ e => by injection e with _ e _; have := hF i hi (fun e => by rw [e] at h; simp at h); omega⟩
  · exact .fail _
theorem num_fits (hF : Fin E) (hi : i < E.ts.length) : Fits E i 1 (numP E i) := by
  unfold numP
  split
  · rename_i h
    exact ⟨by simp, fun _ _ _ e => by injection e with _ e _; have := hF i hi (fun e => by rw [e] at h; simp at h); omega⟩
  · exact .fail _
theorem mode_fits (hF : Fin E) (hi : i < E.ts.length) : Fits E i 1 (modeP E i) := by
  unfold modeP
  split
  · rename_i h
    exact ⟨by simp, fun _ _ _ e => by injection e with _ e _; have := hF i hi (fun e => by rw [e] at h; simp at h); omega⟩
  · exact .fail _
end
section
variable {E : Env} {i : Nat} {ex rt : Nat → Res S94}
theorem atom_fits (hF : Fin E) (hi : i < E.ts.length) (hex : ∀ j, i < j → j < E.ts.length → Fits E j 1 (ex j)) : Fits E i 1 (atomP E ex i) := by
  unfold atomP
  split
  · exact ((num_fits hF hi).bind (m := 0) fun x j _ hj => .ok _ _ hj).le (by omega)
  · split
    · exact ((name_fits hF hi).bind (m := 0) fun x j _ hj => .ok _ _ hj).le (by omega)
    · split
      · rename_i h
        have := (hex (i + 1) (by omega) (fin_t hF hi h)).bind (f := fun e j => (mustP E ⟨#[41]⟩ j).bind fun _ l => .ok e l []) (m := 1) fun x j _ hj => ((must_fits hF _ hj).bind (m := 0) fun _ l _ hl => .ok _ _ hl).le (by omega)
        exact ⟨this.ne, fun x j q e => by have := this.adv x j q e; omega⟩
      · exact .fail _
theorem sumL_fits (hF : Fin E) (hrt : ∀ j, i ≤ j → j < E.ts.length → Fits E j 1 (rt j)) : ∀ m e j, i ≤ j → j < E.ts.length → E.ts.length - j < m → Fits E j 0 (sumL E rt m e j)
  | 0, _, _, _, _, h => by omega
  | m + 1, e, j, h1, h2, h3 => by
    have step : ∀ (op : Int), j + 1 < E.ts.length → Fits E j 0 ((rt (j + 1)).bind fun f l => sumL E rt m ⟨op, 0, ⟨#[]⟩, [e, f]⟩ l) := fun op hj => by
      have := (hrt (j + 1) (by omega) hj).bind (f := fun f l => sumL E rt m ⟨op, 0, ⟨#[]⟩, [e, f]⟩ l) (m := 0) fun x l hl1 hl2 => sumL_fits hF hrt m _ l (by omega) hl2 (by omega)
      exact ⟨this.ne, fun x j q e => by have := this.adv x j q e; omega⟩
    rw [sumL]
    split
    · rename_i h; exact step 3 (fin_t hF h2 h)
    · split
      · rename_i h; exact step 4 (fin_t hF h2 h)
      · exact .ok _ _ h2
theorem sum_fits (hF : Fin E) (hi : i < E.ts.length) (hex : ∀ j, i < j → j < E.ts.length → Fits E j 1 (ex j)) : Fits E i 1 (sumP E ex i) := by
  have ha : ∀ j, i ≤ j → j < E.ts.length → Fits E j 1 (atomP E ex j) := fun j h1 h2 => atom_fits hF h2 (fun l h3 h4 => hex l (by omega) h4)
  exact ((ha i (Nat.le_refl i) hi).bind (m := 0) fun e j h1 h2 => sumL_fits hF ha _ e j (by omega) h2 (by omega)).le (by omega)
theorem expr_fits (hF : Fin E) : ∀ k i, i < E.ts.length → E.ts.length - i < k → Fits E i 1 (exprP E k i)
  | 0, _, _, h => by omega
  | k + 1, i, hi, h => by
    have hs : ∀ j, i ≤ j → j < E.ts.length → Fits E j 1 (sumP E (exprP E k) j) := fun j h1 h2 => sum_fits hF h2 (fun l h3 h4 => expr_fits hF k l h4 (by omega))
    refine ((hs i (Nat.le_refl i) hi).bind (m := 0) fun e j h1 h2 => ?_).le (by omega)
    have step : ∀ (op : Int), j + 1 < E.ts.length → Fits E j 0 ((sumP E (exprP E k) (j + 1)).bind fun f l => .ok (⟨op, 0, ⟨#[]⟩, [e, f]⟩ : S94) l []) := fun op hj => by
      have := (hs (j + 1) (by omega) hj).bind (f := fun f l => .ok (⟨op, 0, ⟨#[]⟩, [e, f]⟩ : S94) l []) (m := 0) fun x l hl1 hl2 => .ok _ _ hl2
      exact ⟨this.ne, fun x j q e => by have := this.adv x j q e; omega⟩
    unfold cmpP
    split
    · rename_i h; exact step 5 (fin_t hF h2 h)
    · split
      · rename_i h; exact step 6 (fin_t hF h2 h)
      · exact .ok _ _ h2
end
section
variable {E : Env} {i : Nat} {one : Nat → Res S27}
theorem rest_fits (hF : Fin E) (op th : Int) (hi : i < E.ts.length) : Fits E i 1 (restP E op th i) :=
  ((name_fits hF hi).bind (m := 0) fun _ j _ h2 => ((must_fits hF _ h2).bind (m := 0) fun _ l _ h4 => ((num_fits hF h4).bind (m := 0) fun _ m _ h6 => .ok _ _ h6).le (by omega)).le (by omega)).le (by omega)
theorem listL_fits (hF : Fin E) (t : ByteArray) (op : Int) (hone : ∀ j, i ≤ j → j < E.ts.length → Fits E j 1 (one j)) : ∀ m e j, i ≤ j → j < E.ts.length → E.ts.length - j < m → Fits E j 0 (listL E t op one m e j)
  | 0, _, _, _, _, h => by omega
  | m + 1, e, j, h1, h2, h3 => by
    rw [listL]
    split
    · rename_i h
      have := (hone (j + 1) (by omega) (fin_t hF h2 h)).bind (f := fun f l => listL E t op one m ⟨op, 0, ⟨#[]⟩, 0, [e, f]⟩ l) (m := 0) fun x l hl1 hl2 => listL_fits hF t op hone m _ l (by omega) hl2 (by omega)
      exact ⟨this.ne, fun x j q e => by have := this.adv x j q e; omega⟩
    · exact .ok _ _ h2
theorem list_fits (hF : Fin E) (t : ByteArray) (op : Int) (hi : i < E.ts.length) (hone : ∀ j, i ≤ j → j < E.ts.length → Fits E j 1 (one j)) : Fits E i 1 (listP E t op one i) :=
  ((hone i (Nat.le_refl i) hi).bind (m := 0) fun e j h1 h2 => listL_fits hF t op hone _ e j (by omega) h2 (by omega)).le (by omega)
theorem cond_fits (hF : Fin E) (hi : i < E.ts.length) (hone : ∀ j, i ≤ j → j < E.ts.length → Fits E j 1 (one j)) : Fits E i 1 (condQ E one i) :=
  list_fits hF _ _ hi (fun j h1 h2 => list_fits hF _ _ h2 (fun l h3 h4 => hone l (by omega) h4))
theorem one_fits (hF : Fin E) : ∀ k i, i < E.ts.length → E.ts.length - i < k → Fits E i 1 (oneF E k i)
  | 0, _, _, h => by omega
  | k + 1, i, hi, h => by
    have ho : ∀ j, i + 1 ≤ j → j < E.ts.length → Fits E j 1 (oneF E k j) := fun j h1 h2 => one_fits hF k j h2 (by omega)
    show Fits E i 1 (oneP E (oneF E k) i)
    unfold oneP
    split
    · rename_i h
      have := (ho (i + 1) (Nat.le_refl _) (fin_t hF hi h)).bind (f := fun x j => .ok (⟨3, 0, ⟨#[]⟩, 0, [x]⟩ : S27) j []) (m := 0) fun x j _ hj => .ok _ _ hj
      exact ⟨this.ne, fun x j q e => by have := this.adv x j q e; omega⟩
    · split
      · rename_i h
        have := (cond_fits hF (fin_t hF hi h) ho).bind (f := fun x j => (mustP E ⟨#[41]⟩ j).bind fun _ l => .ok x l []) (m := 0) fun x j _ hj => ((must_fits hF _ hj).bind (m := 0) fun _ l _ hl => .ok _ _ hl).le (by omega)
        exact ⟨this.ne, fun x j q e => by have := this.adv x j q e; omega⟩
      · split
        · exact ((num_fits hF hi).bind (m := 0) fun _ j _ h2 => ((must_fits hF _ h2).bind (m := 0) fun _ l _ h4 => (rest_fits hF _ _ h4).le (by omega)).le (by omega)).le (by omega)
        · exact rest_fits hF _ _ hi
end
section
variable {E : Env} {i ke : Nat} {blk : Nat → Res (List S62)} {st : Nat → Res S62}
theorem semi_fits (hF : Fin E) (x : S62) (hi : i < E.ts.length) : Fits E i 1 (semiP E x i) := ((must_fits hF _ hi).bind (m := 0) fun _ j _ h => .ok _ _ h).le (by omega)
theorem store_fits (hF : Fin E) (hk : E.ts.length < ke) (hi : i < E.ts.length) : Fits E i 1 (storeP E ke i) :=
  ((mode_fits hF hi).bind (m := 0) fun _ j _ h => ((name_fits hF h).bind (m := 0) fun _ j _ h => ((expr_fits hF ke j h (by omega)).bind (m := 0) fun _ j _ h => (semi_fits hF _ h).le (by omega)).le (by omega)).le (by omega)).le (by omega)
theorem fence_fits (hF : Fin E) (hi : i < E.ts.length) : Fits E i 1 (fenceP E i) := ((mode_fits hF hi).bind (m := 0) fun _ j _ h => (semi_fits hF _ h).le (by omega)).le (by omega)
theorem right_fits (hF : Fin E) (hk : E.ts.length < ke) (r : ByteArray) (hi : i < E.ts.length) : Fits E i 1 (rightP E ke r i) := by
  have low : ∀ {α : Type} {z : Res α}, Fits E (i + 1) 0 z → Fits E i 1 z := fun h => ⟨h.ne, fun x j q e => by have := h.adv x j q e; omega⟩
  unfold rightP
  split
  · rename_i h
    exact low (((mode_fits hF (fin_t hF hi h)).bind (m := 0) fun _ j _ h => ((name_fits hF h).bind (m := 0) fun _ j _ h => (semi_fits hF _ h).le (by omega)).le (by omega)).le (by omega))
  · split
    · rename_i h
      exact low (((mode_fits hF (fin_t hF hi h)).bind (m := 0) fun _ j _ h => ((name_fits hF h).bind (m := 0) fun _ j _ h => ((expr_fits hF ke j h (by omega)).bind (m := 0) fun _ j _ h => (semi_fits hF _ h).le (by omega)).le (by omega)).le (by omega)).le (by omega))
    · split
      · rename_i h
        exact low (((mode_fits hF (fin_t hF hi h)).bind (m := 0) fun _ j _ h => ((name_fits hF h).bind (m := 0) fun _ j _ h => ((expr_fits hF ke j h (by omega)).bind (m := 0) fun _ j _ h => ((must_fits hF _ h).bind (m := 0) fun _ j _ h => ((expr_fits hF ke j h (by omega)).bind (m := 0) fun _ j _ h => (semi_fits hF _ h).le (by omega)).le (by omega)).le (by omega)).le (by omega)).le (by omega)).le (by omega))
      · exact ((expr_fits hF ke i hi (by omega)).bind (m := 0) fun _ j _ h => (semi_fits hF _ h).le (by omega)).le (by omega)
theorem set_fits (hF : Fin E) (hk : E.ts.length < ke) (hi : i < E.ts.length) : Fits E i 1 (setP E ke i) :=
  ((name_fits hF hi).bind (m := 0) fun _ j _ h => ((must_fits hF _ h).bind (m := 0) fun _ j _ h => (right_fits hF hk _ h).le (by omega)).le (by omega)).le (by omega)
theorem stmt_fits (hF : Fin E) (hk : E.ts.length < ke) (hi : i < E.ts.length) (hb : ∀ j, i < j → j < E.ts.length → Fits E j 1 (blk j)) : Fits E i 1 (stmtQ E ke blk i) := by
  have low : ∀ {α : Type} {z : Res α}, Fits E (i + 1) 0 z → Fits E i 1 z := fun h => ⟨h.ne, fun x j q e => by have := h.adv x j q e; omega⟩
  refine ((show Fits E i 0 (.ok () i [(E.tk i).f3]) from .ok _ _ hi).bind (m := 1) fun _ j h1 h2 => ?_).le (by omega)
  have hb : ∀ l, j < l → l < E.ts.length → Fits E l 1 (blk l) := fun l h3 h4 => hb l (by omega) h4
  clear hi
  have low : ∀ {α : Type} {z : Res α}, Fits E (j + 1) 0 z → Fits E j 1 z := fun h => ⟨h.ne, fun x j q e => by have := h.adv x j q e; omega⟩
  unfold stmtR
  split
  · rename_i h; exact low ((store_fits hF hk (fin_t hF h2 h)).le (by omega))
  · split
    · rename_i h; exact low ((fence_fits hF (fin_t hF h2 h)).le (by omega))
    · split
      · rename_i h
        have h3 := fin_t hF h2 h
        refine low (((expr_fits hF ke _ h3 (by omega)).bind (m := 0) fun e j1 h4 h5 => ((hb j1 (by omega) h5).bind (m := 0) fun a j2 h6 h7 => ?_).le (by omega)).le (by omega))
        unfold elseP
        split
        · rename_i h
          have h8 := fin_t hF h7 h
          have := (hb (j2 + 1) (by omega) h8).bind (f := fun b l => .ok (⟨7, 0, ⟨#[]⟩, ⟨#[]⟩, [e], a, b⟩ : S62) l []) (m := 0) fun _ _ _ h => .ok _ _ h
          exact ⟨this.ne, fun x j q e => by have := this.adv x j q e; omega⟩
        · exact .ok _ _ h7
      · exact set_fits hF hk h2
theorem blockL_fits (hF : Fin E) (hst : ∀ j, i ≤ j → j < E.ts.length → Fits E j 1 (st j)) : ∀ m l j, i ≤ j → j < E.ts.length → E.ts.length - j < m → Fits E j 0 (blockL E st m l j)
  | 0, _, _, _, _, h => by omega
  | m + 1, l, j, h1, h2, h3 => by
    rw [blockL]
    split
    · exact .ok _ _ h2
    · exact ((hst j h1 h2).bind (m := 0) fun x a h4 h5 => blockL_fits hF hst m _ a (by omega) h5 (by omega)).le (by omega)
theorem block_fits (hF : Fin E) (hk : E.ts.length < ke) : ∀ k i, i < E.ts.length → E.ts.length - i < k → Fits E i 1 (blockF E ke k i)
  | 0, _, _, h => by omega
  | k + 1, i, hi, h => by
    have hs : ∀ j, i + 1 ≤ j → j < E.ts.length → Fits E j 1 (stmtQ E ke (blockF E ke k) j) := fun j h1 h2 => stmt_fits hF hk h2 (fun l h3 h4 => block_fits hF hk k l h4 (by omega))
    exact ((must_fits hF _ hi).bind (m := 0) fun _ j h1 h2 => ((blockL_fits (i := i + 1) hF hs _ _ j (by omega) h2 (by omega)).bind (m := 0) fun l a h3 h4 => ((must_fits hF _ h4).bind (m := 0) fun _ _ _ h => .ok _ _ h).le (by omega)).le (by omega)).le (by omega)
theorem initL_fits (hF : Fin E) : ∀ m l j, j < E.ts.length → E.ts.length - j < m → Fits E j 0 (initL E m l j)
  | 0, _, _, _, h => by omega
  | m + 1, l, j, h2, h3 => by
    rw [initL]
    split
    · rename_i h
      have h4 := fin_t hF h2 h
      refine ((show Fits E j 0 (markP E j) from .ok _ _ h2).bind (m := 0) fun _ a h5 h6 => ?_).le (by omega)
      by_cases hj : a + 1 < E.ts.length
      · have := (name_fits hF hj).bind (f := fun x j => (numP E j).bind fun n j => initL E m (l ++ [⟨x, n⟩]) j) (m := 0) fun x b h7 h8 => ((num_fits hF h8).bind (f := fun n j => initL E m (l ++ [⟨x, n⟩]) j) (m := 0) fun n c h9 h10 => initL_fits hF m _ c h10 (by omega)).le (by omega)
        exact ⟨this.ne, fun x j q e => by have := this.adv x j q e; omega⟩
      · have e : (E.tk (a + 1)).f0 = 0 := by
          show (rd_T53 E.ts ((a + 1 : Nat) : Int)).f0 = 0
          unfold rd_T53
          rw [List.getD_eq_getElem?_getD, List.getElem?_eq_none (by simpa using hj)]
          rfl
        have e2 : nameP E (a + 1) = .fail (a + 1) := by
          unfold nameP
          rw [e]
          simp
        rw [e2]
        exact .fail _
    · exact .ok _ _ h2
theorem thrL_fits (hF : Fin E) (hb : ∀ j, j < E.ts.length → Fits E j 1 (blk j)) : ∀ m l j, j < E.ts.length → E.ts.length - j < m → Fits E j 0 (thrL E blk m l j)
  | 0, _, _, _, h => by omega
  | m + 1, l, j, h2, h3 => by
    rw [thrL]
    split
    · rename_i h
      have := (hb (j + 1) (fin_t hF h2 h)).bind (f := fun b j => thrL E blk m (l ++ [b]) j) (m := 0) fun x a h4 h5 => thrL_fits hF hb m _ a h5 (by omega)
      exact ⟨this.ne, fun x j q e => by have := this.adv x j q e; omega⟩
    · exact .ok _ _ h2
theorem ask_fits (hF : Fin E) (hi : i < E.ts.length) : Fits E i 1 (askQ E i) := by
  unfold askQ
  split
  · rename_i h
    exact ⟨by simp, fun _ _ _ e => by injection e with _ e _; have := fin_t hF hi h; omega⟩
  · exact ((must_fits hF _ hi).bind (m := 0) fun _ _ _ h => .ok _ _ h).le (by omega)
theorem end_fits (hi : i < E.ts.length) : Fits E i 0 (endP E i) := by
  unfold endP
  split
  · exact .ok _ _ hi
  · exact .fail _
end
theorem prog_fits {E : Env} (hF : Fin E) {k : Nat} (hk : E.ts.length < k) (hi : 0 < E.ts.length) : Fits E 0 0 (progP E k k k 0) := by
  refine ((show Fits E 0 0 (markP E 0) from .ok _ _ hi).bind (m := 0) fun _ a h1 h2 => ?_).le (by omega)
  refine ((must_fits hF _ h2).bind (m := 0) fun _ a h1 h2 => ?_).le (by omega)
  refine ((name_fits hF h2).bind (m := 0) fun nm a h1 h2 => ?_).le (by omega)
  refine ((must_fits hF _ h2).bind (m := 0) fun _ a h1 h2 => ?_).le (by omega)
  refine ((num_fits hF h2).bind (m := 0) fun v a h1 h2 => ?_).le (by omega)
  refine ((initL_fits hF _ _ a h2 (by omega)).bind (m := 0) fun ini a h1 h2 => ?_).le (by omega)
  refine ((thrL_fits hF (fun j hj => block_fits hF hk k j hj (by omega)) _ _ a h2 (by omega)).bind (m := 0) fun th a h1 h2 => ?_).le (by omega)
  refine ((show Fits E a 0 (markP E a) from .ok _ _ h2).bind (m := 0) fun _ a h1 h2 => ?_).le (by omega)
  refine ((ask_fits hF h2).bind (m := 0) fun ask a h1 h2 => ?_).le (by omega)
  refine ((cond_fits hF h2 (fun j _ hj => one_fits hF k j hj (by omega))).bind (m := 0) fun c a h1 h2 => ?_).le (by omega)
  exact ((end_fits h2).bind (m := 0) fun _ _ _ h => .ok _ _ h).le (by omega)
end Go.Proofs.Ytinnldfmbeafiaa.PA
