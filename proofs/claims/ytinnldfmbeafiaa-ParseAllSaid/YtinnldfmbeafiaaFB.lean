/- What a text comes to: its program and where its parts begin, or what is wrong of it, and where. -/
import Derived.Test.YtinnldfmbeafiaaFA
import Derived.Test.YtinnldfmbeafiaaLR
import Derived.Test.YtinnldfmbeafiaaDA
namespace Go.Proofs.Ytinnldfmbeafiaa.PA
open Go.RowKit Go.Proofs.YtinnldfmbeafiaaW.PrintWords Go.Proofs.YtinnldfmbeafiaaW.PrintLast Go.Proofs.YtinnldfmbeafiaaW.PrintMore
set_option linter.unusedVariables false
set_option linter.unusedSimpArgs false
/-! ### Reading hangs on the tokens alone -/
section
variable {w w' : World} {g g' : Nat} {A A' : Option Addr} {c c' : Nat} {ts : List S53}
theorem sumL_ts (rt : Nat → Res S94) : ∀ m e i, sumL ⟨w, g, A, c, ts⟩ rt m e i = sumL ⟨w', g', A', c', ts⟩ rt m e i
  | 0, _, _ => rfl
  | m + 1, e, i => by
    have h := fun e i => sumL_ts rt m e i
    simp only [sumL, h]
    rfl
theorem expr_ts : ∀ k i, exprP ⟨w, g, A, c, ts⟩ k i = exprP ⟨w', g', A', c', ts⟩ k i
  | 0, _ => rfl
  | k + 1, i => by
    have h : exprP ⟨w, g, A, c, ts⟩ k = exprP ⟨w', g', A', c', ts⟩ k := funext fun i => expr_ts k i
    have hs : ∀ j, sumP ⟨w, g, A, c, ts⟩ (exprP ⟨w', g', A', c', ts⟩ k) j = sumP ⟨w', g', A', c', ts⟩ (exprP ⟨w', g', A', c', ts⟩ k) j := fun j => by
      show (atomP ⟨w', g', A', c', ts⟩ (exprP ⟨w', g', A', c', ts⟩ k) j).bind (fun e j => sumL ⟨w, g, A, c, ts⟩ (atomP ⟨w', g', A', c', ts⟩ (exprP ⟨w', g', A', c', ts⟩ k)) (ts.length + 1) e j) = _
      simp only [sumL_ts (w := w) (w' := w') (g := g) (g' := g') (A := A) (A' := A') (c := c) (c' := c')]
      rfl
    show (sumP ⟨w, g, A, c, ts⟩ (exprP ⟨w, g, A, c, ts⟩ k) i).bind (fun e j => cmpP ⟨w, g, A, c, ts⟩ (sumP ⟨w, g, A, c, ts⟩ (exprP ⟨w, g, A, c, ts⟩ k)) e j) = _
    rw [h, funext hs]
    rfl
theorem listL_ts (t : ByteArray) (op : Int) (one : Nat → Res S27) : ∀ m e i, listL ⟨w, g, A, c, ts⟩ t op one m e i = listL ⟨w', g', A', c', ts⟩ t op one m e i
  | 0, _, _ => rfl
  | m + 1, e, i => by
    have h := fun e i => listL_ts t op one m e i
    simp only [listL, h]
    rfl
theorem cond_ts (one : Nat → Res S27) (i : Nat) : condQ ⟨w, g, A, c, ts⟩ one i = condQ ⟨w', g', A', c', ts⟩ one i := by
  have h : ∀ t op (one : Nat → Res S27) i, listP ⟨w, g, A, c, ts⟩ t op one i = listP ⟨w', g', A', c', ts⟩ t op one i := fun t op one i => by
    show (one i).bind (fun e j => listL ⟨w, g, A, c, ts⟩ t op one (ts.length + 1) e j) = _
    simp only [listL_ts (w := w) (w' := w') (g := g) (g' := g') (A := A) (A' := A') (c := c) (c' := c')]
    rfl
  show listP ⟨w, g, A, c, ts⟩ _ _ (fun i => listP ⟨w, g, A, c, ts⟩ _ _ one i) i = _
  rw [h, funext (fun i => h _ _ one i)]
  rfl
theorem one_ts : ∀ k i, oneF ⟨w, g, A, c, ts⟩ k i = oneF ⟨w', g', A', c', ts⟩ k i
  | 0, _ => rfl
  | k + 1, i => by
    have h : oneF ⟨w, g, A, c, ts⟩ k = oneF ⟨w', g', A', c', ts⟩ k := funext fun i => one_ts k i
    show oneP ⟨w, g, A, c, ts⟩ (oneF ⟨w, g, A, c, ts⟩ k) i = _
    rw [h]
    unfold oneP
    simp only [cond_ts (w := w) (w' := w') (g := g) (g' := g') (A := A) (A' := A') (c := c) (c' := c')]
    rfl
theorem blockL_ts (st : Nat → Res S62) : ∀ m l i, blockL ⟨w, g, A, c, ts⟩ st m l i = blockL ⟨w', g', A', c', ts⟩ st m l i
  | 0, _, _ => rfl
  | m + 1, l, i => by
    have h := fun l i => blockL_ts st m l i
    simp only [blockL, h]
    rfl
theorem stmt_ts (ke : Nat) (blk : Nat → Res (List S62)) (i : Nat) : stmtQ ⟨w, g, A, c, ts⟩ ke blk i = stmtQ ⟨w', g', A', c', ts⟩ ke blk i := by
  have h : exprP ⟨w, g, A, c, ts⟩ ke = exprP ⟨w', g', A', c', ts⟩ ke := funext fun i => expr_ts ke i
  unfold stmtQ stmtR storeP branchP setP rightP
  rw [h]
  rfl
theorem block_ts (ke : Nat) : ∀ k i, blockF ⟨w, g, A, c, ts⟩ ke k i = blockF ⟨w', g', A', c', ts⟩ ke k i
  | 0, _ => rfl
  | k + 1, i => by
    have h : blockF ⟨w, g, A, c, ts⟩ ke k = blockF ⟨w', g', A', c', ts⟩ ke k := funext fun i => block_ts ke k i
    show blockP ⟨w, g, A, c, ts⟩ (stmtQ ⟨w, g, A, c, ts⟩ ke (blockF ⟨w, g, A, c, ts⟩ ke k)) i = _
    rw [h, show stmtQ ⟨w, g, A, c, ts⟩ ke (blockF ⟨w', g', A', c', ts⟩ ke k) = stmtQ ⟨w', g', A', c', ts⟩ ke (blockF ⟨w', g', A', c', ts⟩ ke k) from funext fun i => stmt_ts ke _ i]
    unfold blockP
    simp only [blockL_ts (w := w) (w' := w') (g := g) (g' := g') (A := A) (A' := A') (c := c) (c' := c')]
    rfl
theorem initL_ts : ∀ m l i, initL ⟨w, g, A, c, ts⟩ m l i = initL ⟨w', g', A', c', ts⟩ m l i
  | 0, _, _ => rfl
  | m + 1, l, i => by
    have h := fun l i => initL_ts m l i
    simp only [initL, h]
    rfl
theorem thrL_ts (blk : Nat → Res (List S62)) : ∀ m l i, thrL ⟨w, g, A, c, ts⟩ blk m l i = thrL ⟨w', g', A', c', ts⟩ blk m l i
  | 0, _, _ => rfl
  | m + 1, l, i => by
    have h := fun l i => thrL_ts blk m l i
    simp only [thrL, h]
    rfl
theorem prog_ts (kc ke kb i : Nat) : progP ⟨w, g, A, c, ts⟩ kc ke kb i = progP ⟨w', g', A', c', ts⟩ kc ke kb i := by
  have h1 : blockF ⟨w, g, A, c, ts⟩ ke kb = blockF ⟨w', g', A', c', ts⟩ ke kb := funext fun i => block_ts ke kb i
  have h2 : oneF ⟨w, g, A, c, ts⟩ kc = oneF ⟨w', g', A', c', ts⟩ kc := funext fun i => one_ts kc i
  unfold progP prog2 prog3 prog4 prog5 midP mid2 lastP last2 last3 last4
  rw [h1, h2]
  simp only [initL_ts (w := w) (w' := w') (g := g) (g' := g') (A := A) (A' := A') (c := c) (c' := c'), thrL_ts (w := w) (w' := w') (g := g) (g' := g') (A := A) (A' := A') (c := c) (c' := c'), cond_ts (w := w) (w' := w') (g := g) (g' := g') (A := A) (A' := A') (c := c) (c' := c')]
  rfl
end
def E0 (ts : List S53) : Env := ⟨default, 0, none, 0, ts⟩
/-- What tokens come to. -/
def readR (ts : List S53) : Res PR := progP (E0 ts) (ts.length + 1) (ts.length + 1) (ts.length + 1) 0
theorem readR_of (ts : List S53) : ∀ E : Env, E.ts = ts → progP E (ts.length + 1) (ts.length + 1) (ts.length + 1) 0 = readR ts := by
  rintro ⟨w, g, A, c, l⟩ rfl
  exact prog_ts _ _ _ _
/-! ### The tokens that a text has -/
theorem tok_kind (l : List UInt8) (h : (tokS l).2.2.2 = 0) : (tokS l).1 ≠ 4 ∧ ((tokS l).1 = 3 → (tokS l).2.1 = [61, 61] ∨ ∃ c, isSign c = true ∧ (tokS l).2.1 = [c]) := by
  match l with
  | [] => simp [tokS] at h
  | c :: m =>
    cases h1 : isLetter c with
    | true => rw [tokS_word c m h1]; simp
    | false =>
      cases h2 : isDigit c with
      | true =>
        cases h3 : (worthAll ((c :: m).takeWhile isDigit)).2 with
        | true => rw [tokS_num c m h1 h2 h3]; simp
        | false => rw [tokS_much c m h1 h2 h3] at h; simp at h
      | false =>
        by_cases h3 : signS (c :: m) = []
        · rw [tokS_none c m h1 h2 h3] at h; simp at h
        · rw [tokS_sign c m h1 h2 h3]
          refine ⟨(by decide : (3 : Int) ≠ 4), fun _ => ?_⟩
          show signS (c :: m) = _ ∨ _
          unfold signS at h3 ⊢
          by_cases h4 : two 61 61 (c :: m) = true
          · rw [if_pos h4]; exact .inl rfl
          · rw [if_neg h4] at h3 ⊢
            simp only at h3 ⊢
            by_cases h5 : isSign c = true
            · rw [if_pos h5]; exact .inr ⟨c, h5, rfl⟩
            · rw [if_neg h5] at h3; exact absurd rfl h3
/-- What is known of a row of tokens. -/
structure Row (ts : List S53) : Prop where
  pos : 0 < ts.length
  fin : ∀ i : Nat, i < ts.length → (rd_T53 ts (i : Int)).f0 ≠ 4 → i + 1 < ts.length
  nn : ∀ t ∈ ts, 0 ≤ t.f3
  sg : ∀ t ∈ ts, t.f0 = 3 → ∃ l, t.f1 = (⟨l.toArray⟩ : ByteArray) ∧ (l = [61, 61] ∨ ∃ c, isSign c = true ∧ l = [c])
theorem rd_cons (t : S53) (ts : List S53) (i : Nat) : rd_T53 (t :: ts) ((i + 1 : Nat) : Int) = rd_T53 ts (i : Int) := by
  unfold rd_T53
  simp only [Int.toNat_natCast, List.getD_cons_succ]
theorem lexS_row : ∀ (n p : Nat) (l : List UInt8), l.length < n → (lexS n p l).2.1 = 0 → Row (lexS n p l).1 ∧ (lexS n p l).1.length ≤ l.length + 1
  | 0, _, _, h, _ => by omega
  | n + 1, p, l, h, he => by
    have IH := lexS_row n
    have hd : (l.drop (gapS false l)).length ≤ l.length := by rw [List.length_drop]; omega
    unfold lexS at he ⊢
    by_cases h1 : l.drop (gapS false l) = []
    · rw [if_pos h1]
      refine ⟨⟨by simp, fun i hi hk => ?_, fun t ht => ?_, fun t ht h3 => ?_⟩, by simp⟩
      · simp only [List.length_cons, List.length_nil] at hi
        have : i = 0 := by omega
        subst this
        exact absurd rfl hk
      · rw [List.mem_singleton.mp ht]
        exact Int.natCast_nonneg _
      · rw [List.mem_singleton.mp ht] at h3
        cases h3
    · rw [if_neg h1] at he ⊢
      by_cases h2 : (tokS (l.drop (gapS false l))).2.2.2 = 0
      · rw [if_pos h2] at he ⊢
        have hl := tokS_len _ h2
        generalize hg : l.drop (gapS false l) = d at *
        generalize hp : p + gapS false l + (tokS d).2.1.length = p2 at *
        have hlen : (d.drop (tokS d).2.1.length).length + 1 ≤ d.length := by rw [List.length_drop]; omega
        by_cases h3 : (lexS n p2 (d.drop (tokS d).2.1.length)).2.1 = 0
        · rw [if_pos h3]
          obtain ⟨hr, hle⟩ := IH p2 (d.drop (tokS d).2.1.length) (by omega) h3
          obtain ⟨k1, k2⟩ := tok_kind d h2
          refine ⟨⟨by simp, fun i hi hk => ?_, fun t ht => ?_, fun t ht h4 => ?_⟩, by simp only [List.length_cons]; omega⟩
          · cases i with
            | zero => have := hr.pos; simp only [List.length_cons]; omega
            | succ i =>
              have e := rd_cons ⟨(tokS d).1, (⟨(tokS d).2.1.toArray⟩ : ByteArray), (tokS d).2.2.1, ((p + gapS false l : Nat) : Int)⟩ (lexS n p2 (d.drop (tokS d).2.1.length)).1 i
              have := hr.fin i (by simp only [List.length_cons] at hi; omega) (fun e2 => hk ((congrArg S53.f0 e).trans e2))
              simp only [List.length_cons]
              omega
          · rcases List.mem_cons.mp ht with rfl | ht
            · exact Int.natCast_nonneg _
            · exact hr.nn t ht
          · rcases List.mem_cons.mp ht with rfl | ht
            · exact ⟨_, rfl, k2 h4⟩
            · exact hr.sg t ht h4
        · rw [if_neg h3] at he
          exact absurd he h3
      · rw [if_neg h2] at he
        exact absurd he h2
theorem sign_mode : (∀ c, isSign c = true → ixS modes (⟨([c] : List UInt8).toArray⟩ : ByteArray) 0 < 0) ∧ ixS modes (⟨([61, 61] : List UInt8).toArray⟩ : ByteArray) 0 < 0 := by
  have h : ∀ c ∈ signs, ixS modes (⟨([c] : List UInt8).toArray⟩ : ByteArray) 0 < 0 := by
    intro c hc
    simp only [signs, List.mem_cons, List.not_mem_nil, or_false] at hc
    rcases hc with rfl | rfl | rfl | rfl | rfl | rfl | rfl | rfl | rfl | rfl | rfl <;> (simp only [modes, ixS, Go.Lib.toList_data]; decide)
  refine ⟨fun c hc => h c (by simpa [isSign] using hc), ?_⟩
  simp only [modes, ixS, Go.Lib.toList_data]
  decide
theorem lexAll_row (a : ByteArray) (h : (lexAll a).2.1 = 0) : TsOk (lexAll a).1 ∧ ∀ E : Env, E.ts = (lexAll a).1 → D.Ok2 E := by
  unfold lexAll at h ⊢
  by_cases hs : a.size > 4096
  · rw [if_pos hs] at h; cases h
  · rw [if_neg hs] at h ⊢
    have hz : a.data.toList.length = a.size := (Go.Lib.size_eq a).symm
    obtain ⟨hr, hl⟩ := lexS_row (a.size + 1) 0 a.data.toList (by omega) h
    refine ⟨⟨hr.pos, hr.fin, by omega⟩, fun E hE => ⟨fun i => ?_, fun i hk => ?_⟩⟩
    · unfold Env.tk rd_T53
      rw [hE, Int.toNat_natCast]
      by_cases hi : i < (lexS (a.size + 1) 0 a.data.toList).1.length
      · rw [List.getD_eq_getElem?_getD, List.getElem?_eq_getElem hi]
        exact hr.nn _ (List.getElem_mem hi)
      · rw [List.getD_eq_getElem?_getD, List.getElem?_eq_none (by omega)]
        decide
    · unfold Env.tk rd_T53 at hk ⊢
      rw [hE, Int.toNat_natCast] at hk ⊢
      by_cases hi : i < (lexS (a.size + 1) 0 a.data.toList).1.length
      · rw [List.getD_eq_getElem?_getD, List.getElem?_eq_getElem hi] at hk ⊢
        obtain ⟨l, e, hh⟩ := hr.sg _ (List.getElem_mem hi) hk
        simp only [Option.getD_some]
        rw [e]
        rcases hh with rfl | ⟨c, hc, rfl⟩
        · exact sign_mode.2
        · exact sign_mode.1 c hc
      · rw [List.getD_eq_getElem?_getD, List.getElem?_eq_none (by omega)] at hk
        cases hk
theorem readR_ne (a : ByteArray) (h : (lexAll a).2.1 = 0) : readR (lexAll a).1 ≠ .out := by
  have ht := (lexAll_row a h).1
  exact (prog_fits (E := E0 (lexAll a).1) (fun i hi hk => ht.fin i hi hk) (Nat.lt_succ_self _) ht.pos).ne
/-! ### A text -/
/-- A program, where its parts begin, what is wrong, and where. -/
structure Ans where
  x : PR
  q : List Int
  e : Int
  p : Int
def noPR : PR := ⟨⟨#[]⟩, 0, [], [], 0, ⟨0, 0, ⟨#[]⟩, 0, []⟩⟩
def ansR (ts : List S53) : Res PR → Ans
  | .ok x _ q => ⟨x, q, 0, 0⟩
  | .fail p => ⟨noPR, [], 2, (rd_T53 ts (p : Int)).f3⟩
  | .out => ⟨noPR, [], 0, 0⟩
def ansS (a : ByteArray) : Ans := if (lexAll a).2.1 = 0 then ansR (lexAll a).1 (readR (lexAll a).1) else ⟨noPR, [], (lexAll a).2.1, (lexAll a).2.2⟩
end Go.Proofs.Ytinnldfmbeafiaa.PA
