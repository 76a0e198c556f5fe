/- What is read is behind where the reading stood. -/
import Derived.Test.YtinnldfmbeafiaaQI
namespace Go.Proofs.Ytinnldfmbeafiaa.PA
open Go.RowKit Go.Proofs.YtinnldfmbeafiaaW.PrintWords Go.Proofs.YtinnldfmbeafiaaW.PrintLast Go.Proofs.YtinnldfmbeafiaaW.PrintMore
set_option linter.unusedVariables false
set_option linter.unusedSimpArgs false
theorem bind_ok {α β : Type} {r : Res α} {f : α → Nat → Res β} {y : β} {l : Nat} {q : List Int} (h : r.bind f = .ok y l q) : ∃ x j q1 q2, r = .ok x j q1 ∧ f x j = .ok y l q2 := by
  cases r with
  | out => cases h
  | fail p => cases h
  | ok x j q1 =>
    simp only [Res.bind] at h
    cases hf : f x j with
    | out => rw [hf] at h; cases h
    | fail p => rw [hf] at h; cases h
    | ok w k s =>
      rw [hf] at h
      simp only [Res.ok.injEq] at h
      obtain ⟨rfl, rfl, _⟩ := h
      exact ⟨x, j, q1, s, rfl, hf⟩
theorem ok_inj {α : Type} {x y : α} {i j : Nat} {q q' : List Int} (h : Res.ok x i q = .ok y j q') : i = j := by injection h
section
variable {E : Env} {i j : Nat} {q : List Int}
theorem name_adv {x : ByteArray} (h : nameP E i = .ok x j q) : j = i + 1 := by
  unfold nameP at h
  split at h
  · exact (ok_inj h).symm
  · cases h
theorem num_adv {x : Int} (h : numP E i = .ok x j q) : j = i + 1 := by
  unfold numP at h
  split at h
  · exact (ok_inj h).symm
  · cases h
theorem must_adv {t : ByteArray} {x : Unit} (h : mustP E t i = .ok x j q) : j = i + 1 := by
  unfold mustP at h
  split at h
  · exact (ok_inj h).symm
  · cases h
theorem mode_adv {x : Int} (h : modeP E i = .ok x j q) : j = i + 1 := by
  unfold modeP at h
  split at h
  · exact (ok_inj h).symm
  · cases h
theorem semi_adv {x y : S62} (h : semiP E x i = .ok y j q) : i < j := by
  obtain ⟨_, a, _, _, h1, h2⟩ := bind_ok h
  have := must_adv h1
  have := ok_inj h2
  omega
end
theorem atom_adv {E : Env} {ex : Nat → Res S94} (hex : ∀ i x j q, ex i = .ok x j q → i < j) : ∀ i x j q, atomP E ex i = .ok x j q → i < j := by
  intro i x j q h
  unfold atomP at h
  split at h
  · obtain ⟨_, a, _, _, h1, h2⟩ := bind_ok h
    have := num_adv h1
    have := ok_inj h2
    omega
  · split at h
    · obtain ⟨_, a, _, _, h1, h2⟩ := bind_ok h
      have := name_adv h1
      have := ok_inj h2
      omega
    · split at h
      · obtain ⟨_, a, _, _, h1, h2⟩ := bind_ok h
        obtain ⟨_, b, _, _, h3, h4⟩ := bind_ok h2
        have := hex _ _ _ _ h1
        have := must_adv h3
        have := ok_inj h4
        omega
      · cases h
theorem sumL_adv {E : Env} {rt : Nat → Res S94} (hrt : ∀ i x j q, rt i = .ok x j q → i < j) : ∀ m e i x j q, sumL E rt m e i = .ok x j q → i ≤ j
  | 0, _, _, _, _, _, h => by cases h
  | m + 1, e, i, x, j, q, h => by
    rw [sumL] at h
    split at h
    · obtain ⟨f, a, _, _, h1, h2⟩ := bind_ok h
      have := hrt _ _ _ _ h1
      have := sumL_adv hrt m _ _ _ _ _ h2
      omega
    · split at h
      · obtain ⟨f, a, _, _, h1, h2⟩ := bind_ok h
        have := hrt _ _ _ _ h1
        have := sumL_adv hrt m _ _ _ _ _ h2
        omega
      · have := ok_inj h
        omega
theorem sum_adv {E : Env} {ex : Nat → Res S94} (hex : ∀ i x j q, ex i = .ok x j q → i < j) : ∀ i x j q, sumP E ex i = .ok x j q → i < j := by
  intro i x j q h
  obtain ⟨e, a, _, _, h1, h2⟩ := bind_ok h
  have := atom_adv hex _ _ _ _ h1
  have := sumL_adv (atom_adv hex) _ _ _ _ _ _ h2
  omega
theorem expr_adv (E : Env) : ∀ k i x j q, exprP E k i = .ok x j q → i < j
  | 0, _, _, _, _, h => by cases h
  | k + 1, i, x, j, q, h => by
    have hs := sum_adv (E := E) (expr_adv E k)
    obtain ⟨e, a, _, _, h1, h2⟩ := bind_ok (show (sumP E (exprP E k) i).bind _ = _ from h)
    have := hs _ _ _ _ h1
    unfold cmpP at h2
    split at h2
    · obtain ⟨f, b, _, _, h3, h4⟩ := bind_ok h2
      have := hs _ _ _ _ h3
      have := ok_inj h4
      omega
    · split at h2
      · obtain ⟨f, b, _, _, h3, h4⟩ := bind_ok h2
        have := hs _ _ _ _ h3
        have := ok_inj h4
        omega
      · have := ok_inj h2
        omega
theorem set_adv {E : Env} {ke i j : Nat} {x : S62} {q : List Int} (h : setP E ke i = .ok x j q) : i < j := by
  obtain ⟨r, a, _, _, h1, h2⟩ := bind_ok h
  obtain ⟨_, b, _, _, h3, h4⟩ := bind_ok h2
  have := name_adv h1
  have := must_adv h3
  unfold rightP at h4
  split at h4
  · obtain ⟨_, c, _, _, h5, h6⟩ := bind_ok h4
    obtain ⟨_, d, _, _, h7, h8⟩ := bind_ok h6
    have := mode_adv h5
    have := name_adv h7
    have := semi_adv h8
    omega
  · split at h4
    · obtain ⟨_, c, _, _, h5, h6⟩ := bind_ok h4
      obtain ⟨_, d, _, _, h7, h8⟩ := bind_ok h6
      obtain ⟨_, e, _, _, h9, h10⟩ := bind_ok h8
      have := mode_adv h5
      have := name_adv h7
      have := expr_adv E ke _ _ _ _ h9
      have := semi_adv h10
      omega
    · split at h4
      · obtain ⟨_, c, _, _, h5, h6⟩ := bind_ok h4
        obtain ⟨_, d, _, _, h7, h8⟩ := bind_ok h6
        obtain ⟨_, e, _, _, h9, h10⟩ := bind_ok h8
        obtain ⟨_, f, _, _, h11, h12⟩ := bind_ok h10
        obtain ⟨_, g, _, _, h13, h14⟩ := bind_ok h12
        have := mode_adv h5
        have := name_adv h7
        have := expr_adv E ke _ _ _ _ h9
        have := must_adv h11
        have := expr_adv E ke _ _ _ _ h13
        have := semi_adv h14
        omega
      · obtain ⟨_, e, _, _, h9, h10⟩ := bind_ok h4
        have := expr_adv E ke _ _ _ _ h9
        have := semi_adv h10
        omega
/-- Not too many parts begin. -/
def Pl (s : Cs) : Prop := s.ps.length ≤ s.i + 1 + s.bad.toNat
theorem Pl.got {α : Type} {s t : Cs} {r : Res α} {x : α} (h : Pl s) (hs : Step s r x t) (hi : s.i ≤ t.i) (hp : t.ps = s.ps) : Pl t := by
  unfold Pl at *
  rw [hp]
  cases hb : s.bad with
  | false => rw [hb] at h; simp only [Bool.toNat_false] at h; omega
  | true => rw [hb] at h; rw [(hs.1 hb).1]; simp only [Bool.toNat_true] at h ⊢; omega
/-- What a call comes to that reads a thing with parts within. -/
def GotB {α : Type} (E : Env) (s : Cs) (w : World) (r : Res α) (V : World → α → Value → Prop) (e : Ending) (w' : World) : Prop :=
  ∃ x v t, e = .returned v ∧ V w' x v ∧ ST E t w' ∧ KP E w w' ∧ Step s r x t ∧ s.i ≤ t.i ∧ Pl t
/-- Statements that are handed back. -/
def VB (E : Env) (w : World) (w' : World) (l : List S62) (v : Value) : Prop := ∃ A c, v = .slice A l.length c ∧ l.length ≤ c ∧ Kd.F k62 w' (GD E E.g w.heap.size w') A l.length l
def elseP (E : Env) (blk : Nat → Res (List S62)) (e : S94) (a : List S62) (i : Nat) : Res S62 := if isT E i ⟨#[101, 108, 115, 101]⟩ = true then (blk (i + 1)).bind fun b l => .ok ⟨7, 0, ⟨#[]⟩, ⟨#[]⟩, [e], a, b⟩ l [] else .ok ⟨7, 0, ⟨#[]⟩, ⟨#[]⟩, [e], a, []⟩ i []
def branchP (E : Env) (ke : Nat) (blk : Nat → Res (List S62)) (i : Nat) : Res S62 := (exprP E ke i).bind fun e j => (blk j).bind fun a j => elseP E blk e a j
/-- A statement, behind the mark that it begins. -/
def stmtR (E : Env) (ke : Nat) (blk : Nat → Res (List S62)) (i : Nat) : Res S62 :=
  if isT E i ⟨#[115, 116, 111, 114, 101]⟩ = true then storeP E ke (i + 1) else if isT E i ⟨#[102, 101, 110, 99, 101]⟩ = true then fenceP E (i + 1)
  else if isT E i ⟨#[105, 102]⟩ = true then branchP E ke blk (i + 1) else setP E ke i
def stmtQ (E : Env) (ke : Nat) (blk : Nat → Res (List S62)) (i : Nat) : Res S62 := (Res.ok () i [(E.tk i).f3]).bind fun _ j => stmtR E ke blk j
def blockL (E : Env) (st : Nat → Res S62) : Nat → List S62 → Nat → Res (List S62)
  | 0, _, _ => .out
  | m + 1, l, i => if isT E i ⟨#[125]⟩ = true then .ok l i [] else (st i).bind fun x j => blockL E st m (l ++ [x]) j
def blockP (E : Env) (st : Nat → Res S62) (i : Nat) : Res (List S62) := (mustP E ⟨#[123]⟩ i).bind fun _ j => (blockL E st (E.ts.length + 1) [] j).bind fun l j => (mustP E ⟨#[125]⟩ j).bind fun _ j => .ok l j []
def blockF (E : Env) (ke : Nat) : Nat → Nat → Res (List S62)
  | 0, _ => .out
  | k + 1, i => blockP E (stmtQ E ke (blockF E ke k)) i
theorem stmt_adv' {E : Env} {ke : Nat} {blk : Nat → Res (List S62)} (hb : ∀ i x j q, blk i = .ok x j q → i < j) : ∀ i x j q, stmtQ E ke blk i = .ok x j q → i < j := by
  intro i x j q h
  obtain ⟨_, a, _, _, h1, h2⟩ := bind_ok h
  have h1' := ok_inj h1
  subst h1'
  unfold stmtR at h2
  split at h2
  · obtain ⟨_, c, _, _, h5, h6⟩ := bind_ok h2
    obtain ⟨_, d, _, _, h7, h8⟩ := bind_ok h6
    obtain ⟨_, e, _, _, h9, h10⟩ := bind_ok h8
    have := mode_adv h5
    have := name_adv h7
    have := expr_adv E ke _ _ _ _ h9
    have := semi_adv h10
    omega
  · split at h2
    · obtain ⟨_, c, _, _, h5, h6⟩ := bind_ok h2
      have := mode_adv h5
      have := semi_adv h6
      omega
    · split at h2
      · obtain ⟨_, c, _, _, h5, h6⟩ := bind_ok h2
        obtain ⟨_, d, _, _, h7, h8⟩ := bind_ok h6
        have := expr_adv E ke _ _ _ _ h5
        have := hb _ _ _ _ h7
        unfold elseP at h8
        split at h8
        · obtain ⟨_, e, _, _, h9, h10⟩ := bind_ok h8
          have := hb _ _ _ _ h9
          have := ok_inj h10
          omega
        · have := ok_inj h8
          omega
      · exact set_adv h2
theorem block_adv (E : Env) (ke : Nat) : ∀ k i x j q, blockF E ke k i = .ok x j q → i < j
  | 0, _, _, _, _, h => by cases h
  | k + 1, i, x, j, q, h => by
    obtain ⟨_, a, _, _, h1, h2⟩ := bind_ok (show (mustP E ⟨#[123]⟩ i).bind _ = _ from h)
    obtain ⟨_, b, _, _, h3, h4⟩ := bind_ok h2
    obtain ⟨_, c, _, _, h5, h6⟩ := bind_ok h4
    have st : ∀ i x j q, stmtQ E ke (blockF E ke k) i = .ok x j q → i < j := stmt_adv' (block_adv E ke k)
    have lp : ∀ m l i x j q, blockL E (stmtQ E ke (blockF E ke k)) m l i = .ok x j q → i ≤ j := by
      intro m
      induction m with
      | zero => intro l i x j q h; cases h
      | succ m ih =>
        intro l i x j q h
        rw [blockL] at h
        split at h
        · have := ok_inj h
          omega
        · obtain ⟨_, d, _, _, h7, h8⟩ := bind_ok h
          have := st _ _ _ _ h7
          have := ih _ _ _ _ _ h8
          omega
    have := must_adv h1
    have := lp _ _ _ _ _ _ h3
    have := must_adv h5
    have := ok_inj h6
    omega
end Go.Proofs.Ytinnldfmbeafiaa.PA
