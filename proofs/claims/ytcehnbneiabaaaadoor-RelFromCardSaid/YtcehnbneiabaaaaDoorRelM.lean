/- Relations: lists of rows, said of their pairs; puts, loops of puts, rows made one by one. -/
import Derived.Test.YtcehnbneiabaaaaDoorBitsB
namespace Go.Proofs.YtcehnbneiabaaaaDoor.PR
open Go.RowKit Go.Proofs.YtcehnbneiabaaaaDoorW.PrintWords Go.Proofs.YtcehnbneiabaaaaDoorW.PrintLast Go.Proofs.YtcehnbneiabaaaaDoorW.PrintMore
set_option linter.unusedVariables false
set_option linter.unusedSimpArgs false

theorem rd_nat (r : List Int) (i : Nat) : rd r (i : Int) = r.getD i 0 := rfl
theorem rd_lt {r : List Int} {i : Nat} (h : i < r.length) : rd r (i : Int) = r[i] := by
  rw [rd_nat, List.getD_eq_getElem?_getD, List.getElem?_eq_getElem h]
  rfl
theorem rd_far {r : List Int} {i : Nat} (h : r.length ≤ i) : rd r (i : Int) = 0 := by
  rw [rd_nat, List.getD_eq_getElem?_getD, List.getElem?_eq_none h]
  rfl
theorem rd_set (r : List Int) (i j : Nat) (x : Int) : rd (r.set i x) (j : Int) = if i = j ∧ i < r.length then x else rd r (j : Int) := by
  rw [rd_nat, rd_nat, List.getD_eq_getElem?_getD, List.getD_eq_getElem?_getD, List.getElem?_set]
  by_cases h : i = j
  · subst h
    by_cases h2 : i < r.length
    · simp [h2]
    · simp [h2]
  · simp [h]
theorem rd_zeros (n : Nat) (i : Nat) : rd (List.replicate n (0 : Int)) (i : Int) = 0 := by
  rw [rd_nat, List.getD_eq_getElem?_getD]
  by_cases h : i < n
  · rw [List.getElem?_eq_getElem (by simpa using h)]
    simp
  · rw [List.getElem?_eq_none (by simpa using h)]
    rfl
theorem Us_zeros (n : Nat) : Us (List.replicate n (0 : Int)) := fun s hs => by
  rw [List.eq_of_mem_replicate hs]
  exact U_zero
theorem Us_set {r : List Int} (h : Us r) (i : Nat) {x : Int} (hx : U x) : Us (r.set i x) := fun s hs => by
  rcases List.mem_or_eq_of_mem_set hs with hs | rfl
  · exact h s hs
  · exact hx
/-- The relation r has n rows, and just the pairs of S. -/
def Is (r : List Int) (n : Nat) (S : Nat → Nat → Bool) : Prop := r.length = n ∧ Us r ∧ ∀ p, p < n → ∀ q, tb (rd r (p : Int)) q = S p q
theorem Is.uniq {r r' : List Int} {n : Nat} {S S' : Nat → Nat → Bool} (h : Is r n S) (h' : Is r' n S') (hS : ∀ p, p < n → ∀ q, q < 64 → S p q = S' p q) : r = r' := by
  refine List.ext_getElem (h.1.trans h'.1.symm) fun p h1 h2 => ?_
  have hp : p < n := by have := h.1; omega
  refine tb_ext (h.2.1 _ (List.getElem_mem h1)) (h'.2.1 _ (List.getElem_mem h2)) fun q hq => ?_
  rw [← rd_lt h1, ← rd_lt h2, h.2.2 p hp q, h'.2.2 p hp q, hS p hp q hq]
/-- A relation's pairs. -/
def prs (r : List Int) (p q : Nat) : Bool := tb (rd r (p : Int)) q
theorem Is.self {r : List Int} (h : Us r) : Is r r.length (prs r) := ⟨rfl, h, fun _ _ _ => rfl⟩
theorem prs_far {r : List Int} {p : Nat} (h : r.length ≤ p) (q : Nat) : prs r p q = false := by
  unfold prs
  rw [rd_far h, tb_zero]
theorem prs_in {r : List Int} (h : mayB r = true) {p q : Nat} (hpq : prs r p q = true) : p < r.length ∧ q < r.length := by
  have hp : p < r.length := by
    by_cases hp : p < r.length
    · exact hp
    · rw [prs_far (by omega)] at hpq
      cases hpq
  refine ⟨hp, ?_⟩
  have hlt := ((mayB_iff r).mp h).2 (rd r (p : Int)) (by rw [rd_lt hp]; exact List.getElem_mem hp)
  by_cases hq : q < r.length
  · exact hq
  · have : (rd r (p : Int)).toNat.testBit q = false := Nat.testBit_lt_two_pow (Nat.lt_of_lt_of_le hlt (Nat.pow_le_pow_right (by decide) (by omega)))
    unfold prs tb at hpq
    rw [this] at hpq
    cases hpq
theorem may_len {r : List Int} (h : mayB r = true) : r.length ≤ 64 := ((mayB_iff r).mp h).1
theorem may_of {r : List Int} {n : Nat} {S : Nat → Nat → Bool} (h : Is r n S) (hn : n ≤ 64) (hS : ∀ p q, p < n → S p q = true → q < n) : mayB r = true := by
  rw [mayB_iff]
  refine ⟨by rw [h.1]; exact hn, fun s hs => ?_⟩
  obtain ⟨p, hp, rfl⟩ := List.getElem_of_mem hs
  rw [h.1]
  refine Nat.lt_pow_two_of_testBit _ fun q hq => ?_
  have hpn : p < n := by rw [← h.1]; exact hp
  have h1 := h.2.2 p hpn q
  rw [rd_lt hp] at h1
  by_cases ht : S p q = true
  · have := hS p q hpn ht
    omega
  · have hf : S p q = false := by simpa using ht
    rw [hf] at h1
    exact h1
/-! puts -/
def put1 (o : List Int) (x : Nat × Nat) : List Int := o.set x.1 (bits .or .u64 (rd o (x.1 : Int)) (oneI (x.2 : Int)))
def putsL (l : List (Nat × Nat)) (o : List Int) : List Int := l.foldl put1 o
theorem putsL_app (l m : List (Nat × Nat)) (o : List Int) : putsL (l ++ m) o = putsL m (putsL l o) := List.foldl_append
theorem put1_spec {o : List Int} {n : Nat} {S : Nat → Nat → Bool} (h : Is o n S) (x : Nat × Nat) (hx : x.1 < n ∧ x.2 < 64) : Is (put1 o x) n (fun p q => S p q || decide ((p, q) = x)) := by
  refine ⟨by simp [put1, h.1], Us_set h.2.1 _ (or_U (h.2.1.at_ _) (one_U _)), fun p hp q => ?_⟩
  unfold put1
  rw [rd_set]
  have hl := h.1
  by_cases hpx : x.1 = p
  · subst hpx
    rw [if_pos ⟨rfl, by omega⟩, or_tb (h.2.1.at_ _) (one_U _), h.2.2 x.1 hp q, one_tb]
    congr 1
    rw [Bool.eq_iff_iff]
    simp only [decide_eq_true_eq]
    constructor
    · intro hh
      refine Prod.ext rfl ?_
      show q = x.2
      omega
    · intro hh
      have : q = x.2 := congrArg Prod.snd hh
      omega
  · rw [if_neg (fun hh => hpx hh.1), h.2.2 p hp q]
    have : decide ((p, q) = x) = false := by
      rw [decide_eq_false_iff_not]
      intro hh
      exact hpx (congrArg Prod.fst hh).symm
    show S p q = (S p q || decide ((p, q) = x))
    rw [this, Bool.or_false]
theorem putsL_spec : ∀ (l : List (Nat × Nat)) (o : List Int) (n : Nat) (S : Nat → Nat → Bool), Is o n S → (∀ x ∈ l, x.1 < n ∧ x.2 < 64) → Is (putsL l o) n (fun p q => S p q || decide ((p, q) ∈ l))
  | [], o, n, S, h, _ => ⟨h.1, h.2.1, fun p hp q => by
    show tb (rd o (p : Int)) q = _
    rw [h.2.2 p hp q]
    simp⟩
  | x :: l, o, n, S, h, hl => by
    have h1 := putsL_spec l (put1 o x) n _ (put1_spec h x (hl x (by simp))) (fun y hy => hl y (by simp [hy]))
    refine ⟨h1.1, h1.2.1, fun p hp q => ?_⟩
    show tb (rd (putsL l (put1 o x)) (p : Int)) q = _
    rw [h1.2.2 p hp q]
    show ((S p q || decide ((p, q) = x)) || decide ((p, q) ∈ l)) = (S p q || decide ((p, q) ∈ x :: l))
    rw [Bool.or_assoc]
    congr 1
    rw [Bool.eq_iff_iff]
    simp
theorem Is_zeros (n : Nat) : Is (List.replicate n (0 : Int)) n (fun _ _ => false) := ⟨by simp, Us_zeros n, fun p hp q => by rw [rd_zeros, tb_zero]⟩
theorem puts_zeros (l : List (Nat × Nat)) (n : Nat) (hl : ∀ x ∈ l, x.1 < n ∧ x.2 < 64) : Is (putsL l (List.replicate n 0)) n (fun p q => decide ((p, q) ∈ l)) := by
  have h := putsL_spec l _ n _ (Is_zeros n) hl
  refine ⟨h.1, h.2.1, fun p hp q => ?_⟩
  rw [h.2.2 p hp q]
  simp
def Ok (n : Nat) (o : List Int) : Prop := o.length = n ∧ Us o
theorem Ok.puts {n : Nat} {o : List Int} (h : Ok n o) (l : List (Nat × Nat)) (hl : ∀ x ∈ l, x.1 < n ∧ x.2 < 64) : Ok n (putsL l o) := by
  obtain ⟨rfl, hu⟩ := h
  have := putsL_spec l o o.length (prs o) (Is.self hu) hl
  exact ⟨this.1, this.2.1⟩
theorem Ok.zeros (n : Nat) : Ok n (List.replicate n (0 : Int)) := ⟨by simp, Us_zeros n⟩
/-- A loop whose rounds put pairs. -/
theorem loop_puts {β : Type} (L : Nat → List Int → Int → Option β) (n m : Nat) (c : Nat → List (Nat × Nat)) (hc : ∀ y, y < m → ∀ x ∈ c y, x.1 < n ∧ x.2 < 64)
    (hstep : ∀ (o : List Int) (y : Nat) (R : β), y < m → Ok n o → Ev (fun k => L k (putsL (c y) o) ((y + 1 : Nat) : Int)) R → Ev (fun k => L k o (y : Int)) R) :
    ∀ (d i : Nat) (o : List Int) (R : β), m - i = d → i ≤ m → Ok n o → Ev (fun k => L k (putsL ((List.range' i (m - i)).flatMap c) o) (m : Int)) R → Ev (fun k => L k o (i : Int)) R := by
  intro d
  induction d with
  | zero =>
    intro i o R h1 h2 ho h
    obtain rfl : i = m := by omega
    simpa [putsL] using h
  | succ d ih =>
    intro i o R h1 h2 ho h
    refine hstep o i R (by omega) ho (ih (i + 1) _ R (by omega) (by omega) (ho.puts _ (hc i (by omega))) ?_)
    rw [show m - i = (m - (i + 1)) + 1 by omega, List.range'_succ, List.flatMap_cons, putsL_app] at h
    exact h
theorem loop_puts0 {β : Type} (L : Nat → List Int → Int → Option β) (n m : Nat) (c : Nat → List (Nat × Nat)) (hc : ∀ y, y < m → ∀ x ∈ c y, x.1 < n ∧ x.2 < 64)
    (hstep : ∀ (o : List Int) (y : Nat) (R : β), y < m → Ok n o → Ev (fun k => L k (putsL (c y) o) ((y + 1 : Nat) : Int)) R → Ev (fun k => L k o (y : Int)) R)
    (o : List Int) (R : β) (ho : Ok n o) (h : Ev (fun k => L k (putsL ((List.range m).flatMap c) o) (m : Int)) R) : Ev (fun k => L k o 0) R := by
  refine loop_puts L n m c hc hstep m 0 o R rfl (by omega) ho ?_
  rw [Nat.sub_zero, ← List.range_eq_range']
  exact h
/-! rows made one by one -/
theorem made_ev (L : Nat → List Int → Int → Int → Option (List Int)) (g : Nat → Int → Option Int) (n : Nat) (hn : n ≤ 64) (h : Nat → Int)
    (hL : ∀ k x5 x10 x11, L (k + 1) x5 x10 x11 = if x11 < x10 then ((g k x11).bind fun t => (if 0 ≤ x11 then (if x11 < (x5.length : Int) then (L k (x5.set (x11 : Int).toNat t) x10 (wrap64 (x11 + 1))) else (none)) else (none))) else (some x5))
    (hg : ∀ i : Nat, i < n → Ev (fun k => g k (i : Int)) (h i)) : Ev (fun k => L k (List.replicate n 0) (n : Int) 0) ((List.range n).map h) := by
  have key : ∀ (d i : Nat), n - i = d → i ≤ n → Ev (fun k => L k ((List.range i).map h ++ List.replicate (n - i) 0) (n : Int) (i : Int)) ((List.range n).map h) := by
    intro d
    induction d with
    | zero =>
      intro i h1 h2
      obtain rfl : i = n := by omega
      refine Ev.step (fun k => hL k _ _ _) (ev_else (by omega) (ev_eq (Ev.now _) ?_))
      simp
    | succ d ih =>
      intro i h1 h2
      refine Ev.step (fun k => hL k _ _ _) (ev_if (by omega) (Ev.bind (hg i (by omega)) (ev_if (by omega) (ev_if (by simp; omega) ?_))))
      rw [w64 (by omega) (by omega)]
      have e : ((List.range i).map h ++ List.replicate (n - i) (0 : Int)).set ((i : Int)).toNat (h i) = (List.range (i + 1)).map h ++ List.replicate (n - (i + 1)) 0 := by
        rw [show ((i : Int)).toNat = i from rfl, List.set_append, if_neg (by simp), show n - i = (n - (i + 1)) + 1 by omega, List.replicate_succ, List.range_succ, List.map_append]
        simp
      rw [e]
      exact ih (i + 1) (by omega) (by omega)
  have := key n 0 rfl (by omega)
  simpa using this
theorem Is_made (n : Nat) (h : Nat → Int) (hU : ∀ i, i < n → U (h i)) : Is ((List.range n).map h) n (fun p q => tb (h p) q) := by
  refine ⟨by simp, fun s hs => ?_, fun p hp q => ?_⟩
  · obtain ⟨i, hi, rfl⟩ := List.mem_map.mp hs
    exact hU i (List.mem_range.mp hi)
  · rw [rd_lt (by simpa using hp)]
    simp
/-- What a function of relations tells: nothing, if it may not; else these pairs. -/
def Got (f : Nat → Option (List Int)) (c : Bool) (n : Nat) (S : Nat → Nat → Bool) : Prop := ∃ r, Ev f r ∧ (c = true → Is r n S) ∧ (c = false → r = [])
theorem Got.same {f g : Nat → Option (List Int)} {c : Bool} {n : Nat} {S S' : Nat → Nat → Bool} (h : Got f c n S) (h' : Got g c n S') (hS : c = true → ∀ p, p < n → ∀ q, q < 64 → S p q = S' p q) : ∃ r, Ev f r ∧ Ev g r ∧ (c = true → Is r n S) ∧ (c = false → r = []) := by
  obtain ⟨r, e, h1, h2⟩ := h
  obtain ⟨r', e', h1', h2'⟩ := h'
  refine ⟨r, e, ?_, h1, h2⟩
  cases hc : c with
  | true =>
    rw [(h1 hc).uniq (h1' hc) (hS hc)]
    exact e'
  | false =>
    rw [h2 hc, ← h2' hc]
    exact e'
end Go.Proofs.YtcehnbneiabaaaaDoor.PR
