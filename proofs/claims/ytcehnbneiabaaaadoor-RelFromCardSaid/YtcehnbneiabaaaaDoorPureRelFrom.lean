/- RelFrom: which pairs make a relation, and that it has just these. For all numbers and all pairs. -/
import Derived.Test.YtcehnbneiabaaaaDoorRelK
import Derived.Test.YtcehnbneiabaaaaDoorRelS
import Derived.Test.YtcehnbneiabaaaaDoorPRx19
namespace Go.Proofs.YtcehnbneiabaaaaDoor.Pure
open Go.RowKit Go.Proofs.YtcehnbneiabaaaaDoor.PR Go.Proofs.YtcehnbneiabaaaaDoorW.PrintWords Go.Proofs.YtcehnbneiabaaaaDoorW.PrintLast
set_option linter.unusedVariables false
set_option linter.unusedSimpArgs false

def okp (n : Int) (x : S28) : Bool := decide (0 ≤ x.f0 ∧ x.f0 < n ∧ 0 ≤ x.f1 ∧ x.f1 < n)
theorem rd_at (l : List S28) (i : Nat) (h : i < l.length) : rd_T28 l (i : Int) = l[i] := by
  unfold rd_T28
  rw [List.getD_eq_getElem?_getD, show ((i : Nat) : Int).toNat = i from rfl, List.getElem?_eq_getElem h]
  rfl
theorem may_loop (n : Int) (l : List S28) (hl : l.length ≤ 60) (R : Bool) : ∀ (d i : Nat) (m : Bool), l.length - i = d → i ≤ l.length →
    Ev (fun k => withelaw2_RelFrom.l0 k n l (m && (l.drop i).all (okp n)) (l.length : Int)) R → Ev (fun k => withelaw2_RelFrom.l0 k n l m (i : Int)) R := by
  intro d
  induction d with
  | zero =>
    intro i m h1 h2 h
    obtain rfl : i = l.length := by omega
    rw [List.drop_length, List.all_nil, Bool.and_true] at h
    exact h
  | succ d ih =>
    intro i m h1 h2 h
    have hi : i < l.length := by omega
    rw [List.drop_eq_getElem_cons hi, List.all_cons, ← Bool.and_assoc] at h
    refine Ev.step (fun k => by simp only [withelaw2_RelFrom.l0]; rfl) (ev_if (by omega) ?_)
    rw [w64 (by omega) (by omega), rd_at l i hi]
    have next := fun m' (e : m' = (m && okp n l[i])) => ih (i + 1) m' (by omega) (by omega) (by rw [e]; exact h)
    cases m with
    | false => exact ev_else (show ¬ (false = true) by decide) (next false rfl)
    | true =>
      refine ev_if (show true = true from rfl) (ev_if (by omega) ?_)
      have ok : okp n l[i] = decide (0 ≤ l[i].f0 ∧ l[i].f0 < n ∧ 0 ≤ l[i].f1 ∧ l[i].f1 < n) := rfl
      have no : ¬ (0 ≤ l[i].f0 ∧ l[i].f0 < n ∧ 0 ≤ l[i].f1 ∧ l[i].f1 < n) → false = (true && okp n l[i]) := fun h => by rw [ok]; simp; omega
      refine ev_ite (fun c1 => ev_ite (fun c2 => ev_ite (fun c3 => next _ ?_) (fun c3 => next false (no (by omega)))) (fun c2 => next false (no (by omega)))) (fun c1 => next false (no (by omega)))
      rw [ok, Bool.true_and, Bool.eq_iff_iff, decide_eq_true_eq, decide_eq_true_eq]
      omega
theorem from_bad (n : Int) (hn0 : 0 ≤ n) (hn : n ≤ 64) (l : List S28) (hl : l.length ≤ 60) : ∀ (d i : Nat) (o : List Int), l.length - i = d → i ≤ l.length → (o.length : Int) = n → (l.drop i).all (okp n) = false →
    Ev (fun k => rel_From.l0 k n o l (l.length : Int) (i : Int)) ([], false) := by
  intro d
  induction d with
  | zero =>
    intro i o h1 h2 ho h
    rw [List.drop_of_length_le (by omega)] at h
    cases h
  | succ d ih =>
    intro i o h1 h2 ho h
    have hi : i < l.length := by omega
    rw [List.drop_eq_getElem_cons hi, List.all_cons] at h
    refine Ev.step (fun k => by simp only [rel_From.l0]; rfl) (ev_if (by omega) (ev_if (by omega) (ev_if (by omega) ?_)))
    rw [rd_at l i hi]
    refine ev_ite (fun _ => Ev.now _) (fun c1 => ev_ite (fun _ => Ev.now _) (fun c2 => ?_))
    have hb : 0 ≤ l[i].f0 ∧ l[i].f0 < n ∧ 0 ≤ l[i].f1 ∧ l[i].f1 < n := by
      unfold mn at c1
      unfold mx at c2
      split at c1 <;> split at c2 <;> omega
    refine ev_if (by omega) (ev_if (by omega) (ev_bind0 (put_f _ _) ?_))
    rw [w64 (by omega) (by omega)]
    refine ih (i + 1) _ (by omega) (by omega) (by rw [List.length_set]; exact ho) ?_
    have ok : okp n l[i] = true := by
      unfold okp
      simpa using hb
    rw [ok, Bool.true_and] at h
    exact h
theorem as_nat {n : Int} : ∀ {l : List S28}, l.all (okp n) = true → ∃ L : List (Nat × Nat), l = L.map toS ∧ ∀ x ∈ L, (x.1 : Int) < n ∧ (x.2 : Int) < n
  | [], _ => ⟨[], rfl, fun x h => by cases h⟩
  | x :: l, h => by
    rw [List.all_cons, Bool.and_eq_true] at h
    obtain ⟨L, rfl, hL⟩ := as_nat h.2
    have hx : 0 ≤ x.f0 ∧ x.f0 < n ∧ 0 ≤ x.f1 ∧ x.f1 < n := by
      have := h.1
      unfold okp at this
      simpa using this
    refine ⟨(x.f0.toNat, x.f1.toNat) :: L, ?_, fun y hy => ?_⟩
    · rw [List.map_cons]
      congr 1
      unfold toS
      obtain ⟨a, b⟩ := x
      simp only at hx ⊢
      congr 1 <;> omega
    · rcases List.mem_cons.mp hy with rfl | hy
      · simp only
        omega
      · exact hL y hy
theorem els_range {n : Nat} (hn : n ≤ 64) {s : Int} (hs : ∀ q, tb s q = true → q < n) : els s = (List.range n).filter (tb s) := by
  unfold els
  have e : List.range 64 = List.range n ++ (List.range (64 - n)).map (n + ·) := by
    rw [← List.range_add, show n + (64 - n) = 64 by omega]
  rw [e, List.filter_append]
  have : ((List.range (64 - n)).map (n + ·)).filter (tb s) = [] := by
    rw [List.filter_eq_nil_iff]
    intro q hq hh
    obtain ⟨j, _, rfl⟩ := List.mem_map.mp hq
    have := hs _ hh
    omega
  rw [this, List.append_nil]
theorem is_loop (n : Int) (L : List (Nat × Nat)) (hl : L.length ≤ 60) (r : List Int) (c : Int) (a b : Nat) (R : Bool)
    (h : ∀ is, is = decide ((a, b) ∈ L) → Ev (fun k => withelaw2_RelFrom.l3 k n (L.map toS) r c (a : Int) (b : Int) is (L.length : Int)) R) : ∀ (d i : Nat) (is : Bool), L.length - i = d → i ≤ L.length → (is = true ↔ (a, b) ∈ L.take i) →
    Ev (fun k => withelaw2_RelFrom.l3 k n (L.map toS) r c (a : Int) (b : Int) is (i : Int)) R := by
  intro d
  induction d with
  | zero =>
    intro i is h1 h2 h3
    obtain rfl : i = L.length := by omega
    rw [List.take_length] at h3
    exact h is (by rw [Bool.eq_iff_iff, h3, decide_eq_true_eq])
  | succ d ih =>
    intro i is h1 h2 h3
    have hi : i < L.length := by omega
    refine Ev.step (fun k => by simp only [withelaw2_RelFrom.l3]; rfl) (ev_if (by rw [List.length_map]; omega) ?_)
    rw [w64 (by omega) (by omega), rd_toS L i hi]
    have htake : L.take (i + 1) = L.take i ++ [L[i]] := by rw [List.take_succ_eq_append_getElem hi]
    cases is with
    | true =>
      refine ev_if (show true = true from rfl) (ih (i + 1) true (by omega) (by omega) ⟨fun _ => ?_, fun _ => rfl⟩)
      rw [htake]
      exact List.mem_append.mpr (.inl (h3.mp rfl))
    | false =>
      refine ev_else (show ¬ (false = true) by decide) (ev_if (by omega) (ih (i + 1) _ (by omega) (by omega) ?_))
      rw [htake, List.mem_append, List.mem_singleton, Bool.and_eq_true, beq_iff_eq, beq_iff_eq]
      constructor
      · rintro ⟨e1, e2⟩
        right
        refine Prod.ext ?_ ?_
        · have : ((L[i].1 : Nat) : Int) = (a : Int) := e1
          show a = L[i].1
          omega
        · have : ((L[i].2 : Nat) : Int) = (b : Int) := e2
          show b = L[i].2
          omega
      · rintro (h | h)
        · exact absurd (h3.mpr h) (by decide)
        · rw [← h]
          exact ⟨rfl, rfl⟩
theorem RelFrom (n0 : Int) (l : List S28) : ∃ k, withelaw2_RelFrom.f k n0 l = some true := by
  refine Ev.rounds ?_
  unfold withelaw2_RelFrom.f
  refine Ev.bind begun_ev (ev_if rfl (ev_ite (fun _ => Ev.now _) (fun hl0 => ?_)))
  have hl : l.length ≤ 60 := by omega
  have all : ∀ m : Bool, (m = true ↔ 0 ≤ n0 ∧ n0 ≤ 64) → Ev (fun k => withelaw2_RelFrom.j0 k n0 l m) true := by
    intro m hm
    refine Ev.step (fun k => by simp only [withelaw2_RelFrom.j0]; rfl) (may_loop n0 l hl true l.length 0 m rfl (by omega) ?_)
    rw [List.drop_zero]
    cases hmay : (m && l.all (okp n0)) with
    | false =>
      refine Ev.step (fun k => by simp only [withelaw2_RelFrom.l0]; rfl) (ev_else (by omega) ?_)
      have hf : Ev (fun k => rel_From.f k n0 l) ([], false) := by
        have bad : Ev (fun k => rel_From.j0 k n0 l true) ([], false) := Ev.step (fun k => by simp only [rel_From.j0]; rfl) (ev_if (show true = true from rfl) (Ev.now _))
        unfold rel_From.f
        refine ev_ite (fun _ => bad) (fun h1 => ?_)
        by_cases h2 : n0 > 64
        · rw [show decide (n0 > 64) = true by simpa using h2]
          exact bad
        · rw [show decide (n0 > 64) = false by simpa using h2]
          have hmt : m = true := hm.mpr ⟨by omega, by omega⟩
          rw [hmt, Bool.true_and] at hmay
          refine Ev.step (fun k => by simp only [rel_From.j0]; rfl) (ev_else (show ¬ (false = true) by decide) (ev_if (by omega) (ev_if (by omega) ?_)))
          exact from_bad n0 (by omega) (by omega) l hl l.length 0 _ rfl (by omega) (by rw [List.length_replicate]; omega) (by rw [List.drop_zero]; exact hmay)
      refine Ev.bind hf (ev_else (show ¬ ((false != false) = true) by decide) (ev_else (show ¬ (false = true) by decide) (Ev.now _)))
    | true =>
      obtain ⟨h1, h2⟩ := (Bool.and_eq_true _ _).mp hmay
      have hb := hm.mp h1
      obtain ⟨L, rfl, hL⟩ := as_nat h2
      obtain ⟨n, rfl⟩ : ∃ n : Nat, n0 = (n : Int) := ⟨n0.toNat, by omega⟩
      have hn : n ≤ 64 := by omega
      rw [List.length_map] at hl
      have hL' : ∀ x ∈ L, x.1 < n ∧ x.2 < n := fun x hx => by have := hL x hx; omega
      obtain ⟨hok, hp⟩ := from_ok n hn L hL'
      have hf := from_f n hn L hL' (by omega)
      generalize putsL L (List.replicate n 0) = r at *
      have hrl := hok.1
      refine Ev.step (fun k => by simp only [withelaw2_RelFrom.l0]; rfl) (ev_else (by omega) (Ev.bind hf (ev_else (show ¬ ((true != true) = true) by decide) (ev_if (show true = true from rfl) ?_))))
      have fin : Ev (fun k => withelaw2_RelFrom.l1 k (n : Int) (L.map toS) r ((cntU r n : Nat) : Int) (n : Int)) true := by
        have hm := hok.may hn
        have hP : ∀ x ∈ pairsOf r, x.1 < n ∧ x.2 < n := fun x hx => hok.lt ((mem_pairsOf hok.2.1 x.1 x.2).mp hx)
        obtain ⟨ok2, p2⟩ := from_ok n hn (pairsOf r) hP
        have hpl := pairs_len r (by omega)
        have hz := count_zeros n hn
        refine Ev.step (fun k => by simp only [withelaw2_RelFrom.l1]; rfl) (ev_else (by omega) (Ev.bind (pairs_f hok.2.1 hm) (Ev.bind (from_f n hn (pairsOf r) hP (by omega)) ?_)))
        refine ev_if (by omega) ?_
        refine Ev.bind (count_ok hok hn) ?_
        refine ev_if rfl (ev_if (show true = true from rfl) ?_)
        refine Ev.bind (same_ok ok2 hok hn fun p q => by rw [p2, mem_pairsOf hok.2.1]) (ev_if rfl (ev_bind0 (new_f n hn) (ev_if (by rw [List.length_replicate]) (ev_bind0 (new_f n hn) (Ev.bind hz (Ev.now _))))))
      have row : ∀ a, a < n → Ev (fun k => withelaw2_RelFrom.l1 k (n : Int) (L.map toS) r ((cntU r (a + 1) : Nat) : Int) ((a + 1 : Nat) : Int)) true → ∀ (d b : Nat), n - b = d → b ≤ n →
          Ev (fun k => withelaw2_RelFrom.l2 k (n : Int) (L.map toS) r ((cntU r a + ((List.range b).filter (tb (rd r (a : Int)))).length : Nat) : Int) (a : Int) (b : Int)) true := by
        intro a ha h d
        have hca := cntU_le r a
        induction d with
        | zero =>
          intro b g1 g2
          obtain rfl : b = n := by omega
          refine Ev.step (fun k => by simp only [withelaw2_RelFrom.l2]; rfl) (ev_else (by omega) ?_)
          rw [w64 (by omega) (by omega), ← els_range hn (fun q hq => hok.2.2 a q hq), ← cntU_succ]
          exact h
        | succ d ih =>
          intro b g1 g2
          have hfl : ((List.range b).filter (tb (rd r (a : Int)))).length ≤ b := Nat.le_trans (List.length_filter_le _ _) (by simp)
          have next := ih (b + 1) (by omega) (by omega)
          rw [List.range_succ, List.filter_append, List.length_append] at next
          refine Ev.step (fun k => by simp only [withelaw2_RelFrom.l2]; rfl) (ev_if (by omega) ?_)
          refine is_loop (n : Int) L hl r _ a b true (fun is his => ?_) L.length 0 false rfl (by omega) (by simp)
          have hpr : prs r a b = is := by rw [his, Bool.eq_iff_iff, hp, decide_eq_true_eq]
          refine Ev.step (fun k => by simp only [withelaw2_RelFrom.l3]; rfl) (ev_else (by rw [List.length_map]; omega) ?_)
          rw [w64 (n := (b : Int) + 1) (by omega) (by omega), w64 (by omega) (by omega)]
          have htb : tb (rd r (a : Int)) b = is := hpr
          cases is with
          | true =>
            refine ev_if (show true = true from rfl) (Ev.bind (relHas_f hok hn ha b) (ev_else (by rw [hpr]; decide) ?_))
            rw [List.filter_cons_of_pos htb, List.filter_nil, List.length_singleton, ← Nat.add_assoc] at next
            exact next
          | false =>
            refine ev_else (show ¬ (false = true) by decide) (Ev.bind (relHas_f hok hn ha b) (ev_else (by rw [hpr]; decide) ?_))
            rw [List.filter_cons_of_neg (by rw [htb]; decide), List.filter_nil, List.length_nil, Nat.add_zero] at next
            exact next
      have rows : ∀ (d a : Nat), n - a = d → a ≤ n → Ev (fun k => withelaw2_RelFrom.l1 k (n : Int) (L.map toS) r ((cntU r a : Nat) : Int) (a : Int)) true := by
        intro d
        induction d with
        | zero =>
          intro a g1 g2
          obtain rfl : a = n := by omega
          exact fin
        | succ d ih =>
          intro a g1 g2
          refine Ev.step (fun k => by simp only [withelaw2_RelFrom.l1]; rfl) (ev_if (by omega) ?_)
          have := row a (by omega) (ih (a + 1) (by omega) (by omega)) n 0 rfl (by omega)
          simpa using this
      exact rows n 0 rfl (by omega)
  refine ev_ite (fun h => all _ ?_) (fun h => all _ ?_)
  · rw [decide_eq_true_eq]
    omega
  · constructor
    · intro hh
      cases hh
    · omega
end Go.Proofs.YtcehnbneiabaaaaDoor.Pure
