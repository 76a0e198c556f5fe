/- Relations that may be: or, and, less, behind, turned about, none, from pairs: each said of its pairs. -/
import Derived.Test.YtcehnbneiabaaaaDoorRelT
import Derived.Test.YtcehnbneiabaaaaDoorPRx6
import Derived.Test.YtcehnbneiabaaaaDoorPRx6
import Derived.Test.YtcehnbneiabaaaaDoorPRx7
import Derived.Test.YtcehnbneiabaaaaDoorPRx8
import Derived.Test.YtcehnbneiabaaaaDoorPRx10
import Derived.Test.YtcehnbneiabaaaaDoorPRx11
import Derived.Test.YtcehnbneiabaaaaDoorPRx4
import Derived.Test.YtcehnbneiabaaaaDoorPRx3
import Derived.Test.YtcehnbneiabaaaaDoorPRx9
namespace Go.Proofs.YtcehnbneiabaaaaDoor.PR
open Go.RowKit Go.Proofs.YtcehnbneiabaaaaDoorW.PrintWords Go.Proofs.YtcehnbneiabaaaaDoorW.PrintLast Go.Proofs.YtcehnbneiabaaaaDoorW.PrintMore
set_option linter.unusedVariables false
set_option linter.unusedSimpArgs false

theorem OkN.uniq {n : Nat} {r r' : List Int} (h : OkN n r) (h' : OkN n r') (e : ∀ p q, prs r p q = true ↔ prs r' p q = true) : r = r' :=
  Is.uniq (n := n) (S := prs r) (S' := prs r') ⟨h.1, h.2.1, fun _ _ _ => rfl⟩ ⟨h'.1, h'.2.1, fun _ _ _ => rfl⟩ (fun p _ q _ => by
    have := e p q
    rw [Bool.eq_iff_iff]
    exact this)
theorem OkN.both {n : Nat} {a b : List Int} (ha : OkN n a) (hb : OkN n b) (hn : n ≤ 64) : both a b = true := (both_iff a b).mpr ⟨ha.may hn, hb.may hn, by rw [ha.1, hb.1]⟩
/-! two by two -/
theorem or_got {a b : List Int} (ha : Us a) (hb : Us b) : Got (fun k => rel_Or.f k a b) (both a b) a.length (fun p q => prs a p q || prs b p q) := by
  unfold rel_Or.f rel_pair_made_at_rel_pair_or.f
  cases hc : both a b with
  | false => exact ⟨[], Ev.bind (Ev.bind (pair_may_f ha hb) (ev_else (by rw [hc]; simp) (Ev.now _))) (Ev.now _), fun h => (by cases h), fun _ => rfl⟩
  | true =>
    obtain ⟨h1, h2, h3⟩ := (both_iff a b).mp hc
    have hn := may_len h1
    refine ⟨(List.range a.length).map fun (i : Nat) => bits .or .u64 (rd a (i : Int)) (rd b (i : Int)), Ev.bind (Ev.bind (pair_may_f ha hb) (ev_if hc (Ev.bind ?_ (Ev.now _)))) (Ev.now _), fun _ => ?_, fun h => (by cases h)⟩
    · unfold rel_made_at_rel_pair_or.f
      refine ev_if (by omega) (ev_if (by omega) (ev_bind0 rfl ?_))
      have := made_ev (fun k x5 x10 x11 => rel_made_at_rel_pair_or.l0 k x5 x10 x11 a b) (fun k i => rel_pair_or.f a b i) a.length hn (fun (i : Nat) => bits .or .u64 (rd a (i : Int)) (rd b (i : Int))) (fun _ _ _ _ => rfl) (fun i hi => by
        unfold rel_pair_or.f
        exact ev_if (by omega) (ev_if (by omega) (ev_if (by omega) (Ev.now _))))
      rw [List.length_replicate]
      exact this
    · have := Is_made a.length (fun (i : Nat) => bits .or .u64 (rd a (i : Int)) (rd b (i : Int))) (fun i _ => or_U (ha.at_ _) (hb.at_ _))
      exact ⟨this.1, this.2.1, fun p hp q => (this.2.2 p hp q).trans (or_tb (ha.at_ _) (hb.at_ _) q)⟩
theorem and_got {a b : List Int} (ha : Us a) (hb : Us b) : Got (fun k => rel_And.f k a b) (both a b) a.length (fun p q => prs a p q && prs b p q) := by
  unfold rel_And.f rel_pair_made_at_rel_pair_and.f
  cases hc : both a b with
  | false => exact ⟨[], Ev.bind (Ev.bind (pair_may_f ha hb) (ev_else (by rw [hc]; simp) (Ev.now _))) (Ev.now _), fun h => (by cases h), fun _ => rfl⟩
  | true =>
    obtain ⟨h1, h2, h3⟩ := (both_iff a b).mp hc
    have hn := may_len h1
    refine ⟨(List.range a.length).map fun (i : Nat) => bits .and .u64 (rd a (i : Int)) (rd b (i : Int)), Ev.bind (Ev.bind (pair_may_f ha hb) (ev_if hc (Ev.bind ?_ (Ev.now _)))) (Ev.now _), fun _ => ?_, fun h => (by cases h)⟩
    · unfold rel_made_at_rel_pair_and.f
      refine ev_if (by omega) (ev_if (by omega) (ev_bind0 rfl ?_))
      have := made_ev (fun k x5 x10 x11 => rel_made_at_rel_pair_and.l0 k x5 x10 x11 a b) (fun k i => rel_pair_and.f a b i) a.length hn (fun (i : Nat) => bits .and .u64 (rd a (i : Int)) (rd b (i : Int))) (fun _ _ _ _ => rfl) (fun i hi => by
        unfold rel_pair_and.f
        exact ev_if (by omega) (ev_if (by omega) (ev_if (by omega) (Ev.now _))))
      rw [List.length_replicate]
      exact this
    · have := Is_made a.length (fun (i : Nat) => bits .and .u64 (rd a (i : Int)) (rd b (i : Int))) (fun i _ => and_U (ha.at_ _) (hb.at_ _))
      exact ⟨this.1, this.2.1, fun p hp q => (this.2.2 p hp q).trans (and_tb (ha.at_ _) (hb.at_ _) q)⟩
theorem less_got {a b : List Int} (ha : Us a) (hb : Us b) : Got (fun k => rel_Less.f k a b) (both a b) a.length (fun p q => prs a p q && !prs b p q) := by
  unfold rel_Less.f rel_pair_made_at_rel_pair_less.f
  cases hc : both a b with
  | false => exact ⟨[], Ev.bind (Ev.bind (pair_may_f ha hb) (ev_else (by rw [hc]; simp) (Ev.now _))) (Ev.now _), fun h => (by cases h), fun _ => rfl⟩
  | true =>
    obtain ⟨h1, h2, h3⟩ := (both_iff a b).mp hc
    have hn := may_len h1
    refine ⟨(List.range a.length).map fun (i : Nat) => bits .andNot .u64 (rd a (i : Int)) (rd b (i : Int)), Ev.bind (Ev.bind (pair_may_f ha hb) (ev_if hc (Ev.bind ?_ (Ev.now _)))) (Ev.now _), fun _ => ?_, fun h => (by cases h)⟩
    · unfold rel_made_at_rel_pair_less.f
      refine ev_if (by omega) (ev_if (by omega) (ev_bind0 rfl ?_))
      have := made_ev (fun k x5 x10 x11 => rel_made_at_rel_pair_less.l0 k x5 x10 x11 a b) (fun k i => rel_pair_less.f a b i) a.length hn (fun (i : Nat) => bits .andNot .u64 (rd a (i : Int)) (rd b (i : Int))) (fun _ _ _ _ => rfl) (fun i hi => by
        unfold rel_pair_less.f
        exact ev_if (by omega) (ev_if (by omega) (ev_if (by omega) (Ev.now _))))
      rw [List.length_replicate]
      exact this
    · have := Is_made a.length (fun (i : Nat) => bits .andNot .u64 (rd a (i : Int)) (rd b (i : Int))) (fun i _ => less_U (ha.at_ _) (hb.at_ _))
      exact ⟨this.1, this.2.1, fun p hp q => (this.2.2 p hp q).trans (less_tb (ha.at_ _) (hb.at_ _) q)⟩
/-! pairs -/
def toS (x : Nat × Nat) : S28 := ⟨(x.1 : Int), (x.2 : Int)⟩
def pairsOf (r : List Int) : List (Nat × Nat) := (List.range r.length).flatMap fun (a : Nat) => (els (rd r (a : Int))).map fun b => (a, b)
theorem mem_pairsOf {r : List Int} (h : Us r) (p q : Nat) : (p, q) ∈ pairsOf r ↔ prs r p q = true := by
  unfold pairsOf
  simp only [List.mem_flatMap, List.mem_range, List.mem_map]
  constructor
  · rintro ⟨a, ha, b, hb, e⟩
    cases e
    exact (mem_els (h.at_ _) _).mp hb
  · intro hpq
    refine ⟨p, ?_, q, (mem_els (h.at_ _) _).mpr hpq, rfl⟩
    by_cases hp : p < r.length
    · exact hp
    · rw [prs_far (by omega)] at hpq
      cases hpq
theorem pairs_l1 (r : List Int) (x : Nat) (ls : List Nat) (R : List S28) : ∀ (d i : Nat) (acc : List S28), ls.length - i = d → i ≤ ls.length → ls.length ≤ 64 → acc.length + (ls.length - i) ≤ 1000000 →
    Ev (fun k => rel_Pairs.l0 k (acc ++ (ls.drop i).map fun (b : Nat) => toS (x, b)) r (r.length : Int) (wrap64 ((x : Int) + 1))) R →
    Ev (fun k => rel_Pairs.l1 k acc (x : Int) r (r.length : Int) (x : Int) (ls.map Int.ofNat) ((ls.map Int.ofNat).length : Int) (i : Int)) R := by
  intro d
  induction d with
  | zero =>
    intro i acc h1 h2 h64 h3 h
    refine Ev.step (fun k => by simp only [rel_Pairs.l1]; rfl) (ev_else (by simp; omega) ?_)
    rw [List.drop_of_length_le (by omega)] at h
    simpa using h
  | succ d ih =>
    intro i acc h1 h2 h64 h3 h
    have hi : i < ls.length := by omega
    refine Ev.step (fun k => by simp only [rel_Pairs.l1]; rfl) (ev_if (by simp; omega) (ev_if (by omega) (ev_if (by simp; omega) (ev_if (by omega) ?_))))
    rw [rd_map ls i hi, w64 (by omega) (by omega)]
    refine ih (i + 1) _ (by omega) (by omega) h64 (by rw [List.length_append]; simp; omega) ?_
    rw [List.drop_eq_getElem_cons hi, List.map_cons] at h
    rw [List.append_assoc]
    exact h
theorem pairs_f {r : List Int} (h : Us r) (hm : mayB r = true) : Ev (fun k => rel_Pairs.f k r) ((pairsOf r).map toS) := by
  unfold rel_Pairs.f
  have hn := may_len hm
  refine Ev.bind (may_f h) (ev_if hm ?_)
  have key : ∀ (d x : Nat) (acc : List S28), r.length - x = d → x ≤ r.length → acc.length ≤ x * 64 →
      Ev (fun k => rel_Pairs.l0 k acc r (r.length : Int) (x : Int)) (acc ++ ((List.range' x (r.length - x)).flatMap fun (a : Nat) => (els (rd r (a : Int))).map fun b => (a, b)).map toS) := by
    intro d
    induction d with
    | zero =>
      intro x acc h1 h2 h3
      refine Ev.step (fun k => by simp only [rel_Pairs.l0]; rfl) (ev_else (by omega) (ev_eq (Ev.now _) ?_))
      rw [show r.length - x = 0 by omega]
      simp
    | succ d ih =>
      intro x acc h1 h2 h3
      have hel := els_len (rd r (x : Int))
      refine Ev.step (fun k => by simp only [rel_Pairs.l0]; rfl) (ev_if (by omega) (ev_if (by omega) (ev_if (by omega) (ev_bind0 (list_f (h.at_ _)) ?_))))
      refine pairs_l1 r x (els (rd r (x : Int))) _ (els (rd r (x : Int))).length 0 acc rfl (by omega) hel (by omega) ?_
      rw [w64 (by omega) (by omega)]
      refine ev_eq (ih (x + 1) _ (by omega) (by omega) (by rw [List.length_append, List.length_map, List.drop_zero]; omega)) ?_
      rw [show r.length - x = (r.length - (x + 1)) + 1 by omega, List.range'_succ, List.flatMap_cons, List.map_append, List.append_assoc, List.drop_zero, List.map_map]
      rfl
  have := key r.length 0 [] rfl (by omega) (by simp)
  rw [Nat.sub_zero, ← List.range_eq_range'] at this
  exact this
theorem pairs_none {r : List Int} (h : Us r) (hm : mayB r = false) : Ev (fun k => rel_Pairs.f k r) [] := by
  unfold rel_Pairs.f
  exact Ev.bind (may_f h) (ev_else (by rw [hm]; simp) (Ev.now _))
theorem rd_toS (L : List (Nat × Nat)) (i : Nat) (h : i < L.length) : rd_T28 (L.map toS) (i : Int) = toS L[i] := by
  unfold rd_T28
  rw [List.getD_eq_getElem?_getD, show ((i : Nat) : Int).toNat = i from rfl, List.getElem?_eq_getElem (by simpa using h)]
  simp
theorem back_l0 (n : Nat) (hn : n ≤ 64) (L : List (Nat × Nat)) (hL : ∀ x ∈ L, x.1 < n ∧ x.2 < n) (hl : L.length ≤ 1000000) : ∀ (d i : Nat) (o : List Int), L.length - i = d → i ≤ L.length → Ok n o →
    Ev (fun k => rel_Back.l0 k o (L.map toS) ((L.map toS).length : Int) (i : Int)) (putsL ((L.drop i).map fun x => (x.2, x.1)) o) := by
  intro d
  induction d with
  | zero =>
    intro i o h1 h2 ho
    refine Ev.step (fun k => by simp only [rel_Back.l0]; rfl) (ev_else (by simp; omega) (ev_eq (Ev.now _) ?_))
    rw [List.drop_of_length_le (by omega)]
    rfl
  | succ d ih =>
    intro i o h1 h2 ho
    have hi : i < L.length := by omega
    have hx := hL _ (List.getElem_mem hi)
    have hol := ho.1
    refine Ev.step (fun k => by simp only [rel_Back.l0]; rfl) (ev_if (by simp; omega) (ev_if (by omega) (ev_if (by simp; omega) ?_)))
    rw [rd_toS L i hi]
    refine ev_if (by show (0 : Int) ≤ ((L[i].2 : Nat) : Int); omega) (ev_if (by show ((L[i].2 : Nat) : Int) < _; omega) (ev_bind0 (put_f _ _) ?_))
    rw [w64 (by omega) (by omega)]
    have hput : Ok n (put1 o (L[i].2, L[i].1)) := ho.puts [(L[i].2, L[i].1)] (fun y hy => by
      rw [List.mem_singleton.mp hy]
      exact ⟨hx.2, by show L[i].1 < 64; omega⟩)
    refine ev_eq (ih (i + 1) (put1 o (L[i].2, L[i].1)) (by omega) (by omega) hput) ?_
    rw [List.drop_eq_getElem_cons hi, List.map_cons]
    rfl
theorem pairs_len (r : List Int) (hn : r.length ≤ 64) : (pairsOf r).length ≤ 4096 := by
  unfold pairsOf
  have : ∀ (l : List Nat), (l.flatMap fun (a : Nat) => (els (rd r (a : Int))).map fun b => (a, b)).length ≤ l.length * 64 := by
    intro l
    induction l with
    | nil => simp
    | cons x l ih =>
      rw [List.flatMap_cons, List.length_append, List.length_map, List.length_cons]
      have := els_len (rd r (x : Int))
      omega
  have := this (List.range r.length)
  rw [List.length_range] at this
  omega
theorem back_got {a : List Int} (ha : Us a) : Got (fun k => rel_Back.f k a) (mayB a) a.length (fun p q => prs a q p) := by
  unfold rel_Back.f
  cases hc : mayB a with
  | false => exact ⟨[], Ev.bind (may_f ha) (ev_else (by rw [hc]; simp) (Ev.now _)), fun h => (by cases h), fun _ => rfl⟩
  | true =>
    have hn := may_len hc
    have hL : ∀ x ∈ pairsOf a, x.1 < a.length ∧ x.2 < a.length := fun x hx => prs_in hc ((mem_pairsOf ha x.1 x.2).mp hx)
    have all := puts_zeros ((pairsOf a).map fun x => (x.2, x.1)) a.length (fun v hv => by
      obtain ⟨x, hx, rfl⟩ := List.mem_map.mp hv
      have := hL x hx
      exact ⟨this.2, by show x.1 < 64; omega⟩)
    refine ⟨_, Ev.bind (may_f ha) (ev_if hc (ev_if (by omega) (ev_if (by omega) (Ev.bind (pairs_f ha hc) (back_l0 a.length hn (pairsOf a) hL (by have := pairs_len a hn; omega) (pairsOf a).length 0 _ rfl (by omega) (Ok.zeros _)))))), fun _ => ?_, fun h => (by cases h)⟩
    refine ⟨all.1, all.2.1, fun p hp q => (all.2.2 p hp q).trans ?_⟩
    rw [Bool.eq_iff_iff, decide_eq_true_eq]
    constructor
    · intro h
      obtain ⟨x, hx, e⟩ := List.mem_map.mp h
      cases e
      exact (mem_pairsOf ha x.1 x.2).mp hx
    · intro h
      exact List.mem_map.mpr ⟨(q, p), (mem_pairsOf ha q p).mpr h, rfl⟩
/-! none, and from pairs -/
end Go.Proofs.YtcehnbneiabaaaaDoor.PR
