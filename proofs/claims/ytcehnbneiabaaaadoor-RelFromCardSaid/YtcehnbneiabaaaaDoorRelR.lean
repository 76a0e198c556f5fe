/- Relations that may be: or, and, less, behind, turned about, none, from pairs: each said of its pairs. -/
import Derived.Test.YtcehnbneiabaaaaDoorRelT
import Derived.Test.YtcehnbneiabaaaaDoorPRx6
import Derived.Test.YtcehnbneiabaaaaDoorPRx7
import Derived.Test.YtcehnbneiabaaaaDoorPRx8
import Derived.Test.YtcehnbneiabaaaaDoorPRx10
import Derived.Test.YtcehnbneiabaaaaDoorPRx4
namespace Go.Proofs.YtcehnbneiabaaaaDoor.PR
open Go.RowKit Go.Proofs.YtcehnbneiabaaaaDoorW.PrintWords Go.Proofs.YtcehnbneiabaaaaDoorW.PrintLast Go.Proofs.YtcehnbneiabaaaaDoorW.PrintMore
set_option linter.unusedVariables false
set_option linter.unusedSimpArgs false

theorem OkN.lt {n : Nat} {r : List Int} (h : OkN n r) {p q : Nat} (hpq : prs r p q = true) : p < n ∧ q < n := by
  refine ⟨?_, h.2.2 p q hpq⟩
  by_cases hp : p < n
  · exact hp
  · rw [prs_far (by rw [h.1]; omega)] at hpq
    cases hpq
theorem OkN.uniq {n : Nat} {r r' : List Int} (h : OkN n r) (h' : OkN n r') (e : ∀ p q, prs r p q = true ↔ prs r' p q = true) : r = r' :=
  Is.uniq (n := n) (S := prs r) (S' := prs r') ⟨h.1, h.2.1, fun _ _ _ => rfl⟩ ⟨h'.1, h'.2.1, fun _ _ _ => rfl⟩ (fun p _ q _ => by
    have := e p q
    rw [Bool.eq_iff_iff]
    exact this)
theorem OkN.of_is {n : Nat} {r : List Int} {S : Nat → Nat → Bool} (h : Is r n S) (hS : ∀ p q, p < n → S p q = true → q < n) : OkN n r ∧ ∀ p q, prs r p q = true ↔ p < n ∧ S p q = true := by
  have key : ∀ p q, prs r p q = true ↔ p < n ∧ S p q = true := by
    intro p q
    by_cases hp : p < n
    · rw [show prs r p q = S p q from h.2.2 p hp q]
      exact ⟨fun h => ⟨hp, h⟩, fun h => h.2⟩
    · rw [prs_far (by rw [h.1]; omega)]
      exact ⟨fun h => (by cases h), fun h => absurd h.1 hp⟩
  exact ⟨⟨h.1, h.2.1, fun p q hpq => hS p q ((key p q).mp hpq).1 ((key p q).mp hpq).2⟩, key⟩
theorem OkN.both {n : Nat} {a b : List Int} (ha : OkN n a) (hb : OkN n b) (hn : n ≤ 64) : both a b = true := (both_iff a b).mpr ⟨ha.may hn, hb.may hn, by rw [ha.1, hb.1]⟩
theorem thenOk {n : Nat} {a b : List Int} (ha : OkN n a) (hb : OkN n b) (hn : n ≤ 64) : ∃ r, Ev (fun k => rel_Then.f k a b) r ∧ OkN n r ∧ ∀ p q, prs r p q = true ↔ ∃ y, prs a p y = true ∧ prs b y q = true := by
  obtain ⟨r, e, h, _⟩ := then_got ha.2.1 hb.2.1
  have hI := h (ha.both hb hn)
  rw [ha.1] at hI
  have hmem : ∀ p q, thenS a b p q = true ↔ ∃ y, prs a p y = true ∧ prs b y q = true := by
    intro p q
    unfold thenS
    simp only [List.any_eq_true, List.mem_range, Bool.and_eq_true]
    constructor
    · rintro ⟨y, _, h1, h2⟩
      exact ⟨y, h1, h2⟩
    · rintro ⟨y, h1, h2⟩
      exact ⟨y, by have := (hb.lt h2).1; rw [hb.1]; omega, h1, h2⟩
  obtain ⟨hok, hp⟩ := OkN.of_is hI (fun p q _ hS => by
    obtain ⟨y, _, h2⟩ := (hmem p q).mp hS
    exact (hb.lt h2).2)
  refine ⟨r, e, hok, fun p q => (hp p q).trans ?_⟩
  rw [hmem]
  exact ⟨fun h => h.2, fun h => ⟨by obtain ⟨y, h1, _⟩ := h; exact (ha.lt h1).1, h⟩⟩
/-! two by two -/
theorem or_got {a b : List Int} (ha : Us a) (hb : Us b) : Got (fun k => rel_Or.f k a b) (both a b) a.length (fun p q => prs a p q || prs b p q) := by
  unfold rel_Or.f rel_pair_made_at_rel_pair_or.f
  cases hc : both a b with
  | false => exact ⟨[], Ev.bind (Ev.bind (pair_may_f ha hb) (ev_else (by rw [hc]; simp) (Ev.now _))) (Ev.now _), fun h => (by cases h), fun _ => rfl⟩
  | true =>
    obtain ⟨h1, h2, h3⟩ := (both_iff a b).mp hc
    have hn := may_len h1
    refine ⟨(List.range a.length).map fun (i : Nat) => bits .or .u64 (rd a (i : Int)) (rd b (i : Int)), Ev.bind (Ev.bind (pair_may_f ha hb) (ev_if hc (Ev.bind ?_ (Ev.now _)))) (Ev.now _), fun _ => ?_, fun h => (by cases h)⟩
    · unfold rel_made_at_rel_pair_or.f
      refine ev_if (by omega) (ev_if (by omega) (ev_bind0 rfl ?_))
      have := made_ev (fun k x5 x10 x11 => rel_made_at_rel_pair_or.l0 k x5 x10 x11 a b) (fun k i => rel_pair_or.f a b i) a.length hn (fun (i : Nat) => bits .or .u64 (rd a (i : Int)) (rd b (i : Int))) (fun _ _ _ _ => rfl) (fun i hi => by
        unfold rel_pair_or.f
        exact ev_if (by omega) (ev_if (by omega) (ev_if (by omega) (Ev.now _))))
      rw [List.length_replicate]
      exact this
    · have := Is_made a.length (fun (i : Nat) => bits .or .u64 (rd a (i : Int)) (rd b (i : Int))) (fun i _ => or_U (ha.at_ _) (hb.at_ _))
      exact ⟨this.1, this.2.1, fun p hp q => (this.2.2 p hp q).trans (or_tb (ha.at_ _) (hb.at_ _) q)⟩
theorem less_got {a b : List Int} (ha : Us a) (hb : Us b) : Got (fun k => rel_Less.f k a b) (both a b) a.length (fun p q => prs a p q && !prs b p q) := by
  unfold rel_Less.f rel_pair_made_at_rel_pair_less.f
  cases hc : both a b with
  | false => exact ⟨[], Ev.bind (Ev.bind (pair_may_f ha hb) (ev_else (by rw [hc]; simp) (Ev.now _))) (Ev.now _), fun h => (by cases h), fun _ => rfl⟩
  | true =>
    obtain ⟨h1, h2, h3⟩ := (both_iff a b).mp hc
    have hn := may_len h1
    refine ⟨(List.range a.length).map fun (i : Nat) => bits .andNot .u64 (rd a (i : Int)) (rd b (i : Int)), Ev.bind (Ev.bind (pair_may_f ha hb) (ev_if hc (Ev.bind ?_ (Ev.now _)))) (Ev.now _), fun _ => ?_, fun h => (by cases h)⟩
    · unfold rel_made_at_rel_pair_less.f
      refine ev_if (by omega) (ev_if (by omega) (ev_bind0 rfl ?_))
      have := made_ev (fun k x5 x10 x11 => rel_made_at_rel_pair_less.l0 k x5 x10 x11 a b) (fun k i => rel_pair_less.f a b i) a.length hn (fun (i : Nat) => bits .andNot .u64 (rd a (i : Int)) (rd b (i : Int))) (fun _ _ _ _ => rfl) (fun i hi => by
        unfold rel_pair_less.f
        exact ev_if (by omega) (ev_if (by omega) (ev_if (by omega) (Ev.now _))))
      rw [List.length_replicate]
      exact this
    · have := Is_made a.length (fun (i : Nat) => bits .andNot .u64 (rd a (i : Int)) (rd b (i : Int))) (fun i _ => less_U (ha.at_ _) (hb.at_ _))
      exact ⟨this.1, this.2.1, fun p hp q => (this.2.2 p hp q).trans (less_tb (ha.at_ _) (hb.at_ _) q)⟩
theorem or_ok {n : Nat} {a b : List Int} (ha : OkN n a) (hb : OkN n b) (hn : n ≤ 64) : ∃ r, Ev (fun k => rel_Or.f k a b) r ∧ OkN n r ∧ ∀ p q, prs r p q = true ↔ prs a p q = true ∨ prs b p q = true := by
  obtain ⟨r, e, h, _⟩ := or_got ha.2.1 hb.2.1
  have hI := h (ha.both hb hn)
  rw [ha.1] at hI
  obtain ⟨hok, hp⟩ := OkN.of_is hI (fun p q _ hS => by
    rcases (Bool.or_eq_true _ _).mp hS with h | h
    · exact (ha.lt h).2
    · exact (hb.lt h).2)
  refine ⟨r, e, hok, fun p q => (hp p q).trans ?_⟩
  rw [Bool.or_eq_true]
  exact ⟨fun h => h.2, fun h => ⟨by rcases h with h | h; exact (ha.lt h).1; exact (hb.lt h).1, h⟩⟩
theorem less_ok {n : Nat} {a b : List Int} (ha : OkN n a) (hb : OkN n b) (hn : n ≤ 64) : ∃ r, Ev (fun k => rel_Less.f k a b) r ∧ OkN n r ∧ ∀ p q, prs r p q = true ↔ prs a p q = true ∧ prs b p q = false := by
  obtain ⟨r, e, h, _⟩ := less_got ha.2.1 hb.2.1
  have hI := h (ha.both hb hn)
  rw [ha.1] at hI
  obtain ⟨hok, hp⟩ := OkN.of_is hI (fun p q _ hS => (ha.lt ((Bool.and_eq_true _ _).mp hS).1).2)
  refine ⟨r, e, hok, fun p q => (hp p q).trans ?_⟩
  rw [Bool.and_eq_true, Bool.not_eq_true']
  exact ⟨fun h => h.2, fun h => ⟨(ha.lt h.1).1, h⟩⟩
/-! pairs -/
def toS (x : Nat × Nat) : S28 := ⟨(x.1 : Int), (x.2 : Int)⟩
def pairsOf (r : List Int) : List (Nat × Nat) := (List.range r.length).flatMap fun (a : Nat) => (els (rd r (a : Int))).map fun b => (a, b)
theorem mem_pairsOf {r : List Int} (h : Us r) (p q : Nat) : (p, q) ∈ pairsOf r ↔ prs r p q = true := by
  unfold pairsOf
  simp only [List.mem_flatMap, List.mem_range, List.mem_map]
  constructor
  · rintro ⟨a, ha, b, hb, e⟩
    cases e
    exact (mem_els (h.at_ _) _).mp hb
  · intro hpq
    refine ⟨p, ?_, q, (mem_els (h.at_ _) _).mpr hpq, rfl⟩
    by_cases hp : p < r.length
    · exact hp
    · rw [prs_far (by omega)] at hpq
      cases hpq
theorem pairs_l1 (r : List Int) (x : Nat) (ls : List Nat) (R : List S28) : ∀ (d i : Nat) (acc : List S28), ls.length - i = d → i ≤ ls.length → ls.length ≤ 64 → acc.length + (ls.length - i) ≤ 1000000 →
    Ev (fun k => rel_Pairs.l0 k (acc ++ (ls.drop i).map fun (b : Nat) => toS (x, b)) r (r.length : Int) (wrap64 ((x : Int) + 1))) R →
    Ev (fun k => rel_Pairs.l1 k acc (x : Int) r (r.length : Int) (x : Int) (ls.map Int.ofNat) ((ls.map Int.ofNat).length : Int) (i : Int)) R := by
  intro d
  induction d with
  | zero =>
    intro i acc h1 h2 h64 h3 h
    refine Ev.step (fun k => by simp only [rel_Pairs.l1]; rfl) (ev_else (by simp; omega) ?_)
    rw [List.drop_of_length_le (by omega)] at h
    simpa using h
  | succ d ih =>
    intro i acc h1 h2 h64 h3 h
    have hi : i < ls.length := by omega
    refine Ev.step (fun k => by simp only [rel_Pairs.l1]; rfl) (ev_if (by simp; omega) (ev_if (by omega) (ev_if (by simp; omega) (ev_if (by omega) ?_))))
    rw [rd_map ls i hi, w64 (by omega) (by omega)]
    refine ih (i + 1) _ (by omega) (by omega) h64 (by rw [List.length_append]; simp; omega) ?_
    rw [List.drop_eq_getElem_cons hi, List.map_cons] at h
    rw [List.append_assoc]
    exact h
theorem pairs_f {r : List Int} (h : Us r) (hm : mayB r = true) : Ev (fun k => rel_Pairs.f k r) ((pairsOf r).map toS) := by
  unfold rel_Pairs.f
  have hn := may_len hm
  refine Ev.bind (may_f h) (ev_if hm ?_)
  have key : ∀ (d x : Nat) (acc : List S28), r.length - x = d → x ≤ r.length → acc.length ≤ x * 64 →
      Ev (fun k => rel_Pairs.l0 k acc r (r.length : Int) (x : Int)) (acc ++ ((List.range' x (r.length - x)).flatMap fun (a : Nat) => (els (rd r (a : Int))).map fun b => (a, b)).map toS) := by
    intro d
    induction d with
    | zero =>
      intro x acc h1 h2 h3
      refine Ev.step (fun k => by simp only [rel_Pairs.l0]; rfl) (ev_else (by omega) (ev_eq (Ev.now _) ?_))
      rw [show r.length - x = 0 by omega]
      simp
    | succ d ih =>
      intro x acc h1 h2 h3
      have hel := els_len (rd r (x : Int))
      refine Ev.step (fun k => by simp only [rel_Pairs.l0]; rfl) (ev_if (by omega) (ev_if (by omega) (ev_if (by omega) (ev_bind0 (list_f (h.at_ _)) ?_))))
      refine pairs_l1 r x (els (rd r (x : Int))) _ (els (rd r (x : Int))).length 0 acc rfl (by omega) hel (by omega) ?_
      rw [w64 (by omega) (by omega)]
      refine ev_eq (ih (x + 1) _ (by omega) (by omega) (by rw [List.length_append, List.length_map, List.drop_zero]; omega)) ?_
      rw [show r.length - x = (r.length - (x + 1)) + 1 by omega, List.range'_succ, List.flatMap_cons, List.map_append, List.append_assoc, List.drop_zero, List.map_map]
      rfl
  have := key r.length 0 [] rfl (by omega) (by simp)
  rw [Nat.sub_zero, ← List.range_eq_range'] at this
  exact this
theorem pairs_none {r : List Int} (h : Us r) (hm : mayB r = false) : Ev (fun k => rel_Pairs.f k r) [] := by
  unfold rel_Pairs.f
  exact Ev.bind (may_f h) (ev_else (by rw [hm]; simp) (Ev.now _))
theorem rd_toS (L : List (Nat × Nat)) (i : Nat) (h : i < L.length) : rd_T28 (L.map toS) (i : Int) = toS L[i] := by
  unfold rd_T28
  rw [List.getD_eq_getElem?_getD, show ((i : Nat) : Int).toNat = i from rfl, List.getElem?_eq_getElem (by simpa using h)]
  simp
theorem back_l0 (n : Nat) (hn : n ≤ 64) (L : List (Nat × Nat)) (hL : ∀ x ∈ L, x.1 < n ∧ x.2 < n) (hl : L.length ≤ 1000000) : ∀ (d i : Nat) (o : List Int), L.length - i = d → i ≤ L.length → Ok n o →
    Ev (fun k => rel_Back.l0 k o (L.map toS) ((L.map toS).length : Int) (i : Int)) (putsL ((L.drop i).map fun x => (x.2, x.1)) o) := by
  intro d
  induction d with
  | zero =>
    intro i o h1 h2 ho
    refine Ev.step (fun k => by simp only [rel_Back.l0]; rfl) (ev_else (by simp; omega) (ev_eq (Ev.now _) ?_))
    rw [List.drop_of_length_le (by omega)]
    rfl
  | succ d ih =>
    intro i o h1 h2 ho
    have hi : i < L.length := by omega
    have hx := hL _ (List.getElem_mem hi)
    have hol := ho.1
    refine Ev.step (fun k => by simp only [rel_Back.l0]; rfl) (ev_if (by simp; omega) (ev_if (by omega) (ev_if (by simp; omega) ?_)))
    rw [rd_toS L i hi]
    refine ev_if (by show (0 : Int) ≤ ((L[i].2 : Nat) : Int); omega) (ev_if (by show ((L[i].2 : Nat) : Int) < _; omega) (ev_bind0 (put_f _ _) ?_))
    rw [w64 (by omega) (by omega)]
    have hput : Ok n (put1 o (L[i].2, L[i].1)) := ho.puts [(L[i].2, L[i].1)] (fun y hy => by
      rw [List.mem_singleton.mp hy]
      exact ⟨hx.2, by show L[i].1 < 64; omega⟩)
    refine ev_eq (ih (i + 1) (put1 o (L[i].2, L[i].1)) (by omega) (by omega) hput) ?_
    rw [List.drop_eq_getElem_cons hi, List.map_cons]
    rfl
theorem pairs_len (r : List Int) (hn : r.length ≤ 64) : (pairsOf r).length ≤ 4096 := by
  unfold pairsOf
  have : ∀ (l : List Nat), (l.flatMap fun (a : Nat) => (els (rd r (a : Int))).map fun b => (a, b)).length ≤ l.length * 64 := by
    intro l
    induction l with
    | nil => simp
    | cons x l ih =>
      rw [List.flatMap_cons, List.length_append, List.length_map, List.length_cons]
      have := els_len (rd r (x : Int))
      omega
  have := this (List.range r.length)
  rw [List.length_range] at this
  omega
theorem back_got {a : List Int} (ha : Us a) : Got (fun k => rel_Back.f k a) (mayB a) a.length (fun p q => prs a q p) := by
  unfold rel_Back.f
  cases hc : mayB a with
  | false => exact ⟨[], Ev.bind (may_f ha) (ev_else (by rw [hc]; simp) (Ev.now _)), fun h => (by cases h), fun _ => rfl⟩
  | true =>
    have hn := may_len hc
    have hL : ∀ x ∈ pairsOf a, x.1 < a.length ∧ x.2 < a.length := fun x hx => prs_in hc ((mem_pairsOf ha x.1 x.2).mp hx)
    have all := puts_zeros ((pairsOf a).map fun x => (x.2, x.1)) a.length (fun v hv => by
      obtain ⟨x, hx, rfl⟩ := List.mem_map.mp hv
      have := hL x hx
      exact ⟨this.2, by show x.1 < 64; omega⟩)
    refine ⟨_, Ev.bind (may_f ha) (ev_if hc (ev_if (by omega) (ev_if (by omega) (Ev.bind (pairs_f ha hc) (back_l0 a.length hn (pairsOf a) hL (by have := pairs_len a hn; omega) (pairsOf a).length 0 _ rfl (by omega) (Ok.zeros _)))))), fun _ => ?_, fun h => (by cases h)⟩
    refine ⟨all.1, all.2.1, fun p hp q => (all.2.2 p hp q).trans ?_⟩
    rw [Bool.eq_iff_iff, decide_eq_true_eq]
    constructor
    · intro h
      obtain ⟨x, hx, e⟩ := List.mem_map.mp h
      cases e
      exact (mem_pairsOf ha x.1 x.2).mp hx
    · intro h
      exact List.mem_map.mpr ⟨(q, p), (mem_pairsOf ha q p).mpr h, rfl⟩
theorem back_ok {n : Nat} {a : List Int} (ha : OkN n a) (hn : n ≤ 64) : ∃ r, Ev (fun k => rel_Back.f k a) r ∧ OkN n r ∧ ∀ p q, prs r p q = true ↔ prs a q p = true := by
  obtain ⟨r, e, h, _⟩ := back_got ha.2.1
  have hI := h (ha.may hn)
  rw [ha.1] at hI
  obtain ⟨hok, hp⟩ := OkN.of_is hI (fun p q _ hS => (ha.lt hS).1)
  exact ⟨r, e, hok, fun p q => (hp p q).trans ⟨fun h => h.2, fun h => ⟨(ha.lt h).2, h⟩⟩⟩
/-! none, and from pairs -/
theorem zeros_ok (n : Nat) : OkN n (List.replicate n 0) ∧ ∀ p q, prs (List.replicate n 0) p q = false := by
  have key : ∀ p q, prs (List.replicate n 0) p q = false := fun p q => by
    unfold prs
    rw [rd_zeros, tb_zero]
  exact ⟨⟨by simp, Us_zeros n, fun p q h => by rw [key] at h; cases h⟩, key⟩
theorem from_l0 (n : Nat) (hn : n ≤ 64) (L : List (Nat × Nat)) (hL : ∀ x ∈ L, x.1 < n ∧ x.2 < n) (hl : L.length ≤ 1000000) : ∀ (d i : Nat) (o : List Int), L.length - i = d → i ≤ L.length → Ok n o →
    Ev (fun k => rel_From.l0 k (n : Int) o (L.map toS) ((L.map toS).length : Int) (i : Int)) (putsL (L.drop i) o, true) := by
  intro d
  induction d with
  | zero =>
    intro i o h1 h2 ho
    refine Ev.step (fun k => by simp only [rel_From.l0]; rfl) (ev_else (by simp; omega) (ev_eq (Ev.now _) ?_))
    rw [List.drop_of_length_le (by omega)]
    rfl
  | succ d ih =>
    intro i o h1 h2 ho
    have hi : i < L.length := by omega
    have hx := hL _ (List.getElem_mem hi)
    have hol := ho.1
    refine Ev.step (fun k => by simp only [rel_From.l0]; rfl) (ev_if (by simp; omega) (ev_if (by omega) (ev_if (by simp; omega) ?_)))
    rw [rd_toS L i hi]
    have e0 : (toS L[i]).f0 = ((L[i].1 : Nat) : Int) := rfl
    have e1 : (toS L[i]).f1 = ((L[i].2 : Nat) : Int) := rfl
    rw [e0, e1]
    refine ev_else (by unfold mn; split <;> omega) (ev_else (by unfold mx; split <;> omega) (ev_if (by omega) (ev_if (by omega) (ev_bind0 (put_f _ _) ?_))))
    rw [w64 (by omega) (by omega)]
    have hput : Ok n (put1 o L[i]) := ho.puts [L[i]] (fun y hy => by
      rw [List.mem_singleton.mp hy]
      exact ⟨hx.1, by omega⟩)
    refine ev_eq (ih (i + 1) (put1 o L[i]) (by omega) (by omega) hput) ?_
    rw [List.drop_eq_getElem_cons hi]
    rfl
theorem from_f (n : Nat) (hn : n ≤ 64) (L : List (Nat × Nat)) (hL : ∀ x ∈ L, x.1 < n ∧ x.2 < n) (hl : L.length ≤ 1000000) : Ev (fun k => rel_From.f k (n : Int) (L.map toS)) (putsL L (List.replicate n 0), true) := by
  unfold rel_From.f
  refine ev_else (by omega) ?_
  rw [show decide ((n : Int) > 64) = false by simp; omega]
  refine Ev.step (fun k => by simp only [rel_From.j0]; rfl) (ev_else (show ¬ (false = true) by decide) (ev_if (by omega) (ev_if (by omega) ?_)))
  exact from_l0 n hn L hL hl L.length 0 _ rfl (by omega) (Ok.zeros n)
theorem from_ok (n : Nat) (hn : n ≤ 64) (L : List (Nat × Nat)) (hL : ∀ x ∈ L, x.1 < n ∧ x.2 < n) : OkN n (putsL L (List.replicate n 0)) ∧ ∀ p q, prs (putsL L (List.replicate n 0)) p q = true ↔ (p, q) ∈ L := by
  have all := puts_zeros L n (fun v hv => by have := hL v hv; exact ⟨this.1, by omega⟩)
  obtain ⟨hok, hp⟩ := OkN.of_is all (fun p q _ hS => (hL _ (by simpa using hS)).2)
  refine ⟨hok, fun p q => (hp p q).trans ?_⟩
  rw [decide_eq_true_eq]
  exact ⟨fun h => h.2, fun h => ⟨(hL _ h).1, h⟩⟩
theorem same_ok {n : Nat} {a b : List Int} (ha : OkN n a) (hb : OkN n b) (hn : n ≤ 64) (e : ∀ p q, prs a p q = true ↔ prs b p q = true) : Ev (fun k => rel_Same.f k a b) true :=
  ev_eq (same_f a b (by rw [ha.1]; omega)) (by rw [ha.uniq hb e]; simp)
theorem count_zeros (n : Nat) (hn : n ≤ 64) : Ev (fun k => rel_Count.f k (List.replicate n 0)) 0 := by
  unfold rel_Count.f
  refine Ev.bind (may_f (Us_zeros n)) (ev_if ((zeros_ok n).1.may hn) ?_)
  have key : ∀ (d i : Nat), n - i = d → i ≤ n → Ev (fun k => rel_Count.l0 k 0 (List.replicate n 0) ((List.replicate n (0 : Int)).length : Int) (i : Int)) 0 := by
    intro d
    induction d with
    | zero =>
      intro i h1 h2
      exact Ev.step (fun k => by simp only [rel_Count.l0]; rfl) (ev_else (by simp; omega) (Ev.now _))
    | succ d ih =>
      intro i h1 h2
      refine Ev.step (fun k => by simp only [rel_Count.l0]; rfl) (ev_if (by simp; omega) (ev_if (by omega) (ev_if (by simp; omega) ?_)))
      rw [rd_zeros]
      refine ev_bind0 (a := 0) (by kernel_rfl) ?_
      rw [w64 (n := 0 + 0) (by decide) (by decide), w64 (by omega) (by omega)]
      exact ih (i + 1) (by omega) (by omega)
  exact key n 0 rfl (by omega)
end Go.Proofs.YtcehnbneiabaaaaDoor.PR
