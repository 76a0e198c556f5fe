/- RelAny: what each call tells of any rows. For all rows, sets and numbers. -/
import Derived.Test.YtcehnbneiabaaaaDoorRelA
import Derived.Test.YtcehnbneiabaaaaDoorPRx5
import Derived.Test.YtcehnbneiabaaaaDoorPRx18
namespace Go.Proofs.YtcehnbneiabaaaaDoor.Pure
open Go.RowKit Go.Proofs.YtcehnbneiabaaaaDoor.PR Go.Proofs.YtcehnbneiabaaaaDoorW.PrintWords Go.Proofs.YtcehnbneiabaaaaDoorW.PrintLast
set_option linter.unusedVariables false
set_option linter.unusedSimpArgs false

theorem bne_no (x : Bool) : ¬ ((x != x) = true) := by simp
theorem got_ev {f g : Nat → Option (List Int)} {c : Bool} {n : Nat} {S S' : Nat → Nat → Bool} (hn : c = true → n ≤ 64) (h : Got f c n S) (h' : Got g c n S') (hS : ∀ p q, S p q = S' p q) : ∃ r, Ev f r ∧ Ev g r ∧ r.length ≤ 1000000 := by
  obtain ⟨r, e1, e2, h1, h2⟩ := h.same h' (fun _ p _ q _ => hS p q)
  refine ⟨r, e1, e2, ?_⟩
  cases hc : c with
  | true =>
    have := (h1 hc).1
    have := hn hc
    omega
  | false =>
    rw [h2 hc]
    simp
theorem relHas_any {r : List Int} (h : Us r) (x y : Int) : Ev (fun k => rel_Has.f k r x y) (mayB r && atB r x y) := by
  unfold rel_Has.f
  refine Ev.bind (may_f h) (ev_ite (fun hm => ?_) (fun hm => ?_))
  · unfold atB
    refine ev_ite (fun h0 => ev_ite (fun h1 => ?_) (fun h1 => ?_)) (fun h0 => ?_)
    · refine ev_if h0 (ev_bind0 (has_f (h.at_ _) _) (ev_eq (Ev.now _) ?_))
      have : decide (0 ≤ x ∧ x < (r.length : Int)) = true := by simp; omega
      rw [hm, this]
      rfl
    · refine ev_eq (Ev.now _) ?_
      have : decide (0 ≤ x ∧ x < (r.length : Int)) = false := by simp; omega
      rw [this]
      simp
    · refine ev_eq (Ev.now _) ?_
      have : decide (0 ≤ x ∧ x < (r.length : Int)) = false := by simp; omega
      rw [this]
      simp
  · have hm : mayB r = false := by simpa using hm
    refine ev_eq (Ev.now _) ?_
    rw [hm]
    rfl
theorem same_refl (X : List S28) (hl : X.length ≤ 1000000) : Ev (fun k => withelaw2_same.f k X X) true := by
  unfold withelaw2_same.f
  refine ev_if rfl ?_
  have key : ∀ (d i : Nat), X.length - i = d → i ≤ X.length → Ev (fun k => withelaw2_same.l0 k X X (i : Int)) true := by
    intro d
    induction d with
    | zero =>
      intro i h1 h2
      exact Ev.step (fun k => by simp only [withelaw2_same.l0]; rfl) (ev_else (by omega) (Ev.now _))
    | succ d ih =>
      intro i h1 h2
      refine Ev.step (fun k => by simp only [withelaw2_same.l0]; rfl) (ev_if (by omega) (ev_if (by omega) (ev_if (by omega) (ev_else (by simp) ?_))))
      rw [w64 (by omega) (by omega)]
      exact ih (i + 1) (by omega) (by omega)
  exact key X.length 0 rfl (by omega)
/-! what comes of the double loop -/
def intoL (s : Int) (l : List (Nat × Nat)) (acc : Int) : Int := l.foldl (fun acc x => if hasB s (x.1 : Int) = true then bits .or .u64 acc (oneI (x.2 : Int)) else acc) acc
theorem intoL_spec {s : Int} (hs : U s) : ∀ (l : List (Nat × Nat)) (acc : Int), U acc → U (intoL s l acc) ∧ ∀ q, q < 64 → tb (intoL s l acc) q = (tb acc q || l.any fun x => tb s x.1 && decide (x.2 = q))
  | [], acc, h => ⟨h, fun q _ => by simp [intoL]⟩
  | x :: l, acc, h => by
    have hU : U (if hasB s (x.1 : Int) = true then bits .or .u64 acc (oneI (x.2 : Int)) else acc) := by
      split
      · exact or_U h (one_U _)
      · exact h
    have h1 := intoL_spec hs l _ hU
    refine ⟨h1.1, fun q hq => ?_⟩
    show tb (intoL s l _) q = _
    rw [h1.2 q hq, List.any_cons, ← Bool.or_assoc]
    congr 1
    rw [hasB_nat hs]
    cases e : tb s x.1 with
    | false => rw [if_neg (by simp)]; simp
    | true =>
      rw [if_pos rfl, or_tb h (one_U _), one_tb]
      congr 1
      rw [Bool.eq_iff_iff]
      simp
      omega
def cell (a : List Int) (i k : Nat) : List (Nat × Nat) := if prs a i k = true then [(i, k)] else []
theorem flat_filter (i : Nat) (f : Nat → Bool) : ∀ l : List Nat, (l.flatMap fun k => if f k = true then [(i, k)] else []) = (l.filter f).map fun b => (i, b)
  | [] => rfl
  | x :: l => by
    rw [List.flatMap_cons, flat_filter i f l]
    cases e : f x <;> simp [List.filter_cons, e]
theorem row_cells {a : List Int} (hm : mayB a = true) (i : Nat) : (List.range a.length).flatMap (cell a i) = (els (rd a (i : Int))).map fun b => (i, b) := by
  have h1 := flat_filter i (prs a i) (List.range a.length)
  have hn := may_len hm
  refine (show _ = _ from h1).trans ?_
  congr 1
  unfold els
  have e : List.range 64 = List.range a.length ++ (List.range (64 - a.length)).map (a.length + ·) := by
    rw [← List.range_add, show a.length + (64 - a.length) = 64 by omega]
  rw [e, List.filter_append]
  have : ((List.range (64 - a.length)).map (a.length + ·)).filter (tb (rd a (i : Int))) = [] := by
    rw [List.filter_eq_nil_iff]
    intro q hq hh
    obtain ⟨j, _, rfl⟩ := List.mem_map.mp hq
    have := (prs_in hm (p := i) (q := a.length + j) hh).2
    omega
  rw [this, List.append_nil]
  rfl
theorem all_cells {a : List Int} (hm : mayB a = true) : ((List.range a.length).flatMap fun i => (List.range a.length).flatMap (cell a i)) = pairsOf a := by
  unfold pairsOf
  congr 1
  funext i
  exact row_cells hm i
theorem cell_le (a : List Int) (i k : Nat) : (cell a i k).length ≤ 1 := by
  unfold cell
  split <;> simp
theorem pairs_cnt (a : List Int) : (pairsOf a).length = cnt a := by
  unfold pairsOf cnt cntU
  rw [List.length_flatMap]
  congr 1
  refine List.map_congr_left fun i _ => ?_
  rw [List.length_map]
theorem any_l1 {a : List Int} (ha : Us a) (hn : a.length ≤ 64) (b : List Int) {s : Int} (hs : U s) (x y : Int) (i : Nat) (hi : i < a.length) (R : Bool) : ∀ (d k : Nat) (L : List (Nat × Nat)), a.length - k = d → k ≤ a.length → L.length ≤ i * 64 + k →
    (∀ L' : List (Nat × Nat), L'.length ≤ (i + 1) * 64 → L' = L ++ (List.range' k (a.length - k)).flatMap (cell a i) → Ev (fun n => withelaw2_RelAny.l0 n a b s x y (L'.map toS) (intoL s L' 0) ((i + 1 : Nat) : Int)) R) →
    Ev (fun n => withelaw2_RelAny.l1 n a b s x y (L.map toS) (intoL s L 0) (i : Int) (k : Int)) R := by
  intro d
  induction d with
  | zero =>
    intro k L h1 h2 h3 h
    refine Ev.step (fun n => by simp only [withelaw2_RelAny.l1]; rfl) (ev_else (by omega) ?_)
    rw [w64 (by omega) (by omega)]
    refine h L (by omega) ?_
    rw [h1]
    simp
  | succ d ih =>
    intro k L h1 h2 h3 h
    have hU : U (intoL s L 0) := (intoL_spec hs L 0 U_zero).1
    have next : Ev (fun n => withelaw2_RelAny.l1 n a b s x y ((L ++ cell a i k).map toS) (intoL s (L ++ cell a i k) 0) (i : Int) ((k + 1 : Nat) : Int)) R := by
      refine ih (k + 1) (L ++ cell a i k) (by omega) (by omega) (by rw [List.length_append]; have := cell_le a i k; omega) (fun L' h4 h5 => h L' h4 ?_)
      rw [h5, show a.length - k = (a.length - (k + 1)) + 1 by omega, List.range'_succ, List.flatMap_cons, List.append_assoc]
    refine Ev.step (fun n => by simp only [withelaw2_RelAny.l1]; rfl) (ev_if (by omega) (ev_bind0 (refAt_f ha _ _) ?_))
    rw [atB_prs ha hi, w64 (by omega) (by omega)]
    have e0 : intoL s (L ++ cell a i k) 0 = intoL s (cell a i k) (intoL s L 0) := by
      unfold intoL
      rw [List.foldl_append]
    rw [e0, List.map_append] at next
    unfold cell at next
    cases e1 : prs a i k with
    | false =>
      rw [e1, if_neg (by simp), List.map_nil, List.append_nil] at next
      exact ev_else (by simp) next
    | true =>
      rw [e1, if_pos rfl] at next
      refine ev_if rfl (ev_if (by rw [List.length_map]; omega) (ev_bind0 rfl (ev_bind0 (refHas_f hs _) ?_)))
      cases e2 : hasB s (i : Int) with
      | false =>
        have e3 : intoL s [(i, k)] (intoL s L 0) = intoL s L 0 := by
          show (if hasB s (i : Int) = true then _ else _) = _
          rw [e2, if_neg (by simp)]
        rw [e3] at next
        exact ev_else (by simp) next
      | true =>
        have e3 : intoL s [(i, k)] (intoL s L 0) = bits .or .u64 (intoL s L 0) (oneI (k : Int)) := by
          show (if hasB s (i : Int) = true then _ else _) = _
          rw [e2, if_pos rfl]
        rw [e3] at next
        exact ev_if rfl (Ev.bind (refPut_f hU _) next)
theorem any_l0 {a : List Int} (ha : Us a) (hm : mayB a = true) (b : List Int) {s : Int} (hs : U s) (x y : Int) (R : Bool) (h : Ev (fun n => withelaw2_RelAny.j3 n a b s x y ((pairsOf a).map toS) (intoL s (pairsOf a) 0)) R) : Ev (fun n => withelaw2_RelAny.l0 n a b s x y [] 0 0) R := by
  have hn := may_len hm
  have key : ∀ (d i : Nat) (L : List (Nat × Nat)), a.length - i = d → i ≤ a.length → L.length ≤ i * 64 → L ++ ((List.range' i (a.length - i)).flatMap fun i => (List.range a.length).flatMap (cell a i)) = pairsOf a →
      Ev (fun n => withelaw2_RelAny.l0 n a b s x y (L.map toS) (intoL s L 0) (i : Int)) R := by
    intro d
    induction d with
    | zero =>
      intro i L h1 h2 h3 h4
      refine Ev.step (fun n => by simp only [withelaw2_RelAny.l0]; rfl) (ev_else (by omega) ?_)
      rw [h1] at h4
      have : L = pairsOf a := by simpa using h4
      rw [this]
      exact h
    | succ d ih =>
      intro i L h1 h2 h3 h4
      refine Ev.step (fun n => by simp only [withelaw2_RelAny.l0]; rfl) (ev_if (by omega) ?_)
      refine any_l1 ha hn b hs x y i (by omega) R a.length 0 L rfl (by omega) (by omega) fun L' h5 h6 => ih (i + 1) L' (by omega) (by omega) h5 ?_
      rw [h6, ← h4, show a.length - i = (a.length - (i + 1)) + 1 by omega, List.range'_succ, List.flatMap_cons, List.append_assoc, Nat.sub_zero, ← List.range_eq_range']
  refine key a.length 0 [] rfl (by omega) (by simp) ?_
  rw [Nat.sub_zero, ← List.range_eq_range', List.nil_append]
  exact all_cells hm
theorem into_same {a : List Int} (ha : Us a) (hm : mayB a = true) {s : Int} (hs : U s) : intoI a s = intoL s (pairsOf a) 0 := by
  have hn := may_len hm
  have h1 := into_spec ha hn hs
  have h2 := intoL_spec hs (pairsOf a) 0 U_zero
  refine tb_ext h1.1 h2.1 fun q hq => ?_
  rw [h1.2 q, h2.2 q hq, tb_zero, Bool.false_or, Bool.eq_iff_iff]
  simp only [List.any_eq_true, List.mem_range, Bool.and_eq_true, decide_eq_true_eq]
  constructor
  · rintro ⟨y, hy, h3, h4⟩
    exact ⟨(y, q), (mem_pairsOf ha y q).mpr h4, h3, rfl⟩
  · rintro ⟨v, hv, h3, rfl⟩
    have h4 := (mem_pairsOf ha v.1 v.2).mp hv
    exact ⟨v.1, (prs_in hm h4).1, h3, h4⟩
theorem any_j5 {a b : List Int} (ha : Us a) (hb : Us b) {s : Int} (hs : U s) : Ev (fun n => withelaw2_RelAny.j5 n a b s false) true := by
  have h64 : both a b = true → a.length ≤ 64 := fun h => may_len ((both_iff a b).mp h).1
  obtain ⟨r1, e1, f1, l1⟩ := got_ev h64 (and_got ha hb) (refTwo_got ha hb 0 (.inl rfl)) (fun _ _ => rfl)
  obtain ⟨r2, e2, f2, l2⟩ := got_ev h64 (or_got ha hb) (refTwo_got ha hb 1 (.inr (.inl rfl))) (fun _ _ => rfl)
  obtain ⟨r3, e3, f3, l3⟩ := got_ev h64 (less_got ha hb) (refTwo_got ha hb 2 (.inr (.inr rfl))) (fun _ _ => rfl)
  obtain ⟨r4, e4, f4, l4⟩ := got_ev may_len (back_got ha) (refBack_got ha) (fun _ _ => rfl)
  obtain ⟨r5, e5, f5, l5⟩ := got_ev may_len (keep_got ha hs) (refKeep_got ha hs) (fun _ _ => rfl)
  have sm : ∀ r : List Int, r.length ≤ 1000000 → Ev (fun n => witheref1_SameRel.f n r r) true := fun r hr => ev_eq (sameRel_f r r hr) (by simp)
  refine Ev.step (fun n => by simp only [withelaw2_RelAny.j5]; rfl) (ev_else (show ¬ (false = true) by decide) ?_)
  refine Ev.bind e1 (Ev.bind f1 (Ev.bind (sm r1 l1) (ev_if rfl ?_)))
  refine Ev.bind e2 (Ev.bind f2 (Ev.bind (sm r2 l2) (ev_if rfl ?_)))
  refine Ev.bind e3 (Ev.bind f3 (Ev.bind (sm r3 l3) (ev_if rfl ?_)))
  refine Ev.bind e4 (Ev.bind f4 (Ev.bind (sm r4 l4) (ev_if rfl ?_)))
  exact Ev.bind e5 (Ev.bind f5 (Ev.bind (sm r5 l5) (Ev.now _)))
theorem any_j3 {a b : List Int} (ha : Us a) (hb : Us b) (hal : a.length ≤ 70) {s : Int} (hs : U s) (x y : Int) (P : List S28) (I : Int) (hP : Ev (fun n => rel_Pairs.f n a) P) (hPl : P.length ≤ 1000000) (hC : Ev (fun n => rel_Count.f n a) (P.length : Int)) (hI : Ev (fun n => rel_Into.f n a s) I) : Ev (fun n => withelaw2_RelAny.j3 n a b s x y P I) true := by
  have j4 : Ev (fun n => withelaw2_RelAny.j4 n a b s x y P I (mayB a && atB a x y)) true := by
    refine Ev.step (fun n => by simp only [withelaw2_RelAny.j4]; rfl) (Ev.bind (may_f ha) (Ev.bind (refMay_f ha) (ev_else (bne_no _) (Ev.bind hP (Ev.bind (same_refl P hPl) (ev_if rfl (Ev.bind (relHas_any ha x y) (ev_else (bne_no _) (Ev.bind hC (ev_if rfl (Ev.bind (same_f a b (by omega)) (Ev.bind (sameRel_f a b (by omega)) (ev_else (bne_no _) (Ev.bind hI ?_))))))))))))))
    rw [show (I != I) = false by simp]
    exact any_j5 ha hb hs
  refine Ev.step (fun n => by simp only [withelaw2_RelAny.j3]; rfl) (Ev.bind (refMay_f ha) (ev_ite (fun hm => ?_) (fun hm => ?_)))
  · rw [hm, Bool.true_and] at j4
    unfold atB at j4
    refine ev_ite (fun h0 => ev_ite (fun h1 => ?_) (fun h1 => ?_)) (fun h0 => ?_)
    · have : decide (0 ≤ x ∧ x < (a.length : Int)) = true := by simp; omega
      rw [this, Bool.true_and] at j4
      exact ev_if h0 (ev_bind0 (refHas_f (ha.at_ _) _) j4)
    · have : decide (0 ≤ x ∧ x < (a.length : Int)) = false := by simp; omega
      rw [this, Bool.false_and] at j4
      exact j4
    · have : decide (0 ≤ x ∧ x < (a.length : Int)) = false := by simp; omega
      rw [this, Bool.false_and] at j4
      exact j4
  · have hm : mayB a = false := by simpa using hm
    rw [hm, Bool.false_and] at j4
    exact j4
theorem RelAny : withelaw2_RelAny.Pure := by
  intro a b s x y
  intros
  refine Ev.rounds ?_
  unfold withelaw2_RelAny.f
  refine Ev.bind begun_ev (ev_if rfl ?_)
  have stop : Ev (fun k => withelaw2_RelAny.j0 k a b s x y true) true := Ev.step (fun k => by simp only [withelaw2_RelAny.j0]; rfl) (ev_if (show true = true from rfl) (Ev.now _))
  refine ev_ite (fun _ => stop) (fun b0 => ?_)
  by_cases b1 : (b.length : Int) > 70
  · rw [show decide ((b.length : Int) > 70) = true by simpa using b1]
    exact stop
  · rw [show decide ((b.length : Int) > 70) = false by simpa using b1]
    have ha : Us a := Us_wf (by assumption)
    have hb : Us b := Us_wf (by assumption)
    have hs : U s := wf_u64 (by assumption)
    refine Ev.step (fun k => by simp only [withelaw2_RelAny.j0]; rfl) (ev_else (show ¬ (false = true) by decide) (Ev.bind (refMay_f ha) (ev_ite (fun hm => ?_) (fun hm => ?_))))
    · have hn := may_len hm
      have hpl := pairs_cnt a
      have hcl := cnt_le hn
      refine any_l0 ha hm b hs x y true (any_j3 ha hb (by omega) hs x y _ _ (pairs_f ha hm) (by rw [List.length_map]; omega) ?_ ?_)
      · rw [List.length_map, hpl]
        exact count_f ha hm
      · unfold rel_Into.f
        refine Ev.bind (may_f ha) (ev_if hm (Ev.bind (into_f ha hn hs) (ev_eq (Ev.now _) (into_same ha hm hs))))
    · have hm : mayB a = false := by simpa using hm
      refine any_j3 ha hb (by omega) hs x y [] 0 (pairs_none ha hm) (by simp) (count_bad ha hm) ?_
      unfold rel_Into.f
      exact Ev.bind (may_f ha) (ev_else (by rw [hm]; simp) (Ev.now _))
end Go.Proofs.YtcehnbneiabaaaaDoor.Pure
