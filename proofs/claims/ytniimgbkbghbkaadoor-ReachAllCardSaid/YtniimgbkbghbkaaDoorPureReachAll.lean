/- ReachAll: what comes to what, whether there is an order, which one, and how deep all is. For all lists of numbers and all sets. -/
import Derived.Test.YtniimgbkbghbkaaDoorRchO
import Derived.Test.YtniimgbkbghbkaaDoorPHx8
import Derived.Test.YtniimgbkbghbkaaDoorPHx14
import Derived.Test.YtniimgbkbghbkaaDoorPHx17
import Derived.Test.YtniimgbkbghbkaaDoorPHx18
import Derived.Test.YtniimgbkbghbkaaDoorPHx19
namespace Go.Proofs.YtniimgbkbghbkaaDoor.Pure
open Go.RowKit Go.Proofs.YtniimgbkbghbkaaDoor.PH Go.Proofs.YtniimgbkbghbkaaDoorW.PrintWords Go.Proofs.YtniimgbkbghbkaaDoorW.PrintLast
set_option linter.unusedVariables false
set_option linter.unusedSimpArgs false

theorem bne_no (x : Bool) : ¬ ((x != x) = true) := by simp
theorem at_prs {r : List Int} (h : Us r) {x y : Nat} (hx : x < r.length) : atB r (x : Int) (y : Int) = prs r x y := by
  unfold atB prs
  have : decide (0 ≤ (x : Int) ∧ (x : Int) < (r.length : Int)) = true := by simp; omega
  rw [this, hasB_nat (h.at_ _), Bool.true_and]
theorem sameInts_refl (X : List Int) (hl : X.length ≤ 1000000) : Ev (fun k => witheref1_SameInts.f k X X) true := by
  unfold witheref1_SameInts.f
  refine ev_if rfl ?_
  have key : ∀ (d i : Nat), X.length - i = d → i ≤ X.length → Ev (fun k => witheref1_SameInts.l0 k X X (i : Int)) true := by
    intro d
    induction d with
    | zero =>
      intro i h1 h2
      exact Ev.step (fun k => by simp only [witheref1_SameInts.l0]; rfl) (ev_else (by omega) (Ev.now _))
    | succ d ih =>
      intro i h1 h2
      refine Ev.step (fun k => by simp only [witheref1_SameInts.l0]; rfl) (ev_if (by omega) (ev_if (by omega) (ev_if (by omega) (ev_if (Eq.refl (rd X (i : Int))) ?_))))
      rw [w64 (by omega) (by omega)]
      exact ih (i + 1) (by omega) (by omega)
  exact key X.length 0 rfl (by omega)
/-! the document's Plus -/
def withB (s t : Int) : Bool := (List.range 64).all fun q => !tb s q || tb t q
theorem withB_iff (s t : Int) : withB s t = true ↔ ∀ q, q < 64 → tb s q = true → tb t q = true := by
  unfold withB
  simp only [List.all_eq_true, List.mem_range, Bool.or_eq_true, Bool.not_eq_true']
  refine forall_congr' fun q => forall_congr' fun _ => ?_
  cases tb s q <;> simp
theorem within_f {s t : Int} (hs : U s) (ht : U t) : witheref1_Within.f s t = some (withB s t) := by
  unfold witheref1_Within.f
  refine congrArg some ?_
  rw [Bool.eq_iff_iff, beq_iff_eq, withB_iff]
  constructor
  · intro h q _ hq
    have := or_tb hs ht q
    rw [h, hq, Bool.true_or] at this
    exact this
  · intro h
    refine tb_ext (or_U hs ht) ht fun q hq => ?_
    rw [or_tb hs ht]
    cases e : tb s q with
    | false => rfl
    | true => rw [h q hq e]; rfl
/-- A round of the document's search from x: what is seen comes from x, and all of x's row is seen. -/
def Seen (a : List Int) (n x : Nat) (s : Int) : Prop := In n s ∧ (∀ q, prs a x q = true → tb s q = true) ∧ ∀ q, tb s q = true → TC (RR a) x q
theorem refPlus_round {n : Nat} (hn : n ≤ 64) {a : List Int} (ha : OkN n a) (o : List Int) (x : Nat) (hx : x < n) (R : List Int) (s0 : Int) : ∀ (d y : Nat) (s : Int) (c : Bool), n - y = d → y ≤ n → Seen a n x s → (∀ q, tb s0 q = true → tb s q = true) → (c = true → ((List.range n).filter (tb s0)).length < ((List.range n).filter (tb s)).length) →
    (c = false → s = s0 ∧ ∀ z, z < y → tb s z = true → ∀ q, prs a z q = true → tb s q = true) →
    (∀ s' c', Seen a n x s' → (c' = true → ((List.range n).filter (tb s0)).length < ((List.range n).filter (tb s')).length) → (c' = false → s' = s0 ∧ ∀ z, z < n → tb s' z = true → ∀ q, prs a z q = true → tb s' q = true) → Ev (fun k => witheref1_Plus.l1 k a o (x : Int) s' c') R) →
    Ev (fun k => witheref1_Plus.l2 k a o (x : Int) s c (y : Int)) R := by
  have hal := ha.1
  intro d
  induction d with
  | zero =>
    intro y s c h1 h2 hs hsub hc hf h
    obtain rfl : y = n := by omega
    exact Ev.step (fun k => by simp only [witheref1_Plus.l2]; rfl) (ev_else (by omega) (h s c hs hc hf))
  | succ d ih =>
    intro y s c h1 h2 hs hsub hc hf h
    refine Ev.step (fun k => by simp only [witheref1_Plus.l2]; rfl) (ev_if (by omega) (ev_bind0 (refHas_f hs.1.1 _) ?_))
    rw [hasB_nat hs.1.1, w64 (by omega) (by omega)]
    cases e : tb s y with
    | false =>
      refine ev_else (by decide) (ih (y + 1) s c (by omega) (by omega) hs hsub hc (fun hcf => ⟨(hf hcf).1, fun z hz hzs => ?_⟩) h)
      by_cases hzy : z < y
      · exact (hf hcf).2 z hzy hzs
      · obtain rfl : z = y := by omega
        rw [e] at hzs
        cases hzs
    | true =>
      have hU := ha.2.1.at_ (y : Int)
      refine ev_if rfl (ev_if (by omega) (ev_bind0 (within_f hU hs.1.1) ?_))
      by_cases hw : ∀ q, q < 64 → tb (rd a (y : Int)) q = true → tb s q = true
      · refine ev_if ((withB_iff _ _).mpr hw) (ih (y + 1) s c (by omega) (by omega) hs hsub hc (fun hcf => ⟨(hf hcf).1, fun z hz hzs => ?_⟩) h)
        by_cases hzy : z < y
        · exact (hf hcf).2 z hzy hzs
        · obtain rfl : z = y := by omega
          intro q hq
          exact hw q (by have := (ha.lt hq).2; omega) hq
      · refine ev_else (fun h => hw ((withB_iff _ _).mp h)) ?_
        have hor : ∀ q, tb (bits .or .u64 s (rd a (y : Int))) q = (tb s q || prs a y q) := fun q => or_tb hs.1.1 hU q
        have hs' : Seen a n x (bits .or .u64 s (rd a (y : Int))) := by
          refine ⟨⟨or_U hs.1.1 hU, fun q hq => ?_⟩, fun q hq => ?_, fun q hq => ?_⟩
          · rw [hor, Bool.or_eq_true] at hq
            exact hq.elim (hs.1.2 q) (fun h => (ha.lt h).2)
          · rw [hor, hs.2.1 q hq]
            rfl
          · rw [hor, Bool.or_eq_true] at hq
            exact hq.elim (hs.2.2 q) (fun h => (hs.2.2 y e).trans (TC.one h))
        obtain ⟨q, hq⟩ := Classical.not_forall.mp hw
        obtain ⟨hq64, hq⟩ := Classical.not_imp.mp hq
        obtain ⟨hqa, hqs⟩ := Classical.not_imp.mp hq
        have hqs : tb s q = false := by simpa using hqs
        refine ih (y + 1) _ true (by omega) (by omega) hs' (fun z hz => by rw [hor, hsub z hz]; rfl) (fun _ => ?_) (fun h => by cases h) h
        refine Nat.lt_of_le_of_lt ((PH.filter_lt (tb s0) (tb s) (List.range n) (fun z _ hz => hsub z hz)).1) ?_
        refine (PH.filter_lt (tb s) (tb (bits .or .u64 s (rd a (y : Int)))) (List.range n) (fun z _ hz => by rw [hor, hz]; rfl)).2 ⟨q, List.mem_range.mpr (ha.lt hqa).2, ?_, hqs⟩
        rw [hor, show prs a y q = true from hqa, Bool.or_true]
theorem refPlus_row {n : Nat} (hn : n ≤ 64) {a : List Int} (ha : OkN n a) (o : List Int) (ho : o.length = n) (x : Nat) (hx : x < n) (R : List Int) (h : Int) (hIn : In n h) (hh : ∀ q, tb h q = true ↔ TC (RR a) x q) (hR : Ev (fun k => witheref1_Plus.l0 k a (o.set x h) ((x + 1 : Nat) : Int)) R) :
    ∀ (d : Nat) (s : Int) (c : Bool), n - ((List.range n).filter (tb s)).length < d → Seen a n x s → (c = false → ∀ z, z < n → tb s z = true → ∀ q, prs a z q = true → tb s q = true) → Ev (fun k => witheref1_Plus.l1 k a o (x : Int) s c) R := by
  have fin : ∀ s, Seen a n x s → (∀ z, z < n → tb s z = true → ∀ q, prs a z q = true → tb s q = true) → Ev (fun k => witheref1_Plus.l1 k a o (x : Int) s false) R := by
    intro s hs hcl
    have e : s = h := in_ext hn hs.1 hIn fun q hq => by
      rw [hh]
      refine ⟨hs.2.2 q, ?_⟩
      rintro ⟨m, h1, h2⟩
      induction h2 with
      | refl => exact hs.2.1 _ h1
      | tail _ e ih => exact hcl _ (ha.lt e).1 (ih (ha.lt e).1) _ e
    subst e
    refine Ev.step (fun k => by simp only [witheref1_Plus.l1]; rfl) (ev_else (show ¬ (false = true) by decide) (ev_if (by omega) (ev_if (by omega) ?_)))
    rw [w64 (by omega) (by omega)]
    exact hR
  intro d
  induction d with
  | zero =>
    intro s c hd hs hcl
    omega
  | succ d ih =>
    intro s c hd hs hcl
    cases c with
    | false => exact fin s hs (hcl rfl)
    | true =>
      refine Ev.step (fun k => by simp only [witheref1_Plus.l1]; rfl) (ev_if (show true = true from rfl) ?_)
      refine refPlus_round hn ha o x hx R s n 0 s false rfl (by omega) hs (fun _ h => h) (fun h => by cases h) (fun _ => ⟨rfl, fun z hz => absurd hz (Nat.not_lt_zero z)⟩) fun s' c' hs' hc' hf' => ?_
      cases c' with
      | false => exact fin s' hs' (hf' rfl).2
      | true =>
        have h1 := hc' rfl
        have h2 : ((List.range n).filter (tb s')).length ≤ n := Nat.le_trans (List.length_filter_le _ _) (by simp)
        exact ih s' true (by omega) hs' (fun h => by cases h)
theorem refPlus_ev {n : Nat} (hn : n ≤ 64) {a : List Int} (ha : OkN n a) {r : List Int} (hr : OkN n r) (pr : ∀ p q, prs r p q = true ↔ TC (RR a) p q) : Ev (fun k => witheref1_Plus.f k a) r := by
  have hal := ha.1
  unfold witheref1_Plus.f
  refine Ev.bind (refMay_f ha.2.1) (ev_if (ha.may hn) (ev_if (by omega) (ev_if (by omega) ?_)))
  rw [hal]
  have := rows_ev (fun k o i => witheref1_Plus.l0 k a o i) n hn (fun (i : Nat) => rd r (i : Int)) (fun i o R hi ho hR => by
    refine Ev.step (fun k => by simp only [witheref1_Plus.l0]; rfl) (ev_if (by omega) (ev_if (by omega) ?_))
    refine refPlus_row hn ha o ho i hi R (rd r (i : Int)) (row_in hr i) (fun q => pr i q) hR (n + 1) _ true (by omega) ⟨row_in ha i, fun q h => h, fun q h => TC.one h⟩ (fun h => by cases h)) (fun o => Ev.step (fun k => by simp only [witheref1_Plus.l0]; rfl) (ev_else (by omega) (Ev.now _)))
  refine ev_eq this ?_
  refine List.ext_getElem (by simp [hr.1]) fun i h1 h2 => ?_
  rw [List.getElem_map, List.getElem_range, rd_lt h2]
theorem refAcyclic_ev {n : Nat} (hn : n ≤ 64) {a : List Int} (ha : OkN n a) {r : List Int} (hr : OkN n r) (pr : ∀ p q, prs r p q = true ↔ TC (RR a) p q) {c : Bool} (hc : c = true ↔ ∀ i, ¬ TC (RR a) i i) : Ev (fun k => witheref1_Acyclic.f k a) c := by
  have hrl := hr.1
  unfold witheref1_Acyclic.f
  refine Ev.bind (refMay_f ha.2.1) (ev_if (ha.may hn) (Ev.bind (refPlus_ev hn ha hr pr) ?_))
  have key : ∀ (d i : Nat), n - i = d → i ≤ n → (∀ j, j < i → prs r j j = false) → Ev (fun k => witheref1_Acyclic.l0 k r (i : Int)) c := by
    intro d
    induction d with
    | zero =>
      intro i h1 h2 h3
      refine Ev.step (fun k => by simp only [witheref1_Acyclic.l0]; rfl) (ev_else (by omega) (ev_eq (Ev.now _) (hc.mpr fun j hj => ?_).symm))
      have := (pr j j).mpr hj
      rw [h3 j (by have := (hr.lt this).1; omega)] at this
      cases this
    | succ d ih =>
      intro i h1 h2 h3
      refine Ev.step (fun k => by simp only [witheref1_Acyclic.l0]; rfl) (ev_if (by omega) (ev_if (by omega) (ev_bind0 (refHas_f (hr.2.1.at_ _) _) ?_)))
      rw [hasB_nat (hr.2.1.at_ _), w64 (by omega) (by omega)]
      show Ev (fun k => if prs r i i = true then _ else _) c
      refine ev_ite (fun hp => ev_eq (Ev.now _) ?_) (fun hp => ih (i + 1) (by omega) (by omega) fun j hj => ?_)
      · cases hcc : c with
        | false => rfl
        | true => exact absurd ((pr i i).mp hp) (hc.mp hcc i)
      · by_cases hji : j < i
        · exact h3 j hji
        · obtain rfl : j = i := by omega
          simpa using hp
  exact key n 0 rfl (by omega) (fun j hj => absurd hj (Nat.not_lt_zero j))
/-! the program's Total -/
theorem total_ok {n : Nat} (hn : n ≤ 64) {a : List Int} (ha : OkN n a) {s : Int} (hs : U s) : ∃ c, Ev (fun k => reach_Total.f k a s) c ∧ (c = true ↔ ∀ i k, i < n → k < n → i ≠ k → tb s i = true → tb s k = true → prs a i k = true ∨ prs a k i = true) := by
  have hal := ha.1
  obtain ⟨i1, i2⟩ := in_and hn hs
  obtain ⟨b, eb, okb, pb⟩ := back_ok ha hn
  have hbl := okb.1
  have hg := gall_f a (by rw [ha.1]; exact hn)
  rw [ha.1] at hg
  generalize hx : bits .and .u64 s (rng n) = x at *
  have hel := els_len x
  have hwith : ∀ i : Nat, bits_Within.f (bits .andNot .u64 x (oneI (i : Int))) (bits .or .u64 (rd a (i : Int)) (rd b (i : Int))) = some (decide (∀ k, k < n → i ≠ k → tb x k = true → prs a i k = true ∨ prs a k i = true)) := by
    intro i
    unfold bits_Within.f
    refine congrArg some ?_
    have hU1 := less_U i1.1 (one_U (i : Int))
    have hU2 := or_U (ha.2.1.at_ (i : Int)) (okb.2.1.at_ (i : Int))
    have ht : ∀ q, tb (bits .andNot .u64 (bits .andNot .u64 x (oneI (i : Int))) (bits .or .u64 (rd a (i : Int)) (rd b (i : Int)))) q = (tb x q && !tb (oneI (i : Int)) q && !(prs a i q || prs b i q)) := fun q => by
      rw [less_tb hU1 hU2, less_tb i1.1 (one_U _), or_tb (ha.2.1.at_ _) (okb.2.1.at_ _)]
      rfl
    rw [Bool.eq_iff_iff, beq_iff_eq, decide_eq_true_eq]
    constructor
    · intro h k hk hik hkx
      have := ht k
      rw [h, tb_zero, hkx, one_tb] at this
      have h1 : decide (0 ≤ (i : Int) ∧ (i : Int) < 64 ∧ (i : Int) = (k : Int)) = false := by simp; omega
      rw [h1] at this
      have h2 : (prs a i k || prs b i k) = true := by
        cases e : (prs a i k || prs b i k) with
        | true => rfl
        | false => rw [e] at this; simp at this
      rcases (Bool.or_eq_true _ _).mp h2 with h2 | h2
      · exact .inl h2
      · exact .inr ((pb i k).mp h2)
    · intro h
      refine tb_ext (less_U hU1 hU2) U_zero fun q hq => ?_
      rw [ht, tb_zero]
      cases e : tb x q with
      | false => rfl
      | true =>
        by_cases hiq : i = q
        · subst hiq
          have h1 : tb (oneI (i : Int)) i = true := by rw [one_tb]; simp; omega
          rw [h1]
          rfl
        · have h1 := h q (i1.2 q e) hiq e
          have h2 : (prs a i q || prs b i q) = true := by
            rcases h1 with h1 | h1
            · rw [h1]; rfl
            · rw [(pb i q).mpr h1, Bool.or_true]
          rw [h2]
          simp
  have key : ∀ (d j : Nat), (els x).length - j = d → j ≤ (els x).length → ∃ c, Ev (fun k => reach_Total.l0 k a x b ((els x).map Int.ofNat) (((els x).map Int.ofNat).length : Int) (j : Int)) c ∧ (c = true ↔ ∀ i ∈ (els x).drop j, ∀ k, k < n → i ≠ k → tb x k = true → prs a i k = true ∨ prs a k i = true) := by
    intro d
    induction d with
    | zero =>
      intro j h1 h2
      refine ⟨true, Ev.step (fun k => by simp only [reach_Total.l0]; rfl) (ev_else (by simp; omega) (Ev.now _)), fun _ i hi => ?_, fun _ => rfl⟩
      rw [List.drop_of_length_le (by omega)] at hi
      cases hi
    | succ d ih =>
      intro j h1 h2
      have hj : j < (els x).length := by omega
      have hjx := i1.2 _ ((mem_els i1.1 _).mp (List.getElem_mem hj))
      obtain ⟨c, hc, hci⟩ := ih (j + 1) (by omega) (by omega)
      by_cases hw : ∀ k, k < n → (els x)[j] ≠ k → tb x k = true → prs a (els x)[j] k = true ∨ prs a k (els x)[j] = true
      · refine ⟨c, ?_, hci.trans ?_⟩
        · refine Ev.step (fun k => by simp only [reach_Total.l0]; rfl) (ev_if (by simp; omega) (ev_if (by omega) (ev_if (by simp; omega) ?_)))
          rw [rd_map (els x) j hj, w64 (by omega) (by omega)]
          refine ev_bind0 (drop_f _ _) (ev_if (by omega) (ev_if (by omega) (ev_if (by omega) (ev_bind0 (hwith _) (ev_if (by simpa using hw) hc)))))
        · rw [List.drop_eq_getElem_cons hj]
          simp only [List.mem_cons, forall_eq_or_imp]
          exact ⟨fun h => ⟨hw, h⟩, fun h => h.2⟩
      · have hm : (els x)[j] ∈ (els x).drop j := by
          rw [List.drop_eq_getElem_cons hj]
          exact List.mem_cons_self
        refine ⟨false, ?_, fun h => (by cases h), fun h => absurd (h _ hm) hw⟩
        refine Ev.step (fun k => by simp only [reach_Total.l0]; rfl) (ev_if (by simp; omega) (ev_if (by omega) (ev_if (by simp; omega) ?_)))
        rw [rd_map (els x) j hj, w64 (by omega) (by omega)]
        refine ev_bind0 (drop_f _ _) (ev_if (by omega) (ev_if (by omega) (ev_if (by omega) (ev_bind0 (hwith _) (ev_else (by simpa using hw) (Ev.now _))))))
  obtain ⟨c, hc, hci⟩ := key _ 0 rfl (Nat.zero_le _)
  refine ⟨c, ?_, hci.trans ?_⟩
  · unfold reach_Total.f
    refine Ev.bind (may_f ha.2.1) (ev_if (ha.may hn) (Ev.bind hg (Ev.bind eb ?_)))
    rw [hx]
    exact ev_bind0 (list_f i1.1) hc
  · rw [List.drop_zero]
    constructor
    · intro h i k hi hk hik hsi hsk
      exact h i ((mem_els i1.1 i).mpr ((i2 i).mpr ⟨hsi, hi⟩)) k hk hik ((i2 k).mpr ⟨hsk, hk⟩)
    · intro h i hi k hk hik hkx
      have h1 := (i2 i).mp ((mem_els i1.1 i).mp hi)
      exact h i k h1.2 hk hik h1.1 ((i2 k).mp hkx).1
/-! the law's double loop -/
def Pd (n i k p q : Nat) : Prop := q < n ∧ (p < i ∨ (p = i ∧ q < k))
theorem Pd.step {n i k p q : Nat} (hk : k < n) : Pd n i (k + 1) p q ↔ Pd n i k p q ∨ (p = i ∧ q = k) := by
  unfold Pd
  omega
theorem Pd.row {n i p q : Nat} : Pd n (i + 1) 0 p q ↔ Pd n i n p q := by
  unfold Pd
  omega
structure St (a pl : List Int) (s : Int) (n i k : Nat) (t : Bool) (b u : Int) : Prop where
  tot : t = true ↔ ∀ p q, Pd n i k p q → p ≠ q → tb s p = true → tb s q = true → prs a p q = true ∨ prs a q p = true
  bU : U b
  bel : ∀ x, x < 64 → (tb b x = true ↔ ∃ q, Pd n i k x q ∧ prs pl x q = true ∧ tb s q = true)
  uU : U u
  abv : ∀ x, x < 64 → (tb u x = true ↔ ∃ p, Pd n i k p x ∧ prs pl p x = true ∧ tb s p = true)
theorem all_l2 {n : Nat} (hn : n ≤ 64) {a pl : List Int} (ha : OkN n a) (hp : OkN n pl) {s : Int} (hs : U s) (i : Nat) (hi : i < n) (R : Bool)
    (h : ∀ t b u, St a pl s n (i + 1) 0 t b u → Ev (fun m => withelaw3_ReachAll.l1 m s a pl t b u ((i + 1 : Nat) : Int)) R) : ∀ (d k : Nat) (t : Bool) (b u : Int), n - k = d → k ≤ n → St a pl s n i k t b u → Ev (fun m => withelaw3_ReachAll.l2 m s a pl t b u (i : Int) (k : Int)) R := by
  have hal := ha.1
  have hpl := hp.1
  intro d
  induction d with
  | zero =>
    intro k t b u g1 g2 hst
    obtain rfl : k = n := by omega
    refine Ev.step (fun m => by simp only [withelaw3_ReachAll.l2]; rfl) (ev_else (by omega) ?_)
    rw [w64 (by omega) (by omega)]
    exact h t b u ⟨by simp only [Pd.row]; exact hst.tot, hst.bU, by simp only [Pd.row]; exact hst.bel, hst.uU, by simp only [Pd.row]; exact hst.abv⟩
  | succ d ih =>
    intro k t b u g1 g2 hst
    have hk : k < n := by omega
    -- the third part: above
    have j7 : ∀ t' b', (t' = true ↔ ∀ p q, Pd n i (k + 1) p q → p ≠ q → tb s p = true → tb s q = true → prs a p q = true ∨ prs a q p = true) → U b' → (∀ x, x < 64 → (tb b' x = true ↔ ∃ q, Pd n i (k + 1) x q ∧ prs pl x q = true ∧ tb s q = true)) →
        Ev (fun m => withelaw3_ReachAll.j7 m s a pl t' b' u (i : Int) (k : Int)) R := by
      intro t' b' ht hb hbel
      have keepU : ¬ (prs pl i k = true ∧ tb s i = true) → ∀ x, x < 64 → (tb u x = true ↔ ∃ p, Pd n i (k + 1) p x ∧ prs pl p x = true ∧ tb s p = true) := fun hno x hx => by
        rw [hst.abv x hx]
        constructor
        · rintro ⟨p, h1, h2⟩
          exact ⟨p, (Pd.step hk).mpr (.inl h1), h2⟩
        · rintro ⟨p, h1, h2⟩
          rcases (Pd.step hk).mp h1 with h1 | ⟨rfl, rfl⟩
          · exact ⟨p, h1, h2⟩
          · exact absurd h2 hno
      refine Ev.step (fun m => by simp only [withelaw3_ReachAll.j7]; rfl) (ev_bind0 (refAt_f hp.2.1 _ _) ?_)
      rw [at_prs hp.2.1 (by omega), w64 (by omega) (by omega)]
      refine ev_ite (fun e1 => ev_bind0 (refHas_f hs _) ?_) (fun e1 => ih (k + 1) t' b' u (by omega) (by omega) ⟨ht, hb, hbel, hst.uU, keepU fun h => e1 h.1⟩)
      rw [hasB_nat hs]
      refine ev_ite (fun e2 => Ev.bind (refPut_f hst.uU _) (ih (k + 1) t' b' _ (by omega) (by omega) ⟨ht, hb, hbel, or_U hst.uU (one_U _), fun x hx => ?_⟩)) (fun e2 => ih (k + 1) t' b' u (by omega) (by omega) ⟨ht, hb, hbel, hst.uU, keepU fun h => e2 h.2⟩)
      rw [or_tb hst.uU (one_U _), one_tb, Bool.or_eq_true, hst.abv x hx, decide_eq_true_eq]
      constructor
      · rintro (⟨p, h1, h2⟩ | h)
        · exact ⟨p, (Pd.step hk).mpr (.inl h1), h2⟩
        · obtain rfl : k = x := by omega
          exact ⟨i, (Pd.step hk).mpr (.inr ⟨rfl, rfl⟩), e1, e2⟩
      · rintro ⟨p, h1, h2⟩
        rcases (Pd.step hk).mp h1 with h1 | ⟨rfl, rfl⟩
        · exact .inl ⟨p, h1, h2⟩
        · exact .inr (by omega)
    have j6 : ∀ t' c, (t' = true ↔ ∀ p q, Pd n i (k + 1) p q → p ≠ q → tb s p = true → tb s q = true → prs a p q = true ∨ prs a q p = true) → (c = true ↔ prs pl i k = true ∧ tb s k = true) → Ev (fun m => withelaw3_ReachAll.j6 m s a pl t' b u (i : Int) (k : Int) c) R := by
      intro t' c ht hc
      refine Ev.step (fun m => by simp only [withelaw3_ReachAll.j6]; rfl) (ev_ite (fun e => ?_) (fun e => ?_))
      · refine Ev.bind (refPut_f hst.bU _) (j7 t' _ ht (or_U hst.bU (one_U _)) fun x hx => ?_)
        rw [or_tb hst.bU (one_U _), one_tb, Bool.or_eq_true, hst.bel x hx, decide_eq_true_eq]
        constructor
        · rintro (⟨q, h1, h2⟩ | h)
          · exact ⟨q, (Pd.step hk).mpr (.inl h1), h2⟩
          · obtain rfl : i = x := by omega
            exact ⟨k, (Pd.step hk).mpr (.inr ⟨rfl, rfl⟩), hc.mp e⟩
        · rintro ⟨q, h1, h2⟩
          rcases (Pd.step hk).mp h1 with h1 | ⟨rfl, rfl⟩
          · exact .inl ⟨q, h1, h2⟩
          · exact .inr (by omega)
      · refine j7 t' b ht hst.bU fun x hx => ?_
        rw [hst.bel x hx]
        constructor
        · rintro ⟨q, h1, h2⟩
          exact ⟨q, (Pd.step hk).mpr (.inl h1), h2⟩
        · rintro ⟨q, h1, h2⟩
          rcases (Pd.step hk).mp h1 with h1 | ⟨rfl, rfl⟩
          · exact ⟨q, h1, h2⟩
          · exact absurd (hc.mpr h2) e
    have j5 : ∀ t', (t' = true ↔ ∀ p q, Pd n i (k + 1) p q → p ≠ q → tb s p = true → tb s q = true → prs a p q = true ∨ prs a q p = true) → Ev (fun m => withelaw3_ReachAll.j5 m s a pl t' b u (i : Int) (k : Int)) R := by
      intro t' ht
      refine Ev.step (fun m => by simp only [withelaw3_ReachAll.j5]; rfl) (ev_bind0 (refAt_f hp.2.1 _ _) ?_)
      rw [at_prs hp.2.1 (by omega)]
      refine ev_ite (fun e => ev_bind0 (refHas_f hs _) ?_) (fun e => j6 t' false ht ⟨fun h => (by cases h), fun h => absurd h.1 e⟩)
      rw [hasB_nat hs]
      exact j6 t' (tb s k) ht ⟨fun h => ⟨e, h⟩, fun h => h.2⟩
    have j4 : ∀ c, (c = true ↔ i ≠ k ∧ tb s i = true ∧ tb s k = true ∧ prs a i k = false ∧ prs a k i = false) → Ev (fun m => withelaw3_ReachAll.j4 m s a pl t b u (i : Int) (k : Int) c) R := by
      intro c hc
      refine Ev.step (fun m => by simp only [withelaw3_ReachAll.j4]; rfl) (ev_ite (fun e => ?_) (fun e => ?_))
      · obtain ⟨h1, h2, h3, h4, h5⟩ := hc.mp e
        refine j5 false ⟨fun h => (by cases h), fun h => ?_⟩
        rcases h i k ((Pd.step hk).mpr (.inr ⟨rfl, rfl⟩)) h1 h2 h3 with h | h
        · rw [h4] at h; cases h
        · rw [h5] at h; cases h
      · refine j5 t ⟨fun h p q hpq => ?_, fun h => hst.tot.mpr fun p q hpq => h p q ((Pd.step hk).mpr (.inl hpq))⟩
        rcases (Pd.step hk).mp hpq with hpq | ⟨rfl, rfl⟩
        · exact hst.tot.mp h p q hpq
        · intro h1 h2 h3
          cases h4 : prs a p q with
          | true => exact .inl rfl
          | false =>
            cases h5 : prs a q p with
            | true => exact .inr rfl
            | false => exact absurd (hc.mpr ⟨h1, h2, h3, h4, h5⟩) e
    refine Ev.step (fun m => by simp only [withelaw3_ReachAll.l2]; rfl) (ev_if (by omega) (ev_ite (fun e => j4 false ⟨fun h => (by cases h), fun h => absurd (show i = k by omega) h.1⟩) (fun e => ev_bind0 (refHas_f hs _) ?_)))
    rw [hasB_nat hs]
    refine ev_ite (fun e1 => ev_bind0 (refHas_f hs _) ?_) (fun e1 => j4 false ⟨fun h => (by cases h), fun h => absurd h.2.1 e1⟩)
    rw [hasB_nat hs]
    refine ev_ite (fun e2 => ev_bind0 (refAt_f ha.2.1 _ _) ?_) (fun e2 => j4 false ⟨fun h => (by cases h), fun h => absurd h.2.2.1 e2⟩)
    rw [at_prs ha.2.1 (by omega)]
    refine ev_ite (fun e3 => j4 false ⟨fun h => (by cases h), fun h => by rw [h.2.2.2.1] at e3; cases e3⟩) (fun e3 => ev_bind0 (refAt_f ha.2.1 _ _) ?_)
    rw [at_prs ha.2.1 (by omega)]
    refine j4 _ ⟨fun h => ⟨by omega, e1, e2, by simpa using e3, by simpa using h⟩, fun h => by rw [h.2.2.2.2]; rfl⟩
theorem ReachAll : withelaw3_ReachAll.Pure := by
  intro l a dn s
  intros
  refine Ev.rounds ?_
  unfold withelaw3_ReachAll.f
  refine Ev.bind begun_ev (ev_if rfl ?_)
  refine ev_ite (fun _ => Ev.now _) (fun b0 => ?_)
  have hl : ∀ x ∈ l, (Lit.int .u8 x).wf = true := by assumption
  have wa : (Lit.int .u8 a).wf = true := by assumption
  have hs : U s := wf_u64 (by assumption)
  obtain ⟨r, er, okr, _⟩ := some_ev l hl (by omega) a wa dn
  have h8 := wf_u8 wa
  have hn : (a % 16).toNat + 1 ≤ 64 := by omega
  generalize (a % 16).toNat + 1 = n at *
  have hrl := okr.1
  obtain ⟨p, ep, okp, pp⟩ := plus_ok okr hn
  have hpl := okp.1
  have e2 := refPlus_ev hn okr okp pp
  obtain ⟨c, ec, hc⟩ := acyclic_ok okr hn
  have e3 := refAcyclic_ev hn okr okp pp hc
  have hol : (ordR r n).1.length ≤ 1000000 := by
    unfold ordR
    cases h : ordG r n n [] with
    | none => simp
    | some L =>
      obtain ⟨_, hl⟩ := ord_inv n [] L (by simp) (Inv.nil n) h
      show (L.map Int.ofNat).length ≤ 1000000
      rw [List.length_map]
      omega
  have hdl : (deepR r n).1.length ≤ 1000000 := by
    unfold deepR
    cases h : ordG r n n [] with
    | none => simp
    | some L =>
      obtain ⟨hI, hl⟩ := ord_inv n [] L (by simp) (Inv.nil n) h
      have key : ∀ (l : List Nat) (d : List Int), (dAll r n l d).length = d.length := by
        intro l
        induction l with
        | nil => intro d; rfl
        | cons x l ih =>
          intro d
          show (dAll r n l (dRow r n x d)).length = _
          rw [ih]
          unfold dRow
          generalize List.range n = m
          induction m generalizing d with
          | nil => rfl
          | cons y m ih2 =>
            rw [List.foldl_cons, ih2]
            split
            · unfold dput
              split
              · rw [List.length_set]
              · rfl
            · rfl
      show (dAll r n L (List.replicate n 0)).length ≤ 1000000
      rw [key, List.length_replicate]
      omega
  obtain ⟨st, est, okst, pst⟩ := star_ok okr hn
  obtain ⟨tt, ett, htt⟩ := total_ok hn okr hs
  obtain ⟨d, ed, hd, pd⟩ := down_ok okr hn hs
  obtain ⟨u, eu, hu, pu⟩ := up_ok okr hn hs
  have hstl := okst.1
  -- the loops
  have fin : ∀ t b v, St r st s n n 0 t b v → Ev (fun m => withelaw3_ReachAll.l1 m s r st t b v (n : Int)) true := by
    intro t b v hst
    have ht : tt = t := by
      rw [Bool.eq_iff_iff, htt, hst.tot]
      constructor
      · intro h p q hpq
        exact h p q (by unfold Pd at hpq; omega) (by unfold Pd at hpq; omega)
      · intro h i k hi hk
        exact h i k (by unfold Pd; omega)
    have hb : d = b := by
      refine tb_ext hd.1 hst.bU fun q hq => ?_
      rw [Bool.eq_iff_iff, hst.bel q hq, pd]
      constructor
      · rintro ⟨x, ⟨h1, h2⟩, h3⟩
        rcases h3.cases with rfl | h3
        · exact ⟨q, by unfold Pd; omega, (pst q q).mpr (.inr ⟨rfl, h2⟩), h1⟩
        · have hq : q < n := by
            obtain ⟨m, h4, _⟩ := h3
            exact (okr.lt h4).1
          exact ⟨x, by unfold Pd; omega, (pst q x).mpr (.inl h3), h1⟩
      · rintro ⟨x, h1, h2, h3⟩
        have hx : x < n := h1.1
        rcases (pst q x).mp h2 with h4 | ⟨h5, h4⟩
        · exact ⟨x, ⟨h3, hx⟩, h4.rt⟩
        · exact ⟨x, ⟨h3, hx⟩, h5 ▸ .refl q⟩
    have hv : u = v := by
      refine tb_ext hu.1 hst.uU fun q hq => ?_
      rw [Bool.eq_iff_iff, hst.abv q hq, pu]
      constructor
      · rintro ⟨x, ⟨h1, h2⟩, h3⟩
        have hq : q < n := by
          rcases h3.cases with rfl | h3
          · exact h2
          · obtain ⟨m, _, h4⟩ := h3.last
            exact (okr.lt h4).2
        rcases h3.cases with rfl | h3
        · exact ⟨x, by unfold Pd; omega, (pst x x).mpr (.inr ⟨rfl, h2⟩), h1⟩
        · exact ⟨x, by unfold Pd; omega, (pst x q).mpr (.inl h3), h1⟩
      · rintro ⟨x, h1, h2, h3⟩
        have hx : x < n := by unfold Pd at h1; omega
        rcases (pst x q).mp h2 with h4 | ⟨h5, h4⟩
        · exact ⟨x, ⟨h3, hx⟩, h4.rt⟩
        · exact ⟨x, ⟨h3, hx⟩, h5 ▸ .refl x⟩
    subst ht hb hv
    refine Ev.step (fun m => by simp only [withelaw3_ReachAll.l1]; rfl) (ev_else (by omega) ?_)
    refine Ev.bind est (Ev.bind (sameRel_f st st (by omega)) (ev_if (by simp) (Ev.bind ett (ev_if (by simp) (Ev.bind ed (ev_if rfl (Ev.bind eu (ev_eq (Ev.now _) (by simp)))))))))
  have rows : ∀ (dd i : Nat) (t : Bool) (b v : Int), n - i = dd → i ≤ n → St r st s n i 0 t b v → Ev (fun m => withelaw3_ReachAll.l1 m s r st t b v (i : Int)) true := by
    intro dd
    induction dd with
    | zero =>
      intro i t b v h1 h2 hst
      obtain rfl : i = n := by omega
      exact fin t b v hst
    | succ dd ih =>
      intro i t b v h1 h2 hst
      refine Ev.step (fun m => by simp only [withelaw3_ReachAll.l1]; rfl) (ev_if (by omega) ?_)
      exact all_l2 hn okr okst hs i (by omega) true (fun t b u hst' => ih (i + 1) t b u (by omega) (by omega) hst') n 0 t b v rfl (by omega) hst
  have diag : Ev (fun m => withelaw3_ReachAll.l0 m s r p true 0 0 0) true := by
    have hz : ∀ x y, ¬ Pd n 0 0 x y := fun x y h => by unfold Pd at h; omega
    have hst0 : St r st s n 0 0 true 0 0 := ⟨⟨fun _ p q h => absurd h (hz p q), fun _ => rfl⟩, U_zero, fun x _ => by
      rw [tb_zero]
      exact ⟨fun h => (by cases h), fun ⟨q, h, _⟩ => absurd h (hz x q)⟩, U_zero, fun x _ => by
      rw [tb_zero]
      exact ⟨fun h => (by cases h), fun ⟨q, h, _⟩ => absurd h (hz q x)⟩⟩
    have hl : ∀ x ∈ (List.range n).flatMap (fun i => [(i, i)]), x.1 < n ∧ x.2 < 64 := by
      intro x hx
      obtain ⟨i, hi, hx⟩ := List.mem_flatMap.mp hx
      rw [List.mem_singleton.mp hx]
      have := List.mem_range.mp hi
      exact ⟨this, by show i < 64; omega⟩
    have hsp := putsL_spec ((List.range n).flatMap fun i => [(i, i)]) p n (prs p) ⟨okp.1, okp.2.1, fun _ _ _ => rfl⟩ hl
    have e : putsL ((List.range n).flatMap fun i => [(i, i)]) p = st := by
      refine hsp.uniq (S' := prs st) ⟨okst.1, okst.2.1, fun _ _ _ => rfl⟩ fun x hx y hy => ?_
      rw [Bool.eq_iff_iff, Bool.or_eq_true, pst, ← pp]
      refine or_congr_right ?_
      simp only [decide_eq_true_eq, List.mem_flatMap, List.mem_range, List.mem_singleton]
      constructor
      · rintro ⟨i, hi, e⟩
        cases e
        exact ⟨rfl, hi⟩
      · rintro ⟨rfl, h⟩
        exact ⟨x, h, rfl⟩
    have next := rows n 0 true 0 0 rfl (by omega) hst0
    refine loop_puts0 (fun m o i => withelaw3_ReachAll.l0 m s r o true 0 0 i) n n (fun i => [(i, i)]) (fun y hy x hx => by
      rw [List.mem_singleton.mp hx]
      exact ⟨hy, by show y < 64; omega⟩) (fun o y R hy ho h => by
        have hol := ho.1
        refine Ev.step (fun m => by simp only [withelaw3_ReachAll.l0]; rfl) (ev_if (by omega) (ev_if (by omega) (ev_if (by omega) (Ev.bind (refPut_f (ho.2.at_ _) _) ?_))))
        rw [w64 (by omega) (by omega)]
        exact h) p true ⟨okp.1, okp.2.1⟩ ?_
    rw [e]
    exact Ev.step (fun m => by simp only [withelaw3_ReachAll.l0]; rfl) (ev_else (by omega) next)
  have j0 : Ev (fun m => withelaw3_ReachAll.j0 m s r p false) true := Ev.step (fun m => by simp only [withelaw3_ReachAll.j0]; rfl) (ev_else (show ¬ (false = true) by decide) diag)
  refine Ev.bind er (Ev.bind e2 (Ev.bind (refOrder_ev hn okr) (Ev.bind (order_ev hn okr) (Ev.bind (refDeep_ev hn okr) (Ev.bind (deep_ev hn okr) (Ev.bind ep (Ev.bind (sameRel_f p p (by omega)) (ev_if (by simp) ?_))))))))
  refine Ev.bind ec (Ev.bind e3 (ev_else (bne_no _) (ev_else (bne_no _) (Ev.bind (sameInts_refl _ hol) (ev_if rfl (ev_else (bne_no _) (Ev.bind (sameInts_refl _ hdl) j0)))))))
end Go.Proofs.YtniimgbkbghbkaaDoor.Pure
