/- ReachOrders: just what comes nowhere to itself has an order; each thing once, behind all that are before it, the least first where it may be chosen; its place is no less than its depth. For all lists of numbers. -/
import Derived.Test.YtniimgbkbghbkaaDoorRchP
import Derived.Test.YtniimgbkbghbkaaDoorPHx21
import Derived.Test.YtniimgbkbghbkaaDoorPHx29
namespace Go.Proofs.YtniimgbkbghbkaaDoor.Pure
open Go.RowKit Go.Proofs.YtniimgbkbghbkaaDoor.PH Go.Proofs.YtniimgbkbghbkaaDoorW.PrintWords Go.Proofs.YtniimgbkbghbkaaDoorW.PrintLast
set_option linter.unusedVariables false
set_option linter.unusedSimpArgs false

theorem bne_no (x : Bool) : ¬ ((x != x) = true) := by simp
/-! the order, place by place -/
theorem ord_at {n : Nat} {a : List Int} : ∀ (f : Nat) (L0 L : List Nat), ordG a n f L0 = some L → ∃ rest, L = L0 ++ rest ∧ ∀ j (h : j < rest.length), pick a n (L0 ++ rest.take j) = some rest[j]
  | 0, L0, L, h => ⟨[], by rw [List.append_nil]; exact (Option.some.inj h).symm, fun j h => absurd h (Nat.not_lt_zero j)⟩
  | f + 1, L0, L, h => by
    rw [ordG] at h
    cases hp : pick a n L0 with
    | none => rw [hp] at h; cases h
    | some i =>
      rw [hp] at h
      obtain ⟨rest, e, hr⟩ := ord_at f (L0 ++ [i]) L h
      refine ⟨i :: rest, by rw [e, List.append_assoc]; rfl, fun j hj => ?_⟩
      cases j with
      | zero =>
        rw [List.take_zero, List.append_nil]
        exact hp
      | succ j =>
        have := hr j (by simpa using hj)
        rw [List.append_assoc] at this
        exact this
structure Ord (a : List Int) (n : Nat) (L : List Nat) : Prop where
  len : L.length = n
  lt : ∀ x ∈ L, x < n
  full : ∀ i, i < n → i ∈ L
  pk : ∀ j (h : j < L.length), pick a n (L.take j) = some L[j]
theorem Ord.of {n : Nat} {a : List Int} {L : List Nat} (h : ordG a n n [] = some L) : Ord a n L := by
  obtain ⟨hI, hl⟩ := ord_inv n [] L (by simp) (Inv.nil n) h
  obtain ⟨rest, e, hr⟩ := ord_at n [] L h
  rw [List.nil_append] at e
  subst e
  exact ⟨hl, hI.2, hI.full hl, fun j hj => by have := hr j hj; rwa [List.nil_append] at this⟩
theorem Ord.new {n : Nat} {a : List Int} {L : List Nat} (h : Ord a n L) {j : Nat} (hj : j < L.length) : L[j] ∉ L.take j := (pick_some (h.pk j hj)).2.1
theorem mem_take {L : List Nat} {j x : Nat} : x ∈ L.take j ↔ ∃ i, ∃ h : i < L.length, i < j ∧ L[i] = x := by
  constructor
  · intro h
    obtain ⟨i, hi, e⟩ := List.getElem_of_mem h
    rw [List.length_take] at hi
    rw [List.getElem_take] at e
    exact ⟨i, by omega, by omega, e⟩
  · rintro ⟨i, hi, hij, rfl⟩
    have : i < (L.take j).length := by rw [List.length_take]; omega
    have h2 := List.getElem_mem this
    rwa [List.getElem_take] at h2
theorem Ord.inj {n : Nat} {a : List Int} {L : List Nat} (h : Ord a n L) {i j : Nat} (hi : i < L.length) (hj : j < L.length) (e : L[i] = L[j]) : i = j := by
  rcases Nat.lt_trichotomy i j with hlt | rfl | hlt
  · exact absurd (mem_take.mpr ⟨i, hi, hlt, e⟩) (h.new hj)
  · rfl
  · exact absurd (mem_take.mpr ⟨j, hj, hlt, e.symm⟩) (h.new hi)
theorem Ord.before {n : Nat} {a : List Int} (ha : OkN n a) {L : List Nat} (h : Ord a n L) {p : Nat} {j : Nat} (hj : j < L.length) (e : prs a p L[j] = true) : ∃ i, ∃ hi : i < L.length, i < j ∧ L[i] = p := by
  obtain ⟨_, _, h3, _⟩ := pick_some (h.pk j hj)
  refine mem_take.mp (Classical.byContradiction fun hno => ?_)
  rw [h3 p (ha.lt e).1 hno] at e
  cases e
theorem Ord.least {n : Nat} {a : List Int} {L : List Nat} (h : Ord a n L) {j : Nat} (hj : j + 1 < L.length) (hgt : L[j + 1] < L[j]) : prs a L[j] L[j + 1] = true := by
  obtain ⟨_, h2, _, h4⟩ := pick_some (h.pk j (by omega))
  obtain ⟨g1, g2, g3, _⟩ := pick_some (h.pk (j + 1) hj)
  have hf := h4 _ hgt
  have htake : L.take (j + 1) = L.take j ++ [L[j]] := by rw [List.take_succ_eq_append_getElem (by omega)]
  cases e : prs a L[j] L[j + 1] with
  | true => rfl
  | false =>
    have : freeB a n (L.take j) L[j + 1] = true := by
      rw [freeB_iff]
      refine ⟨fun hm => g2 (by rw [htake]; exact List.mem_append.mpr (.inl hm)), fun k hk hkL => ?_⟩
      by_cases hkj : k = L[j]
      · rw [hkj]
        exact e
      · exact g3 k hk (by
          rw [htake]
          intro hm
          rcases List.mem_append.mp hm with hm | hm
          · exact hkL hm
          · exact hkj (List.mem_singleton.mp hm))
    rw [this] at hf
    cases hf
/-! depths -/
theorem rd_dput {d : List Int} {i k x : Nat} (hk : k < d.length) : rd (dput i k d) (x : Int) = if k = x ∧ rd d (k : Int) < rd d (i : Int) + 1 then rd d (i : Int) + 1 else rd d (x : Int) := by
  unfold dput
  by_cases h : rd d (k : Int) < rd d (i : Int) + 1
  · rw [if_pos h, rd_set]
    by_cases hkx : k = x
    · rw [if_pos ⟨hkx, hk⟩, if_pos ⟨hkx, h⟩]
    · rw [if_neg (fun hh => hkx hh.1), if_neg (fun hh => hkx hh.1)]
  · rw [if_neg h, if_neg (fun hh => h hh.2)]
theorem dput_len (i k : Nat) (d : List Int) : (dput i k d).length = d.length := by
  unfold dput
  split
  · rw [List.length_set]
  · rfl
def mxI (x y : Int) : Int := if x < y then y else x
theorem rd_fold {n : Nat} {a : List Int} {i : Nat} (hself : prs a i i = false) {d : List Int} (hd : d.length = n) : ∀ m, m ≤ n → ((List.range m).foldl (fun d k => if prs a i k = true then dput i k d else d) d).length = n ∧
    ∀ x : Nat, rd ((List.range m).foldl (fun d k => if prs a i k = true then dput i k d else d) d) (x : Int) = if x < m ∧ prs a i x = true then mxI (rd d (x : Int)) (rd d (i : Int) + 1) else rd d (x : Int)
  | 0, _ => ⟨hd, fun x => by rw [if_neg (fun h => absurd h.1 (Nat.not_lt_zero x))]; rfl⟩
  | m + 1, hm => by
    obtain ⟨h1, h2⟩ := rd_fold hself hd m (by omega)
    rw [List.range_succ, List.foldl_append, List.foldl_cons, List.foldl_nil]
    generalize (List.range m).foldl (fun d k => if prs a i k = true then dput i k d else d) d = e at *
    have hi : rd e (i : Int) = rd d (i : Int) := by
      rw [h2 i, if_neg (fun h => by rw [hself] at h; cases h.2)]
    cases hp : prs a i m with
    | false =>
      rw [if_neg (by decide)]
      refine ⟨h1, fun x => ?_⟩
      rw [h2 x]
      by_cases hx : x < m ∧ prs a i x = true
      · rw [if_pos hx, if_pos ⟨by omega, hx.2⟩]
      · rw [if_neg hx, if_neg]
        rintro ⟨h3, h4⟩
        by_cases hxm : x = m
        · subst hxm
          rw [hp] at h4
          cases h4
        · exact hx ⟨by omega, h4⟩
    | true =>
      rw [if_pos rfl]
      refine ⟨by rw [dput_len, h1], fun x => ?_⟩
      rw [rd_dput (show m < e.length by omega), hi]
      have hm2 : rd e (m : Int) = rd d (m : Int) := by rw [h2 m, if_neg (fun h => absurd h.1 (Nat.lt_irrefl m))]
      rw [hm2]
      by_cases hxm : m = x
      · subst hxm
        rw [show (if m < m + 1 ∧ prs a i m = true then mxI (rd d (m : Int)) (rd d (i : Int) + 1) else rd d (m : Int)) = mxI (rd d (m : Int)) (rd d (i : Int) + 1) from if_pos ⟨by omega, hp⟩]
        unfold mxI
        by_cases hc : rd d (m : Int) < rd d (i : Int) + 1
        · rw [if_pos ⟨rfl, hc⟩, if_pos hc]
        · rw [if_neg (fun h => hc h.2), if_neg hc, hm2]
      · rw [if_neg (fun h => hxm h.1), h2 x]
        by_cases hx : x < m ∧ prs a i x = true
        · rw [if_pos hx, if_pos ⟨by omega, hx.2⟩]
        · rw [if_neg hx, if_neg (fun h => hx ⟨by omega, h.2⟩)]
structure Dep (a : List Int) (n : Nat) (P : List Nat) (d : List Int) : Prop where
  len : d.length = n
  pos : ∀ x : Nat, 0 ≤ rd d (x : Int)
  up : ∀ p ∈ P, ∀ x, prs a p x = true → rd d (p : Int) + 1 ≤ rd d (x : Int)
  by_ : ∀ x : Nat, rd d (x : Int) = 0 ∨ ∃ p ∈ P, prs a p x = true ∧ rd d (x : Int) = rd d (p : Int) + 1
theorem Dep.step {n : Nat} {a : List Int} (ha : OkN n a) {P : List Nat} {d : List Int} (h : Dep a n P d) {i : Nat} (hself : prs a i i = false) (hP : ∀ p ∈ P, prs a i p = false) : Dep a n (P ++ [i]) (dRow a n i d) := by
  obtain ⟨h1, h2⟩ := rd_fold hself h.len n (Nat.le_refl n)
  have e : ∀ x : Nat, rd (dRow a n i d) (x : Int) = if prs a i x = true then mxI (rd d (x : Int)) (rd d (i : Int) + 1) else rd d (x : Int) := by
    intro x
    rw [show rd (dRow a n i d) (x : Int) = _ from h2 x]
    by_cases hp : prs a i x = true
    · rw [if_pos ⟨(ha.lt hp).2, hp⟩, if_pos hp]
    · rw [if_neg (fun h => hp h.2), if_neg hp]
  have ei : rd (dRow a n i d) (i : Int) = rd d (i : Int) := by rw [e i, hself, if_neg (by decide)]
  have eP : ∀ p ∈ P, rd (dRow a n i d) (p : Int) = rd d (p : Int) := fun p hp => by rw [e p, hP p hp, if_neg (by decide)]
  have ge : ∀ x : Nat, rd d (x : Int) ≤ rd (dRow a n i d) (x : Int) := fun x => by
    rw [e x]
    split
    · unfold mxI
      split <;> omega
    · omega
  refine ⟨h1, fun x => by have := h.pos x; have := ge x; omega, fun p hp x hx => ?_, fun x => ?_⟩
  · rcases List.mem_append.mp hp with hp | hp
    · rw [eP p hp]
      have := h.up p hp x hx
      have := ge x
      omega
    · obtain rfl := List.mem_singleton.mp hp
      rw [ei, e x, if_pos hx]
      unfold mxI
      split <;> omega
  · have old : rd (dRow a n i d) (x : Int) = rd d (x : Int) → rd (dRow a n i d) (x : Int) = 0 ∨ ∃ p ∈ P ++ [i], prs a p x = true ∧ rd (dRow a n i d) (x : Int) = rd (dRow a n i d) (p : Int) + 1 := by
      intro he
      rw [he]
      rcases h.by_ x with h0 | ⟨p, hp, h3, h4⟩
      · exact .inl h0
      · exact .inr ⟨p, List.mem_append.mpr (.inl hp), h3, by rw [eP p hp]; exact h4⟩
    by_cases hp : prs a i x = true
    · by_cases hc : rd d (x : Int) < rd d (i : Int) + 1
      · refine .inr ⟨i, List.mem_append.mpr (.inr (List.mem_singleton.mpr rfl)), hp, ?_⟩
        rw [e x, if_pos hp, ei]
        unfold mxI
        rw [if_pos hc]
      · refine old ?_
        rw [e x, if_pos hp]
        unfold mxI
        rw [if_neg hc]
    · refine old ?_
      rw [e x, if_neg hp]
theorem dep_all {n : Nat} {a : List Int} (ha : OkN n a) {L : List Nat} (h : Ord a n L) : ∀ j, j ≤ L.length → Dep a n (L.take j) (dAll a n (L.take j) (List.replicate n 0))
  | 0, _ => ⟨by simp [dAll], fun x => by simp [dAll, rd_zeros], fun p hp => by simp at hp, fun x => .inl (by simp [dAll, rd_zeros])⟩
  | j + 1, hj => by
    have ih := dep_all ha h j (by omega)
    have htake : L.take (j + 1) = L.take j ++ [L[j]] := by rw [List.take_succ_eq_append_getElem (by omega)]
    rw [htake]
    have : dAll a n (L.take j ++ [L[j]]) (List.replicate n 0) = dRow a n L[j] (dAll a n (L.take j) (List.replicate n 0)) := by
      unfold dAll
      rw [List.foldl_append]
      rfl
    rw [this]
    refine ih.step ha ?_ fun p hp => ?_
    · cases e : prs a L[j] L[j] with
      | false => rfl
      | true =>
        obtain ⟨i, hi, hij, e2⟩ := h.before ha (by omega) e
        have := h.inj hi (by omega) e2
        omega
    · obtain ⟨i, hi, hij, rfl⟩ := mem_take.mp hp
      cases e : prs a L[j] L[i] with
      | false => rfl
      | true =>
        obtain ⟨k, hk, hki, e2⟩ := h.before ha hi e
        have := h.inj hk (by omega) e2
        omega
theorem dep_idx {n : Nat} {a : List Int} (ha : OkN n a) {L : List Nat} (h : Ord a n L) {d : List Int} (hd : Dep a n L d) : ∀ (m j : Nat) (hj : j < L.length), j ≤ m → rd d ((L[j] : Nat) : Int) ≤ (j : Int)
  | 0, j, hj, hm => by
    rcases hd.by_ L[j] with h0 | ⟨p, hp, h3, h4⟩
    · omega
    · obtain ⟨i, hi, hij, rfl⟩ := h.before ha hj h3
      omega
  | m + 1, j, hj, hm => by
    rcases hd.by_ L[j] with h0 | ⟨p, hp, h3, h4⟩
    · omega
    · obtain ⟨i, hi, hij, rfl⟩ := h.before ha hj h3
      have := dep_idx ha h hd m i hi (by omega)
      omega
/-! the law's loops -/
def At (n : Nat) (L : List Nat) (j : Nat) (o : List Int) : Prop := o.length = n ∧ (∀ i (h : i < L.length), i < j → rd o ((L[i] : Nat) : Int) = (i : Int)) ∧ ∀ x, x < n → x ∉ L.take j → rd o (x : Int) = -1
theorem ord_l1 {n : Nat} (hn : n ≤ 64) {a : List Int} (ha : OkN n a) {L : List Nat} (h : Ord a n L) (D : List Int) (R : Bool) (hR : ∀ o, At n L n o → Ev (fun k => withelaw3_ReachOrders.l2 k a (L.map Int.ofNat) D o 0) R) : ∀ (d j : Nat) (o : List Int), n - j = d → j ≤ n → At n L j o →
    Ev (fun k => withelaw3_ReachOrders.l1 k a (L.map Int.ofNat) D o (j : Int)) R := by
  have hll := h.len
  have hal := ha.1
  intro d
  induction d with
  | zero =>
    intro j o h1 h2 ho
    obtain rfl : j = n := by omega
    exact Ev.step (fun k => by simp only [withelaw3_ReachOrders.l1]; rfl) (ev_else (by rw [List.length_map]; omega) (hR o ho))
  | succ d ih =>
    intro j o h1 h2 ho
    have hj : j < L.length := by omega
    have hx := h.lt _ (List.getElem_mem hj)
    have hol := ho.1
    refine Ev.step (fun k => by simp only [withelaw3_ReachOrders.l1]; rfl) (ev_if (by rw [List.length_map]; omega) (ev_if (by omega) ?_))
    rw [rd_map L j hj, ho.2.2 _ hx (h.new hj)]
    refine ev_else (by omega) (ev_else (by omega) (ev_if (by omega) (ev_if (by omega) (ev_else (by decide) ?_))))
    rw [w64 (by omega) (by omega)]
    refine ih (j + 1) _ (by omega) (by omega) ⟨by rw [List.length_set]; exact hol, fun i hi hij => ?_, fun x hxn hxL => ?_⟩
    · rw [show (((L[j] : Nat) : Int)).toNat = L[j] from rfl, rd_set]
      by_cases hij2 : i = j
      · subst hij2
        rw [if_pos ⟨rfl, by omega⟩]
      · rw [if_neg (fun hh => hij2 (h.inj hi hj hh.1.symm))]
        exact ho.2.1 i hi (by omega)
    · rw [show (((L[j] : Nat) : Int)).toNat = L[j] from rfl, rd_set]
      rw [List.take_succ_eq_append_getElem hj] at hxL
      rw [if_neg (fun hh => hxL (List.mem_append.mpr (.inr (List.mem_singleton.mpr hh.1.symm))))]
      exact ho.2.2 x hxn fun hm => hxL (List.mem_append.mpr (.inl hm))
theorem ord_l4 {n : Nat} (hn : n ≤ 64) {a : List Int} (ha : OkN n a) {L : List Nat} (h : Ord a n L) : ∀ (d j : Nat), n - j = d → j ≤ n → Ev (fun k => withelaw3_ReachOrders.l4 k a (L.map Int.ofNat) (j : Int)) true := by
  have hll := h.len
  intro d
  induction d with
  | zero =>
    intro j h1 h2
    refine Ev.step (fun k => by simp only [withelaw3_ReachOrders.l4]; rfl) ?_
    rw [w64 (by omega) (by omega)]
    exact ev_else (by rw [List.length_map]; omega) (Ev.now _)
  | succ d ih =>
    intro j h1 h2
    refine Ev.step (fun k => by simp only [withelaw3_ReachOrders.l4]; rfl) ?_
    rw [w64 (by omega) (by omega), show (j : Int) + 1 = ((j + 1 : Nat) : Int) by omega]
    refine ev_ite (fun hlt => ?_) (fun _ => Ev.now _)
    have hj : j + 1 < L.length := by rw [List.length_map] at hlt; omega
    rw [rd_map L j (by omega), rd_map L (j + 1) hj]
    refine ev_if (by omega) (ev_if (by rw [List.length_map]; omega) (ev_if (by omega) (ev_ite (fun hgt => ?_) (fun _ => ih (j + 1) (by omega) (by omega)))))
    refine Ev.bind (relHas_f ha hn (h.lt _ (List.getElem_mem (show j < L.length by omega))) L[j + 1]) (ev_if ?_ (ih (j + 1) (by omega) (by omega)))
    exact h.least hj (by omega)
theorem ord_l2 {n : Nat} (hn : n ≤ 64) {a : List Int} (ha : OkN n a) {L : List Nat} (h : Ord a n L) {D : List Int} (hD : Dep a n L D) {o : List Int} (ho : At n L n o) : ∀ (d x : Nat), n - x = d → x ≤ n → Ev (fun k => withelaw3_ReachOrders.l2 k a (L.map Int.ofNat) D o (x : Int)) true := by
  have hll := h.len
  have hal := ha.1
  have hol := ho.1
  have hDl := hD.len
  have hat : ∀ y, y < n → ∃ j, ∃ hj : j < L.length, L[j] = y ∧ rd o (y : Int) = (j : Int) := fun y hy => by
    obtain ⟨j, hj, e⟩ := List.getElem_of_mem (h.full y hy)
    exact ⟨j, hj, e, by rw [← e]; exact ho.2.1 j hj (by omega)⟩
  have hbd : ∀ y : Nat, y < n → 0 ≤ rd D (y : Int) ∧ rd D (y : Int) ≤ 64 := fun y hy => by
    obtain ⟨j, hj, e, _⟩ := hat y hy
    have h1 := dep_idx ha h hD j j hj (Nat.le_refl _)
    rw [e] at h1
    exact ⟨hD.pos y, by omega⟩
  intro d
  induction d with
  | zero =>
    intro x h1 h2
    exact Ev.step (fun k => by simp only [withelaw3_ReachOrders.l2]; rfl) (ev_else (by omega) (ord_l4 hn ha h n 0 rfl (by omega)))
  | succ d ih =>
    intro x h1 h2
    have hx : x < n := by omega
    have next := ih (x + 1) (by omega) (by omega)
    obtain ⟨jx, hjx, ex, ox⟩ := hat x hx
    have bx := hbd x hx
    have l3 : ∀ (dd y : Nat) (far : Int), n - y = dd → y ≤ n → 0 ≤ far → far ≤ rd D (x : Int) → (∀ b, b < y → prs a b x = true → rd D (b : Int) + 1 ≤ far) → Ev (fun k => withelaw3_ReachOrders.l3 k a (L.map Int.ofNat) D o (x : Int) far (y : Int)) true := by
      intro dd
      induction dd with
      | zero =>
        intro y far g1 g2 g3 g4 g5
        refine Ev.step (fun k => by simp only [withelaw3_ReachOrders.l3]; rfl) (ev_else (by omega) (ev_if (by omega) (ev_if (by omega) (ev_if ?_ (ev_if (by omega) (ev_else ?_ ?_))))))
        · rcases hD.by_ x with h0 | ⟨p, hp, h3, h4⟩
          · omega
          · have := g5 p (by have := (ha.lt h3).1; omega) h3
            omega
        · have h1 := dep_idx ha h hD jx jx hjx (Nat.le_refl _)
          rw [ex] at h1
          omega
        · rw [w64 (by omega) (by omega)]
          exact next
      | succ dd ih3 =>
        intro y far g1 g2 g3 g4 g5
        have hy : y < n := by omega
        have by_ := hbd y hy
        have j6 : Ev (fun k => withelaw3_ReachOrders.j6 k a (L.map Int.ofNat) D o (x : Int) far (y : Int) false) true := by
          refine Ev.step (fun k => by simp only [withelaw3_ReachOrders.j6]; rfl) (ev_else (show ¬ (false = true) by decide) (Ev.bind (relHas_f ha hn hy x) ?_))
          rw [w64 (n := (y : Int) + 1) (by omega) (by omega), w64 (n := rd D (y : Int) + 1) (by omega) (by omega)]
          refine ev_ite (fun e => ev_if (by omega) (ev_if (by omega) (ev_ite (fun hgt => ?_) (fun hgt => ?_)))) (fun e => ?_)
          · have hup := hD.up y (h.full y hy) x e
            refine ih3 (y + 1) _ (by omega) (by omega) (by omega) hup fun b hb hbx => ?_
            by_cases hby : b < y
            · have := g5 b hby hbx
              omega
            · obtain rfl : b = y := by omega
              omega
          · refine ih3 (y + 1) far (by omega) (by omega) g3 g4 fun b hb hbx => ?_
            by_cases hby : b < y
            · exact g5 b hby hbx
            · obtain rfl : b = y := by omega
              omega
          · refine ih3 (y + 1) far (by omega) (by omega) g3 g4 fun b hb hbx => ?_
            by_cases hby : b < y
            · exact g5 b hby hbx
            · obtain rfl : b = y := by omega
              exact absurd hbx e
        refine Ev.step (fun k => by simp only [withelaw3_ReachOrders.l3]; rfl) (ev_if (by omega) (Ev.bind (relHas_f ha hn hx y) (ev_ite (fun e => ?_) (fun _ => j6))))
        obtain ⟨jy, hjy, ey, oy⟩ := hat y hy
        have hlt : jx < jy := by
          obtain ⟨i, hi, hij, e2⟩ := h.before ha hjy (by rw [ey]; exact e)
          have := h.inj hi hjx (by rw [e2, ex])
          omega
        have hup := hD.up x (h.full x hx) y e
        refine ev_if (by omega) (ev_if (by omega) (ev_if (by omega) (ev_if (by omega) (ev_else (by omega) (ev_if (by omega) (ev_if (by omega) ?_))))))
        rw [w64 (n := rd D (x : Int) + 1) (by omega) (by omega), show decide (rd D (y : Int) < rd D (x : Int) + 1) = false by simp; omega]
        exact j6
    exact Ev.step (fun k => by simp only [withelaw3_ReachOrders.l2]; rfl) (ev_if (by omega) (l3 n 0 0 rfl (by omega) (by omega) bx.1 fun b hb => absurd hb (Nat.not_lt_zero b)))
theorem hasLoop_ev {n : Nat} (hn : n ≤ 64) {a : List Int} (ha : OkN n a) : ∃ c, Ev (fun k => withelaw3_hasLoop.f k a) c := by
  have hal := ha.1
  unfold withelaw3_hasLoop.f
  have key : ∀ (d i : Nat), n - i = d → i ≤ n → ∃ c, Ev (fun k => withelaw3_hasLoop.l0 k a (i : Int)) c := by
    intro d
    induction d with
    | zero =>
      intro i h1 h2
      exact ⟨false, Ev.step (fun k => by simp only [withelaw3_hasLoop.l0]; rfl) (ev_else (by omega) (Ev.now _))⟩
    | succ d ih =>
      intro i h1 h2
      obtain ⟨c, hc⟩ := ih (i + 1) (by omega) (by omega)
      have hw : IntKind.u64.wrap (i : Int) = (i : Int) := by rw [IntKind.wrap_u64]; omega
      by_cases hb : tb (rd a (i : Int)) i = true
      · refine ⟨true, Ev.step (fun k => by simp only [withelaw3_hasLoop.l0]; rfl) (ev_if (by omega) (ev_if (by omega) ?_))⟩
        rw [hw, shr_tb (ha.2.1.at_ _) i (by omega), if_pos hb]
        exact ev_if (by omega) (ev_if (Eq.refl (1 : Int)) (Ev.now _))
      · refine ⟨c, Ev.step (fun k => by simp only [withelaw3_hasLoop.l0]; rfl) (ev_if (by omega) (ev_if (by omega) ?_))⟩
        rw [hw, shr_tb (ha.2.1.at_ _) i (by omega), if_neg hb, w64 (by omega) (by omega)]
        exact ev_if (by omega) (ev_else (show ¬ ((0 : Int) = 1) by decide) hc)
  exact key n 0 rfl (by omega)
theorem ReachOrders : withelaw3_ReachOrders.Pure := by
  intro l a dn
  intros
  refine Ev.rounds ?_
  unfold withelaw3_ReachOrders.f
  refine Ev.bind begun_ev (ev_if rfl ?_)
  refine ev_ite (fun _ => Ev.now _) (fun b0 => ?_)
  have hl : ∀ x ∈ l, (Lit.int .u8 x).wf = true := by assumption
  have wa : (Lit.int .u8 a).wf = true := by assumption
  obtain ⟨r, er, okr, hdn⟩ := some_ev l hl (by omega) a wa dn
  have h8 := wf_u8 wa
  have hn : (a % 16).toNat + 1 ≤ 64 := by omega
  generalize (a % 16).toNat + 1 = n at *
  have hrl := okr.1
  obtain ⟨c, ec, hc⟩ := acyclic_ok okr hn
  have h1 : (ordR r n).2 = c := by
    rw [Bool.eq_iff_iff, order_ok_iff hn okr, hc]
  have h2 : (deepR r n).2 = (ordR r n).2 := by
    unfold deepR ordR
    cases ordG r n n [] <;> rfl
  have hacy : dn = true → (ordR r n).2 = true := fun hd => by
    rw [order_ok_iff hn okr]
    intro i hi
    have key : ∀ p q, TC (RR r) p q → p < q := by
      rintro p q ⟨m, h1, h2⟩
      have h1 := hdn hd p m h1
      induction h2 with
      | refl => exact h1
      | tail _ e ih => exact Nat.lt_trans ih (hdn hd _ _ e)
    exact Nat.lt_irrefl i (key i i hi)
  have j0 : Ev (fun k => withelaw3_ReachOrders.j0 k r (ordR r n).1 (ordR r n).2 (deepR r n).1 false) true := by
    refine Ev.step (fun k => by simp only [withelaw3_ReachOrders.j0]; rfl) (ev_else (show ¬ (false = true) by decide) ?_)
    unfold ordR deepR
    cases hL : ordG r n n [] with
    | none => exact ev_else (show ¬ (false = true) by decide) (ev_if rfl (Ev.now _))
    | some L =>
      have h := Ord.of hL
      have hll := h.len
      have hD := dep_all okr h L.length (Nat.le_refl _)
      rw [List.take_length] at hD
      show Ev (fun k => if true = true then (if 0 ≤ (r.length : Int) then (if ((r.length : Int) : Int).toNat ≤ 35184372088832 then (withelaw3_ReachOrders.l0 k r (L.map Int.ofNat) (dAll r n L (List.replicate n 0)) (List.replicate ((r.length : Int) : Int).toNat 0) 0) else (none)) else (none)) else _) true
      refine ev_if (show true = true from rfl) (ev_if (by omega) (ev_if (by omega) ?_))
      rw [hrl]
      have hDl := hD.len
      generalize dAll r n L (List.replicate n 0) = D at *
      have start : Ev (fun k => withelaw3_ReachOrders.j2 k r (L.map Int.ofNat) D (List.replicate n (-1)) false) true := by
        refine Ev.step (fun k => by simp only [withelaw3_ReachOrders.j2]; rfl) (ev_else (show ¬ (false = true) by decide) ?_)
        refine ord_l1 hn okr h D true (fun o ho => ord_l2 hn okr h hD ho n 0 rfl (by omega)) n 0 _ rfl (by omega) ⟨by simp, fun i _ hi => absurd hi (Nat.not_lt_zero i), fun x hx _ => ?_⟩
        rw [rd_lt (by simpa using hx)]
        simp
      have key : ∀ (d i : Nat), n - i = d → i ≤ n → Ev (fun k => withelaw3_ReachOrders.l0 k r (L.map Int.ofNat) D (List.replicate i (-1) ++ List.replicate (n - i) 0) (i : Int)) true := by
        intro d
        induction d with
        | zero =>
          intro i h1 h2
          obtain rfl : i = n := by omega
          refine Ev.step (fun k => by simp only [withelaw3_ReachOrders.l0]; rfl) (ev_else (by simp) (ev_if (by rw [List.length_map]; omega) ?_))
          rw [show ((D.length : Int) != (r.length : Int)) = false by simp; omega]
          simpa using start
        | succ d ih =>
          intro i h1 h2
          refine Ev.step (fun k => by simp only [withelaw3_ReachOrders.l0]; rfl) (ev_if (by simp; omega) (ev_if (by omega) ?_))
          rw [w64 (by omega) (by omega)]
          have e : (List.replicate i (-1 : Int) ++ List.replicate (n - i) 0).set ((i : Int)).toNat (-1) = List.replicate (i + 1) (-1) ++ List.replicate (n - (i + 1)) 0 := by
            rw [show ((i : Int)).toNat = i from rfl, List.set_append, if_neg (by simp), show n - i = (n - (i + 1)) + 1 by omega, List.replicate_succ (n := n - (i + 1)), List.replicate_succ']
            simp
          rw [e]
          exact ih (i + 1) (by omega) (by omega)
      have := key n 0 rfl (by omega)
      simpa using this
  refine Ev.bind er (Ev.bind (order_ev hn okr) (Ev.bind (deep_ev hn okr) (Ev.bind ec ?_)))
  refine ev_else (by rw [h1]; exact bne_no _) (ev_else (by rw [h2]; exact bne_no _) (ev_ite (fun hd => ?_) (fun _ => j0)))
  obtain ⟨cl, el⟩ := hasLoop_ev hn okr
  refine Ev.bind el (ev_ite (fun _ => j0) (fun _ => ?_))
  have e0 : (!(ordR r n).2) = false := by rw [hacy hd]; rfl
  rw [e0]
  exact j0
end Go.Proofs.YtniimgbkbghbkaaDoor.Pure
