/- An order, the least first where it may be chosen; how deep all is: the program's. -/
import Derived.Test.YtniimgbkbghbkaaDoorRchG
import Derived.Test.YtniimgbkbghbkaaDoorPHx6
import Derived.Test.YtniimgbkbghbkaaDoorPHx7
namespace Go.Proofs.YtniimgbkbghbkaaDoor.PH
open Go.RowKit Go.Proofs.YtniimgbkbghbkaaDoorW.PrintWords Go.Proofs.YtniimgbkbghbkaaDoorW.PrintLast Go.Proofs.YtniimgbkbghbkaaDoorW.PrintMore
set_option linter.unusedVariables false
set_option linter.unusedSimpArgs false

theorem find_congr {f g : Nat → Bool} : ∀ {l : List Nat}, (∀ x ∈ l, f x = g x) → l.find? f = l.find? g
  | [], _ => rfl
  | x :: l, h => by
    have ih := find_congr (l := l) fun y hy => h y (by simp [hy])
    rw [List.find?_cons, List.find?_cons, h x (by simp), ih]
theorem els_range {n : Nat} (hn : n ≤ 64) {s : Int} (hs : In n s) : els s = (List.range n).filter (tb s) := by
  unfold els
  have e : List.range 64 = List.range n ++ (List.range (64 - n)).map (n + ·) := by
    rw [← List.range_add, show n + (64 - n) = 64 by omega]
  rw [e, List.filter_append]
  have : ((List.range (64 - n)).map (n + ·)).filter (tb s) = [] := by
    rw [List.filter_eq_nil_iff]
    intro q hq hh
    obtain ⟨j, _, rfl⟩ := List.mem_map.mp hq
    have := hs.2 _ hh
    omega
  rw [this, List.append_nil]
theorem and_zero {a b : Int} (ha : U a) (hb : U b) : bits .and .u64 a b = 0 ↔ ∀ q, tb a q = true → tb b q = false := by
  constructor
  · intro h q hq
    have := and_tb ha hb q
    rw [h, tb_zero, hq, Bool.true_and] at this
    exact this.symm
  · intro h
    refine tb_ext (and_U ha hb) U_zero fun q _ => ?_
    rw [and_tb ha hb, tb_zero]
    cases e : tb a q with
    | false => rfl
    | true => rw [h q e]; rfl
/-! the pure order -/
def freeB (a : List Int) (n : Nat) (L : List Nat) (i : Nat) : Bool := !(decide (i ∈ L)) && (List.range n).all fun k => decide (k ∈ L) || !prs a k i
def pick (a : List Int) (n : Nat) (L : List Nat) : Option Nat := (List.range n).find? (freeB a n L)
def ordG (a : List Int) (n : Nat) : Nat → List Nat → Option (List Nat)
  | 0, L => some L
  | f + 1, L => match pick a n L with
    | none => none
    | some i => ordG a n f (L ++ [i])
theorem freeB_iff (a : List Int) (n : Nat) (L : List Nat) (i : Nat) : freeB a n L i = true ↔ i ∉ L ∧ ∀ k, k < n → k ∉ L → prs a k i = false := by
  unfold freeB
  simp only [Bool.and_eq_true, Bool.not_eq_true', decide_eq_false_iff_not, List.all_eq_true, List.mem_range, Bool.or_eq_true, decide_eq_true_eq]
  refine and_congr_right fun _ => forall_congr' fun k => forall_congr' fun _ => ?_
  by_cases h : k ∈ L
  · exact ⟨fun _ h2 => absurd h h2, fun _ => .inl h⟩
  · exact ⟨fun h2 _ => h2.resolve_left h, fun h2 => .inr (h2 h)⟩
theorem pick_some {a : List Int} {n : Nat} {L : List Nat} {i : Nat} (h : pick a n L = some i) : i < n ∧ i ∉ L ∧ (∀ k, k < n → k ∉ L → prs a k i = false) ∧ ∀ j, j < i → freeB a n L j = false := by
  unfold pick at h
  obtain ⟨h1, x, hx, e⟩ := List.find?_eq_some_iff_getElem.mp h
  rw [List.getElem_range] at e
  obtain ⟨rfl, h2⟩ := e
  have hxn : x < n := by simpa using hx
  obtain ⟨h3, h4⟩ := (freeB_iff a n L x).mp h1
  refine ⟨hxn, h3, h4, fun j hj => ?_⟩
  have := h2 j hj
  rw [List.getElem_range] at this
  simpa using this
theorem pick_none {a : List Int} {n : Nat} {L : List Nat} (h : pick a n L = none) (i : Nat) (hi : i < n) : freeB a n L i = false := by
  have := List.find?_eq_none.mp h i (List.mem_range.mpr hi)
  simpa using this
theorem filter_one (f : Nat → Bool) (i : Nat) (hf : f i = true) : ∀ n, i < n → ((List.range n).filter f).length = ((List.range n).filter fun x => f x && !decide (x = i)).length + 1
  | 0, h => by omega
  | n + 1, h => by
    rw [List.range_succ, List.filter_append, List.filter_append, List.length_append, List.length_append]
    by_cases hin : i = n
    · subst hin
      have e : (List.range i).filter (fun x => f x && !decide (x = i)) = (List.range i).filter f := List.filter_congr fun x hx => by
        have := List.mem_range.mp hx
        have : decide (x = i) = false := by simp; omega
        rw [this]
        simp
      rw [e]
      simp [List.filter_cons, hf]
    · have := filter_one f i hf n (by omega)
      have h2 : decide (n = i) = false := by simp; omega
      have e : ([n].filter fun x => f x && !decide (x = i)) = [n].filter f := by simp [List.filter_cons, h2]
      rw [e]
      omega
def Inv (n : Nat) (L : List Nat) : Prop := ((List.range n).filter fun i => !decide (i ∈ L)).length + L.length = n ∧ ∀ x ∈ L, x < n
theorem Inv.nil (n : Nat) : Inv n [] := ⟨by rw [List.filter_eq_self.mpr (fun x _ => by simp), List.length_range, List.length_nil, Nat.add_zero], fun x h => by cases h⟩
theorem Inv.step {n : Nat} {L : List Nat} (h : Inv n L) {i : Nat} (hi : i < n) (hL : i ∉ L) : Inv n (L ++ [i]) := by
  have h1 := filter_one (fun x => !decide (x ∈ L)) i (by simp [hL]) n hi
  have e : (fun x => !decide (x ∈ L) && !decide (x = i)) = fun x => !decide (x ∈ L ++ [i]) := by
    funext x
    by_cases h1 : x ∈ L <;> by_cases h2 : x = i <;> simp [h1, h2]
  rw [e] at h1
  have h2 := h.1
  refine ⟨by rw [List.length_append, List.length_singleton]; omega, fun x hx => ?_⟩
  rcases List.mem_append.mp hx with hx | hx
  · exact h.2 x hx
  · rw [List.mem_singleton.mp hx]
    exact hi
theorem Inv.le {n : Nat} {L : List Nat} (h : Inv n L) : L.length ≤ n := by
  have := h.1
  omega
theorem Inv.full {n : Nat} {L : List Nat} (h : Inv n L) (hl : L.length = n) (i : Nat) (hi : i < n) : i ∈ L := by
  have h1 := h.1
  have h2 : ((List.range n).filter fun i => !decide (i ∈ L)).length = 0 := by omega
  have h3 := List.filter_eq_nil_iff.mp (List.eq_nil_of_length_eq_zero h2) i (List.mem_range.mpr hi)
  simpa using h3
theorem Inv.more {n : Nat} {L : List Nat} (h : Inv n L) (hl : L.length < n) : ∃ i, i < n ∧ i ∉ L := by
  have h1 := h.1
  have h2 : 0 < ((List.range n).filter fun i => !decide (i ∈ L)).length := by omega
  obtain ⟨i, hi⟩ := List.exists_mem_of_length_pos h2
  obtain ⟨h3, h4⟩ := List.mem_filter.mp hi
  exact ⟨i, List.mem_range.mp h3, by simpa using h4⟩
theorem least_free {n : Nat} {a : List Int} (ha : OkN n a) (hc : ∀ i, ¬ TC (RR a) i i) (L : List Nat) : ∀ (c i : Nat), i < n → i ∉ L → (∀ j, j < n → freeB a n L j = false) → ((List.range n).filter fun k => @decide (TC (RR a) k i) (Classical.propDecidable _)).length ≤ c → False := by
  intro c
  induction c with
  | zero =>
    intro i hi hL hno hlen
    have h1 : ¬ ∀ k, k < n → k ∉ L → prs a k i = false := fun h => by
      have := (freeB_iff a n L i).mpr ⟨hL, h⟩
      rw [hno i hi] at this
      cases this
    refine h1 fun k hk hkL => ?_
    cases hp : prs a k i with
    | false => rfl
    | true =>
      have h2 : ((List.range n).filter fun k => @decide (TC (RR a) k i) (Classical.propDecidable _)) = [] := List.eq_nil_of_length_eq_zero (by omega)
      have h3 := List.filter_eq_nil_iff.mp h2 k (List.mem_range.mpr hk)
      exact absurd (by simpa using TC.one (show RR a k i from hp)) h3
  | succ c ih =>
    intro i hi hL hno hlen
    have h1 : ¬ ∀ k, k < n → k ∉ L → prs a k i = false := fun h => by
      have := (freeB_iff a n L i).mpr ⟨hL, h⟩
      rw [hno i hi] at this
      cases this
    refine h1 fun k hk hkL => ?_
    cases hp : prs a k i with
    | false => rfl
    | true =>
      refine False.elim (ih k hk hkL hno ?_)
      have hlt := (filter_lt (fun x => @decide (TC (RR a) x k) (Classical.propDecidable _)) (fun x => @decide (TC (RR a) x i) (Classical.propDecidable _)) (List.range n) (fun x _ hx => by
        have hx : TC (RR a) x k := by simpa using hx
        simpa using hx.trans (TC.one (show RR a k i from hp)))).2 ⟨k, List.mem_range.mpr hk, by simpa using TC.one (show RR a k i from hp), by simpa using hc k⟩
      omega
theorem ord_some {n : Nat} {a : List Int} (ha : OkN n a) (hc : ∀ i, ¬ TC (RR a) i i) : ∀ (f : Nat) (L : List Nat), n - L.length = f → Inv n L → ∃ L', ordG a n f L = some L'
  | 0, L, _, _ => ⟨L, rfl⟩
  | f + 1, L, hf, hI => by
    cases hp : pick a n L with
    | none =>
      obtain ⟨i, hi, hL⟩ := hI.more (by omega)
      exact absurd (least_free ha hc L _ i hi hL (pick_none hp) (Nat.le_refl _)) id
    | some i =>
      obtain ⟨h1, h2, _, _⟩ := pick_some hp
      obtain ⟨L', h⟩ := ord_some ha hc f (L ++ [i]) (by rw [List.length_append, List.length_singleton]; omega) (hI.step h1 h2)
      exact ⟨L', by rw [ordG, hp]; exact h⟩
theorem ord_none {n : Nat} {a : List Int} (ha : OkN n a) {i : Nat} (hc : TC (RR a) i i) : ∀ (f : Nat) (L : List Nat), n - L.length = f → Inv n L → (∀ j, TC (RR a) j j → j ∉ L) → ordG a n f L = none
  | 0, L, hf, hI, hL => by
    have hin : i < n := by
      obtain ⟨m, h1, _⟩ := hc
      exact (ha.lt h1).1
    exact absurd (hI.full (by have := hI.le; omega) i hin) (hL i hc)
  | f + 1, L, hf, hI, hL => by
    rw [ordG]
    cases hp : pick a n L with
    | none => rfl
    | some j =>
      obtain ⟨h1, h2, h3, _⟩ := pick_some hp
      refine ord_none ha hc f (L ++ [j]) (by rw [List.length_append, List.length_singleton]; omega) (hI.step h1 h2) fun x hx hxL => ?_
      rcases List.mem_append.mp hxL with h | h
      · exact hL x hx h
      · obtain rfl := List.mem_singleton.mp h
        obtain ⟨m, hm1, hm2⟩ := hx.last
        have hmm : TC (RR a) m m := by
          have := hm1.then_tc (TC.one hm2)
          exact (TC.one hm2).then_rt hm1
        have := h3 m (ha.lt hm2).1 (hL m hmm)
        rw [show prs a m x = true from hm2] at this
        cases this
theorem ord_inv {n : Nat} {a : List Int} : ∀ (f : Nat) (L L' : List Nat), n - L.length = f → Inv n L → ordG a n f L = some L' → Inv n L' ∧ L'.length = n
  | 0, L, L', hf, hI, h => by
    obtain rfl := Option.some.inj h
    exact ⟨hI, by have := hI.le; omega⟩
  | f + 1, L, L', hf, hI, h => by
    rw [ordG] at h
    cases hp : pick a n L with
    | none => rw [hp] at h; cases h
    | some i =>
      rw [hp] at h
      obtain ⟨h1, h2, _, _⟩ := pick_some hp
      exact ord_inv f (L ++ [i]) L' (by rw [List.length_append, List.length_singleton]; omega) (hI.step h1 h2) h
/-! the program's -/
def Left (n : Nat) (L : List Nat) (s : Int) : Prop := U s ∧ ∀ q, tb s q = true ↔ q < n ∧ q ∉ L
theorem pick_els {n : Nat} (hn : n ≤ 64) (a : List Int) {L : List Nat} {s : Int} (hs : Left n L s) : (els s).find? (freeB a n L) = pick a n L := by
  rw [els_range hn ⟨hs.1, fun q hq => ((hs.2 q).mp hq).1⟩, List.find?_filter]
  unfold pick
  refine find_congr fun x hx => ?_
  cases e : freeB a n L x with
  | false => simp
  | true =>
    have := (hs.2 x).mpr ⟨List.mem_range.mp hx, ((freeB_iff a n L x).mp e).1⟩
    simp [this]
theorem drop_f (s i : Int) : bits_Drop.f s i = some (bits .andNot .u64 s (oneI i)) := by
  unfold bits_Drop.f
  rw [one_f]
  rfl
theorem free_and {n : Nat} {a b : List Int} (ha : OkN n a) (hb : OkN n b) (pb : ∀ p q, prs b p q = true ↔ prs a q p = true) {L : List Nat} {s : Int} (hs : Left n L s) {i : Nat} (hi : i ∉ L) : bits .and .u64 (rd b (i : Int)) s = 0 ↔ freeB a n L i = true := by
  rw [and_zero (hb.2.1.at_ _) hs.1, freeB_iff]
  constructor
  · intro h
    refine ⟨hi, fun k hk hkL => ?_⟩
    cases e : prs a k i with
    | false => rfl
    | true =>
      have h1 := h k ((pb i k).mpr e)
      rw [(hs.2 k).mpr ⟨hk, hkL⟩] at h1
      cases h1
  · rintro ⟨_, h⟩ q hq
    have hq : prs a q i = true := (pb i q).mp hq
    cases e : tb s q with
    | false => rfl
    | true =>
      obtain ⟨h1, h2⟩ := (hs.2 q).mp e
      rw [h q h1 h2] at hq
      cases hq
theorem order_l1 {n : Nat} (hn : n ≤ 64) {a b : List Int} (ha : OkN n a) (hb : OkN n b) (pb : ∀ p q, prs b p q = true ↔ prs a q p = true) {L : List Nat} (hI : Inv n L) {s : Int} (hs : Left n L s) (R : List Int × Bool) (i : Nat) (hi : pick a n L = some i)
    (h : Ev (fun k => reach_Order.l0 k b ((L ++ [i]).map Int.ofNat) (bits .andNot .u64 s (oneI (i : Int)))) R) : ∀ (d j : Nat), (els s).length - j = d → j ≤ (els s).length → ((els s).drop j).find? (freeB a n L) = some i →
    Ev (fun k => reach_Order.l1 k b (L.map Int.ofNat) s ((els s).map Int.ofNat) (((els s).map Int.ofNat).length : Int) (j : Int)) R := by
  have hlen := els_len s
  have hbl := hb.1
  intro d
  induction d with
  | zero =>
    intro j h1 h2 hf
    rw [List.drop_of_length_le (by omega)] at hf
    cases hf
  | succ d ih =>
    intro j h1 h2 hf
    have hj : j < (els s).length := by omega
    have hmem := (mem_els hs.1 _).mp (List.getElem_mem hj)
    obtain ⟨hlt, hnL⟩ := (hs.2 _).mp hmem
    rw [List.drop_eq_getElem_cons hj, List.find?_cons] at hf
    refine Ev.step (fun k => by simp only [reach_Order.l1]; rfl) (ev_if (by simp; omega) (ev_if (by omega) (ev_if (by simp; omega) ?_)))
    rw [rd_map (els s) j hj, w64 (by omega) (by omega)]
    refine ev_if (by omega) (ev_if (by omega) ?_)
    have hfa := free_and ha hb pb hs hnL
    cases e : freeB a n L (els s)[j] with
    | true =>
      rw [e] at hf
      obtain rfl := Option.some.inj hf
      have hIl := hI.le
      refine ev_if (hfa.mpr e) (ev_if (by rw [List.length_map]; omega) (ev_bind0 (drop_f _ _) ?_))
      rw [List.map_append] at h
      exact h
    | false =>
      rw [e] at hf
      exact ev_else (fun hz => by rw [hfa.mp hz] at e; cases e) (ih (j + 1) (by omega) (by omega) hf)
theorem left_drop {n : Nat} {L : List Nat} {s : Int} (hs : Left n L s) (i : Nat) (hi : i < 64) : Left n (L ++ [i]) (bits .andNot .u64 s (oneI (i : Int))) := by
  refine ⟨less_U hs.1 (one_U _), fun q => ?_⟩
  rw [less_tb hs.1 (one_U _), one_tb, Bool.and_eq_true, hs.2 q, Bool.not_eq_true', decide_eq_false_iff_not, List.mem_append, List.mem_singleton]
  constructor
  · rintro ⟨⟨h1, h2⟩, h3⟩
    exact ⟨h1, fun h => h.elim h2 (fun h => h3 ⟨by omega, by omega, by omega⟩)⟩
  · rintro ⟨h1, h2⟩
    exact ⟨⟨h1, fun h => h2 (.inl h)⟩, fun h => h2 (.inr (by omega))⟩
theorem order_l0 {n : Nat} (hn : n ≤ 64) {a b : List Int} (ha : OkN n a) (hb : OkN n b) (pb : ∀ p q, prs b p q = true ↔ prs a q p = true) (L' : List Nat) : ∀ (f : Nat) (L : List Nat) (s : Int), n - L.length = f → Inv n L → Left n L s → ordG a n f L = some L' →
    Ev (fun k => reach_Order.l0 k b (L.map Int.ofNat) s) (L'.map Int.ofNat, true)
  | 0, L, s, hf, hI, hs, h => by
    obtain rfl := Option.some.inj h
    have h0 : s = 0 := tb_ext hs.1 U_zero fun q hq => by
      rw [tb_zero]
      cases e : tb s q with
      | false => rfl
      | true =>
        obtain ⟨h1, h2⟩ := (hs.2 q).mp e
        exact absurd (hI.full (by have := hI.le; omega) q h1) h2
    exact Ev.step (fun k => by simp only [reach_Order.l0]; rfl) (ev_if h0 (Ev.now _))
  | f + 1, L, s, hf, hI, hs, h => by
    rw [ordG] at h
    cases hp : pick a n L with
    | none => rw [hp] at h; cases h
    | some i =>
      rw [hp] at h
      obtain ⟨h1, h2, _, _⟩ := pick_some hp
      have next := order_l0 hn ha hb pb L' f (L ++ [i]) _ (by rw [List.length_append, List.length_singleton]; omega) (hI.step h1 h2) (left_drop hs i (by omega)) h
      have h0 : s ≠ 0 := fun h0 => by
        have := (hs.2 i).mpr ⟨h1, h2⟩
        rw [h0, tb_zero] at this
        cases this
      refine Ev.step (fun k => by simp only [reach_Order.l0]; rfl) (ev_else h0 (ev_bind0 (list_f hs.1) ?_))
      exact order_l1 hn ha hb pb hI hs _ i hp next _ 0 rfl (Nat.zero_le _) (by rw [List.drop_zero, pick_els hn a hs]; exact hp)
def ordR (a : List Int) (n : Nat) : List Int × Bool := match ordG a n n [] with
  | some L => (L.map Int.ofNat, true)
  | none => ([], false)
theorem order_ev {n : Nat} (hn : n ≤ 64) {a : List Int} (ha : OkN n a) : Ev (fun k => reach_Order.f k a) (ordR a n) := by
  obtain ⟨c, ec, hc⟩ := acyclic_ok ha hn
  unfold reach_Order.f ordR
  refine Ev.bind ec ?_
  by_cases hcy : ∀ i, ¬ TC (RR a) i i
  · obtain ⟨L, hL⟩ := ord_some ha hcy n [] (by simp) (Inv.nil n)
    obtain ⟨b, eb, hb, pb⟩ := back_ok ha hn
    have hg := gall_f a (by rw [ha.1]; exact hn)
    rw [ha.1] at hg
    rw [hL]
    refine ev_if (hc.mpr hcy) (Ev.bind eb (Ev.bind hg ?_))
    refine order_l0 hn ha hb pb L n [] (rng n) (by simp) (Inv.nil n) ⟨rng_U hn, fun q => ?_⟩ hL
    rw [rng_tb]
    simp
  · obtain ⟨i, hi⟩ := Classical.not_forall.mp hcy
    have hi : TC (RR a) i i := Classical.not_not.mp hi
    rw [ord_none ha hi n [] (by simp) (Inv.nil n) (fun j _ h => by cases h)]
    exact ev_else (fun h => hc.mp h i hi) (Ev.now _)
theorem order_ok_iff {n : Nat} (hn : n ≤ 64) {a : List Int} (ha : OkN n a) : (ordR a n).2 = true ↔ ∀ i, ¬ TC (RR a) i i := by
  unfold ordR
  constructor
  · intro h i hi
    rw [ord_none ha hi n [] (by simp) (Inv.nil n) (fun j _ h => by cases h)] at h
    cases h
  · intro h
    obtain ⟨L, hL⟩ := ord_some ha h n [] (by simp) (Inv.nil n)
    rw [hL]
/-! how deep -/
def dput (i k : Nat) (d : List Int) : List Int := if rd d (k : Int) < rd d (i : Int) + 1 then d.set k (rd d (i : Int) + 1) else d
def dRow (a : List Int) (n i : Nat) (d : List Int) : List Int := (List.range n).foldl (fun d k => if prs a i k = true then dput i k d else d) d
def dAll (a : List Int) (n : Nat) (L : List Nat) (d : List Int) : List Int := L.foldl (fun d i => dRow a n i d) d
def Bd (n m : Nat) (d : List Int) : Prop := d.length = n ∧ ∀ x ∈ d, 0 ≤ x ∧ x ≤ (m : Int)
theorem Bd.at_ {n m : Nat} {d : List Int} (h : Bd n m d) (i : Int) : 0 ≤ rd d i ∧ rd d i ≤ (m : Int) := by
  unfold rd
  rw [List.getD_eq_getElem?_getD]
  by_cases hi : i.toNat < d.length
  · rw [List.getElem?_eq_getElem hi]
    exact h.2 _ (List.getElem_mem hi)
  · rw [List.getElem?_eq_none (by omega)]
    simp
theorem Bd.mono {n m m' : Nat} {d : List Int} (h : Bd n m d) (hm : m ≤ m') : Bd n m' d := ⟨h.1, fun x hx => by have := h.2 x hx; omega⟩
theorem Bd.put {n m : Nat} {d : List Int} (h : Bd n m d) (i k : Nat) : Bd n (m + 1) (dput i k d) := by
  unfold dput
  split
  · refine ⟨by rw [List.length_set]; exact h.1, fun x hx => ?_⟩
    rcases List.mem_or_eq_of_mem_set hx with hx | rfl
    · have := h.2 x hx
      omega
    · have := h.at_ (i : Int)
      omega
  · exact h.mono (by omega)
theorem Bd.zeros (n : Nat) : Bd n 0 (List.replicate n 0) := ⟨by simp, fun x hx => by rw [List.eq_of_mem_replicate hx]; simp⟩
theorem rd_len {d : List Int} (i : Nat) (h : i < d.length) : d.set i (rd d (i : Int)) = d := by
  rw [rd_lt h, List.set_getElem_self]
def deepR (a : List Int) (n : Nat) : List Int × Bool := match ordG a n n [] with
  | some L => (dAll a n L (List.replicate n 0), true)
  | none => ([], false)
theorem row_fold {n : Nat} (hn : n ≤ 64) {a : List Int} (ha : OkN n a) (i : Nat) (d : List Int) : dRow a n i d = (els (rd a (i : Int))).foldl (fun d k => dput i k d) d := by
  rw [els_range hn (row_in ha i), List.foldl_filter]
  rfl
theorem deep_l1 {n : Nat} (hn : n ≤ 64) (a : List Int) (i : Nat) (hi : i < n) (O : List Int) (y z : Int) (ls : List Nat) (hls : ∀ x ∈ ls, x < n) (hll : ls.length ≤ 64) (R : List Int × Bool) : ∀ (dd k m : Nat) (d : List Int), ls.length - k = dd → k ≤ ls.length → Bd n m d → m + (ls.length - k) ≤ 100000 →
    (Bd n (m + (ls.length - k)) ((ls.drop k).foldl (fun d k => dput i k d) d) → Ev (fun x => reach_Deep.l0 x a ((ls.drop k).foldl (fun d k => dput i k d) d) O y (wrap64 (z + 1))) R) →
    Ev (fun x => reach_Deep.l1 x a d (i : Int) O y z (ls.map Int.ofNat) ((ls.map Int.ofNat).length : Int) (k : Int)) R := by
  intro dd
  induction dd with
  | zero =>
    intro k m d h1 h2 hb hm h
    refine Ev.step (fun m => by simp only [reach_Deep.l1]; rfl) (ev_else (by simp; omega) ?_)
    rw [h1, List.drop_of_length_le (by omega)] at h
    exact h hb
  | succ dd ih =>
    intro k m d h1 h2 hb hm h
    have hk : k < ls.length := by omega
    have hx := hls _ (List.getElem_mem hk)
    have hdl := hb.1
    rw [List.drop_eq_getElem_cons hk, List.foldl_cons] at h
    have next : Ev (fun x => reach_Deep.l1 x a (dput i ls[k] d) (i : Int) O y z (ls.map Int.ofNat) ((ls.map Int.ofNat).length : Int) ((k + 1 : Nat) : Int)) R := by
      refine ih (k + 1) (m + 1) _ (by omega) (by omega) (hb.put _ _) (by omega) fun hb' => ?_
      rw [show m + 1 + (ls.length - (k + 1)) = m + (ls.length - k) by omega] at hb'
      exact h hb'
    refine Ev.step (fun m => by simp only [reach_Deep.l1]; rfl) (ev_if (by simp; omega) (ev_if (by omega) (ev_if (by simp; omega) ?_)))
    have hr := hb.at_ (i : Int)
    rw [rd_map ls k hk, w64 (n := rd d (i : Int) + 1) (by omega) (by omega), w64 (n := (k : Int) + 1) (by omega) (by omega)]
    refine ev_if (by omega) (ev_if (by omega) (ev_if (by omega) (ev_if (by omega) ?_)))
    have e : d.set (((ls[k] : Nat) : Int)).toNat (mx (rd d ((ls[k] : Nat) : Int)) (rd d (i : Int) + 1)) = dput i ls[k] d := by
      unfold dput
      rw [show (((ls[k] : Nat) : Int)).toNat = ls[k] from rfl]
      by_cases hc : rd d ((ls[k] : Nat) : Int) < rd d (i : Int) + 1
      · rw [if_pos hc]
        congr 1
        unfold mx
        split <;> omega
      · rw [if_neg hc]
        have : mx (rd d ((ls[k] : Nat) : Int)) (rd d (i : Int) + 1) = rd d ((ls[k] : Nat) : Int) := by
          unfold mx
          split <;> omega
        rw [this, rd_len _ (by omega)]
    rw [e]
    exact next
theorem deep_l0 {n : Nat} (hn : n ≤ 64) {a : List Int} (ha : OkN n a) (L : List Nat) (hL : ∀ x ∈ L, x < n) (hll : L.length ≤ 64) : ∀ (dd j : Nat) (d : List Int), L.length - j = dd → j ≤ L.length → Bd n (j * 64) d →
    Ev (fun x => reach_Deep.l0 x a d (L.map Int.ofNat) ((L.map Int.ofNat).length : Int) (j : Int)) (dAll a n (L.drop j) d, true) := by
  have hal := ha.1
  intro dd
  induction dd with
  | zero =>
    intro j d h1 h2 hb
    refine Ev.step (fun m => by simp only [reach_Deep.l0]; rfl) (ev_else (by rw [List.length_map]; omega) (ev_eq (Ev.now _) ?_))
    rw [List.drop_of_length_le (by omega)]
    rfl
  | succ dd ih =>
    intro j d h1 h2 hb
    have hj : j < L.length := by omega
    have hx := hL _ (List.getElem_mem hj)
    have hel := els_len (rd a ((L[j] : Nat) : Int))
    refine Ev.step (fun m => by simp only [reach_Deep.l0]; rfl) (ev_if (by rw [List.length_map]; omega) (ev_if (by omega) (ev_if (by rw [List.length_map]; omega) ?_)))
    rw [rd_map L j hj]
    refine ev_if (by omega) (ev_if (by omega) (ev_bind0 (list_f (ha.2.1.at_ _)) ?_))
    refine deep_l1 hn a L[j] hx _ _ _ (els (rd a ((L[j] : Nat) : Int))) (fun x hx => ?_) hel _ _ 0 (j * 64) d rfl (by omega) hb (by omega) fun hb' => ?_
    · exact ha.2.2 _ x ((mem_els (ha.2.1.at_ _) x).mp hx)
    · have := ih (j + 1) _ (by omega) (by omega) (hb'.mono (m' := (j + 1) * 64) (by omega))
      rw [w64 (by omega) (by omega), List.drop_eq_getElem_cons hj]
      refine ev_eq this ?_
      rw [List.drop_zero, ← row_fold hn ha]
      rfl
theorem deep_ev {n : Nat} (hn : n ≤ 64) {a : List Int} (ha : OkN n a) : Ev (fun k => reach_Deep.f k a) (deepR a n) := by
  unfold reach_Deep.f
  refine Ev.bind (order_ev hn ha) ?_
  have hal := ha.1
  unfold ordR deepR
  cases h : ordG a n n [] with
  | none => exact ev_else (by decide) (Ev.now _)
  | some L =>
    obtain ⟨hI, hl⟩ := ord_inv n [] L (by simp) (Inv.nil n) h
    refine ev_if rfl (ev_if (by omega) (ev_if (by omega) ?_))
    rw [hal]
    have := deep_l0 hn ha L hI.2 (by omega) L.length 0 (List.replicate n 0) rfl (by omega) ((Bd.zeros n).mono (by omega))
    rw [List.drop_zero] at this
    exact this
end Go.Proofs.YtniimgbkbghbkaaDoor.PH
