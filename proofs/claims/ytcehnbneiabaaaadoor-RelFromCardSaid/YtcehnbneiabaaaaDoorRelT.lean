/- One relation behind another one; relations that may be. -/
import Derived.Test.YtcehnbneiabaaaaDoorRelM
import Derived.Test.YtcehnbneiabaaaaDoorPRx12
namespace Go.Proofs.YtcehnbneiabaaaaDoor.PR
open Go.RowKit Go.Proofs.YtcehnbneiabaaaaDoorW.PrintWords Go.Proofs.YtcehnbneiabaaaaDoorW.PrintLast Go.Proofs.YtcehnbneiabaaaaDoorW.PrintMore
set_option linter.unusedVariables false
set_option linter.unusedSimpArgs false

def both (a b : List Int) : Bool := mayB a && mayB b && decide (a.length = b.length)
theorem both_iff (a b : List Int) : both a b = true ↔ mayB a = true ∧ mayB b = true ∧ a.length = b.length := by
  simp [both, and_assoc]
theorem pair_may_f {a b : List Int} (ha : Us a) (hb : Us b) : Ev (fun k => rel_pair_may.f k a b) (both a b) := by
  unfold rel_pair_may.f both
  refine Ev.bind (may_f ha) ?_
  cases h1 : mayB a with
  | false => exact ev_else (by simp) (Ev.now _)
  | true =>
    refine ev_if rfl (Ev.bind (may_f hb) ?_)
    cases h2 : mayB b with
    | false => exact ev_else (by simp) (Ev.now _)
    | true =>
      refine ev_if rfl (ev_eq (Ev.now _) ?_)
      rw [Bool.eq_iff_iff]
      simp
      omega
/-! into -/
def orAll (b : List Int) (l : List Nat) (s : Int) : Int := l.foldl (fun acc (i : Nat) => bits .or .u64 acc (rd b (i : Int))) s
theorem orAll_spec {b : List Int} (hb : Us b) : ∀ (l : List Nat) (s : Int), U s → U (orAll b l s) ∧ ∀ q, tb (orAll b l s) q = (tb s q || l.any fun y => prs b y q)
  | [], s, hs => ⟨hs, fun q => by simp [orAll]⟩
  | y :: l, s, hs => by
    have h1 := orAll_spec hb l (bits .or .u64 s (rd b (y : Int))) (or_U hs (hb.at_ _))
    refine ⟨h1.1, fun q => ?_⟩
    show tb (orAll b l (bits .or .u64 s (rd b (y : Int)))) q = _
    rw [h1.2 q, or_tb hs (hb.at_ _), List.any_cons, Bool.or_assoc]
    rfl
theorem rd_map (l : List Nat) (i : Nat) (h : i < l.length) : rd (l.map Int.ofNat) (i : Int) = ((l[i] : Nat) : Int) := by
  rw [rd_lt (by simpa using h)]
  simp
def intoI (b : List Int) (s : Int) : Int := orAll b (els (bits .and .u64 s (rng b.length))) 0
theorem into_f {b : List Int} (hb : Us b) (hn : b.length ≤ 64) {s : Int} (hs : U s) : Ev (fun k => rel_into.f k b s) (intoI b s) := by
  unfold rel_into.f
  refine Ev.bind (range_f b.length hn) (ev_bind0 (list_f (and_U hs (rng_U hn))) ?_)
  have hin : ∀ y ∈ els (bits .and .u64 s (rng b.length)), y < b.length := by
    intro y hy
    rw [mem_els (and_U hs (rng_U hn)), and_tb hs (rng_U hn), rng_tb] at hy
    simp at hy
    exact hy.2
  have hlen := els_len (bits .and .u64 s (rng b.length))
  unfold intoI
  generalize els (bits .and .u64 s (rng b.length)) = l at *
  have key : ∀ (d i : Nat) (acc : Int), l.length - i = d → i ≤ l.length → Ev (fun k => rel_into.l0 k b acc (l.map Int.ofNat) ((l.map Int.ofNat).length : Int) (i : Int)) (orAll b (l.drop i) acc) := by
    intro d
    induction d with
    | zero =>
      intro i acc h1 h2
      refine Ev.step (fun k => by simp only [rel_into.l0]; rfl) (ev_else (by simp; omega) (ev_eq (Ev.now _) ?_))
      rw [List.drop_of_length_le (by omega)]
      rfl
    | succ d ih =>
      intro i acc h1 h2
      have hi : i < l.length := by omega
      have hy := hin _ (List.getElem_mem hi)
      refine Ev.step (fun k => by simp only [rel_into.l0]; rfl) (ev_if (by simp; omega) (ev_if (by omega) (ev_if (by simp; omega) ?_)))
      rw [rd_map l i hi]
      refine ev_if (by omega) (ev_if (by omega) ?_)
      rw [w64 (by omega) (by omega)]
      refine ev_eq (ih (i + 1) _ (by omega) (by omega)) ?_
      rw [List.drop_eq_getElem_cons hi]
      rfl
  exact key l.length 0 0 rfl (by omega)
theorem into_spec {b : List Int} (hb : Us b) (hn : b.length ≤ 64) {s : Int} (hs : U s) : U (intoI b s) ∧ ∀ q, tb (intoI b s) q = (List.range b.length).any fun y => tb s y && prs b y q := by
  have h := orAll_spec hb (els (bits .and .u64 s (rng b.length))) 0 U_zero
  refine ⟨h.1, fun q => (h.2 q).trans ?_⟩
  rw [tb_zero, Bool.false_or, Bool.eq_iff_iff]
  simp only [List.any_eq_true, List.mem_range, Bool.and_eq_true]
  constructor
  · rintro ⟨y, hy, hq⟩
    rw [mem_els (and_U hs (rng_U hn)), and_tb hs (rng_U hn), rng_tb] at hy
    simp at hy
    exact ⟨y, hy.2, hy.1, hq⟩
  · rintro ⟨y, hy, hsy, hq⟩
    refine ⟨y, ?_, hq⟩
    rw [mem_els (and_U hs (rng_U hn)), and_tb hs (rng_U hn), rng_tb]
    simp [hsy, hy]
def thenS (a b : List Int) (p q : Nat) : Bool := (List.range b.length).any fun y => prs a p y && prs b y q
theorem then_got {a b : List Int} (ha : Us a) (hb : Us b) : Got (fun k => rel_Then.f k a b) (both a b) a.length (thenS a b) := by
  unfold rel_Then.f rel_pair_made_at_rel_pair_then.f
  cases hc : both a b with
  | false =>
    refine ⟨[], Ev.bind (Ev.bind (pair_may_f ha hb) (ev_else (by rw [hc]; simp) (Ev.now _))) (Ev.now _), fun h => (by cases h), fun _ => rfl⟩
  | true =>
    obtain ⟨h1, h2, h3⟩ := (both_iff a b).mp hc
    have hn := may_len h1
    refine ⟨(List.range a.length).map fun (i : Nat) => intoI b (rd a (i : Int)), Ev.bind (Ev.bind (pair_may_f ha hb) (ev_if hc (Ev.bind ?_ (Ev.now _)))) (Ev.now _), fun _ => ?_, fun h => (by cases h)⟩
    · unfold rel_made_at_rel_pair_then.f
      refine ev_if (by omega) (ev_if (by omega) (ev_bind0 rfl ?_))
      have := made_ev (fun k x5 x10 x11 => rel_made_at_rel_pair_then.l0 k x5 x10 x11 a b) (fun k i => rel_pair_then.f k a b i) a.length hn (fun (i : Nat) => intoI b (rd a (i : Int))) (fun _ _ _ _ => rfl) (fun i hi => by
        unfold rel_pair_then.f
        exact ev_if (by omega) (ev_if (by omega) (Ev.bind (into_f hb (by omega) (ha.at_ _)) (Ev.now _))))
      rw [List.length_replicate]
      exact this
    · have := Is_made a.length (fun (i : Nat) => intoI b (rd a (i : Int))) (fun i _ => (into_spec hb (by omega) (ha.at_ _)).1)
      refine ⟨this.1, this.2.1, fun p hp q => (this.2.2 p hp q).trans ?_⟩
      exact (into_spec hb (by omega) (ha.at_ _)).2 q
/-! the statements' 'some' -/
theorem shl_one (i : Int) (h0 : 0 ≤ i) (h1 : i < 64) : shl .u64 1 i = oneI i := by
  have := one_f i
  unfold bits_one.f at this
  rw [if_neg (by omega), if_neg (by omega), if_pos h0] at this
  exact Option.some.inj this
theorem wf_u8 {n : Int} (h : (Lit.int .u8 n).wf = true) : 0 ≤ n ∧ n ≤ 255 := by
  have h1 := (Lit.wf_int_iff _ _).mp h
  simp [IntKind.min, IntKind.max, IntKind.signed, IntKind.bits] at h1
  omega
theorem rd_u8 (l : List Int) (h : ∀ x ∈ l, (Lit.int .u8 x).wf = true) (i : Int) : 0 ≤ rd l i ∧ rd l i ≤ 255 := by
  unfold rd
  rw [List.getD_eq_getElem?_getD]
  by_cases h2 : i.toNat < l.length
  · rw [List.getElem?_eq_getElem h2]
    exact wf_u8 (h _ (List.getElem_mem h2))
  · rw [List.getElem?_eq_none (by omega)]
    exact ⟨by decide, by decide⟩
def OkN (n : Nat) (o : List Int) : Prop := o.length = n ∧ Us o ∧ ∀ p q, prs o p q = true → q < n
theorem OkN.may {n : Nat} {o : List Int} (h : OkN n o) (hn : n ≤ 64) : mayB o = true := by
  refine may_of (n := n) (S := prs o) ⟨h.1, h.2.1, fun _ _ _ => rfl⟩ hn fun p q _ hpq => h.2.2 p q hpq
theorem OkN.put {n : Nat} {o : List Int} (h : OkN n o) (hn : n ≤ 64) {x y : Nat} (hx : x < n) (hy : y < n) : OkN n (put1 o (x, y)) := by
  have h1 := put1_spec (n := n) (S := prs o) ⟨h.1, h.2.1, fun _ _ _ => rfl⟩ (x, y) ⟨hx, by show y < 64; omega⟩
  refine ⟨h1.1, h1.2.1, fun p q hpq => ?_⟩
  have hp : p < n := by
    by_cases hp : p < n
    · exact hp
    · rw [prs_far (by rw [h1.1]; omega)] at hpq
      cases hpq
  have h2 := h1.2.2 p hp q
  change prs (put1 o (x, y)) p q = _ at h2
  rw [hpq] at h2
  have h3 := h2.symm
  simp only [Bool.or_eq_true, decide_eq_true_eq] at h3
  rcases h3 with h3 | h3
  · exact h.2.2 p q h3
  · cases h3
    exact hy
end Go.Proofs.YtcehnbneiabaaaaDoor.PR
