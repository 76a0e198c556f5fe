/- What comes to what: going on from a set till nothing is new. -/
import Derived.Test.YtniimgbkbghbkaaDoorRelC
import Derived.Test.YtniimgbkbghbkaaDoorPHx2
import Derived.Test.YtniimgbkbghbkaaDoorPHx9
import Derived.Test.YtniimgbkbghbkaaDoorPHx3
import Derived.Test.YtniimgbkbghbkaaDoorPHx8
import Derived.Test.YtniimgbkbghbkaaDoorPHx3
import Derived.Test.YtniimgbkbghbkaaDoorPHx9
import Derived.Test.YtniimgbkbghbkaaDoorPHx9
import Derived.Test.YtniimgbkbghbkaaDoorPHx11
import Derived.Test.YtniimgbkbghbkaaDoorPHx12
namespace Go.Proofs.YtniimgbkbghbkaaDoor.PH
open Go.RowKit Go.Proofs.YtniimgbkbghbkaaDoorW.PrintWords Go.Proofs.YtniimgbkbghbkaaDoorW.PrintLast Go.Proofs.YtniimgbkbghbkaaDoorW.PrintMore
set_option linter.unusedVariables false
set_option linter.unusedSimpArgs false

theorem begun_ev : Ev (fun k => withelaw3_begun.f k) true := Ev.of withelaw3_begun.mono (k := 300) (by kernel_rfl)
/-! any number of steps; one or more -/
inductive RT (R : Nat → Nat → Prop) : Nat → Nat → Prop
  | refl (p : Nat) : RT R p p
  | tail {p q r : Nat} : RT R p q → R q r → RT R p r
theorem RT.one {R : Nat → Nat → Prop} {p q : Nat} (h : R p q) : RT R p q := .tail (.refl p) h
theorem RT.trans {R : Nat → Nat → Prop} {p q r : Nat} (h : RT R p q) (h' : RT R q r) : RT R p r := by
  induction h' with
  | refl => exact h
  | tail _ e ih => exact .tail ih e
theorem RT.head {R : Nat → Nat → Prop} {p q r : Nat} (h : R p q) (h' : RT R q r) : RT R p r := (RT.one h).trans h'
theorem RT.rev {R : Nat → Nat → Prop} {p q : Nat} (h : RT R p q) : RT (fun x y => R y x) q p := by
  induction h with
  | refl => exact .refl _
  | tail _ e ih => exact RT.head (R := fun x y => R y x) e ih
theorem RT.mono {R S : Nat → Nat → Prop} (h : ∀ p q, R p q → S p q) {p q : Nat} (e : RT R p q) : RT S p q := by
  induction e with
  | refl => exact .refl _
  | tail _ e ih => exact .tail ih (h _ _ e)
def TC (R : Nat → Nat → Prop) (p q : Nat) : Prop := ∃ m, R p m ∧ RT R m q
theorem TC.one {R : Nat → Nat → Prop} {p q : Nat} (h : R p q) : TC R p q := ⟨q, h, .refl q⟩
theorem TC.rt {R : Nat → Nat → Prop} {p q : Nat} (h : TC R p q) : RT R p q := by
  obtain ⟨m, h1, h2⟩ := h
  exact h2.head h1
theorem TC.then_rt {R : Nat → Nat → Prop} {p q r : Nat} (h : TC R p q) (h' : RT R q r) : TC R p r := by
  obtain ⟨m, h1, h2⟩ := h
  exact ⟨m, h1, h2.trans h'⟩
theorem TC.trans {R : Nat → Nat → Prop} {p q r : Nat} (h : TC R p q) (h' : TC R q r) : TC R p r := h.then_rt h'.rt
theorem RT.then_tc {R : Nat → Nat → Prop} {p q r : Nat} (h : RT R p q) (h' : TC R q r) : TC R p r := by
  induction h with
  | refl => exact h'
  | tail _ e ih => exact ih (TC.trans (TC.one e) h')
theorem RT.cases {R : Nat → Nat → Prop} {p q : Nat} (h : RT R p q) : p = q ∨ TC R p q := by
  induction h with
  | refl => exact .inl rfl
  | tail _ e ih =>
    rcases ih with rfl | h
    · exact .inr (TC.one e)
    · exact .inr (h.trans (TC.one e))
theorem TC.last {R : Nat → Nat → Prop} {p q : Nat} (h : TC R p q) : ∃ m, RT R p m ∧ R m q := by
  obtain ⟨m, h1, h2⟩ := h
  cases h2 with
  | refl => exact ⟨p, .refl p, h1⟩
  | tail h3 e => exact ⟨_, h3.head h1, e⟩
theorem TC.rev {R : Nat → Nat → Prop} {p q : Nat} (h : TC R p q) : TC (fun x y => R y x) q p := by
  obtain ⟨m, h1, h2⟩ := h.last
  exact ⟨m, h2, h1.rev⟩
theorem TC.mono {R S : Nat → Nat → Prop} (h : ∀ p q, R p q → S p q) {p q : Nat} (e : TC R p q) : TC S p q := by
  obtain ⟨m, h1, h2⟩ := e
  exact ⟨m, h _ _ h1, h2.mono h⟩
theorem TC.idem {R : Nat → Nat → Prop} {p q : Nat} (h : TC (TC R) p q) : TC R p q := by
  obtain ⟨m, h1, h2⟩ := h
  refine h1.then_rt ?_
  clear h1
  induction h2 with
  | refl => exact .refl _
  | tail _ e ih => exact ih.trans e.rt
/-! counting -/
theorem filter_lt (f g : Nat → Bool) : ∀ l : List Nat, (∀ x ∈ l, f x = true → g x = true) → (l.filter f).length ≤ (l.filter g).length ∧ ((∃ x ∈ l, g x = true ∧ f x = false) → (l.filter f).length < (l.filter g).length)
  | [], _ => ⟨Nat.le_refl _, fun ⟨x, h, _⟩ => by cases h⟩
  | x :: l, h => by
    have ih := filter_lt f g l (fun y hy => h y (by simp [hy]))
    have hx := h x (by simp)
    constructor
    · cases e1 : f x <;> cases e2 : g x <;> simp [e1, e2] at hx <;> simp [List.filter_cons, e1, e2] <;> omega
    · rintro ⟨y, hy, h1, h2⟩
      rcases List.mem_cons.mp hy with rfl | hy
      · simp [List.filter_cons, h1, h2]
        omega
      · have := ih.2 ⟨y, hy, h1, h2⟩
        cases e1 : f x <;> cases e2 : g x <;> simp [e1, e2] at hx <;> simp [List.filter_cons, e1, e2] <;> omega
/-! going on -/
def In (n : Nat) (s : Int) : Prop := U s ∧ ∀ q, tb s q = true → q < n
theorem grow_ev (L g : Nat → Int → Option Int) (st : Int → Int) (n : Nat) (R : Nat → Nat → Prop)
    (hL : ∀ k s, L (k + 1) s = (g k s).bind fun t => (if (bits .or .u64 s t) = s then some s else L k (bits .or .u64 s t)))
    (hg : ∀ s, In n s → Ev (fun k => g k s) (st s)) (hst : ∀ s, In n s → U (st s) ∧ ∀ q, tb (st s) q = true ↔ ∃ p, tb s p = true ∧ R p q) (hR : ∀ p q, R p q → q < n) :
    ∀ s, In n s → ∃ t, Ev (fun k => L k s) t ∧ In n t ∧ ∀ q, tb t q = true ↔ ∃ p, tb s p = true ∧ RT R p q := by
  have key : ∀ (d : Nat) (s : Int), n - ((List.range n).filter (tb s)).length ≤ d → In n s → ∃ t, Ev (fun k => L k s) t ∧ In n t ∧ ∀ q, tb t q = true ↔ ∃ p, tb s p = true ∧ RT R p q := by
    intro d
    induction d with
    | zero =>
      intro s hd hs
      obtain ⟨hU, hs2⟩ := hst s hs
      have hle : ((List.range n).filter (tb s)).length ≤ n := Nat.le_trans (List.length_filter_le _ _) (by simp)
      have hc : bits .or .u64 s (st s) = s := by
        refine tb_ext (or_U hs.1 hU) hs.1 fun q hq => ?_
        rw [or_tb hs.1 hU]
        cases e1 : tb s q with
        | true => rfl
        | false =>
          cases e2 : tb (st s) q with
          | false => rfl
          | true =>
            obtain ⟨p, _, hp⟩ := (hs2 q).mp e2
            have := (filter_lt (tb s) (fun _ => true) (List.range n) (fun _ _ _ => rfl)).2 ⟨q, List.mem_range.mpr (hR p q hp), rfl, e1⟩
            rw [List.filter_eq_self.mpr (fun _ _ => rfl), List.length_range] at this
            omega
      refine ⟨s, Ev.step (fun k => hL k s) (Ev.bind (hg s hs) (ev_if hc (Ev.now _))), hs, fun q => ⟨fun h => ⟨q, h, .refl q⟩, ?_⟩⟩
      rintro ⟨p, hp, hrt⟩
      induction hrt with
      | refl => exact hp
      | tail _ e ih =>
        have := (hs2 _).mpr ⟨_, ih, e⟩
        rw [← hc, or_tb hs.1 hU, this, Bool.or_true]
    | succ d ih =>
      intro s hd hs
      obtain ⟨hU, hs2⟩ := hst s hs
      by_cases hc : bits .or .u64 s (st s) = s
      · refine ⟨s, Ev.step (fun k => hL k s) (Ev.bind (hg s hs) (ev_if hc (Ev.now _))), hs, fun q => ⟨fun h => ⟨q, h, .refl q⟩, ?_⟩⟩
        rintro ⟨p, hp, hrt⟩
        induction hrt with
        | refl => exact hp
        | tail _ e ih =>
          have := (hs2 _).mpr ⟨_, ih, e⟩
          rw [← hc, or_tb hs.1 hU, this, Bool.or_true]
      · have hn : In n (bits .or .u64 s (st s)) := ⟨or_U hs.1 hU, fun q hq => by
          rw [or_tb hs.1 hU, Bool.or_eq_true] at hq
          rcases hq with hq | hq
          · exact hs.2 q hq
          · obtain ⟨p, _, hp⟩ := (hs2 q).mp hq
            exact hR p q hp⟩
        have hlt : ((List.range n).filter (tb s)).length < ((List.range n).filter (tb (bits .or .u64 s (st s)))).length := by
          refine (filter_lt (tb s) (tb (bits .or .u64 s (st s))) (List.range n) (fun x _ h => by rw [or_tb hs.1 hU, h]; rfl)).2 ?_
          refine Classical.byContradiction fun hno => hc (tb_ext hn.1 hs.1 fun q hq => ?_)
          cases e1 : tb s q with
          | true => rw [or_tb hs.1 hU, e1]; rfl
          | false =>
            cases e2 : tb (bits .or .u64 s (st s)) q with
            | false => rfl
            | true => exact absurd ⟨q, List.mem_range.mpr (hn.2 q e2), e2, e1⟩ hno
        obtain ⟨t, ht, hin, h⟩ := ih (bits .or .u64 s (st s)) (by omega) hn
        refine ⟨t, Ev.step (fun k => hL k s) (Ev.bind (hg s hs) (ev_else hc ht)), hin, fun q => (h q).trans ⟨?_, ?_⟩⟩
        · rintro ⟨p, hp, hrt⟩
          rw [or_tb hs.1 hU, Bool.or_eq_true] at hp
          rcases hp with hp | hp
          · exact ⟨p, hp, hrt⟩
          · obtain ⟨p0, h0, e⟩ := (hs2 p).mp hp
            exact ⟨p0, h0, hrt.head e⟩
        · rintro ⟨p, hp, hrt⟩
          exact ⟨p, by rw [or_tb hs.1 hU, hp]; rfl, hrt⟩
  exact fun s hs => key _ s (Nat.le_refl _) hs
/-- The pairs of a relation. -/
def RR (a : List Int) (p q : Nat) : Prop := prs a p q = true
theorem OkN.of_may {a : List Int} (ha : Us a) (hm : mayB a = true) : OkN a.length a := ⟨rfl, ha, fun p q h => (prs_in hm h).2⟩
theorem Into_f {n : Nat} {a : List Int} (ha : OkN n a) (hn : n ≤ 64) {s : Int} (hs : U s) : Ev (fun k => rel_Into.f k a s) (intoI a s) := by
  unfold rel_Into.f
  exact Ev.bind (may_f ha.2.1) (ev_if (ha.may hn) (Ev.bind (into_f ha.2.1 (by rw [ha.1]; exact hn) hs) (Ev.now _)))
theorem Into_spec {n : Nat} {a : List Int} (ha : OkN n a) (hn : n ≤ 64) {s : Int} (hs : U s) : U (intoI a s) ∧ ∀ q, tb (intoI a s) q = true ↔ ∃ p, tb s p = true ∧ RR a p q := by
  have h := into_spec ha.2.1 (by rw [ha.1]; exact hn) hs
  refine ⟨h.1, fun q => ?_⟩
  rw [h.2 q]
  simp only [List.any_eq_true, List.mem_range, Bool.and_eq_true]
  constructor
  · rintro ⟨y, _, h1, h2⟩
    exact ⟨y, h1, h2⟩
  · rintro ⟨y, h1, h2⟩
    exact ⟨y, by have := (ha.lt h2).1; rw [ha.1]; exact this, h1, h2⟩
theorem ahead_ok {n : Nat} {a : List Int} (ha : OkN n a) (hn : n ≤ 64) (s : Int) (hs : In n s) : ∃ t, Ev (fun k => reach_graph_grown_at_reach_graph_ahead.f k a s) t ∧ In n t ∧ ∀ q, tb t q = true ↔ ∃ p, tb s p = true ∧ RT (RR a) p q := by
  unfold reach_graph_grown_at_reach_graph_ahead.f
  refine grow_ev (fun k s => reach_graph_grown_at_reach_graph_ahead.l0 k a s) (fun k s => reach_graph_ahead.f k a s) (intoI a) n (RR a) (fun _ _ => rfl) (fun s hs => ?_) (fun s hs => Into_spec ha hn hs.1) (fun p q h => (ha.lt h).2) s hs
  unfold reach_graph_ahead.f
  exact Ev.bind (Into_f ha hn hs.1) (Ev.now _)
theorem behind_ok {n : Nat} {a : List Int} (ha : OkN n a) (hn : n ≤ 64) (s : Int) (hs : In n s) : ∃ t, Ev (fun k => reach_graph_grown_at_reach_graph_behind.f k a s) t ∧ In n t ∧ ∀ q, tb t q = true ↔ ∃ p, tb s p = true ∧ RT (RR a) q p := by
  obtain ⟨b, eb, hb, pb⟩ := back_ok ha hn
  unfold reach_graph_grown_at_reach_graph_behind.f
  obtain ⟨t, e, hin, h⟩ := grow_ev (fun k s => reach_graph_grown_at_reach_graph_behind.l0 k a s) (fun k s => reach_graph_behind.f k a s) (intoI b) n (RR b) (fun _ _ => rfl) (fun s hs => by
    unfold reach_graph_behind.f reach_graph_ahead.f
    exact Ev.bind eb (Ev.bind (Ev.bind (Into_f hb hn hs.1) (Ev.now _)) (Ev.now _))) (fun s hs => Into_spec hb hn hs.1) (fun p q h => (hb.lt h).2) s hs
  refine ⟨t, e, hin, fun q => (h q).trans ⟨?_, ?_⟩⟩
  · rintro ⟨p, hp, hrt⟩
    exact ⟨p, hp, hrt.rev.mono fun x y hxy => (pb y x).mp hxy⟩
  · rintro ⟨p, hp, hrt⟩
    exact ⟨p, hp, hrt.rev.mono fun x y hxy => (pb x y).mpr hxy⟩
/-! rows made by steps -/
theorem rows_ev (L : Nat → List Int → Int → Option (List Int)) (n : Nat) (hn : n ≤ 64) (h : Nat → Int)
    (hstep : ∀ (i : Nat) (o : List Int) (R : List Int), i < n → o.length = n → Ev (fun k => L k (o.set i (h i)) ((i + 1 : Nat) : Int)) R → Ev (fun k => L k o (i : Int)) R)
    (hend : ∀ o, Ev (fun k => L k o (n : Int)) o) : Ev (fun k => L k (List.replicate n 0) 0) ((List.range n).map h) := by
  have key : ∀ (d i : Nat), n - i = d → i ≤ n → Ev (fun k => L k ((List.range i).map h ++ List.replicate (n - i) 0) (i : Int)) ((List.range n).map h) := by
    intro d
    induction d with
    | zero =>
      intro i h1 h2
      obtain rfl : i = n := by omega
      refine ev_eq (hend _) ?_
      simp
    | succ d ih =>
      intro i h1 h2
      refine hstep i _ _ (by omega) (by simp; omega) ?_
      have e : ((List.range i).map h ++ List.replicate (n - i) (0 : Int)).set i (h i) = (List.range (i + 1)).map h ++ List.replicate (n - (i + 1)) 0 := by
        rw [List.set_append, if_neg (by simp), show n - i = (n - (i + 1)) + 1 by omega, List.replicate_succ, List.range_succ, List.map_append]
        simp
      rw [e]
      exact ih (i + 1) (by omega) (by omega)
  have := key n 0 rfl (by omega)
  simpa using this
theorem row_in {n : Nat} {a : List Int} (ha : OkN n a) (p : Nat) : In n (rd a (p : Int)) := ⟨ha.2.1.at_ _, fun q hq => ha.2.2 p q hq⟩
theorem plus_ok {n : Nat} {a : List Int} (ha : OkN n a) (hn : n ≤ 64) : ∃ r, Ev (fun k => reach_Plus.f k a) r ∧ OkN n r ∧ ∀ p q, prs r p q = true ↔ TC (RR a) p q := by
  have hex : ∀ p : Nat, ∃ t, Ev (fun k => reach_graph_grown_at_reach_graph_ahead.f k a (rd a (p : Int))) t ∧ In n t ∧ ∀ q, tb t q = true ↔ TC (RR a) p q := by
    intro p
    obtain ⟨t, h1, h2, h3⟩ := ahead_ok ha hn _ (row_in ha p)
    exact ⟨t, h1, h2, fun q => (h3 q).trans ⟨fun ⟨m, h4, h5⟩ => ⟨m, h4, h5⟩, fun ⟨m, h4, h5⟩ => ⟨m, h4, h5⟩⟩⟩
  let h : Nat → Int := fun p => (hex p).choose
  have hh : ∀ p : Nat, Ev (fun k => reach_graph_grown_at_reach_graph_ahead.f k a (rd a (p : Int))) (h p) ∧ In n (h p) ∧ ∀ q, tb (h p) q = true ↔ TC (RR a) p q := fun p => (hex p).choose_spec
  clear_value h
  have hal := ha.1
  have hI := Is_made n h (fun i _ => (hh i).2.1.1)
  obtain ⟨hok, hp⟩ := OkN.of_is hI (fun p q _ hS => (hh p).2.1.2 q hS)
  refine ⟨(List.range n).map h, ?_, hok, fun p q => (hp p q).trans ?_⟩
  · unfold reach_Plus.f
    refine Ev.bind (may_f ha.2.1) (ev_if (ha.may hn) (ev_if (by omega) (ev_if (by omega) ?_)))
    rw [hal]
    refine rows_ev (fun k o i => reach_Plus.l0 k a o a (n : Int) i) n hn h ?_ ?_
    · intro i o R hi ho hR
      refine Ev.step (fun k => by simp only [reach_Plus.l0]; rfl) (ev_if (by omega) (ev_if (by omega) (ev_if (by omega) (Ev.bind (hh i).1 ?_))))
      refine ev_if (by omega) ?_
      rw [w64 (by omega) (by omega)]
      exact hR
    · intro o
      exact Ev.step (fun k => by simp only [reach_Plus.l0]; rfl) (ev_else (by omega) (Ev.now _))
  · rw [(hh p).2.2 q]
    exact ⟨fun h => h.2, fun h => ⟨by obtain ⟨m, h1, _⟩ := h; exact (ha.lt h1).1, h⟩⟩
theorem plus_bad {a : List Int} (ha : Us a) (hm : mayB a = false) : Ev (fun k => reach_Plus.f k a) [] := by
  unfold reach_Plus.f
  exact Ev.bind (may_f ha) (ev_else (by rw [hm]; simp) (Ev.now _))
theorem star_ok {n : Nat} {a : List Int} (ha : OkN n a) (hn : n ≤ 64) : ∃ r, Ev (fun k => reach_Star.f k a) r ∧ OkN n r ∧ ∀ p q, prs r p q = true ↔ TC (RR a) p q ∨ (p = q ∧ p < n) := by
  obtain ⟨r, e, hr, pr⟩ := plus_ok ha hn
  have hl : ∀ x ∈ (List.range n).map fun i => (i, i), x.1 < n ∧ x.2 < 64 := by
    intro x hx
    obtain ⟨i, hi, rfl⟩ := List.mem_map.mp hx
    have := List.mem_range.mp hi
    exact ⟨this, by show i < 64; omega⟩
  have hsp := putsL_spec ((List.range n).map fun i => (i, i)) r n (prs r) ⟨hr.1, hr.2.1, fun _ _ _ => rfl⟩ hl
  have hmem : ∀ p q, decide ((p, q) ∈ (List.range n).map fun i => (i, i)) = true ↔ p = q ∧ p < n := by
    intro p q
    simp only [decide_eq_true_eq, List.mem_map, List.mem_range]
    constructor
    · rintro ⟨i, hi, e⟩
      cases e
      exact ⟨rfl, hi⟩
    · rintro ⟨rfl, hp⟩
      exact ⟨p, hp, rfl⟩
  obtain ⟨hok, hp⟩ := OkN.of_is hsp (fun p q hpn hS => by
    rcases (Bool.or_eq_true _ _).mp hS with h | h
    · exact (hr.lt h).2
    · obtain ⟨rfl, _⟩ := (hmem p q).mp h
      exact hpn)
  refine ⟨putsL ((List.range n).map fun i => (i, i)) r, ?_, hok, fun p q => (hp p q).trans ?_⟩
  · unfold reach_Star.f
    refine Ev.bind e ?_
    rw [hr.1]
    have := loop_puts0 (fun k o i => reach_Star.l0 k o (n : Int) i) n n (fun i => [(i, i)]) (fun y hy x hx => by
      rw [List.mem_singleton.mp hx]
      exact ⟨hy, by show y < 64; omega⟩) (fun o y R hy ho h => by
        have hol := ho.1
        refine Ev.step (fun k => by simp only [reach_Star.l0]; rfl) (ev_if (by omega) (ev_if (by omega) (ev_if (by omega) (ev_bind0 (put_f _ _) ?_))))
        rw [w64 (by omega) (by omega)]
        exact h) r (putsL ((List.range n).map fun i => (i, i)) r) ⟨hr.1, hr.2.1⟩ (by
        refine Ev.step (fun k => by simp only [reach_Star.l0]; rfl) (ev_else (by omega) (ev_eq (Ev.now _) ?_))
        congr 1
        induction (List.range n) with
        | nil => rfl
        | cons x l ih => simp [List.flatMap_cons, ih])
    exact this
  · rw [Bool.or_eq_true, hmem, pr]
    constructor
    · exact fun h => h.2
    · intro h
      refine ⟨?_, h⟩
      rcases h with h | h
      · obtain ⟨m, h1, _⟩ := h
        exact (ha.lt h1).1
      · exact h.2
theorem star_bad {a : List Int} (ha : Us a) (hm : mayB a = false) : Ev (fun k => reach_Star.f k a) [] := by
  unfold reach_Star.f
  refine Ev.bind (plus_bad ha hm) ?_
  exact Ev.step (fun k => by simp only [reach_Star.l0]; rfl) (ev_else (by simp) (Ev.now _))
theorem acyclic_ok {n : Nat} {a : List Int} (ha : OkN n a) (hn : n ≤ 64) : ∃ c, Ev (fun k => reach_Acyclic.f k a) c ∧ (c = true ↔ ∀ i, ¬ TC (RR a) i i) := by
  obtain ⟨r, e, hr, pr⟩ := plus_ok ha hn
  have hrl := hr.1
  have key : ∀ (d i : Nat), n - i = d → i ≤ n → (∀ j, j < i → prs r j j = false) → ∃ c, Ev (fun k => reach_Acyclic.l0 k a r (n : Int) (i : Int)) c ∧ (c = true ↔ ∀ j, prs r j j = false) := by
    intro d
    induction d with
    | zero =>
      intro i h1 h2 h3
      refine ⟨true, Ev.step (fun k => by simp only [reach_Acyclic.l0]; rfl) (ev_else (by omega) (Ev.bind (may_f ha.2.1) (ev_eq (Ev.now _) (ha.may hn)))), ⟨fun _ j => ?_, fun _ => rfl⟩⟩
      by_cases hj : j < i
      · exact h3 j hj
      · exact prs_far (by omega) j
    | succ d ih =>
      intro i h1 h2 h3
      cases hp : prs r i i with
      | true =>
        refine ⟨false, Ev.step (fun k => by simp only [reach_Acyclic.l0]; rfl) (ev_if (by omega) (ev_if (by omega) (ev_if (by omega) (ev_bind0 (has_f (hr.2.1.at_ _) _) (ev_if ?_ (Ev.now _)))))), ⟨fun h => (by cases h), fun h => by rw [h i] at hp; cases hp⟩⟩
        rw [hasB_nat (hr.2.1.at_ _)]
        exact hp
      | false =>
        obtain ⟨c, hc, hi⟩ := ih (i + 1) (by omega) (by omega) (fun j hj => by
          by_cases hji : j < i
          · exact h3 j hji
          · obtain rfl : j = i := by omega
            exact hp)
        refine ⟨c, Ev.step (fun k => by simp only [reach_Acyclic.l0]; rfl) (ev_if (by omega) (ev_if (by omega) (ev_if (by omega) (ev_bind0 (has_f (hr.2.1.at_ _) _) (ev_else ?_ ?_))))), hi⟩
        · rw [hasB_nat (hr.2.1.at_ _)]
          show ¬ (prs r i i = true)
          rw [hp]
          decide
        · rw [w64 (by omega) (by omega)]
          exact hc
  obtain ⟨c, hc, hi⟩ := key n 0 rfl (by omega) (fun j hj => absurd hj (Nat.not_lt_zero j))
  refine ⟨c, ?_, hi.trans ⟨fun h i hi => ?_, fun h i => ?_⟩⟩
  · unfold reach_Acyclic.f
    refine Ev.bind e ?_
    rw [hrl]
    exact hc
  · have := (pr i i).mpr hi
    rw [h i] at this
    cases this
  · cases hp : prs r i i with
    | false => rfl
    | true => exact absurd ((pr i i).mp hp) (h i)
theorem acyclic_bad {a : List Int} (ha : Us a) (hm : mayB a = false) : Ev (fun k => reach_Acyclic.f k a) false := by
  unfold reach_Acyclic.f
  refine Ev.bind (plus_bad ha hm) ?_
  exact Ev.step (fun k => by simp only [reach_Acyclic.l0]; rfl) (ev_else (by simp) (Ev.bind (may_f ha) (ev_eq (Ev.now _) hm)))
/-! below and above -/
theorem gall_f (a : List Int) (hn : a.length ≤ 64) : Ev (fun k => reach_graph_all.f k a) (rng a.length) := by
  unfold reach_graph_all.f
  exact Ev.bind (range_f a.length hn) (Ev.now _)
theorem in_and {n : Nat} (hn : n ≤ 64) {s : Int} (hs : U s) : In n (bits .and .u64 s (rng n)) ∧ ∀ q, tb (bits .and .u64 s (rng n)) q = true ↔ tb s q = true ∧ q < n := by
  have h : ∀ q, tb (bits .and .u64 s (rng n)) q = true ↔ tb s q = true ∧ q < n := by
    intro q
    rw [and_tb hs (rng_U hn), rng_tb, Bool.and_eq_true, decide_eq_true_eq]
  exact ⟨⟨and_U hs (rng_U hn), fun q hq => ((h q).mp hq).2⟩, h⟩
theorem down_ok {n : Nat} {a : List Int} (ha : OkN n a) (hn : n ≤ 64) {s : Int} (hs : U s) : ∃ t, Ev (fun k => reach_Down.f k a s) t ∧ In n t ∧ ∀ q, tb t q = true ↔ ∃ p, (tb s p = true ∧ p < n) ∧ RT (RR a) q p := by
  obtain ⟨h1, h2⟩ := in_and hn hs
  obtain ⟨t, e, hin, h⟩ := behind_ok ha hn _ h1
  refine ⟨t, ?_, hin, fun q => (h q).trans ⟨fun ⟨p, h3, h4⟩ => ⟨p, (h2 p).mp h3, h4⟩, fun ⟨p, h3, h4⟩ => ⟨p, (h2 p).mpr h3, h4⟩⟩⟩
  unfold reach_Down.f
  have hg := gall_f a (by rw [ha.1]; exact hn)
  rw [ha.1] at hg
  exact Ev.bind (may_f ha.2.1) (ev_if (ha.may hn) (Ev.bind hg (Ev.bind e (Ev.now _))))
theorem up_ok {n : Nat} {a : List Int} (ha : OkN n a) (hn : n ≤ 64) {s : Int} (hs : U s) : ∃ t, Ev (fun k => reach_Up.f k a s) t ∧ In n t ∧ ∀ q, tb t q = true ↔ ∃ p, (tb s p = true ∧ p < n) ∧ RT (RR a) p q := by
  obtain ⟨h1, h2⟩ := in_and hn hs
  obtain ⟨t, e, hin, h⟩ := ahead_ok ha hn _ h1
  refine ⟨t, ?_, hin, fun q => (h q).trans ⟨fun ⟨p, h3, h4⟩ => ⟨p, (h2 p).mp h3, h4⟩, fun ⟨p, h3, h4⟩ => ⟨p, (h2 p).mpr h3, h4⟩⟩⟩
  unfold reach_Up.f
  have hg := gall_f a (by rw [ha.1]; exact hn)
  rw [ha.1] at hg
  exact Ev.bind (may_f ha.2.1) (ev_if (ha.may hn) (Ev.bind hg (Ev.bind e (Ev.now _))))
theorem down_bad {a : List Int} (ha : Us a) (hm : mayB a = false) (s : Int) : Ev (fun k => reach_Down.f k a s) 0 := by
  unfold reach_Down.f
  exact Ev.bind (may_f ha) (ev_else (by rw [hm]; simp) (Ev.now _))
theorem up_bad {a : List Int} (ha : Us a) (hm : mayB a = false) (s : Int) : Ev (fun k => reach_Up.f k a s) 0 := by
  unfold reach_Up.f
  exact Ev.bind (may_f ha) (ev_else (by rw [hm]; simp) (Ev.now _))
theorem in_ext {n : Nat} (hn : n ≤ 64) {a b : Int} (ha : In n a) (hb : In n b) (h : ∀ q, q < n → (tb a q = true ↔ tb b q = true)) : a = b := by
  refine tb_ext ha.1 hb.1 fun q hq => ?_
  rw [Bool.eq_iff_iff]
  by_cases hqn : q < n
  · exact h q hqn
  · exact ⟨fun h => absurd (ha.2 q h) hqn, fun h => absurd (hb.2 q h) hqn⟩
/-! the statements' 'some' -/
theorem some_ev (l : List Int) (hl : ∀ x ∈ l, (Lit.int .u8 x).wf = true) (hlen : l.length ≤ 1000000) (a : Int) (ha : (Lit.int .u8 a).wf = true) (dn : Bool) : ∃ r, Ev (fun k => withelaw3_some.f k l a dn) r ∧ OkN ((a % 16).toNat + 1) r ∧ (dn = true → ∀ p q, prs r p q = true → p < q) := by
  have h8 := wf_u8 ha
  have ht : Int.tmod a 16 = a % 16 := Int.tmod_eq_emod_of_nonneg h8.1
  obtain ⟨n, hn⟩ : ∃ n : Nat, n = (a % 16).toNat + 1 := ⟨_, rfl⟩
  have hnn : a % 16 + 1 = (n : Int) := by omega
  rw [← hn]
  have hn20 : n ≤ 16 := by omega
  have hn1 : 1 ≤ n := by omega
  have key : ∀ (d i : Nat) (o : List Int), l.length - 2 * i ≤ d → 2 * i ≤ l.length → OkN n o → (dn = true → ∀ p q, prs o p q = true → p < q) → ∃ r, Ev (fun k => withelaw3_some.l0 k l dn o ((2 * i : Nat) : Int)) r ∧ OkN n r ∧ (dn = true → ∀ p q, prs r p q = true → p < q) := by
    intro d
    induction d with
    | zero =>
      intro i o h1 h2 ho hdn
      refine ⟨o, Ev.step (fun k => by simp only [withelaw3_some.l0]; rfl) ?_, ho, hdn⟩
      rw [w64 (by omega) (by omega)]
      exact ev_else (by omega) (Ev.now _)
    | succ d ih =>
      intro i o h1 h2 ho hdn
      have hol := ho.1
      by_cases hmore : 2 * i + 1 < l.length
      · have r0 := rd_u8 l hl ((2 * i : Nat) : Int)
        have r1 := rd_u8 l hl (((2 * i : Nat) : Int) + 1)
        obtain ⟨x, hx⟩ : ∃ x : Nat, (x : Int) = rd l ((2 * i : Nat) : Int) % (n : Int) := ⟨(rd l ((2 * i : Nat) : Int) % (n : Int)).toNat, by have := Int.emod_nonneg (rd l ((2 * i : Nat) : Int)) (show (n : Int) ≠ 0 by omega); omega⟩
        obtain ⟨y, hy⟩ : ∃ y : Nat, (y : Int) = rd l (((2 * i : Nat) : Int) + 1) % (n : Int) := ⟨(rd l (((2 * i : Nat) : Int) + 1) % (n : Int)).toNat, by have := Int.emod_nonneg (rd l (((2 * i : Nat) : Int) + 1)) (show (n : Int) ≠ 0 by omega); omega⟩
        have hxn : x < n := by have := Int.emod_lt_of_pos (rd l ((2 * i : Nat) : Int)) (show (0 : Int) < n by omega); omega
        have hyn : y < n := by have := Int.emod_lt_of_pos (rd l (((2 * i : Nat) : Int) + 1)) (show (0 : Int) < n by omega); omega
        have hput := ho.put (by omega) hxn hyn
        have hspec := put1_spec (n := n) (S := prs o) ⟨ho.1, ho.2.1, fun _ _ _ => rfl⟩ (x, y) ⟨hxn, by show y < 64; omega⟩
        obtain ⟨r, hr, hok⟩ : ∃ r, Ev (fun k => (if dn = true then (if (x : Int) ≥ (y : Int) then withelaw3_some.l0 k l dn o ((2 * (i + 1) : Nat) : Int) else withelaw3_some.l0 k l dn (put1 o (x, y)) ((2 * (i + 1) : Nat) : Int)) else withelaw3_some.l0 k l dn (put1 o (x, y)) ((2 * (i + 1) : Nat) : Int))) r ∧ OkN n r ∧ (dn = true → ∀ p q, prs r p q = true → p < q) := by
          by_cases hd : dn = true
          · by_cases hxy : (x : Int) ≥ (y : Int)
            · obtain ⟨r, hr, hok⟩ := ih (i + 1) o (by omega) (by omega) ho hdn
              exact ⟨r, ev_if hd (ev_if hxy hr), hok⟩
            · obtain ⟨r, hr, hok⟩ := ih (i + 1) (put1 o (x, y)) (by omega) (by omega) hput (fun h p q hpq => by
                have hp : p < n := by
                  by_cases hp : p < n
                  · exact hp
                  · rw [prs_far (by rw [hput.1]; omega)] at hpq
                    cases hpq
                have h2 := hspec.2.2 p hp q
                change prs (put1 o (x, y)) p q = _ at h2
                rw [hpq] at h2
                have h3 := h2.symm
                simp only [Bool.or_eq_true, decide_eq_true_eq] at h3
                rcases h3 with h3 | h3
                · exact hdn h p q h3
                · cases h3
                  omega)
              exact ⟨r, ev_if hd (ev_else hxy hr), hok⟩
          · obtain ⟨r, hr, hok⟩ := ih (i + 1) (put1 o (x, y)) (by omega) (by omega) hput (fun h => absurd h hd)
            exact ⟨r, ev_else hd hr, hok⟩
        refine ⟨r, Ev.step (fun k => by simp only [withelaw3_some.l0]; rfl) ?_, hok⟩
        rw [w64 (n := ((2 * i : Nat) : Int) + 1) (by omega) (by omega), w64 (n := rd l ((2 * i : Nat) : Int)) (by omega) (by omega), w64 (n := rd l (((2 * i : Nat) : Int) + 1)) (by omega) (by omega), hol]
        rw [Int.tmod_eq_emod_of_nonneg r0.1, Int.tmod_eq_emod_of_nonneg r1.1, ← hx, ← hy]
        have hw : IntKind.u64.wrap (y : Int) = y := by rw [IntKind.wrap_u64]; omega
        rw [hw, shl_one _ (by omega) (by omega), w64 (n := ((2 * i : Nat) : Int) + 2) (by omega) (by omega)]
        rw [show ((2 * i : Nat) : Int) + 2 = ((2 * (i + 1) : Nat) : Int) by omega]
        refine ev_if (by omega) (ev_if (by omega) (ev_if (by omega) (ev_else (by omega) (ev_if (by omega) ?_))))
        have hsame : put1 o (x, y) = o.set ((x : Int)).toNat (bits .or .u64 (rd o (x : Int)) (oneI (y : Int))) := rfl
        rw [← hsame]
        by_cases hd : dn = true
        · refine ev_if hd ?_
          by_cases hxy : (x : Int) ≥ (y : Int)
          · refine ev_if hxy (Ev.congr (fun k => ?_) hr)
            rw [if_pos hd, if_pos hxy]
          · refine ev_else hxy (ev_if (by omega) (ev_if (by omega) (ev_if (by omega) (Ev.congr (fun k => ?_) hr))))
            rw [if_pos hd, if_neg hxy]
        · refine ev_else hd (ev_if (by omega) (ev_if (by omega) (ev_if (by omega) (Ev.congr (fun k => ?_) hr))))
          rw [if_neg hd]
      · refine ⟨o, Ev.step (fun k => by simp only [withelaw3_some.l0]; rfl) ?_, ho, hdn⟩
        rw [w64 (by omega) (by omega)]
        exact ev_else (by omega) (Ev.now _)
  unfold withelaw3_some.f
  rw [ht, w64 (n := a % 16) (by omega) (by omega), w64 (n := a % 16 + 1) (by omega) (by omega), hnn]
  have hz : ∀ p q, prs (List.replicate n 0) p q = false := (zeros_ok n).2
  obtain ⟨r, hr, hok⟩ := key l.length 0 (List.replicate n 0) (by omega) (by omega) (zeros_ok n).1 (fun _ p q hpq => by
    rw [hz] at hpq
    cases hpq)
  exact ⟨r, ev_if (by omega) (ev_if (by omega) hr), hok⟩
end Go.Proofs.YtniimgbkbghbkaaDoor.PH
