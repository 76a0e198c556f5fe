/- ReachPlus: to come to is the least that has all steps, and goes on. For all lists of numbers. -/
import Derived.Test.YtniimgbkbghbkaaDoorRchG
import Derived.Test.YtniimgbkbghbkaaDoorPHx25
namespace Go.Proofs.YtniimgbkbghbkaaDoor.Pure
open Go.RowKit Go.Proofs.YtniimgbkbghbkaaDoor.PH Go.Proofs.YtniimgbkbghbkaaDoorW.PrintWords Go.Proofs.YtniimgbkbghbkaaDoorW.PrintLast
set_option linter.unusedVariables false
set_option linter.unusedSimpArgs false

theorem els_nil {s : Int} (h : ∀ q, tb s q = false) : (els s).length = 0 := by
  unfold els
  rw [List.filter_eq_nil_iff.mpr (fun x _ => by rw [h x]; decide)]
  rfl
theorem cnt_none (r : List Int) (h : ∀ p q, prs r p q = false) : ∀ i, cntU r i = 0
  | 0 => rfl
  | i + 1 => by
    rw [cntU_succ, cnt_none r h i, els_nil (fun q => h i q)]
theorem ReachPlus : withelaw3_ReachPlus.Pure := by
  intro l a
  intros
  refine Ev.rounds ?_
  unfold withelaw3_ReachPlus.f
  refine Ev.bind begun_ev (ev_if rfl ?_)
  refine ev_ite (fun _ => Ev.now _) (fun b0 => ?_)
  have hl : ∀ x ∈ l, (Lit.int .u8 x).wf = true := by assumption
  have wa : (Lit.int .u8 a).wf = true := by assumption
  obtain ⟨r, er, okr, _⟩ := some_ev l hl (by omega) a wa false
  have h8 := wf_u8 wa
  have hn : (a % 16).toNat + 1 ≤ 64 := by omega
  generalize (a % 16).toNat + 1 = n at *
  obtain ⟨p, ep, okp, pp⟩ := plus_ok okr hn
  obtain ⟨rp, e1, ok1, p1⟩ := thenOk okr okp hn
  obtain ⟨o1, e2, ok2, p2⟩ := or_ok okr ok1 hn
  obtain ⟨pr, e3, ok3, p3⟩ := thenOk okp okr hn
  obtain ⟨o2, e4, ok4, p4⟩ := or_ok okr ok3 hn
  obtain ⟨q, e5, ok5, p5⟩ := plus_ok okp hn
  obtain ⟨t, e6, ok6, p6⟩ := thenOk okp okp hn
  obtain ⟨d, e7, ok7, p7⟩ := less_ok ok6 okp hn
  obtain ⟨bp, e8, ok8, p8⟩ := back_ok okp hn
  obtain ⟨br, e9, ok9, p9⟩ := back_ok okr hn
  obtain ⟨pb, e10, ok10, p10⟩ := plus_ok ok9 hn
  obtain ⟨s, e11, ok11, p11⟩ := star_ok okr hn
  obtain ⟨ss, e12, ok12, p12⟩ := star_ok ok11 hn
  have s1 : ∀ x y, prs p x y = true ↔ prs o1 x y = true := fun x y => by
    rw [pp, p2, p1]
    constructor
    · rintro ⟨m, h1, h2⟩
      rcases h2.cases with rfl | h2
      · exact .inl h1
      · exact .inr ⟨m, h1, (pp m y).mpr h2⟩
    · rintro (h | ⟨m, h1, h2⟩)
      · exact TC.one h
      · exact TC.trans (TC.one h1) ((pp m y).mp h2)
  have s2 : ∀ x y, prs p x y = true ↔ prs o2 x y = true := fun x y => by
    rw [pp, p4, p3]
    constructor
    · intro h
      obtain ⟨m, h1, h2⟩ := h.last
      rcases h1.cases with rfl | h1
      · exact .inl h2
      · exact .inr ⟨m, (pp x m).mpr h1, h2⟩
    · rintro (h | ⟨m, h1, h2⟩)
      · exact TC.one h
      · exact TC.trans ((pp x m).mp h1) (TC.one h2)
  have hRp : ∀ x y, RR p x y ↔ TC (RR r) x y := pp
  have s3 : ∀ x y, prs q x y = true ↔ prs p x y = true := fun x y => by
    rw [p5, pp]
    exact ⟨fun h => (h.mono fun x y h => (hRp x y).mp h).idem, fun h => TC.one ((hRp x y).mpr h)⟩
  have hd : ∀ x y, prs d x y = false := fun x y => by
    cases h : prs d x y with
    | false => rfl
    | true =>
      obtain ⟨h1, h2⟩ := (p7 x y).mp h
      obtain ⟨m, h3, h4⟩ := (p6 x y).mp h1
      have := (pp x y).mpr (((pp x m).mp h3).trans ((pp m y).mp h4))
      rw [h2] at this
      cases this
  have s4 : ∀ x y, prs bp x y = true ↔ prs pb x y = true := fun x y => by
    rw [p8, pp, p10]
    constructor
    · intro h
      exact h.rev.mono fun u v huv => (p9 u v).mpr huv
    · intro h
      exact h.rev.mono fun u v huv => (p9 v u).mp huv
  have s5 : ∀ x y, prs ss x y = true ↔ prs s x y = true := fun x y => by
    rw [p12, p11]
    have key : ∀ u v, TC (RR s) u v → TC (RR r) u v ∨ (u = v ∧ u < n) := by
      intro u v h
      obtain ⟨m, h1, h2⟩ := h
      have h1 := (p11 u m).mp h1
      induction h2 with
      | refl => exact h1
      | tail _ e ih =>
        rcases (p11 _ _).mp e with e | ⟨rfl, _⟩
        · rcases ih with ih | ⟨rfl, _⟩
          · exact .inl (ih.trans e)
          · exact .inl e
        · exact ih
    constructor
    · rintro (h | h)
      · exact key x y h
      · exact .inr h
    · rintro (h | h)
      · exact .inl (TC.one ((p11 x y).mpr (.inl h)))
      · exact .inr h
  have j0 : Ev (fun k => withelaw3_ReachPlus.j0 k r p false) true := by
    refine Ev.step (fun k => by simp only [withelaw3_ReachPlus.j0]; rfl) (ev_else (show ¬ (false = true) by decide) ?_)
    exact Ev.bind e8 (Ev.bind e9 (Ev.bind e10 (Ev.bind (same_ok ok8 ok10 hn s4) (ev_if rfl (Ev.bind e11 (Ev.bind e12 (Ev.bind e11 (Ev.bind (same_ok ok12 ok11 hn s5) (Ev.now _)))))))))
  refine Ev.bind er (Ev.bind ep (Ev.bind e1 (Ev.bind e2 (Ev.bind (same_ok okp ok2 hn s1) (ev_if rfl ?_)))))
  refine Ev.bind e3 (Ev.bind e4 (Ev.bind (same_ok okp ok4 hn s2) (ev_if rfl (Ev.bind e5 (Ev.bind (same_ok ok5 okp hn s3) (ev_if rfl (Ev.bind e6 (Ev.bind e7 (Ev.bind (count_ok ok7 hn) ?_)))))))))
  rw [cnt_none d hd n]
  exact j0
end Go.Proofs.YtniimgbkbghbkaaDoor.Pure
