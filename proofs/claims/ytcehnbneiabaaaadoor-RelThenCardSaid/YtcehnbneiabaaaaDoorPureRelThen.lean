/- RelThen: what one relation behind another one is. For all lists of numbers and all rows. -/
import Derived.Test.YtcehnbneiabaaaaDoorRelT
import Derived.Test.YtcehnbneiabaaaaDoorPRx24
namespace Go.Proofs.YtcehnbneiabaaaaDoor.Pure
open Go.RowKit Go.Proofs.YtcehnbneiabaaaaDoor.PR Go.Proofs.YtcehnbneiabaaaaDoorW.PrintWords Go.Proofs.YtcehnbneiabaaaaDoorW.PrintLast
set_option linter.unusedVariables false
set_option linter.unusedSimpArgs false

theorem then_same {a b : List Int} (ha : Us a) (hb : Us b) (hl : a.length ≤ 1000) : ∃ r, Ev (fun k => rel_Then.f k a b) r ∧ Ev (fun k => witheref1_Then.f k a b) r ∧ r.length ≤ 1000 := by
  obtain ⟨r, e1, e2, h1, h2⟩ := (then_got ha hb).same (refThen_got ha hb) (fun _ _ _ _ _ => rfl)
  refine ⟨r, e1, e2, ?_⟩
  cases hc : both a b with
  | true =>
    have := (h1 hc).1
    omega
  | false =>
    rw [h2 hc]
    simp
theorem RelThen : withelaw2_RelThen.Pure := by
  intro l0 l1 a2 l3 l4
  intros
  refine Ev.rounds ?_
  unfold withelaw2_RelThen.f
  refine Ev.bind begun_ev (ev_if rfl ?_)
  have stop : Ev (fun k => withelaw2_RelThen.j0 k l0 l1 a2 l3 l4 true) true := Ev.step (fun k => by simp only [withelaw2_RelThen.j0]; rfl) (ev_if (show true = true from rfl) (Ev.now _))
  refine ev_ite (fun _ => stop) (fun b0 => ev_ite (fun _ => stop) (fun b1 => ev_ite (fun _ => stop) (fun b3 => ?_)))
  by_cases b4 : (l4.length : Int) > 8
  · rw [show decide ((l4.length : Int) > 8) = true by simpa using b4]
    exact stop
  · rw [show decide ((l4.length : Int) > 8) = false by simpa using b4]
    have h0 : ∀ x ∈ l0, (Lit.int .u8 x).wf = true := by assumption
    have h1 : ∀ x ∈ l1, (Lit.int .u8 x).wf = true := by assumption
    have h3 : Us l3 := Us_wf (by assumption)
    have h4 : Us l4 := Us_wf (by assumption)
    have w2 : (Lit.int .u8 a2).wf = true := by assumption
    obtain ⟨x, hx, okx⟩ := some_ev l0 h0 (by omega) a2 w2
    obtain ⟨y, hy, oky⟩ := some_ev l1 h1 (by omega) a2 w2
    have h8 := wf_u8 w2
    have := okx.1
    obtain ⟨r, e1, e2, hr⟩ := then_same okx.2.1 oky.2.1 (by omega)
    obtain ⟨s, e3, e4, hs⟩ := then_same h3 h4 (by omega)
    refine Ev.step (fun k => by simp only [withelaw2_RelThen.j0]; rfl) (ev_else (show ¬ (false = true) by decide) (Ev.bind hx (Ev.bind hy (Ev.bind e1 (Ev.bind e2 (Ev.bind (sameRel_f r r (by omega)) ?_))))))
    refine ev_if (by simp) (Ev.bind e3 (Ev.bind e4 (Ev.bind (sameRel_f s s (by omega)) (ev_eq (Ev.now _) (by simp)))))
end Go.Proofs.YtcehnbneiabaaaaDoor.Pure
