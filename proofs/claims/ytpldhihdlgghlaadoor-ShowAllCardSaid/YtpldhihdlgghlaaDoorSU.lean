/- The law in plain words: ShowAll's answer is true. -/
import Derived.Test.YtpldhihdlgghlaaDoorST
namespace Go.Proofs.YtpldhihdlgghlaaDoor.PS
open Go.RowKit Go.Proofs.YtpldhihdlgghlaaDoorW.PrintWords Go.Proofs.YtpldhihdlgghlaaDoorW.PrintLast Go.Proofs.YtpldhihdlgghlaaDoorW.PrintMore
set_option linter.unusedVariables false
set_option linter.unusedSimpArgs false
theorem show_ev {e : S31} (h : EX 13 e) : Ev (fun k => show_Expr.f k e.f0 e.f1 e.f2 e.f3) (exS 13 e) := Ev.of (fun k => show_Expr.mono _ _ _ _ k) (k := 13) (show_ex 13 e h (by decide))
theorem showall_ev (nm : ByteArray) (vals : Int) (li : List S42) (lt : List (List S45)) (ask : Int) (c : S26) (e : S31) (c2 : S26) (m : Int) (rv : R64 vals) (ri : ∀ x ∈ li, R64 x.f1) (rt : ∀ t ∈ lt, RS 13 t) (rc : RC 13 c) (re : RE 13 e) (rc2 : RC 13 c2) :
    Ev (fun k => withelaw8_ShowAll.f k nm vals li lt ask c.f0 c.f1 c.f2 c.f3 c.f4 e.f0 e.f1 e.f2 e.f3 c2.f0 c2.f1 c2.f2 c2.f3 c2.f4 m) true := by
  have J : Ev (fun k => withelaw8_ShowAll.j0 k m true nm vals li lt ask c.f0 c.f1 c.f2 c.f3 c.f4 e.f0 e.f1 e.f2 e.f3 c2.f0 c2.f1 c2.f2 c2.f3 c2.f4) true := Ev.step (fun n => by simp only [withelaw8_ShowAll.j0]; rfl) (ev_if (c := true = true) rfl (Ev.now _))
  obtain ⟨b, eb, hb⟩ := heavy (nm := nm) ask rv ri rt rc
  obtain ⟨n, en, n1, n2, n3⟩ := esize 13 e re 0 (by decide)
  obtain ⟨n', en', n1', n2', n3'⟩ := csize 13 c2 rc2 0 (by decide)
  rw [z0i] at en en'
  unfold withelaw8_ShowAll.f
  refine ev_bind0 (a := true) rfl (ev_if (c := true = true) rfl (Ev.bind eb ?_))
  cases b with
  | true => exact ev_if (c := true = true) rfl J
  | false =>
    refine ev_else Bool.false_ne_true (Ev.bind en ?_)
    by_cases c1 : n > 300
    · exact ev_if c1 J
    refine ev_else c1 (Ev.bind en' ?_)
    by_cases c3 : n' > 300
    · rw [decide_eq_true c3]
      exact J
    rw [decide_eq_false c3]
    have hp := hb rfl
    have he := n3 (by omega)
    have hc := n3' (by omega)
    refine Ev.step (fun n => by simp only [withelaw8_ShowAll.j0]; rfl) (ev_else Bool.false_ne_true ?_)
    refine ev_bind0 (show show_Prog.f nm vals li lt ask c.f0 c.f1 c.f2 c.f3 c.f4 = some (prS nm vals li lt ask c) from if_pos hp) (Ev.bind (prog_ev ask hp) (ev_if rfl ?_))
    refine Ev.bind (show_ev he) (Ev.bind (expr_ev 13 e he (by decide)) (ev_if rfl ?_))
    refine ev_bind0 (show show_Cond.f c2.f0 c2.f1 c2.f2 c2.f3 c2.f4 = some (cdS 13 c2) from if_pos hc) (Ev.bind (cond_ev 13 c2 hc (by decide)) (ev_if rfl ?_))
    refine ev_bind0 (mode_f m) (ev_bind0 (mode_ref m) (ev_some (congrArg some ?_)))
    exact beq_self_eq_true _
end Go.Proofs.YtpldhihdlgghlaaDoor.PS
