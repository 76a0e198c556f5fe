/- RelSets: either, both and less are those of sets, pair by pair, and what is kept is what both ends let by. For all lists of numbers and all sets. -/
import Derived.Test.YtcehnbneiabaaaaDoorRelC
import Derived.Test.YtcehnbneiabaaaaDoorPRx22
namespace Go.Proofs.YtcehnbneiabaaaaDoor.Pure
open Go.RowKit Go.Proofs.YtcehnbneiabaaaaDoor.PR Go.Proofs.YtcehnbneiabaaaaDoorW.PrintWords Go.Proofs.YtcehnbneiabaaaaDoorW.PrintLast
set_option linter.unusedVariables false
set_option linter.unusedSimpArgs false

theorem RelSets : withelaw2_RelSets.Pure := by
  intro l0 l1 a2 a3
  intros
  refine Ev.rounds ?_
  unfold withelaw2_RelSets.f
  refine Ev.bind begun_ev (ev_if rfl ?_)
  have stop : Ev (fun k => withelaw2_RelSets.j0 k l0 l1 a2 a3 true) true := Ev.step (fun k => by simp only [withelaw2_RelSets.j0]; rfl) (ev_if (show true = true from rfl) (Ev.now _))
  refine ev_ite (fun _ => stop) (fun b0 => ?_)
  by_cases b1 : (l1.length : Int) > 60
  · rw [show decide ((l1.length : Int) > 60) = true by simpa using b1]
    exact stop
  · rw [show decide ((l1.length : Int) > 60) = false by simpa using b1]
    have h0 : ∀ x ∈ l0, (Lit.int .u8 x).wf = true := by assumption
    have h1 : ∀ x ∈ l1, (Lit.int .u8 x).wf = true := by assumption
    have w2 : (Lit.int .u8 a2).wf = true := by assumption
    have hs : U a3 := wf_u64 (by assumption)
    obtain ⟨a, ea, oka⟩ := some_ev l0 h0 (by omega) a2 w2
    obtain ⟨b, eb, okb⟩ := some_ev l1 h1 (by omega) a2 w2
    have h8 := wf_u8 w2
    have hn : (a2 % 20).toNat + 1 ≤ 64 := by omega
    generalize (a2 % 20).toNat + 1 = n at *
    obtain ⟨o, eo, oko, po⟩ := or_ok oka okb hn
    obtain ⟨d, ed, okd, pd⟩ := and_ok oka okb hn
    obtain ⟨e, ee, oke, pe⟩ := less_ok oka okb hn
    obtain ⟨c, ec, okc, pc⟩ := keep_ok oka hn hs
    obtain ⟨t, et, okt, pt⟩ := back_ok oka hn
    have hal := oka.1
    refine Ev.step (fun k => by simp only [withelaw2_RelSets.j0]; rfl) (ev_else (show ¬ (false = true) by decide) (Ev.bind ea (Ev.bind eb (Ev.bind eo (Ev.bind ed (Ev.bind ee (Ev.bind ec (Ev.bind et ?_))))))))
    have qo : ∀ p q, prs o p q = (prs a p q || prs b p q) := fun p q => by rw [Bool.eq_iff_iff, po]; simp
    have qd : ∀ p q, prs d p q = (prs a p q && prs b p q) := fun p q => by rw [Bool.eq_iff_iff, pd]; simp
    have qe : ∀ p q, prs e p q = (prs a p q && !prs b p q) := fun p q => by rw [Bool.eq_iff_iff, pe]; simp
    have qc : ∀ p q, prs c p q = (prs a p q && (tb a3 p && tb a3 q)) := fun p q => by rw [Bool.eq_iff_iff, pc]; simp
    have qt : ∀ p q, prs t p q = prs a q p := fun p q => by rw [Bool.eq_iff_iff, pt]
    have fin : Ev (fun k => withelaw2_RelSets.l0 k a3 a b o d e c t (n : Int)) true := by
      refine Ev.step (fun k => by simp only [withelaw2_RelSets.l0]; rfl) (ev_else (by omega) ?_)
      obtain ⟨z, ez, okz, pz⟩ := or_ok oke okd hn
      have h2 := cnt_two (n := n) (a := a) (b := b) (o := o) (d := d) (fun p _ q => qo p q) (fun p _ q => qd p q) n (Nat.le_refl _)
      have b1 := cntU_le o n
      have b2 := cntU_le d n
      refine Ev.bind (count_ok oko hn) (Ev.bind (count_ok okd hn) (Ev.bind (count_ok oka hn) (Ev.bind (count_ok okb hn) (ev_if ?_ (Ev.bind ez (Ev.bind (same_ok okz oka hn fun p q => ?_) (ev_if rfl (Ev.bind (may_f oko.2.1) (ev_eq (Ev.now _) (oko.may hn))))))))))
      · rw [w64 (by omega) (by omega), w64 (by omega) (by omega)]
        omega
      · rw [pz, pe, pd]
        cases prs b p q <;> simp
    have row : ∀ p, p < n → ∀ (dd q : Nat), n - q = dd → q ≤ n → Ev (fun k => withelaw2_RelSets.l0 k a3 a b o d e c t ((p + 1 : Nat) : Int)) true → Ev (fun k => withelaw2_RelSets.l1 k a3 a b o d e c t (p : Int) (q : Int)) true := by
      intro p hp dd
      induction dd with
      | zero =>
        intro q h1 h2 h
        refine Ev.step (fun k => by simp only [withelaw2_RelSets.l1]; rfl) (ev_else (by omega) ?_)
        rw [w64 (by omega) (by omega)]
        exact h
      | succ dd ih =>
        intro q h1 h2 h
        have next := ih (q + 1) (by omega) (by omega) h
        have hq : q < n := by omega
        have hwp : IntKind.u64.wrap (p : Int) = (p : Int) := by rw [IntKind.wrap_u64]; omega
        have hwq : IntKind.u64.wrap (q : Int) = (q : Int) := by rw [IntKind.wrap_u64]; omega
        have j3 : Ev (fun k => withelaw2_RelSets.j3 k a3 a b o d e c t (p : Int) (q : Int) (prs a p q) (prs b p q) (tb a3 p && tb a3 q)) true := by
          refine Ev.step (fun k => by simp only [withelaw2_RelSets.j3]; rfl) (Ev.bind (relHas_f oko hn hp q) ?_)
          rw [w64 (by omega) (by omega)]
          refine ev_ite (fun hA => ?_) (fun hA => ?_)
          · refine ev_else (by rw [qo, hA]; simp) (Ev.bind (relHas_f okd hn hp q) (ev_else (by rw [qd, hA]; simp) (Ev.bind (relHas_f oke hn hp q) (ev_else (by rw [qe, hA]; simp) (Ev.bind (relHas_f okc hn hp q) (ev_else (by rw [qc, hA]; simp) (Ev.bind (relHas_f okt hn hq p) (ev_else (by rw [qt]; simp) next))))))))
          · have hA : prs a p q = false := by simpa using hA
            refine ev_else (by rw [qo, hA]; simp) (Ev.bind (relHas_f okd hn hp q) (ev_else (by rw [qd, hA]; simp) (Ev.bind (relHas_f oke hn hp q) (ev_else (by rw [qe, hA]; simp) (Ev.bind (relHas_f okc hn hp q) (ev_else (by rw [qc, hA]; simp) (Ev.bind (relHas_f okt hn hq p) (ev_else (by rw [qt]; simp) next))))))))
        refine Ev.step (fun k => by simp only [withelaw2_RelSets.l1]; rfl) (ev_if (by omega) (Ev.bind (relHas_f oka hn hp q) (Ev.bind (relHas_f okb hn hp q) ?_)))
        rw [hwp, hwq, shr_tb hs p (by omega), shr_tb hs q (by omega)]
        refine ev_if (by omega) ?_
        cases e1 : tb a3 p with
        | false =>
          rw [e1, Bool.false_and] at j3
          exact ev_else (by simp) j3
        | true =>
          refine ev_if (by simp) (ev_if (by omega) ?_)
          rw [e1, Bool.true_and] at j3
          cases e2 : tb a3 q with
          | false =>
            rw [e2] at j3
            exact j3
          | true =>
            rw [e2] at j3
            exact j3
    have rows : ∀ (dd p : Nat), n - p = dd → p ≤ n → Ev (fun k => withelaw2_RelSets.l0 k a3 a b o d e c t (p : Int)) true := by
      intro dd
      induction dd with
      | zero =>
        intro p h1 h2
        obtain rfl : p = n := by omega
        exact fin
      | succ dd ih =>
        intro p h1 h2
        refine Ev.step (fun k => by simp only [withelaw2_RelSets.l0]; rfl) (ev_if (by omega) ?_)
        exact row p (by omega) n 0 rfl (by omega) (ih (p + 1) (by omega) (by omega))
    exact rows n 0 rfl (by omega)
end Go.Proofs.YtcehnbneiabaaaaDoor.Pure
