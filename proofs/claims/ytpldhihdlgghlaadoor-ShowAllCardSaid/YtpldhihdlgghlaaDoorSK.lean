/- The document's expressions and conditions come to the same texts. -/
import Derived.Test.YtpldhihdlgghlaaDoorSA
namespace Go.Proofs.YtpldhihdlgghlaaDoor.PS
open Go.RowKit Go.Proofs.YtpldhihdlgghlaaDoorW.PrintWords Go.Proofs.YtpldhihdlgghlaaDoorW.PrintLast Go.Proofs.YtpldhihdlgghlaaDoorW.PrintMore
set_option linter.unusedVariables false
set_option linter.unusedSimpArgs false
theorem szm (a : Array UInt8) : (⟨a⟩ : ByteArray).size = a.size := rfl
theorem kid_ev {F : Nat → Int → Int → ByteArray → List S31 → Option ByteArray} {k : Nat} {l : List S31} (i : Nat) (h : ∀ x ∈ l, Ev (fun n => F n x.f0 x.f1 x.f2 x.f3) (exS k x)) : Ev (fun n => witheref6_kid.b (F n) l (i : Int)) (kidS k l i) := by
  unfold witheref6_kid.b kidS
  by_cases hi : i < l.length
  · refine ev_else (by omega) (ev_if (by omega) (ev_if (by omega) ?_))
    have e : rd_T31 l (i : Int) = l[i] := by simp [rd_T31, hi]
    rw [e, List.getElem?_eq_getElem hi]
    exact Ev.bind (h _ (List.getElem_mem hi)) (Ev.now _)
  · refine ev_if (by omega) ?_
    rw [List.getElem?_eq_none (by omega)]
    exact Ev.now _
theorem expr_ev : ∀ k e, EX k e → k ≤ 13 → Ev (fun n => witheref6_Expr.f n e.f0 e.f1 e.f2 e.f3) (exS k e)
  | 0, e, h, _ => h.elim
  | k + 1, e, h, hk => by
    obtain ⟨h1, h2, h3⟩ := h
    have K := fun i => kid_ev (F := witheref6_Expr.f) (k := k) (l := e.f3) i (fun x hx => expr_ev k x (h3 x hx) (by omega))
    have k0 := Nat.le_trans (kidS_size h3 0) (bnd_le k (by omega))
    have k1 := Nat.le_trans (kidS_size h3 1) (bnd_le k (by omega))
    refine Ev.step (fun n => by simp only [witheref6_Expr.f]; rfl) ?_
    unfold exS
    by_cases c1 : e.f0 = 1
    · rw [if_pos c1]
      exact ev_if c1 (Ev.bind (dig_f h1) (Ev.now _))
    rw [if_neg c1]
    refine ev_else c1 ?_
    by_cases c2 : e.f0 = 2
    · rw [if_pos c2]
      exact ev_if c2 (Ev.now _)
    rw [if_neg c2]
    refine ev_else c2 ?_
    by_cases c3 : e.f0 = 3
    · rw [if_pos (by omega), midS, if_pos c3]
      refine ev_if c3 (Ev.bind (K 0) (ev_if (by ((try simp only [ByteArray.size_append, szm, List.size_toArray, List.length_cons, List.length_nil]); omega)) (ev_if (by ((try simp only [ByteArray.size_append, szm, List.size_toArray, List.length_cons, List.length_nil]); omega)) (Ev.bind (K 1) (ev_if (by ((try simp only [ByteArray.size_append, szm, List.size_toArray, List.length_cons, List.length_nil]); omega)) (ev_if (by ((try simp only [ByteArray.size_append, szm, List.size_toArray, List.length_cons, List.length_nil]); omega)) (Ev.now _)))))))
    refine ev_else c3 ?_
    by_cases c4 : e.f0 = 4
    · rw [if_pos (by omega), midS, if_neg c3, if_pos c4]
      refine ev_if c4 (Ev.bind (K 0) (ev_if (by ((try simp only [ByteArray.size_append, szm, List.size_toArray, List.length_cons, List.length_nil]); omega)) (ev_if (by ((try simp only [ByteArray.size_append, szm, List.size_toArray, List.length_cons, List.length_nil]); omega)) (Ev.bind (K 1) (ev_if (by ((try simp only [ByteArray.size_append, szm, List.size_toArray, List.length_cons, List.length_nil]); omega)) (ev_if (by ((try simp only [ByteArray.size_append, szm, List.size_toArray, List.length_cons, List.length_nil]); omega)) (Ev.now _)))))))
    refine ev_else c4 ?_
    by_cases c5 : e.f0 = 5
    · rw [if_pos (by omega), midS, if_neg c3, if_neg c4, if_pos c5]
      refine ev_if c5 (Ev.bind (K 0) (ev_if (by ((try simp only [ByteArray.size_append, szm, List.size_toArray, List.length_cons, List.length_nil]); omega)) (ev_if (by ((try simp only [ByteArray.size_append, szm, List.size_toArray, List.length_cons, List.length_nil]); omega)) (Ev.bind (K 1) (ev_if (by ((try simp only [ByteArray.size_append, szm, List.size_toArray, List.length_cons, List.length_nil]); omega)) (ev_if (by ((try simp only [ByteArray.size_append, szm, List.size_toArray, List.length_cons, List.length_nil]); omega)) (Ev.now _)))))))
    refine ev_else c5 ?_
    by_cases c6 : e.f0 = 6
    · rw [if_pos (by omega), midS, if_neg c3, if_neg c4, if_neg c5]
      refine ev_if c6 (Ev.bind (K 0) (ev_if (by ((try simp only [ByteArray.size_append, szm, List.size_toArray, List.length_cons, List.length_nil]); omega)) (ev_if (by ((try simp only [ByteArray.size_append, szm, List.size_toArray, List.length_cons, List.length_nil]); omega)) (Ev.bind (K 1) (ev_if (by ((try simp only [ByteArray.size_append, szm, List.size_toArray, List.length_cons, List.length_nil]); omega)) (ev_if (by ((try simp only [ByteArray.size_append, szm, List.size_toArray, List.length_cons, List.length_nil]); omega)) (Ev.now _)))))))
    rw [if_neg (by omega)]
    exact ev_else c6 (Ev.now _)
theorem side_ev {F : Nat → Int → Int → ByteArray → Int → List S26 → Option ByteArray} {k : Nat} {l : List S26} (i : Nat) (h : ∀ x ∈ l, Ev (fun n => F n x.f0 x.f1 x.f2 x.f3 x.f4) (cdS k x)) : Ev (fun n => witheref6_side.b (F n) l (i : Int)) (sideM (cdS k) l i) := by
  unfold witheref6_side.b sideM
  by_cases hi : i < l.length
  · refine ev_else (by omega) (ev_if (by omega) (ev_if (by omega) ?_))
    have e : rd_T26 l (i : Int) = l[i] := by simp [rd_T26, hi]
    rw [e, List.getElem?_eq_getElem hi]
    exact Ev.bind (h _ (List.getElem_mem hi)) (Ev.now _)
  · refine ev_if (by omega) ?_
    rw [List.getElem?_eq_none (by omega)]
    exact Ev.now _
theorem cond_ev : ∀ k c, CX k c → k ≤ 13 → Ev (fun n => witheref6_Cond.f n c.f0 c.f1 c.f2 c.f3 c.f4) (cdS k c)
  | 0, c, h, _ => h.elim
  | k + 1, c, h, hk => by
    obtain ⟨h0, h1, h2, h3⟩ := h
    have K := fun i => side_ev (F := witheref6_Cond.f) (k := k) (l := c.f4) i (fun x hx => cond_ev k x (h3 x hx) (by omega))
    have bk := bndC_le k (by omega)
    have k0 := Nat.le_trans (sideM_size (k := k) (cdS k) (bndC k) (fun x hx => cdS_size k x (h3 x hx)) 0) bk
    have k1 := Nat.le_trans (sideM_size (k := k) (cdS k) (bndC k) (fun x hx => cdS_size k x (h3 x hx)) 1) bk
    have i1 := it_size h0
    have i3 := it_size h1
    refine Ev.step (fun n => by simp only [witheref6_Cond.f]; rfl) ?_
    unfold cdS
    by_cases c1 : c.f0 = 1
    · rw [if_pos c1]
      exact ev_if c1 (ev_if (by ((try simp only [ByteArray.size_append, szm, List.size_toArray, List.length_cons, List.length_nil]); omega)) (Ev.bind (dig_f h1) (ev_if (by ((try simp only [ByteArray.size_append, szm, List.size_toArray, List.length_cons, List.length_nil]); omega)) (Ev.now _))))
    rw [if_neg c1]
    refine ev_else c1 ?_
    by_cases c2 : c.f0 = 2
    · rw [if_pos c2]
      refine ev_if c2 (Ev.bind (dig_f h0) (ev_if (by ((try simp only [ByteArray.size_append, szm, List.size_toArray, List.length_cons, List.length_nil]); omega)) (ev_if (by ((try simp only [ByteArray.size_append, szm, List.size_toArray, List.length_cons, List.length_nil]); omega)) (ev_if (by ((try simp only [ByteArray.size_append, szm, List.size_toArray, List.length_cons, List.length_nil]); omega)) (Ev.bind (dig_f h1) (ev_if (by ((try simp only [ByteArray.size_append, szm, List.size_toArray, List.length_cons, List.length_nil]); omega)) (ev_eq (Ev.now _) ?_)))))))
      simp only [isS, ByteArray.append_assoc]
    rw [if_neg c2]
    refine ev_else c2 ?_
    by_cases c3 : c.f0 = 3
    · rw [if_pos c3]
      exact ev_if c3 (Ev.bind (K 0) (ev_if (by ((try simp only [ByteArray.size_append, szm, List.size_toArray, List.length_cons, List.length_nil]); omega)) (Ev.now _)))
    rw [if_neg c3]
    refine ev_else c3 ?_
    by_cases c4 : c.f0 = 4
    · rw [if_pos c4]
      exact ev_if c4 (Ev.bind (K 0) (ev_if (by ((try simp only [ByteArray.size_append, szm, List.size_toArray, List.length_cons, List.length_nil]); omega)) (ev_if (by ((try simp only [ByteArray.size_append, szm, List.size_toArray, List.length_cons, List.length_nil]); omega)) (Ev.bind (K 1) (ev_if (by ((try simp only [ByteArray.size_append, szm, List.size_toArray, List.length_cons, List.length_nil]); omega)) (ev_if (by ((try simp only [ByteArray.size_append, szm, List.size_toArray, List.length_cons, List.length_nil]); omega)) (Ev.now _)))))))
    rw [if_neg c4]
    refine ev_else c4 ?_
    by_cases c5 : c.f0 = 5
    · rw [if_pos c5]
      exact ev_if c5 (Ev.bind (K 0) (ev_if (by ((try simp only [ByteArray.size_append, szm, List.size_toArray, List.length_cons, List.length_nil]); omega)) (ev_if (by ((try simp only [ByteArray.size_append, szm, List.size_toArray, List.length_cons, List.length_nil]); omega)) (Ev.bind (K 1) (ev_if (by ((try simp only [ByteArray.size_append, szm, List.size_toArray, List.length_cons, List.length_nil]); omega)) (ev_if (by ((try simp only [ByteArray.size_append, szm, List.size_toArray, List.length_cons, List.length_nil]); omega)) (Ev.now _)))))))
    rw [if_neg c5]
    exact ev_else c5 (Ev.now _)
end Go.Proofs.YtpldhihdlgghlaaDoor.PS
