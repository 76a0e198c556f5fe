/- What is not too heavy is of small depth, of short names. -/
import Derived.Test.YtpldhihdlgghlaaDoorSM
import Derived.Test.YtpldhihdlgghlaaDoorPSx7
namespace Go.Proofs.YtpldhihdlgghlaaDoor.PS
open Go.RowKit Go.Proofs.YtpldhihdlgghlaaDoorW.PrintWords Go.Proofs.YtpldhihdlgghlaaDoorW.PrintLast Go.Proofs.YtpldhihdlgghlaaDoorW.PrintMore
set_option linter.unusedVariables false
set_option linter.unusedSimpArgs false
theorem ne_true {p : Prop} [Decidable p] (h : ¬ p) : ¬ (decide p = true) := fun e => h (of_decide_eq_true e)
theorem z0i : ((0 : Nat) : Int) = 0 := rfl
/-- The numbers of an expression are in range, so far in. -/
def RE : Nat → S31 → Prop
  | 0, _ => True
  | k + 1, e => R64 e.f1 ∧ ∀ x ∈ e.f3, RE k x
def RC : Nat → S26 → Prop
  | 0, _ => True
  | k + 1, c => R64 c.f1 ∧ R64 c.f3 ∧ ∀ x ∈ c.f4, RC k x
def RS : Nat → List S45 → Prop
  | 0, _ => True
  | k + 1, l => ∀ s ∈ l, (∀ x ∈ s.f4, RE 13 x) ∧ RS k s.f5 ∧ RS k s.f6
theorem drop31 {l : List S31} {i : Nat} (h : i < l.length) : l.drop i = rd_T31 l (i : Int) :: l.drop (i + 1) ∧ rd_T31 l (i : Int) ∈ l := by
  constructor
  · rw [List.drop_eq_getElem_cons h]
    simp [rd_T31, h]
  · simp [rd_T31, h]
theorem drop26 {l : List S26} {i : Nat} (h : i < l.length) : l.drop i = rd_T26 l (i : Int) :: l.drop (i + 1) ∧ rd_T26 l (i : Int) ∈ l := by
  constructor
  · rw [List.drop_eq_getElem_cons h]
    simp [rd_T26, h]
  · simp [rd_T26, h]
def ESize (k : Nat) : Prop := ∀ e, RE k e → ∀ d : Nat, d + k = 13 → ∃ n : Int, Ev (fun r => withemade_ExprSize.f r e.f0 e.f1 e.f2 e.f3 (d : Int)) n ∧ 1 ≤ n ∧ n ≤ 301 + 300 * k ∧ (n ≤ 300 → EX k e)
theorem esize_loop (k : Nat) (ih : ESize k) (e : S31) (he : ∀ x ∈ e.f3, RE k x) (d : Nat) (hd : d + (k + 1) = 13) (hl : e.f3.length ≤ 20) : ∀ m i (x5 : Int), i + m = e.f3.length → 1 ≤ x5 → x5 ≤ 300 →
    ∃ n : Int, Ev (fun r => withemade_ExprSize.l0 r (d : Int) x5 (i : Int) e.f0 e.f1 e.f2 e.f3) n ∧ 1 ≤ n ∧ n ≤ 301 + 300 * (k + 1) ∧ (n ≤ 300 → ∀ x ∈ e.f3.drop i, EX k x)
  | 0, i, x5, h, h1, h2 => by
    refine ⟨x5, Ev.step (fun n => by simp only [withemade_ExprSize.l0]; rfl) (ev_else (by omega) (Ev.now _)), h1, by omega, fun _ x hx => ?_⟩
    rw [List.drop_of_length_le (by omega)] at hx
    cases hx
  | m + 1, i, x5, h, h1, h2 => by
    have hi : i < e.f3.length := by omega
    obtain ⟨dr, mem⟩ := drop31 hi
    obtain ⟨t, et, t1, t2, t3⟩ := ih _ (he _ mem) (d + 1) (by omega)
    have e1 : wrap64 ((d : Int) + 1) = ((d + 1 : Nat) : Int) := by rw [w64 (by omega) (by omega)]; omega
    have e2 : wrap64 (x5 + t) = x5 + t := w64 (by omega) (by omega)
    have e3 : wrap64 ((i : Int) + 1) = ((i + 1 : Nat) : Int) := by rw [w64 (by omega) (by omega)]; omega
    by_cases c : x5 + t > 300
    · refine ⟨x5 + t, Ev.step (fun n => by simp only [withemade_ExprSize.l0]; rfl) (ev_if (by omega) (ev_if (by omega) (Ev.bind (by rw [e1]; exact et) ?_))), by omega, by omega, fun hn => by omega⟩
      rw [e2]
      exact ev_if c (Ev.now _)
    · obtain ⟨n, en, n1, n2, n3⟩ := esize_loop k ih e he d hd hl m (i + 1) (x5 + t) (by omega) (by omega) (by omega)
      refine ⟨n, Ev.step (fun n => by simp only [withemade_ExprSize.l0]; rfl) (ev_if (by omega) (ev_if (by omega) (Ev.bind (by rw [e1]; exact et) ?_))), n1, n2, fun hn x hx => ?_⟩
      · rw [e2, e3]
        exact ev_else c en
      · rw [dr] at hx
        rcases List.mem_cons.mp hx with rfl | hx
        · exact t3 (by omega)
        · exact n3 hn x hx
theorem esize : ∀ k, ESize k
  | 0 => fun e _ d hd => ⟨301, Ev.step (fun n => by simp only [withemade_ExprSize.f]; rfl) (ev_if (by omega) (Ev.step (fun n => by simp only [withemade_ExprSize.j0]; rfl) (ev_if (c := true = true) rfl (Ev.now _)))), by omega, by omega, fun h => by omega⟩
  | k + 1 => by
    intro e he d hd
    obtain ⟨h1, h3⟩ := he
    by_cases c : e.f3.length > 20
    · exact ⟨301, Ev.step (fun n => by simp only [withemade_ExprSize.f]; rfl) (ev_else (by omega) (ev_if (by omega) (Ev.step (fun n => by simp only [withemade_ExprSize.j0]; rfl) (ev_if (c := true = true) rfl (Ev.now _))))), by omega, by omega, fun h => by omega⟩
    by_cases c2 : e.f2.size > 40
    · exact ⟨301, Ev.step (fun n => by simp only [withemade_ExprSize.f]; rfl) (ev_else (by omega) (ev_else (by omega) (Ev.step (fun n => by simp only [withemade_ExprSize.j0]; rfl) (ev_if (decide_eq_true (by omega)) (Ev.now _))))), by omega, by omega, fun h => by omega⟩
    obtain ⟨n, en, n1, n2, n3⟩ := esize_loop k (esize k) e h3 d hd (by omega) e.f3.length 0 1 (by omega) (by omega) (by omega)
    refine ⟨n, Ev.step (fun n => by simp only [withemade_ExprSize.f]; rfl) (ev_else (by omega) (ev_else (by omega) (Ev.step (fun n => by simp only [withemade_ExprSize.j0]; rfl) (ev_else (ne_true (by omega)) en)))), n1, n2, fun hn => ⟨h1, by omega, ?_⟩⟩
    have := n3 hn
    rwa [List.drop_zero] at this
def CSize (k : Nat) : Prop := ∀ c, RC k c → ∀ d : Nat, d + k = 13 → ∃ n : Int, Ev (fun r => withemade_CondSize.f r c.f0 c.f1 c.f2 c.f3 c.f4 (d : Int)) n ∧ 1 ≤ n ∧ n ≤ 301 + 300 * k ∧ (n ≤ 300 → CX k c)
theorem csize_loop (k : Nat) (ih : CSize k) (e : S26) (he : ∀ x ∈ e.f4, RC k x) (d : Nat) (hd : d + (k + 1) = 13) (hl : e.f4.length ≤ 20) : ∀ m i (x5 : Int), i + m = e.f4.length → 1 ≤ x5 → x5 ≤ 300 →
    ∃ n : Int, Ev (fun r => withemade_CondSize.l0 r (d : Int) x5 (i : Int) e.f0 e.f1 e.f2 e.f3 e.f4) n ∧ 1 ≤ n ∧ n ≤ 301 + 300 * (k + 1) ∧ (n ≤ 300 → ∀ x ∈ e.f4.drop i, CX k x)
  | 0, i, x5, h, h1, h2 => by
    refine ⟨x5, Ev.step (fun n => by simp only [withemade_CondSize.l0]; rfl) (ev_else (by omega) (Ev.now _)), h1, by omega, fun _ x hx => ?_⟩
    rw [List.drop_of_length_le (by omega)] at hx
    cases hx
  | m + 1, i, x5, h, h1, h2 => by
    have hi : i < e.f4.length := by omega
    obtain ⟨dr, mem⟩ := drop26 hi
    obtain ⟨t, et, t1, t2, t3⟩ := ih _ (he _ mem) (d + 1) (by omega)
    have e1 : wrap64 ((d : Int) + 1) = ((d + 1 : Nat) : Int) := by rw [w64 (by omega) (by omega)]; omega
    have e2 : wrap64 (x5 + t) = x5 + t := w64 (by omega) (by omega)
    have e3 : wrap64 ((i : Int) + 1) = ((i + 1 : Nat) : Int) := by rw [w64 (by omega) (by omega)]; omega
    by_cases c : x5 + t > 300
    · refine ⟨x5 + t, Ev.step (fun n => by simp only [withemade_CondSize.l0]; rfl) (ev_if (by omega) (ev_if (by omega) (Ev.bind (by rw [e1]; exact et) ?_))), by omega, by omega, fun hn => by omega⟩
      rw [e2]
      exact ev_if c (Ev.now _)
    · obtain ⟨n, en, n1, n2, n3⟩ := csize_loop k ih e he d hd hl m (i + 1) (x5 + t) (by omega) (by omega) (by omega)
      refine ⟨n, Ev.step (fun n => by simp only [withemade_CondSize.l0]; rfl) (ev_if (by omega) (ev_if (by omega) (Ev.bind (by rw [e1]; exact et) ?_))), n1, n2, fun hn x hx => ?_⟩
      · rw [e2, e3]
        exact ev_else c en
      · rw [dr] at hx
        rcases List.mem_cons.mp hx with rfl | hx
        · exact t3 (by omega)
        · exact n3 hn x hx
theorem csize : ∀ k, CSize k
  | 0 => fun e _ d hd => ⟨301, Ev.step (fun n => by simp only [withemade_CondSize.f]; rfl) (ev_if (by omega) (Ev.step (fun n => by simp only [withemade_CondSize.j0]; rfl) (ev_if (c := true = true) rfl (Ev.now _)))), by omega, by omega, fun h => by omega⟩
  | k + 1 => by
    intro e he d hd
    obtain ⟨h1, h1', h3⟩ := he
    by_cases c : e.f4.length > 20
    · exact ⟨301, Ev.step (fun n => by simp only [withemade_CondSize.f]; rfl) (ev_else (by omega) (ev_if (by omega) (Ev.step (fun n => by simp only [withemade_CondSize.j0]; rfl) (ev_if (c := true = true) rfl (Ev.now _))))), by omega, by omega, fun h => by omega⟩
    by_cases c2 : e.f2.size > 40
    · exact ⟨301, Ev.step (fun n => by simp only [withemade_CondSize.f]; rfl) (ev_else (by omega) (ev_else (by omega) (Ev.step (fun n => by simp only [withemade_CondSize.j0]; rfl) (ev_if (decide_eq_true (by omega)) (Ev.now _))))), by omega, by omega, fun h => by omega⟩
    obtain ⟨n, en, n1, n2, n3⟩ := csize_loop k (csize k) e h3 d hd (by omega) e.f4.length 0 1 (by omega) (by omega) (by omega)
    refine ⟨n, Ev.step (fun n => by simp only [withemade_CondSize.f]; rfl) (ev_else (by omega) (ev_else (by omega) (Ev.step (fun n => by simp only [withemade_CondSize.j0]; rfl) (ev_else (ne_true (by omega)) en)))), n1, n2, fun hn => ⟨h1, h1', by omega, ?_⟩⟩
    have := n3 hn
    rwa [List.drop_zero] at this
def SSize (k : Nat) : Prop := ∀ l, RS k l → ∀ d : Nat, d + k = 13 → ∃ n : Int, Ev (fun r => withemade_stmtsSize.f r l (d : Int)) n ∧ 0 ≤ n ∧ n ≤ 4801 + 400 * k ∧ (n ≤ 300 → SX k l ∧ (cnt k l : Int) ≤ n)
/-- The loop over a statement's arguments, then its blocks, then what follows. -/
theorem args_loop (k : Nat) (ih : SSize k) (l : List S45) (s : S45) (hs : ∀ x ∈ s.f4, RE 13 x) (r5 : RS k s.f5) (r6 : RS k s.f6) (d : Nat) (hd : d + (k + 1) = 13) (i : Nat) (hi : i ≤ 100) (x0 : Int)
    (Q : Int → Prop) (rest : ∀ x5 : Int, x0 ≤ x5 → x5 ≤ 300 → (SX k s.f5 ∧ SX k s.f6 ∧ (∀ x ∈ s.f4, EX 13 x) ∧ x0 + cnt k s.f5 + cnt k s.f6 ≤ x5) → ∃ n : Int, Ev (fun r => withemade_stmtsSize.l0 r l (d : Int) x5 ((i + 1 : Nat) : Int)) n ∧ 0 ≤ n ∧ n ≤ 4801 + 400 * (k + 1) ∧ (n ≤ 300 → Q n)) (hl : s.f4.length ≤ 20) (h0 : 0 ≤ x0) :
    ∀ m j (x5 : Int), j + m = s.f4.length → x0 ≤ x5 → x5 ≤ 301 → (∀ x ∈ s.f4.take j, EX 13 x) →
    ∃ n : Int, Ev (fun r => withemade_stmtsSize.l1 r l (d : Int) x5 (i : Int) (j : Int) s.f0 s.f1 s.f2 s.f3 s.f4 s.f5 s.f6) n ∧ 0 ≤ n ∧ n ≤ 4801 + 400 * (k + 1) ∧ (n ≤ 300 → Q n)
  | 0, j, x5, h, h1, h2, h3 => by
    obtain ⟨t, et, t1, t2, t3⟩ := ih s.f5 r5 (d + 1) (by omega)
    obtain ⟨u, eu, u1, u2, u3⟩ := ih s.f6 r6 (d + 1) (by omega)
    have e1 : wrap64 ((d : Int) + 1) = ((d + 1 : Nat) : Int) := by rw [w64 (by omega) (by omega)]; omega
    have e2 : wrap64 (x5 + t) = x5 + t := w64 (by omega) (by omega)
    have e3 : wrap64 ((i : Int) + 1) = ((i + 1 : Nat) : Int) := by rw [w64 (by omega) (by omega)]; omega
    rw [List.take_of_length_le (by omega)] at h3
    by_cases c : x5 + t > 300
    · refine ⟨x5 + t, Ev.step (fun n => by simp only [withemade_stmtsSize.l1]; rfl) (ev_else (by omega) (Ev.bind (by rw [e1]; exact et) ?_)), by omega, by omega, fun hn => by omega⟩
      rw [e2]
      exact ev_if c (Ev.now _)
    have e4 : wrap64 (x5 + t + u) = x5 + t + u := w64 (by omega) (by omega)
    by_cases c2 : x5 + t + u > 300
    · refine ⟨x5 + t + u, Ev.step (fun n => by simp only [withemade_stmtsSize.l1]; rfl) (ev_else (by omega) (Ev.bind (by rw [e1]; exact et) ?_)), by omega, by omega, fun hn => by omega⟩
      rw [e2]
      refine ev_else c (Ev.bind (by rw [e1]; exact eu) ?_)
      rw [e4]
      exact ev_if c2 (Ev.now _)
    obtain ⟨t4, t5⟩ := t3 (by omega)
    obtain ⟨u4, u5⟩ := u3 (by omega)
    obtain ⟨n, en, n1, n2, n3⟩ := rest (x5 + t + u) (by omega) (by omega) ⟨t4, u4, h3, by omega⟩
    refine ⟨n, Ev.step (fun n => by simp only [withemade_stmtsSize.l1]; rfl) (ev_else (by omega) (Ev.bind (by rw [e1]; exact et) ?_)), n1, n2, n3⟩
    rw [e2]
    refine ev_else c (Ev.bind (by rw [e1]; exact eu) ?_)
    rw [e4, e3]
    exact ev_else c2 en
  | m + 1, j, x5, h, h1, h2, h3 => by
    have hj : j < s.f4.length := by omega
    have hj1 : (j : Int) < (s.f4.length : Int) := Int.ofNat_lt.mpr hj
    have hj0 : 0 ≤ (j : Int) := Int.natCast_nonneg j
    obtain ⟨dr, mem⟩ := drop31 hj
    obtain ⟨t, et, t1, t2, t3⟩ := esize 13 _ (hs _ mem) 0 (by omega)
    rw [z0i] at et
    have e2 : wrap64 (x5 + t) = x5 + t := w64 (by omega) (by omega)
    have e3 : wrap64 ((j : Int) + 1) = ((j + 1 : Nat) : Int) := by rw [w64 (by omega) (by omega)]; omega
    by_cases c : x5 + t > 300
    · refine ⟨x5 + t, Ev.step (fun n => by simp only [withemade_stmtsSize.l1]; rfl) (ev_if hj1 (ev_if hj0 (Ev.bind et ?_))), by omega, by omega, fun hn => by omega⟩
      rw [e2]
      exact ev_if c (Ev.now _)
    · have tk : s.f4.take (j + 1) = s.f4.take j ++ [rd_T31 s.f4 (j : Int)] := by
        rw [List.take_add_one, List.getElem?_eq_getElem hj]
        simp [rd_T31, hj]
      obtain ⟨n, en, n1, n2, n3⟩ := args_loop k ih l s hs r5 r6 d hd i hi x0 Q rest hl h0 m (j + 1) (x5 + t) (by omega) (by omega) (by omega) (by
        intro x hx
        rw [tk] at hx
        rcases List.mem_append.mp hx with hx | hx
        · exact h3 x hx
        · rw [List.mem_singleton.mp hx]
          exact t3 (by omega))
      refine ⟨n, Ev.step (fun n => by simp only [withemade_stmtsSize.l1]; rfl) (ev_if hj1 (ev_if hj0 (Ev.bind et ?_))), n1, n2, n3⟩
      rw [e2, e3]
      exact ev_else c en
theorem ssize_loop (k : Nat) (ih : SSize k) (l : List S45) (hr : RS (k + 1) l) (d : Nat) (hd : d + (k + 1) = 13) (hl : l.length ≤ 40) : ∀ m i (x5 : Int), i + m = l.length → (cnt (k + 1) (l.take i) : Int) ≤ x5 → x5 ≤ 300 → SX (k + 1) (l.take i) →
    ∃ n : Int, Ev (fun r => withemade_stmtsSize.l0 r l (d : Int) x5 (i : Int)) n ∧ 0 ≤ n ∧ n ≤ 4801 + 400 * (k + 1) ∧ (n ≤ 300 → SX (k + 1) l ∧ (cnt (k + 1) l : Int) ≤ n)
  | 0, i, x5, h, h1, h2, h3 => by
    rw [List.take_of_length_le (by omega)] at h1 h3
    exact ⟨x5, Ev.step (fun n => by simp only [withemade_stmtsSize.l0]; rfl) (ev_else (by omega) (Ev.now _)), by omega, by omega, fun hn => ⟨h3, h1⟩⟩
  | m + 1, i, x5, h, h1, h2, h3 => by
    have hi : i < l.length := by omega
    obtain ⟨tk, mem⟩ := rd45 hi
    have ct1 : cnt (k + 1) (l.take (i + 1)) = cnt (k + 1) (l.take i) + (1 + cnt k (rd_T45 l (i : Int)).f5 + cnt k (rd_T45 l (i : Int)).f6) := by
      rw [tk]
      simp [cnt]
    have st : ∀ r, withemade_stmtsSize.l0 (r + 1) l (d : Int) x5 (i : Int) = _ := fun n => by simp only [withemade_stmtsSize.l0]; rfl
    generalize hX : rd_T45 l (i : Int) = X at *
    obtain ⟨g4, g5, g6⟩ := hr X mem
    have bad : ∃ n : Int, Ev (fun r => withemade_stmtsSize.j2 r l (d : Int) x5 (i : Int) true X.f0 X.f1 X.f2 X.f3 X.f4 X.f5 X.f6) n ∧ n = 301 :=
      ⟨301, Ev.step (fun n => by simp only [withemade_stmtsSize.j2]; rfl) (ev_if (c := true = true) rfl (Ev.now _)), rfl⟩
    obtain ⟨b, eb, rfl⟩ := bad
    by_cases c2 : X.f2.size > 40
    · exact ⟨301, Ev.step st (ev_if (by omega) (ev_if (by omega) (ev_if (by omega) eb))), by omega, by omega, fun hn => by omega⟩
    by_cases c3 : X.f3.size > 40
    · exact ⟨301, Ev.step st (ev_if (by omega) (ev_if (by omega) (ev_else (by omega) (ev_if (by omega) eb)))), by omega, by omega, fun hn => by omega⟩
    by_cases c4 : X.f4.length > 20
    · refine ⟨301, Ev.step st (ev_if (by omega) (ev_if (by omega) (ev_else (by omega) (ev_else (by omega) ?_)))), by omega, by omega, fun hn => by omega⟩
      rw [decide_eq_true (show (X.f4.length : Int) > 20 by omega)]
      exact eb
    have e1 : wrap64 (x5 + 1) = x5 + 1 := w64 (by omega) (by omega)
    obtain ⟨n, en, n1, n2, n3⟩ := args_loop k ih l X g4 g5 g6 d hd i (by omega) (x5 + 1) (fun n => SX (k + 1) l ∧ (cnt (k + 1) l : Int) ≤ n) (fun x5' a1 a2 ⟨a3, a4, a5, a6⟩ =>
      ssize_loop k ih l hr d hd hl m (i + 1) x5' (by omega) (by omega) a2 (by
        intro s hs
        rw [tk] at hs
        rcases List.mem_append.mp hs with hs | hs
        · exact h3 s hs
        · rw [List.mem_singleton.mp hs]
          exact ⟨by omega, by omega, a5, a3, a4⟩)) (by omega) (by omega) X.f4.length 0 (x5 + 1) (by omega) (by omega) (by omega) (by intro x hx; rw [List.take_zero] at hx; cases hx)
    refine ⟨n, Ev.step st (ev_if (by omega) (ev_if (by omega) (ev_else (by omega) (ev_else (by omega) ?_)))), n1, n2, n3⟩
    rw [decide_eq_false (show ¬ (X.f4.length : Int) > 20 by omega)]
    refine Ev.step (fun n => by simp only [withemade_stmtsSize.j2]; rfl) (ev_else Bool.false_ne_true ?_)
    rw [e1]
    exact en
theorem ssize : ∀ k, SSize k
  | 0 => fun e _ d hd => ⟨301, Ev.step (fun n => by simp only [withemade_stmtsSize.f]; rfl) (ev_if (by omega) (Ev.step (fun n => by simp only [withemade_stmtsSize.j0]; rfl) (ev_if (c := true = true) rfl (Ev.now _)))), by omega, by omega, fun h => by omega⟩
  | k + 1 => by
    intro l hr d hd
    by_cases c : l.length > 40
    · exact ⟨301, Ev.step (fun n => by simp only [withemade_stmtsSize.f]; rfl) (ev_else (by omega) (Ev.step (fun n => by simp only [withemade_stmtsSize.j0]; rfl) (ev_if (decide_eq_true (by omega)) (Ev.now _)))), by omega, by omega, fun h => by omega⟩
    obtain ⟨n, en, n1, n2, n3⟩ := ssize_loop k (ssize k) l hr d hd (by omega) l.length 0 0 (by omega) (by rw [List.take_zero]; exact Int.le_refl _) (by omega) (by intro s hs; rw [List.take_zero] at hs; cases hs)
    exact ⟨n, Ev.step (fun n => by simp only [withemade_stmtsSize.f]; rfl) (ev_else (by omega) (Ev.step (fun n => by simp only [withemade_stmtsSize.j0]; rfl) (ev_else (ne_true (by omega)) en))), n1, n2, n3⟩
section
variable {nm : ByteArray} {vals : Int} {li : List S42} {lt : List (List S45)} {c : S26} (ask : Int)
theorem heavy_thr (rt : ∀ t ∈ lt, RS 13 t) (hlt : lt.length ≤ 10) : ∀ m j (x3 : Int), j + m = lt.length → 0 ≤ x3 → x3 ≤ 10000 + 10000 * j → (x3 ≤ 300 → ∀ t ∈ lt.take j, SX 13 t ∧ cnt 13 t ≤ 300) →
    ∃ b, Ev (fun n => withemade_Heavy.l1 n x3 (j : Int) nm vals li lt ask c.f0 c.f1 c.f2 c.f3 c.f4) b ∧ (b = false → x3 ≤ 300 ∧ ∀ t ∈ lt, SX 13 t ∧ cnt 13 t ≤ 300)
  | 0, j, x3, h, h1, h2, h3 => by
    rw [List.take_of_length_le (by omega)] at h3
    refine ⟨_, Ev.step (fun n => by simp only [withemade_Heavy.l1]; rfl) (ev_else (by omega) (Ev.now _)), fun hb => ?_⟩
    have := of_decide_eq_false hb
    exact ⟨by omega, h3 (by omega)⟩
  | m + 1, j, x3, h, h1, h2, h3 => by
    have hj : j < lt.length := by omega
    obtain ⟨tk, mem⟩ := rd8 hj
    by_cases c1 : x3 ≤ 300
    · obtain ⟨t, et, t1, t2, t3⟩ := ssize 13 _ (rt _ mem) 0 (by omega)
      rw [z0i] at et
      have e2 : wrap64 (x3 + t) = x3 + t := w64 (by omega) (by omega)
      have e3 : wrap64 ((j : Int) + 1) = ((j + 1 : Nat) : Int) := by rw [w64 (by omega) (by omega)]; omega
      obtain ⟨b, eb, b1⟩ := heavy_thr rt hlt m (j + 1) (x3 + t) (by omega) (by omega) (by omega) (by
        intro hn s hs
        rw [tk] at hs
        rcases List.mem_append.mp hs with hs | hs
        · exact h3 c1 s hs
        · rw [List.mem_singleton.mp hs]
          obtain ⟨a1, a2⟩ := t3 (by omega)
          exact ⟨a1, by omega⟩)
      refine ⟨b, Ev.step (fun n => by simp only [withemade_Heavy.l1]; rfl) (ev_if (by omega) (ev_if c1 (ev_if (by omega) (Ev.bind et ?_)))), fun hb => ?_⟩
      · rw [e2, e3]
        exact eb
      · obtain ⟨y1, y2⟩ := b1 hb
        exact ⟨c1, y2⟩
    · refine ⟨_, Ev.step (fun n => by simp only [withemade_Heavy.l1]; rfl) (ev_if (by omega) (ev_else c1 (Ev.now _))), fun hb => ?_⟩
      have := of_decide_eq_false hb
      omega
theorem heavy_ini (rt : ∀ t ∈ lt, RS 13 t) (hli : li.length ≤ 10) (hlt : lt.length ≤ 10) (x3 : Int) (g1 : 0 ≤ x3) (g2 : x3 ≤ 10000) : ∀ m i, i + m = li.length → (∀ x ∈ li.take i, x.f0.size ≤ 40) →
    ∃ b, Ev (fun n => withemade_Heavy.l0 n x3 (i : Int) nm vals li lt ask c.f0 c.f1 c.f2 c.f3 c.f4) b ∧ (b = false → x3 ≤ 300 ∧ (∀ t ∈ lt, SX 13 t ∧ cnt 13 t ≤ 300) ∧ ∀ x ∈ li, x.f0.size ≤ 40)
  | 0, i, h, h3 => by
    rw [List.take_of_length_le (by omega)] at h3
    obtain ⟨b, eb, b1⟩ := heavy_thr (nm := nm) (vals := vals) (li := li) (c := c) ask rt hlt lt.length 0 x3 (by omega) g1 (by omega) (by intro _ t ht; rw [List.take_zero] at ht; cases ht)
    exact ⟨b, Ev.step (fun n => by simp only [withemade_Heavy.l0]; rfl) (ev_else (by omega) eb), fun hb => ⟨(b1 hb).1, (b1 hb).2, h3⟩⟩
  | m + 1, i, h, h3 => by
    have hi : i < li.length := by omega
    obtain ⟨tk, mem⟩ := rd42 hi
    have e3 : wrap64 ((i : Int) + 1) = ((i + 1 : Nat) : Int) := by rw [w64 (by omega) (by omega)]; omega
    by_cases c1 : (rd_T42 li (i : Int)).f0.size > 40
    · exact ⟨true, Ev.step (fun n => by simp only [withemade_Heavy.l0]; rfl) (ev_if (by omega) (ev_if (by omega) (ev_if (by omega) (Ev.now _)))), fun hb => by cases hb⟩
    · obtain ⟨b, eb, b1⟩ := heavy_ini rt hli hlt x3 g1 g2 m (i + 1) (by omega) (by
        intro s hs
        rw [tk] at hs
        rcases List.mem_append.mp hs with hs | hs
        · exact h3 s hs
        · rw [List.mem_singleton.mp hs]
          omega)
      refine ⟨b, Ev.step (fun n => by simp only [withemade_Heavy.l0]; rfl) (ev_if (by omega) (ev_if (by omega) (ev_else (by omega) ?_))), b1⟩
      rw [e3]
      exact eb
theorem heavy (rv : R64 vals) (ri : ∀ x ∈ li, R64 x.f1) (rt : ∀ t ∈ lt, RS 13 t) (rc : RC 13 c) :
    ∃ b, Ev (fun n => withemade_Heavy.f n nm vals li lt ask c.f0 c.f1 c.f2 c.f3 c.f4) b ∧ (b = false → PX nm vals li lt c) := by
  have bad : Ev (fun n => withemade_Heavy.j0 n true nm vals li lt ask c.f0 c.f1 c.f2 c.f3 c.f4) true := Ev.step (fun n => by simp only [withemade_Heavy.j0]; rfl) (ev_if (c := true = true) rfl (Ev.now _))
  unfold withemade_Heavy.f
  by_cases c1 : nm.size > 40
  · exact ⟨true, ev_if (by omega) bad, fun hb => by cases hb⟩
  by_cases c2 : li.length > 10
  · exact ⟨true, ev_else (by omega) (ev_if (by omega) bad), fun hb => by cases hb⟩
  by_cases c3 : lt.length > 10
  · refine ⟨true, ev_else (by omega) (ev_else (by omega) ?_), fun hb => by cases hb⟩
    rw [decide_eq_true (show (lt.length : Int) > 10 by omega)]
    exact bad
  obtain ⟨t, et, t1, t2, t3⟩ := csize 13 c rc 0 (by omega)
  rw [z0i] at et
  obtain ⟨b, eb, b1⟩ := heavy_ini (nm := nm) (vals := vals) (li := li) (lt := lt) (c := c) ask rt (by omega) (by omega) t (by omega) (by omega) li.length 0 (by omega) (by intro t ht; rw [List.take_zero] at ht; cases ht)
  refine ⟨b, ev_else (by omega) (ev_else (by omega) ?_), fun hb => ?_⟩
  · rw [decide_eq_false (show ¬ (lt.length : Int) > 10 by omega)]
    exact Ev.step (fun n => by simp only [withemade_Heavy.j0]; rfl) (ev_else Bool.false_ne_true (Ev.bind et eb))
  · obtain ⟨y1, y2, y3⟩ := b1 hb
    exact ⟨by omega, rv, by omega, by omega, fun x hx => ⟨y3 x hx, ri x hx⟩, y2, t3 y1⟩
end
end Go.Proofs.YtpldhihdlgghlaaDoor.PS
