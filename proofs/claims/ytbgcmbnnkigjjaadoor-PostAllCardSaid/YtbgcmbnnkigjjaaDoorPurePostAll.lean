/- PostAll: whatever the input: true. -/
import Derived.Test.YtbgcmbnnkigjjaaDoorPostH
namespace Go.Proofs.YtbgcmbnnkigjjaaDoor.PA
open Go.RowKit Go.Proofs.YtbgcmbnnkigjjaaDoor.PP Go.Proofs.YtbgcmbnnkigjjaaDoorW.PrintWords Go.Proofs.YtbgcmbnnkigjjaaDoorW.PrintLast Go.Proofs.YtbgcmbnnkigjjaaDoorW.PrintMore
set_option linter.unusedVariables false
set_option linter.unusedSimpArgs false
theorem begun_ev : Ev (fun k => withelaw11_begun.f k) true := Ev.of withelaw11_begun.mono (k := 60) (by kernel_rfl)
theorem light_many (k : Nat) (r : List (List Int)) (m : List Int) : withelaw11_light.j0 (k + 1) true r m = some false := by
  simp only [withelaw11_light.j0]
  rfl
theorem light_ev (r : List (List Int)) (m : List Int) : ∃ b, Ev (fun k => withelaw11_light.f k r m) b ∧ (b = true → r.length ≤ 6 ∧ m.length ≤ 8 ∧ ∀ x ∈ r, x.length ≤ 8) := by
  by_cases a : (r.length : Int) > 6
  · refine ⟨false, ?_, fun h => by cases h⟩
    unfold withelaw11_light.f
    exact ev_if a (Ev.step (fun k => light_many k _ _) (Ev.now _))
  by_cases b : (m.length : Int) > 8
  · refine ⟨false, ?_, fun h => by cases h⟩
    unfold withelaw11_light.f
    rw [decide_eq_true b]
    exact ev_else a (Ev.step (fun k => light_many k _ _) (Ev.now _))
  have loop : ∀ (n i : Nat), n + i = r.length → ∃ b, Ev (fun k => withelaw11_light.l0 k (i : Int) r m) b ∧ (b = true → ∀ x ∈ r.drop i, x.length ≤ 8) := by
    intro n
    induction n with
    | zero =>
      intro i hn
      refine ⟨true, ?_, fun _ x hx => ?_⟩
      · exact Ev.step (fun k => by simp only [withelaw11_light.l0]; rfl) (ev_else (by omega) (Ev.now _))
      · rw [drop_none (xs := r) (i := i) (by omega)] at hx
        cases hx
    | succ n ih =>
      intro i hn
      have hi : i < r.length := by omega
      by_cases c : ((rd_L3 r (i : Int)).length : Int) > 8
      · refine ⟨false, ?_, fun h => by cases h⟩
        refine Ev.step (fun k => by simp only [withelaw11_light.l0]; rfl) ?_
        exact ev_if (by omega) (ev_if (by omega) (ev_if c (Ev.now _)))
      · obtain ⟨b, hb, hb2⟩ := ih (i + 1) (by omega)
        refine ⟨b, ?_, fun h x hx => ?_⟩
        · refine Ev.step (fun k => by simp only [withelaw11_light.l0]; rfl) ?_
          refine ev_if (by omega) (ev_if (by omega) (ev_else c ?_))
          rw [wi (by omega)]
          exact hb
        · rw [rd3_drop r i hi, List.mem_cons] at hx
          rcases hx with rfl | hx
          · omega
          · exact hb2 h x hx
  obtain ⟨c, hc, hc2⟩ := loop r.length 0 (by omega)
  refine ⟨c, ?_, fun h => ⟨by omega, by omega, fun x hx => hc2 h x (by simpa using hx)⟩⟩
  unfold withelaw11_light.f
  rw [decide_eq_false b]
  refine ev_else a ?_
  refine Ev.step (fun k => by simp only [withelaw11_light.j0]; rfl) ?_
  exact ev_else (by decide) hc
theorem many (k : Nat) (l : List ByteArray) (g : List (List ByteArray)) (x0 x1 : Int) (x2 : ByteArray) (x3 : Int) (x4 : List S24) (r : List (List Int)) (m : List Int) (r2 : List (List Int)) (m2 : List Int) :
    withelaw11_PostAll.j0 (k + 1) l g true x0 x1 x2 x3 x4 r m r2 m2 = some true := by
  simp only [withelaw11_PostAll.j0]
  rfl
section
variable (x : S24) (l : List ByteArray) (g : List (List ByteArray)) (r : List (List Int)) (m : List Int) (r2 : List (List Int)) (m2 : List Int)
theorem end_ev (hx : Small 13 x) (hl : l.length ≤ 6) (hg : g.length ≤ 6) (h1 : ∀ n ∈ l, n.size ≤ 40) (h2 : ∀ s ∈ g, s.length ≤ 6 ∧ ∀ n ∈ s, n.size ≤ 40) (hr : r.length ≤ 6) (hm : m.length ≤ 8) (hrr : ∀ s ∈ r, s.length ≤ 8)
    (h3 : ∀ o ∈ r, ∀ v ∈ o, R64 v) (h4 : ∀ v ∈ m, R64 v) (i : Nat) (hi : i = g.length) :
    Ev (fun k => withelaw11_PostAll.l1 k l g (i : Int) x.f0 x.f1 x.f2 x.f3 x.f4 r m r2 m2) true := by
  refine Ev.step (fun k => by simp only [withelaw11_PostAll.l1]; rfl) ?_
  refine ev_else (by omega) ?_
  obtain ⟨v, e1, e2⟩ := Holds_ev l g r m hl (fun s hs => (h2 s hs).1) x hx
  refine Ev.bind e1 (Ev.bind e2 ?_)
  refine ev_if (by simp) (ev_if (by simp) ?_)
  refine Ev.bind (same_f r m r2 m2 hr hrr hm) (Ev.bind (rO_f r m r2 m2 hr hrr hm) ?_)
  refine ev_if (by simp) ?_
  refine Ev.bind (less_f r m r2 m2 hr hrr hm) (Ev.bind (rO_f r m r2 m2 hr hrr hm) ?_)
  refine ev_if (by simp) ?_
  refine Ev.bind (line_f l g r m hl hg h1 h2 h3 h4) (Ev.bind (rline_f l g r m hl hg h1 h2 h3 h4) ?_)
  exact ev_eq (Ev.now _) (by simp)
theorem two_ev (i : Nat) (hi : i < g.length) (hg : g.length ≤ 6) (hs : (rd_L2 g i).length ≤ 6) (hK : (∀ n ∈ rd_L2 g i, n.size ≤ 40) → Ev (fun k => withelaw11_PostAll.l1 k l g ((i + 1 : Nat) : Int) x.f0 x.f1 x.f2 x.f3 x.f4 r m r2 m2) true) : ∀ n j, n + j = (rd_L2 g i).length → (∀ n ∈ (rd_L2 g i).take j, n.size ≤ 40) →
    Ev (fun k => withelaw11_PostAll.l2 k l g (i : Int) (j : Int) x.f0 x.f1 x.f2 x.f3 x.f4 r m r2 m2) true
  | 0, j, hn, ht => by
    refine Ev.step (fun k => by simp only [withelaw11_PostAll.l2]; rfl) ?_
    refine ev_if (by omega) (ev_if (by omega) (ev_else (by omega) ?_))
    rw [wi (by omega)]
    exact hK (by rwa [List.take_of_length_le (by omega)] at ht)
  | n + 1, j, hn, ht => by
    have hj : j < (rd_L2 g i).length := by omega
    refine Ev.step (fun k => by simp only [withelaw11_PostAll.l2]; rfl) ?_
    refine ev_if (by omega) (ev_if (by omega) (ev_if (by omega) (ev_if (by omega) ?_)))
    by_cases c : ((rdOf ByteArray.empty (rd_L2 g i) (j : Int)).size : Int) > 40
    · exact ev_if c (Ev.now _)
    · refine ev_else c ?_
      rw [wi (by omega)]
      refine two_ev i hi hg hs hK n (j + 1) (by omega) ?_
      intro y hy
      rw [List.take_succ_eq_append_getElem hj, List.mem_append] at hy
      rcases hy with hy | hy
      · exact ht y hy
      · rw [List.mem_singleton] at hy
        subst hy
        have e : (rd_L2 g i)[j] = rdOf ByteArray.empty (rd_L2 g i) (j : Int) := by simp [rdOf, List.getD, hj]
        rw [e]
        omega
theorem one_ev (hx : Small 13 x) (hl : l.length ≤ 6) (hg : g.length ≤ 6) (h1 : ∀ n ∈ l, n.size ≤ 40) (hr : r.length ≤ 6) (hm : m.length ≤ 8) (hrr : ∀ s ∈ r, s.length ≤ 8)
    (h3 : ∀ o ∈ r, ∀ v ∈ o, R64 v) (h4 : ∀ v ∈ m, R64 v) : ∀ n i, n + i = g.length → (∀ s ∈ g.take i, s.length ≤ 6 ∧ ∀ n ∈ s, n.size ≤ 40) →
    Ev (fun k => withelaw11_PostAll.l1 k l g (i : Int) x.f0 x.f1 x.f2 x.f3 x.f4 r m r2 m2) true
  | 0, i, hn, ht => by
    rw [List.take_of_length_le (by omega)] at ht
    exact end_ev x l g r m r2 m2 hx hl hg h1 ht hr hm hrr h3 h4 i (by omega)
  | n + 1, i, hn, ht => by
    have hi : i < g.length := by omega
    refine Ev.step (fun k => by simp only [withelaw11_PostAll.l1]; rfl) ?_
    refine ev_if (by omega) (ev_if (by omega) ?_)
    by_cases c : ((rd_L2 g (i : Int)).length : Int) > 6
    · exact ev_if c (Ev.now _)
    · refine ev_else c ?_
      refine two_ev x l g r m r2 m2 i hi hg (by omega) (fun q => ?_) (rd_L2 g i).length 0 (by omega) (by simp)
      refine one_ev hx hl hg h1 hr hm hrr h3 h4 n (i + 1) (by omega) ?_
      intro y hy
      rw [List.take_succ_eq_append_getElem hi, List.mem_append] at hy
      rcases hy with hy | hy
      · exact ht y hy
      · rw [List.mem_singleton] at hy
        subst hy
        have e : g[i] = rd_L2 g (i : Int) := by simp [rd_L2, List.getD, hi]
        rw [e]
        exact ⟨by omega, q⟩
theorem zero_ev (hx : Small 13 x) (hl : l.length ≤ 6) (hg : g.length ≤ 6) (hr : r.length ≤ 6) (hm : m.length ≤ 8) (hrr : ∀ s ∈ r, s.length ≤ 8)
    (h3 : ∀ o ∈ r, ∀ v ∈ o, R64 v) (h4 : ∀ v ∈ m, R64 v) : ∀ n i, n + i = l.length → (∀ n ∈ l.take i, n.size ≤ 40) →
    Ev (fun k => withelaw11_PostAll.l0 k l g (i : Int) x.f0 x.f1 x.f2 x.f3 x.f4 r m r2 m2) true
  | 0, i, hn, ht => by
    rw [List.take_of_length_le (by omega)] at ht
    refine Ev.step (fun k => by simp only [withelaw11_PostAll.l0]; rfl) ?_
    refine ev_else (by omega) ?_
    exact one_ev x l g r m r2 m2 hx hl hg ht hr hm hrr h3 h4 g.length 0 (by omega) (by simp)
  | n + 1, i, hn, ht => by
    have hi : i < l.length := by omega
    refine Ev.step (fun k => by simp only [withelaw11_PostAll.l0]; rfl) ?_
    refine ev_if (by omega) (ev_if (by omega) ?_)
    by_cases c : ((rdOf ByteArray.empty l (i : Int)).size : Int) > 40
    · exact ev_if c (Ev.now _)
    · refine ev_else c ?_
      rw [wi (by omega)]
      refine zero_ev hx hl hg hr hm hrr h3 h4 n (i + 1) (by omega) ?_
      intro y hy
      rw [List.take_succ_eq_append_getElem hi, List.mem_append] at hy
      rcases hy with hy | hy
      · exact ht y hy
      · rw [List.mem_singleton] at hy
        subst hy
        have e : l[i] = rdOf ByteArray.empty l (i : Int) := by simp [rdOf, List.getD, hi]
        rw [e]
        omega
theorem PostAll (h3 : ∀ o ∈ r, ∀ v ∈ o, R64 v) (h4 : ∀ v ∈ m, R64 v) : ∃ k, withelaw11_PostAll.f k x.f0 x.f1 x.f2 x.f3 x.f4 l g r m r2 m2 = some true := by
  refine Ev.rounds ?_
  unfold withelaw11_PostAll.f
  refine Ev.bind begun_ev (ev_if rfl ?_)
  obtain ⟨s, hs, s1, s2, s3⟩ := size_ev 13 0 x (by omega)
  refine Ev.bind hs ?_
  have off : Ev (fun k => withelaw11_PostAll.j0 k l g true x.f0 x.f1 x.f2 x.f3 x.f4 r m r2 m2) true := Ev.step (fun k => many k _ _ _ _ _ _ _ _ _ _ _) (Ev.now _)
  by_cases a : s > 300
  · exact ev_if a off
  refine ev_else a ?_
  by_cases b : (l.length : Int) > 6
  · exact ev_if b off
  refine ev_else b ?_
  by_cases c : (g.length : Int) > 6
  · exact ev_if c off
  refine ev_else c ?_
  obtain ⟨b1, e1, g1⟩ := light_ev r m
  refine Ev.bind e1 ?_
  cases b1 with
  | false => exact ev_else (by decide) off
  | true =>
    refine ev_if rfl ?_
    obtain ⟨b2, e2, g2⟩ := light_ev r2 m2
    refine Ev.bind e2 ?_
    cases b2 with
    | false => exact off
    | true =>
      obtain ⟨q1, q2, q3⟩ := g1 rfl
      refine Ev.step (fun k => by simp only [withelaw11_PostAll.j0]; rfl) ?_
      refine ev_else (by decide) ?_
      exact zero_ev x l g r m r2 m2 (s3 (by omega)) (by omega) (by omega) q1 q2 q3 h3 h4 l.length 0 (by omega) (by simp)
end
end Go.Proofs.YtbgcmbnnkigjjaaDoor.PA
