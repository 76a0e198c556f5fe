/- Conditions: the code's Holds and the document's are one. -/
import Derived.Test.YtbgcmbnnkigjjaaDoorPostC
namespace Go.Proofs.YtbgcmbnnkigjjaaDoor.PA
open Go.RowKit Go.Proofs.YtbgcmbnnkigjjaaDoor.PP Go.Proofs.YtbgcmbnnkigjjaaDoorW.PrintWords Go.Proofs.YtbgcmbnnkigjjaaDoorW.PrintLast Go.Proofs.YtbgcmbnnkigjjaaDoorW.PrintMore
set_option linter.unusedVariables false
set_option linter.unusedSimpArgs false
section
variable (locs : List ByteArray) (regs : List (List ByteArray)) (r : List (List Int)) (o : List Int)
def hol (k : Nat) (x : S24) (d : Int) : Option (Bool × Bool) := post_end_holds.f k locs regs r o x.f0 x.f1 x.f2 x.f3 x.f4 d
def ref (k : Nat) (x : S24) : Option (Bool × Bool) := witheref9_holds.f k x.f0 x.f1 x.f2 x.f3 x.f4 locs regs r o
/-- The two answers, so deep. -/
def Like (m d : Nat) (x : S24) : Prop := ∃ v w, Ev (fun k => hol locs regs r o k x (d : Int)) v ∧ Ev (fun k => ref locs regs r o k x) w ∧ (dep m x + d ≤ 6 → v = w) ∧ (dep m x + d > 6 → v = (false, false))
theorem no_kids {m : Nat} {x : S24} (h : x.f4.length = 0) : dep (m + 1) x = 1 := by
  rw [dep, List.eq_nil_of_length_eq_zero h]
  rfl
theorem leaf_like (hk : locs.length ≤ 6) (h2 : ∀ l ∈ regs, l.length ≤ 6) (m d : Nat) (x : S24) (hd : d ≤ 6) (hs : Small (m + 1) x) (hp : 1 ≤ dep (m + 1) x) (g : Bool × Bool)
    (hv : x.f4.length = 0 → d < 6 → Ev (fun k => hol locs regs r o k x (d : Int)) g) (hv2 : ¬ (x.f4.length = 0 ∧ d < 6) → Ev (fun k => hol locs regs r o k x (d : Int)) (false, false))
    (hw : Ev (fun k => ref locs regs r o k x) (if (x.f4.length : Int) > 0 then (false, false) else g)) : Like locs regs r o (m + 1) d x := by
  by_cases a : x.f4.length = 0
  · have e := no_kids (m := m) a
    by_cases b : d < 6
    · refine ⟨g, _, hv a b, hw, fun _ => ?_, fun q => ?_⟩
      · rw [if_neg (by omega)]
      · omega
    · exact ⟨(false, false), _, hv2 (by omega), hw, fun q => by omega, fun _ => rfl⟩
  · refine ⟨(false, false), _, hv2 (by omega), hw, fun _ => ?_, fun _ => rfl⟩
    rw [if_pos (by omega)]
theorem ref_mem (hk : locs.length ≤ 6) (x : S24) (h0 : x.f0 = 1) : Ev (fun k => ref locs regs r o k x) (if (x.f4.length : Int) > 0 then (false, false) else leaf locs o x.f2 x.f3) := by
  unfold ref leaf
  refine Ev.step (fun k => by simp only [witheref9_holds.f]; rfl) ?_
  refine ev_if h0 ?_
  refine Ev.bind (place_f locs x.f2 hk) ?_
  by_cases a : idx 0 locs x.f2 < 0
  · refine ev_eq (ev_if a (Ev.now _)) ?_
    rw [if_pos a]
    split <;> rfl
  · by_cases b : idx 0 locs x.f2 ≥ (o.length : Int)
    · refine ev_eq (ev_else a (ev_if b (Ev.now _))) ?_
      rw [if_neg a, if_pos b]
      split <;> rfl
    · by_cases c : (x.f4.length : Int) > 0
      · refine ev_eq (ev_else a (ev_else b (ev_if c (Ev.now _)))) ?_
        rw [if_pos c]
      · refine ev_eq (ev_else a (ev_else b (ev_else c (ev_if (by omega) (ev_if (by omega) (Ev.now _)))))) ?_
        rw [if_neg a, if_neg b, if_neg c]
theorem ref_reg (h2 : ∀ l ∈ regs, l.length ≤ 6) (x : S24) (h0 : x.f0 = 2) : Ev (fun k => ref locs regs r o k x) (if (x.f4.length : Int) > 0 then (false, false) else leafR regs r x.f1 x.f2 x.f3) := by
  unfold ref leafR
  refine Ev.step (fun k => by simp only [witheref9_holds.f]; rfl) ?_
  refine ev_else (by omega) (ev_if h0 ?_)
  have bad : Ev (fun k => witheref9_holds.j0 k regs true x.f0 x.f1 x.f2 x.f3 x.f4 r o) (false, false) := by
    refine Ev.step (fun k => by simp only [witheref9_holds.j0]; rfl) ?_
    exact ev_if (by decide) (Ev.now _)
  by_cases a : x.f1 < 0
  · refine ev_eq (ev_if a bad) ?_
    rw [if_pos a]
    split <;> rfl
  · by_cases b : x.f1 ≥ (regs.length : Int)
    · refine ev_eq (ev_else a (ev_if b bad)) ?_
      rw [if_neg a, if_pos b]
      split <;> rfl
    · by_cases c : x.f1 ≥ (r.length : Int)
      · refine ev_eq (ev_else a (ev_else b (ev_if c bad))) ?_
        rw [if_neg a, if_neg b, if_pos c]
        split <;> rfl
      · refine ev_else a (ev_else b (ev_else c ?_))
        rw [if_neg a, if_neg b, if_neg c]
        obtain ⟨t, ht⟩ : ∃ t : Nat, x.f1 = (t : Int) := ⟨x.f1.toNat, by omega⟩
        by_cases e : (x.f4.length : Int) > 0
        · rw [decide_eq_true e, if_pos e]
          exact bad
        · rw [decide_eq_false e, if_neg e]
          refine Ev.step (fun k => by simp only [witheref9_holds.j0]; rfl) ?_
          refine ev_else (by decide) (ev_if (by omega) (ev_if (by omega) ?_))
          have hl : (rd_L2 regs x.f1).length ≤ 6 := by
            rw [ht]
            exact h2 _ (rd2_mem regs t (by omega))
          refine Ev.bind (place_f _ x.f2 hl) ?_
          unfold leaf
          by_cases p : idx 0 (rd_L2 regs x.f1) x.f2 < 0
          · exact ev_eq (ev_if p (Ev.now _)) (if_pos p).symm
          · refine ev_else p (ev_if (by omega) ?_)
            by_cases q : idx 0 (rd_L2 regs x.f1) x.f2 ≥ ((rd_L3 r x.f1).length : Int)
            · refine ev_eq (ev_if q (Ev.now _)) ?_
              rw [if_neg p, if_pos q]
            · refine ev_eq (ev_else q (ev_if (by omega) (ev_if (by omega) (Ev.now _)))) ?_
              rw [if_neg p, if_neg q]
/-- The code's answer of kids' answers. -/
def two (y0 : Int) (p q : Bool × Bool) : Bool × Bool := ((p.2 && q.2) && (if y0 = 3 then !p.1 else if y0 = 4 then p.1 && q.1 else p.1 || q.1), p.2 && q.2)
theorem two_off (y0 : Int) (p q : Bool × Bool) (h : p = (false, false) ∨ q = (false, false)) : two y0 p q = (false, false) := by
  unfold two
  rcases h with rfl | rfl <;> simp
theorem hol_two (x : S24) (d : Nat) (n : Nat) (hd : d < 6) (h0 : x.f0 = 3 ∨ x.f0 = 4 ∨ x.f0 = 5) (hn : x.f4.length = (if x.f0 = 3 then 1 else 2)) (hl : wrap64 ((x.f4.length : Int) - 1) = (n : Int)) {p q : Bool × Bool}
    (hp : Ev (fun k => hol locs regs r o k (rd_T24 x.f4 0) ((d + 1 : Nat) : Int)) p) (hq : Ev (fun k => hol locs regs r o k (rd_T24 x.f4 (n : Int)) ((d + 1 : Nat) : Int)) q) : Ev (fun k => hol locs regs r o k x (d : Int)) (two x.f0 p q) := by
  unfold hol at *
  refine Ev.step (fun k => by simp only [post_end_holds.f]; rfl) ?_
  refine ev_else (by omega) (ev_else (by omega) (ev_if h0 (ev_if ⟨hn, by omega⟩ ?_)))
  rw [wi (by omega), hl]
  exact Ev.bind hp (Ev.bind hq (Ev.now _))
theorem hol_off (x : S24) (d : Nat) (h0 : x.f0 = 3 ∨ x.f0 = 4 ∨ x.f0 = 5) (h : ¬ (x.f4.length = (if x.f0 = 3 then 1 else 2) ∧ (d : Int) < 6)) : Ev (fun k => hol locs regs r o k x (d : Int)) (false, false) := by
  unfold hol
  refine Ev.step (fun k => by simp only [post_end_holds.f]; rfl) ?_
  exact ev_else (by omega) (ev_else (by omega) (ev_if h0 (ev_else h (Ev.now _))))
theorem ref_off (x : S24) (h0 : x.f0 = 3 ∨ x.f0 = 4 ∨ x.f0 = 5) (h : ¬ x.f4.length = (if x.f0 = 3 then 1 else 2)) : Ev (fun k => ref locs regs r o k x) (false, false) := by
  unfold ref
  refine Ev.step (fun k => by simp only [witheref9_holds.f]; rfl) ?_
  refine ev_else (by omega) (ev_else (by omega) ?_)
  rcases h0 with h0 | h0 | h0
  · rw [if_pos h0] at h
    exact ev_if h0 (ev_else (by omega) (Ev.now _))
  · rw [if_neg (by omega)] at h
    refine ev_else (by omega) (ev_if h0 ?_)
    rw [show (x.f0 == 4) = true by simp [h0]]
    refine Ev.step (fun k => by simp only [witheref9_holds.j1]; rfl) ?_
    exact ev_if (by decide) (ev_else (by omega) (Ev.now _))
  · rw [if_neg (by omega)] at h
    refine ev_else (by omega) (ev_else (by omega) ?_)
    rw [show (x.f0 == 5) = true by simp [h0]]
    refine Ev.step (fun k => by simp only [witheref9_holds.j1]; rfl) ?_
    exact ev_if (by decide) (ev_else (by omega) (Ev.now _))
theorem ref_one (x : S24) (h0 : x.f0 = 3) (hn : x.f4.length = 1) {p : Bool × Bool} (hp : Ev (fun k => ref locs regs r o k (rd_T24 x.f4 0)) p) : Ev (fun k => ref locs regs r o k x) (two x.f0 p p) := by
  unfold ref at *
  refine Ev.step (fun k => by simp only [witheref9_holds.f]; rfl) ?_
  refine ev_else (by omega) (ev_else (by omega) (ev_if h0 (ev_if (by omega) (ev_if (by omega) ?_))))
  refine Ev.bind hp ?_
  obtain ⟨a, b⟩ := p
  cases b
  · exact ev_eq (ev_else (by simp) (Ev.now _)) (by simp [two])
  · exact ev_eq (ev_if rfl (Ev.now _)) (by simp [two, h0])
theorem ref_two (x : S24) (h0 : x.f0 = 4 ∨ x.f0 = 5) (hn : x.f4.length = 2) {p q : Bool × Bool} (hp : Ev (fun k => ref locs regs r o k (rd_T24 x.f4 0)) p) (hq : Ev (fun k => ref locs regs r o k (rd_T24 x.f4 1)) q) :
    Ev (fun k => ref locs regs r o k x) (two x.f0 p q) := by
  have e : Ev (fun k => witheref9_holds.j1 k locs regs true x.f0 x.f1 x.f2 x.f3 x.f4 r o) (two x.f0 p q) := by
    unfold ref at *
    refine Ev.step (fun k => by simp only [witheref9_holds.j1]; rfl) ?_
    refine ev_if (by decide) (ev_if (by omega) (ev_if (by omega) ?_))
    refine Ev.bind hp (ev_if (by omega) (Ev.bind hq ?_))
    obtain ⟨a, b⟩ := p
    obtain ⟨c, d⟩ := q
    rcases h0 with h0 | h0 <;> rw [h0] <;> cases b <;> cases d <;> cases a <;> cases c
    all_goals first
      | (refine ev_if (by decide) ?_; refine Ev.step (fun k => by simp only [witheref9_holds.j2]; rfl) ?_; exact ev_if (by decide) (Ev.now _))
      | (refine ev_if (by decide) ?_; refine Ev.step (fun k => by simp only [witheref9_holds.j2]; rfl) ?_; exact ev_else (by decide) (ev_if (by decide) (ev_if (by decide) (Ev.now _))))
      | (refine ev_if (by decide) ?_; refine Ev.step (fun k => by simp only [witheref9_holds.j2]; rfl) ?_; exact ev_else (by decide) (ev_if (by decide) (ev_else (by decide) (Ev.now _))))
      | (refine ev_if (by decide) ?_; refine Ev.step (fun k => by simp only [witheref9_holds.j2]; rfl) ?_; exact ev_else (by decide) (ev_else (by decide) (ev_if (by decide) (Ev.now _))))
      | (refine ev_if (by decide) ?_; refine Ev.step (fun k => by simp only [witheref9_holds.j2]; rfl) ?_; exact ev_else (by decide) (ev_else (by decide) (ev_else (by decide) (Ev.now _))))
      | (refine ev_else (by decide) ?_; refine Ev.step (fun k => by simp only [witheref9_holds.j2]; rfl) ?_; exact ev_if (by decide) (Ev.now _))
  unfold ref
  refine Ev.step (fun k => by simp only [witheref9_holds.f]; rfl) ?_
  refine ev_else (by omega) (ev_else (by omega) (ev_else (by omega) ?_))
  rcases h0 with h0 | h0
  · refine ev_if h0 ?_
    rw [show (x.f0 == 4) = true by simp [h0]]
    exact e
  · refine ev_else (by omega) ?_
    rw [show (x.f0 == 5) = true by simp [h0]]
    exact e
theorem like_all (hk : locs.length ≤ 6) (h2 : ∀ l ∈ regs, l.length ≤ 6) : ∀ (m d : Nat) (x : S24), d ≤ 6 → m ≤ 13 → Small m x → Like locs regs r o m d x
  | 0, d, x, _, _, hs => hs.elim
  | m + 1, d, x, hd, hm, hs => by
    have hp := (deep_ev (m + 1) x hm hs).2.1
    by_cases c1 : x.f0 = 1
    · refine leaf_like locs regs r o hk h2 m d x hd hs hp (leaf locs o x.f2 x.f3) (fun a b => ?_) (fun a => ?_) (ref_mem locs regs r o hk x c1)
      · unfold hol
        refine Ev.step (fun k => by simp only [post_end_holds.f]; rfl) ?_
        exact ev_if c1 (ev_if ⟨a, by omega⟩ (mem_f locs regs r o _ _ _ _ _ hk))
      · unfold hol
        refine Ev.step (fun k => by simp only [post_end_holds.f]; rfl) ?_
        exact ev_if c1 (ev_else (by omega) (Ev.now _))
    by_cases c2 : x.f0 = 2
    · refine leaf_like locs regs r o hk h2 m d x hd hs hp (leafR regs r x.f1 x.f2 x.f3) (fun a b => ?_) (fun a => ?_) (ref_reg locs regs r o h2 x c2)
      · unfold hol
        refine Ev.step (fun k => by simp only [post_end_holds.f]; rfl) ?_
        exact ev_else c1 (ev_if c2 (ev_if ⟨a, by omega⟩ (reg_f locs regs r o _ _ _ _ _ h2)))
      · unfold hol
        refine Ev.step (fun k => by simp only [post_end_holds.f]; rfl) ?_
        exact ev_else c1 (ev_if c2 (ev_else (by omega) (Ev.now _)))
    by_cases c3 : x.f0 = 3 ∨ x.f0 = 4 ∨ x.f0 = 5
    · by_cases hn : x.f4.length = (if x.f0 = 3 then 1 else 2)
      · have kid : ∀ i : Nat, i < x.f4.length → ∀ d : Nat, d ≤ 6 → Like locs regs r o m d (rd_T24 x.f4 (i : Int)) := fun i hi d hd => like_all hk h2 m d _ hd (by omega) (hs.2 _ (rdT_mem x.f4 i hi))
        have low : ∀ i : Nat, i < x.f4.length → dep m (rd_T24 x.f4 (i : Int)) + 1 ≤ dep (m + 1) x := by
          intro i hi
          have q := (fold_ge (dep m) x.f4 0).2 _ (rdT_mem x.f4 i hi)
          rw [dep]
          omega
        obtain ⟨n, hn1, hn2⟩ : ∃ n : Nat, n + 1 = x.f4.length ∧ wrap64 ((x.f4.length : Int) - 1) = (n : Int) := by
          have hq : 1 ≤ x.f4.length ∧ x.f4.length ≤ 2 := by
            rw [hn]
            split <;> omega
          exact ⟨x.f4.length - 1, by omega, by rw [w64 (by omega) (by omega)]; omega⟩
        have top : ∀ b : Int, dep m (rd_T24 x.f4 (0 : Nat)) ≤ b → dep m (rd_T24 x.f4 (n : Int)) ≤ b → 0 ≤ b → dep (m + 1) x ≤ b + 1 := by
          intro b b0 b1 bz
          have q := fold_le (dep m) b x.f4 0 bz (fun y hy => by
            obtain ⟨i, hi, rfl⟩ := List.getElem_of_mem hy
            have ey : x.f4[i] = rd_T24 x.f4 (i : Int) := by simp [rd_T24, List.getD, hi]
            rw [ey]
            have hq : x.f4.length ≤ 2 := by
              rw [hn]
              split <;> omega
            obtain rfl | rfl : i = 0 ∨ i = n := by omega
            · exact b0
            · exact b1)
          rw [dep]
          omega
        have refw : ∀ {p q : Bool × Bool}, Ev (fun k => ref locs regs r o k (rd_T24 x.f4 (0 : Nat))) p → Ev (fun k => ref locs regs r o k (rd_T24 x.f4 (n : Int))) q → ∃ w, Ev (fun k => ref locs regs r o k x) w ∧ w = two x.f0 p q := by
          intro p q ep eq
          by_cases c : x.f0 = 3
          · rw [if_pos c] at hn
            obtain rfl : n = 0 := by omega
            have epq : p = q := by
              obtain ⟨K1, g1⟩ := ep
              obtain ⟨K2, g2⟩ := eq
              exact Option.some.inj ((g1 (max K1 K2) (by omega)).symm.trans (g2 (max K1 K2) (by omega)))
            subst epq
            exact ⟨_, ref_one locs regs r o x c hn ep, rfl⟩
          · rw [if_neg c] at hn
            obtain rfl : n = 1 := by omega
            exact ⟨_, ref_two locs regs r o x (by omega) hn ep eq, rfl⟩
        by_cases hd6 : d < 6
        · obtain ⟨v0, w0, e0, f0, s0, t0⟩ := kid 0 (by omega) (d + 1) (by omega)
          obtain ⟨v1, w1, e1, f1, s1, t1⟩ := kid n (by omega) (d + 1) (by omega)
          obtain ⟨w, ew, hw⟩ := refw f0 f1
          refine ⟨two x.f0 v0 v1, w, hol_two locs regs r o x d n hd6 c3 hn hn2 e0 e1, ew, fun g => ?_, fun g => ?_⟩
          · have l0 := low 0 (by omega)
            have l1 := low n (by omega)
            rw [hw, s0 (by omega), s1 (by omega)]
          · apply two_off
            by_cases z : dep m (rd_T24 x.f4 (0 : Nat)) + ((d + 1 : Nat) : Int) > 6
            · exact .inl (t0 z)
            · by_cases z2 : dep m (rd_T24 x.f4 (n : Int)) + ((d + 1 : Nat) : Int) > 6
              · exact .inr (t1 z2)
              · have := top (6 - ((d + 1 : Nat) : Int)) (by omega) (by omega) (by omega)
                omega
        · obtain ⟨v0, w0, e0, f0, s0, t0⟩ := kid 0 (by omega) 0 (by omega)
          obtain ⟨v1, w1, e1, f1, s1, t1⟩ := kid n (by omega) 0 (by omega)
          obtain ⟨w, ew, hw⟩ := refw f0 f1
          exact ⟨(false, false), w, hol_off locs regs r o x d c3 (by omega), ew, fun g => by omega, fun _ => rfl⟩
      · exact ⟨(false, false), (false, false), hol_off locs regs r o x d c3 (fun q => hn q.1), ref_off locs regs r o x c3 hn, fun _ => rfl, fun _ => rfl⟩
    · refine ⟨(false, false), (false, false), ?_, ?_, fun _ => rfl, fun _ => rfl⟩
      · unfold hol
        refine Ev.step (fun k => by simp only [post_end_holds.f]; rfl) ?_
        exact ev_else c1 (ev_else c2 (ev_else c3 (Ev.now _)))
      · unfold ref
        refine Ev.step (fun k => by simp only [witheref9_holds.f]; rfl) ?_
        refine ev_else c1 (ev_else c2 (ev_else (by omega) (ev_else (by omega) ?_)))
        rw [show (x.f0 == 5) = false by simp; omega]
        refine Ev.step (fun k => by simp only [witheref9_holds.j1]; rfl) ?_
        exact ev_else (by decide) (Ev.now _)
/-- Holds: the two are one. -/
theorem Holds_ev (hk : locs.length ≤ 6) (h2 : ∀ l ∈ regs, l.length ≤ 6) (x : S24) (hs : Small 13 x) :
    ∃ v, Ev (fun k => post_Holds.f k x.f0 x.f1 x.f2 x.f3 x.f4 locs regs r o) v ∧ Ev (fun k => witheref9_Holds.f k x.f0 x.f1 x.f2 x.f3 x.f4 locs regs r o) v := by
  obtain ⟨v, w, ev, ew, s, t⟩ := like_all locs regs r o hk h2 13 0 x (by omega) (by omega) hs
  have hd := (deep_ev 13 x (by omega) hs).1
  refine ⟨v, ?_, ?_⟩
  · unfold post_Holds.f
    exact Ev.bind ev (Ev.now _)
  · unfold witheref9_Holds.f
    refine Ev.bind hd ?_
    by_cases c : dep 13 x > 6
    · exact ev_eq (ev_if c (Ev.now _)) (t (by omega)).symm
    · exact ev_eq (ev_else c (Ev.bind ew (Ev.now _))) (s (by omega)).symm
end
end Go.Proofs.YtbgcmbnnkigjjaaDoor.PA
