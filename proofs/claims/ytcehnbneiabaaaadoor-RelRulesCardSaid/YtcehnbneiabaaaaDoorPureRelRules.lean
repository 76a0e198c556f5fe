/- RelRules: how one relation behind the other goes with brackets, with turning about, with either, and with nothing. For all lists of numbers. -/
import Derived.Test.YtcehnbneiabaaaaDoorRelR
import Derived.Test.YtcehnbneiabaaaaDoorPRx21
namespace Go.Proofs.YtcehnbneiabaaaaDoor.Pure
open Go.RowKit Go.Proofs.YtcehnbneiabaaaaDoor.PR Go.Proofs.YtcehnbneiabaaaaDoorW.PrintWords Go.Proofs.YtcehnbneiabaaaaDoorW.PrintLast
set_option linter.unusedVariables false
set_option linter.unusedSimpArgs false

def diag (n : Nat) : List (Nat × Nat) := (List.range n).map fun i => (i, i)
theorem mem_diag (n p q : Nat) : (p, q) ∈ diag n ↔ p < n ∧ p = q := by
  unfold diag
  simp only [List.mem_map, List.mem_range]
  constructor
  · rintro ⟨i, hi, e⟩
    cases e
    exact ⟨hi, rfl⟩
  · rintro ⟨h, rfl⟩
    exact ⟨p, h, rfl⟩
theorem rules_j2 (n : Nat) (hn : n ≤ 64) (a b c : List Int) (ha : OkN n a) (hb : OkN n b) (hc : OkN n c) : Ev (fun k => withelaw2_RelRules.j2 k a b c (List.replicate n 0) (putsL (diag n) (List.replicate n 0)) false) true := by
  have hd : ∀ x ∈ diag n, x.1 < n ∧ x.2 < n := fun x hx => by
    obtain ⟨h1, h2⟩ := (mem_diag n x.1 x.2).mp hx
    omega
  obtain ⟨hid, pid⟩ := from_ok n hn (diag n) hd
  obtain ⟨hz, pz⟩ := zeros_ok n
  obtain ⟨bc, e1, h1, p1⟩ := or_ok hb hc hn
  obtain ⟨l, e2, h2, p2⟩ := thenOk ha h1 hn
  obtain ⟨ab, e3, h3, p3⟩ := thenOk ha hb hn
  obtain ⟨ac, e4, h4, p4⟩ := thenOk ha hc hn
  obtain ⟨r, e5, h5, p5⟩ := or_ok h3 h4 hn
  obtain ⟨z, e6, h6, p6⟩ := thenOk ha hz hn
  obtain ⟨x, e7, h7, p7⟩ := thenOk ha hid hn
  obtain ⟨y, e8, h8, p8⟩ := thenOk hid ha hn
  have hz0 : z = List.replicate n 0 := h6.uniq hz (fun p q => by
    rw [p6, pz]
    constructor
    · rintro ⟨y, _, h⟩
      rw [pz] at h
      exact h
    · intro h
      cases h)
  refine Ev.step (fun k => by simp only [withelaw2_RelRules.j2]; rfl) (ev_else (show ¬ (false = true) by decide) ?_)
  refine Ev.bind e1 (Ev.bind e2 (Ev.bind e3 (Ev.bind e4 (Ev.bind e5 (Ev.bind (same_ok h2 h5 hn fun p q => ?_) (ev_if rfl (Ev.bind e6 ?_)))))))
  · rw [p2, p5, p3, p4]
    constructor
    · rintro ⟨y, hy, h⟩
      rcases (p1 _ _).mp h with h | h
      · exact .inl ⟨y, hy, h⟩
      · exact .inr ⟨y, hy, h⟩
    · rintro (⟨y, hy, h⟩ | ⟨y, hy, h⟩)
      · exact ⟨y, hy, (p1 _ _).mpr (.inl h)⟩
      · exact ⟨y, hy, (p1 _ _).mpr (.inr h)⟩
  · rw [hz0]
    refine Ev.bind (count_zeros n hn) (ev_if rfl (Ev.bind e7 (Ev.bind (same_ok h7 ha hn fun p q => ?_) (ev_if rfl (Ev.bind e8 (Ev.bind (same_ok h8 ha hn fun p q => ?_) (Ev.now _)))))))
    · rw [p7]
      constructor
      · rintro ⟨y, hy, h⟩
        obtain ⟨_, rfl⟩ := (mem_diag n y q).mp ((pid _ _).mp h)
        exact hy
      · intro h
        exact ⟨q, h, (pid _ _).mpr ((mem_diag n q q).mpr ⟨(ha.lt h).2, rfl⟩)⟩
    · rw [p8]
      constructor
      · rintro ⟨y, hy, h⟩
        obtain ⟨_, rfl⟩ := (mem_diag n p y).mp ((pid _ _).mp hy)
        exact h
      · intro h
        exact ⟨p, (pid _ _).mpr ((mem_diag n p p).mpr ⟨(ha.lt h).1, rfl⟩), h⟩
theorem rules_l0 (n : Nat) (hn : n ≤ 64) (a b c : List Int) (ha : OkN n a) (hb : OkN n b) (hc : OkN n c) : ∀ (d i : Nat), n - i = d → i ≤ n → Ev (fun k => withelaw2_RelRules.l0 k a b c (List.replicate n 0) ((diag i).map toS) (i : Int)) true := by
  have hal := ha.1
  intro d
  induction d with
  | zero =>
    intro i h1 h2
    obtain rfl : i = n := by omega
    have hd : ∀ x ∈ diag i, x.1 < i ∧ x.2 < i := fun x hx => by
      obtain ⟨h1, h2⟩ := (mem_diag i x.1 x.2).mp hx
      omega
    obtain ⟨ab, e1, h1, p1⟩ := thenOk ha hb hn
    obtain ⟨l, e2, h2, p2⟩ := thenOk h1 hc hn
    obtain ⟨bc, e3, h3, p3⟩ := thenOk hb hc hn
    obtain ⟨r, e4, h4, p4⟩ := thenOk ha h3 hn
    obtain ⟨t, e5, h5, p5⟩ := back_ok h1 hn
    obtain ⟨bb, e6, h6, p6⟩ := back_ok hb hn
    obtain ⟨ba, e7, h7, p7⟩ := back_ok ha hn
    obtain ⟨u, e8, h8, p8⟩ := thenOk h6 h7 hn
    refine Ev.step (fun k => by simp only [withelaw2_RelRules.l0]; rfl) (ev_else (by omega) ?_)
    rw [hal]
    refine Ev.bind (from_f i hn (diag i) hd (by unfold diag; simp; omega)) (ev_if rfl ?_)
    refine Ev.bind e1 (Ev.bind e2 (Ev.bind e3 (Ev.bind e4 (Ev.bind (same_ok h2 h4 hn fun p q => ?_) (ev_if rfl (Ev.bind e1 (Ev.bind e5 (Ev.bind e6 (Ev.bind e7 (Ev.bind e8 (Ev.bind (same_ok h5 h8 hn fun p q => ?_) (rules_j2 i hn a b c ha hb hc))))))))))))
    · rw [p2, p4]
      constructor
      · rintro ⟨y, h, hq⟩
        obtain ⟨x, hx, hy⟩ := (p1 _ _).mp h
        exact ⟨x, hx, (p3 _ _).mpr ⟨y, hy, hq⟩⟩
      · rintro ⟨x, hx, h⟩
        obtain ⟨y, hy, hq⟩ := (p3 _ _).mp h
        exact ⟨y, (p1 _ _).mpr ⟨x, hx, hy⟩, hq⟩
    · rw [p5, p8, p1]
      constructor
      · rintro ⟨y, h1, h2⟩
        exact ⟨y, (p6 _ _).mpr h2, (p7 _ _).mpr h1⟩
      · rintro ⟨y, h1, h2⟩
        exact ⟨y, (p7 _ _).mp h2, (p6 _ _).mp h1⟩
  | succ d ih =>
    intro i h1 h2
    refine Ev.step (fun k => by simp only [withelaw2_RelRules.l0]; rfl) (ev_if (by omega) (ev_if (by unfold diag; simp; omega) ?_))
    rw [w64 (by omega) (by omega)]
    have := ih (i + 1) (by omega) (by omega)
    have e : (diag (i + 1)).map toS = (diag i).map toS ++ [(⟨(i : Int), (i : Int)⟩ : S28)] := by
      unfold diag
      rw [List.range_succ, List.map_append, List.map_append]
      rfl
    rw [e] at this
    exact this
theorem RelRules : withelaw2_RelRules.Pure := by
  intro l0 l1 l2 a3
  intros
  refine Ev.rounds ?_
  unfold withelaw2_RelRules.f
  refine Ev.bind begun_ev (ev_if rfl ?_)
  have stop : Ev (fun k => withelaw2_RelRules.j0 k l0 l1 l2 a3 true) true := Ev.step (fun k => by simp only [withelaw2_RelRules.j0]; rfl) (ev_if (show true = true from rfl) (Ev.now _))
  refine ev_ite (fun _ => stop) (fun b0 => ev_ite (fun _ => stop) (fun b1 => ?_))
  by_cases b2 : (l2.length : Int) > 40
  · rw [show decide ((l2.length : Int) > 40) = true by simpa using b2]
    exact stop
  · rw [show decide ((l2.length : Int) > 40) = false by simpa using b2]
    have h0 : ∀ x ∈ l0, (Lit.int .u8 x).wf = true := by assumption
    have h1 : ∀ x ∈ l1, (Lit.int .u8 x).wf = true := by assumption
    have h2 : ∀ x ∈ l2, (Lit.int .u8 x).wf = true := by assumption
    have w3 : (Lit.int .u8 a3).wf = true := by assumption
    obtain ⟨x, hx, okx⟩ := some_ev l0 h0 (by omega) a3 w3
    obtain ⟨y, hy, oky⟩ := some_ev l1 h1 (by omega) a3 w3
    obtain ⟨z, hz, okz⟩ := some_ev l2 h2 (by omega) a3 w3
    have h8 := wf_u8 w3
    have hn : (a3 % 20).toNat + 1 ≤ 64 := by omega
    refine Ev.step (fun k => by simp only [withelaw2_RelRules.j0]; rfl) (ev_else (show ¬ (false = true) by decide) (Ev.bind hx (Ev.bind hy (Ev.bind hz ?_))))
    rw [okx.1]
    exact ev_bind0 (new_f _ hn) (rules_l0 _ hn x y z okx oky okz _ 0 rfl (by omega))
end Go.Proofs.YtcehnbneiabaaaaDoor.Pure
