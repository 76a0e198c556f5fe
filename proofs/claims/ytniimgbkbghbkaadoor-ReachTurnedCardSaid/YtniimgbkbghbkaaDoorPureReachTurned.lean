/- ReachTurned: what is below is above the other way round; both have what they begin with, and are done in one go. For all lists of numbers and all sets. -/
import Derived.Test.YtniimgbkbghbkaaDoorRchG
import Derived.Test.YtniimgbkbghbkaaDoorPHx26
namespace Go.Proofs.YtniimgbkbghbkaaDoor.Pure
open Go.RowKit Go.Proofs.YtniimgbkbghbkaaDoor.PH Go.Proofs.YtniimgbkbghbkaaDoorW.PrintWords Go.Proofs.YtniimgbkbghbkaaDoorW.PrintLast
set_option linter.unusedVariables false
set_option linter.unusedSimpArgs false

theorem ReachTurned : withelaw3_ReachTurned.Pure := by
  intro l a s
  intros
  refine Ev.rounds ?_
  unfold withelaw3_ReachTurned.f
  refine Ev.bind begun_ev (ev_if rfl ?_)
  refine ev_ite (fun _ => Ev.now _) (fun b0 => ?_)
  have hl : ∀ x ∈ l, (Lit.int .u8 x).wf = true := by assumption
  have wa : (Lit.int .u8 a).wf = true := by assumption
  have hs : U s := wf_u64 (by assumption)
  obtain ⟨r, er, okr, _⟩ := some_ev l hl (by omega) a wa false
  have h8 := wf_u8 wa
  have hn16 : (a % 16).toNat + 1 ≤ 16 := by omega
  generalize (a % 16).toNat + 1 = n at *
  have hn : n ≤ 64 := by omega
  have hrl := okr.1
  refine Ev.bind er ?_
  have hw : IntKind.u64.wrap (r.length : Int) = ((n : Nat) : Int) := by rw [IntKind.wrap_u64]; omega
  rw [hw, shl_one _ (by omega) (by omega)]
  have hmask : IntKind.u64.wrap (oneI (n : Int) - 1) = rng n := by
    unfold oneI rng
    rw [if_pos (by omega), show ((n : Int)).toNat = n from rfl, IntKind.wrap_u64]
    have h1 : 2 ^ n ≤ 2 ^ 16 := Nat.pow_le_pow_right (by decide) hn16
    have h2 := Nat.two_pow_pos n
    have h3 : (2 : Nat) ^ 16 = 65536 := by decide
    generalize 2 ^ n = m at *
    omega
  rw [hmask]
  obtain ⟨i1, i2⟩ := in_and hn hs
  obtain ⟨d, ed, hd, pd⟩ := down_ok okr hn hs
  obtain ⟨u, eu, hu, pu⟩ := up_ok okr hn hs
  obtain ⟨b, eb, okb, pb⟩ := back_ok okr hn
  obtain ⟨d2, ed2, hd2, pd2⟩ := down_ok okb hn hs
  obtain ⟨d3, ed3, hd3, pd3⟩ := down_ok okr hn hd.1
  obtain ⟨u3, eu3, hu3, pu3⟩ := up_ok okr hn hu.1
  obtain ⟨d4, ed4, hd4, pd4⟩ := down_ok okr hn i1.1
  have eI := Into_f okr hn i1.1
  obtain ⟨hI, pI⟩ := Into_spec okr hn i1.1
  generalize hin : bits .and .u64 s (rng n) = x at *
  have f1 : bits .and .u64 d x = x := by
    refine tb_ext (and_U hd.1 i1.1) i1.1 fun q hq => ?_
    rw [and_tb hd.1 i1.1, Bool.eq_iff_iff, Bool.and_eq_true]
    exact ⟨fun h => h.2, fun h => ⟨(pd q).mpr ⟨q, (i2 q).mp h, .refl q⟩, h⟩⟩
  have f2 : bits .and .u64 u x = x := by
    refine tb_ext (and_U hu.1 i1.1) i1.1 fun q hq => ?_
    rw [and_tb hu.1 i1.1, Bool.eq_iff_iff, Bool.and_eq_true]
    exact ⟨fun h => h.2, fun h => ⟨(pu q).mpr ⟨q, (i2 q).mp h, .refl q⟩, h⟩⟩
  have f3 : d2 = u := in_ext hn hd2 hu fun q hq => by
    rw [pd2, pu]
    constructor
    · rintro ⟨p, hp, h⟩
      exact ⟨p, hp, h.rev.mono fun v w hvw => (pb w v).mp hvw⟩
    · rintro ⟨p, hp, h⟩
      exact ⟨p, hp, h.rev.mono fun v w hvw => (pb v w).mpr hvw⟩
  have f4 : d3 = d := in_ext hn hd3 hd fun q hq => by
    rw [pd3]
    constructor
    · rintro ⟨p, ⟨h1, _⟩, h⟩
      obtain ⟨p2, h2, h3⟩ := (pd p).mp h1
      exact (pd q).mpr ⟨p2, h2, h.trans h3⟩
    · intro h
      exact ⟨q, ⟨h, hq⟩, .refl q⟩
  have f5 : u3 = u := in_ext hn hu3 hu fun q hq => by
    rw [pu3]
    constructor
    · rintro ⟨p, ⟨h1, _⟩, h⟩
      obtain ⟨p2, h2, h3⟩ := (pu p).mp h1
      exact (pu q).mpr ⟨p2, h2, h3.trans h⟩
    · intro h
      exact ⟨q, ⟨h, hq⟩, .refl q⟩
  have f6 : d4 = d := in_ext hn hd4 hd fun q hq => by
    rw [pd4, pd]
    constructor
    · rintro ⟨p, ⟨h1, _⟩, h⟩
      exact ⟨p, (i2 p).mp h1, h⟩
    · rintro ⟨p, h1, h⟩
      exact ⟨p, ⟨(i2 p).mpr h1, h1.2⟩, h⟩
  have f7 : u = x ↔ bits .andNot .u64 (intoI r x) x = 0 := by
    constructor
    · intro h
      refine tb_ext (less_U hI i1.1) U_zero fun q hq => ?_
      rw [less_tb hI i1.1, tb_zero]
      cases e : tb (intoI r x) q with
      | false => rfl
      | true =>
        obtain ⟨p, hp, hpq⟩ := (pI q).mp e
        have : tb u q = true := (pu q).mpr ⟨p, (i2 p).mp hp, RT.one hpq⟩
        rw [h] at this
        rw [this]
        rfl
    · intro h
      have hcl : ∀ p q, tb x p = true → RR r p q → tb x q = true := by
        intro p q hp hpq
        have h1 := less_tb hI i1.1 q
        rw [h, tb_zero, (pI q).mpr ⟨p, hp, hpq⟩] at h1
        simpa using h1.symm
      refine in_ext hn hu i1 fun q hq => ?_
      rw [pu]
      constructor
      · rintro ⟨p, hp, hrt⟩
        induction hrt with
        | refl => exact (i2 p).mpr hp
        | tail _ e ih => exact hcl _ _ (ih ((okr.lt e).1)) e
      · intro hx
        exact ⟨q, (i2 q).mp hx, .refl q⟩
  refine ev_if (by omega) (Ev.bind ed (Ev.bind eu (ev_if f1 (ev_if f2 (Ev.bind eb (Ev.bind ed2 (ev_if f3 (Ev.bind ed3 (ev_if f4 (Ev.bind eu3 (ev_if f5 (Ev.bind ed4 (ev_if f6 (Ev.bind eI (ev_eq (Ev.now _) ?_)))))))))))))))
  rw [beq_iff_eq, Bool.eq_iff_iff, beq_iff_eq, beq_iff_eq]
  exact f7
end Go.Proofs.YtniimgbkbghbkaaDoor.Pure
