/- What the statements' 'some' makes; begun. -/
import Derived.Test.YtcehnbneiabaaaaDoorRelT
import Derived.Test.YtcehnbneiabaaaaDoorPRx20
import Derived.Test.YtcehnbneiabaaaaDoorPRx12
namespace Go.Proofs.YtcehnbneiabaaaaDoor.PR
open Go.RowKit Go.Proofs.YtcehnbneiabaaaaDoorW.PrintWords Go.Proofs.YtcehnbneiabaaaaDoorW.PrintLast Go.Proofs.YtcehnbneiabaaaaDoorW.PrintMore
set_option linter.unusedVariables false
set_option linter.unusedSimpArgs false

theorem begun_ev : Ev (fun k => withelaw2_begun.f k) true := Ev.of withelaw2_begun.mono (k := 200) (by kernel_rfl)
theorem some_ev (l : List Int) (hl : ∀ x ∈ l, (Lit.int .u8 x).wf = true) (hlen : l.length ≤ 1000000) (a : Int) (ha : (Lit.int .u8 a).wf = true) : ∃ r, Ev (fun k => withelaw2_some.f k l a) r ∧ OkN ((a % 20).toNat + 1) r := by
  have h8 := wf_u8 ha
  have ht : Int.tmod a 20 = a % 20 := Int.tmod_eq_emod_of_nonneg h8.1
  obtain ⟨n, hn⟩ : ∃ n : Nat, n = (a % 20).toNat + 1 := ⟨_, rfl⟩
  have hnn : a % 20 + 1 = (n : Int) := by omega
  rw [← hn]
  have hn20 : n ≤ 20 := by omega
  have hn1 : 1 ≤ n := by omega
  have key : ∀ (d i : Nat) (o : List Int), l.length - 2 * i ≤ d → 2 * i ≤ l.length → OkN n o → ∃ r, Ev (fun k => withelaw2_some.l0 k l o ((2 * i : Nat) : Int)) r ∧ OkN n r := by
    intro d
    induction d with
    | zero =>
      intro i o h1 h2 ho
      refine ⟨o, Ev.step (fun k => by simp only [withelaw2_some.l0]; rfl) ?_, ho⟩
      rw [w64 (by omega) (by omega)]
      exact ev_else (by omega) (Ev.now _)
    | succ d ih =>
      intro i o h1 h2 ho
      have hol := ho.1
      by_cases hmore : 2 * i + 1 < l.length
      · have r0 := rd_u8 l hl ((2 * i : Nat) : Int)
        have r1 := rd_u8 l hl (((2 * i : Nat) : Int) + 1)
        obtain ⟨x, hx⟩ : ∃ x : Nat, (x : Int) = rd l ((2 * i : Nat) : Int) % (n : Int) := ⟨(rd l ((2 * i : Nat) : Int) % (n : Int)).toNat, by have := Int.emod_nonneg (rd l ((2 * i : Nat) : Int)) (show (n : Int) ≠ 0 by omega); omega⟩
        obtain ⟨y, hy⟩ : ∃ y : Nat, (y : Int) = rd l (((2 * i : Nat) : Int) + 1) % (n : Int) := ⟨(rd l (((2 * i : Nat) : Int) + 1) % (n : Int)).toNat, by have := Int.emod_nonneg (rd l (((2 * i : Nat) : Int) + 1)) (show (n : Int) ≠ 0 by omega); omega⟩
        have hxn : x < n := by have := Int.emod_lt_of_pos (rd l ((2 * i : Nat) : Int)) (show (0 : Int) < n by omega); omega
        have hyn : y < n := by have := Int.emod_lt_of_pos (rd l (((2 * i : Nat) : Int) + 1)) (show (0 : Int) < n by omega); omega
        obtain ⟨r, hr, hok⟩ := ih (i + 1) (put1 o (x, y)) (by omega) (by omega) (ho.put (by omega) hxn hyn)
        refine ⟨r, Ev.step (fun k => by simp only [withelaw2_some.l0]; rfl) ?_, hok⟩
        rw [w64 (n := ((2 * i : Nat) : Int) + 1) (by omega) (by omega), w64 (n := rd l ((2 * i : Nat) : Int)) (by omega) (by omega), w64 (n := rd l (((2 * i : Nat) : Int) + 1)) (by omega) (by omega), hol]
        rw [Int.tmod_eq_emod_of_nonneg r0.1, Int.tmod_eq_emod_of_nonneg r1.1, ← hx, ← hy]
        have hw : IntKind.u64.wrap (y : Int) = y := by rw [IntKind.wrap_u64]; omega
        rw [hw, shl_one _ (by omega) (by omega), w64 (n := ((2 * i : Nat) : Int) + 2) (by omega) (by omega)]
        refine ev_if (by omega) (ev_if (by omega) (ev_if (by omega) (ev_else (by omega) (ev_if (by omega) (ev_if (by omega) (ev_if (by omega) (ev_if (by omega) ?_)))))))
        rw [show ((2 * i : Nat) : Int) + 2 = ((2 * (i + 1) : Nat) : Int) by omega]
        exact hr
      · refine ⟨o, Ev.step (fun k => by simp only [withelaw2_some.l0]; rfl) ?_, ho⟩
        rw [w64 (by omega) (by omega)]
        exact ev_else (by omega) (Ev.now _)
  unfold withelaw2_some.f
  rw [ht, w64 (n := a % 20) (by omega) (by omega), w64 (n := a % 20 + 1) (by omega) (by omega), hnn]
  obtain ⟨r, hr, hok⟩ := key l.length 0 (List.replicate n 0) (by omega) (by omega) ⟨by simp, Us_zeros n, fun p q hpq => by
    unfold prs at hpq
    rw [rd_zeros, tb_zero] at hpq
    cases hpq⟩
  exact ⟨r, ev_if (by omega) (ev_if (by omega) hr), hok⟩
end Go.Proofs.YtcehnbneiabaaaaDoor.PR
