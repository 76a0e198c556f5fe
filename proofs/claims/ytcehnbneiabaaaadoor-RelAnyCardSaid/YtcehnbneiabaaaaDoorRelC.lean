/- How many pairs there are, whether there is a pair, what is kept. -/
import Derived.Test.YtcehnbneiabaaaaDoorRelR
import Derived.Test.YtcehnbneiabaaaaDoorPopC
import Derived.Test.YtcehnbneiabaaaaDoorPRx4
import Derived.Test.YtcehnbneiabaaaaDoorPRx3
import Derived.Test.YtcehnbneiabaaaaDoorPRx9
namespace Go.Proofs.YtcehnbneiabaaaaDoor.PR
open Go.RowKit Go.Proofs.YtcehnbneiabaaaaDoorW.PrintWords Go.Proofs.YtcehnbneiabaaaaDoorW.PrintLast Go.Proofs.YtcehnbneiabaaaaDoorW.PrintMore
set_option linter.unusedVariables false
set_option linter.unusedSimpArgs false

theorem bcount_f {s : Int} (h : U s) : bits_Count.f s = some (((els s).length : Nat) : Int) := by
  unfold bits_Count.f
  rw [ones_f h]
  rfl
/-- How many pairs the first rows have. -/
def cntU (r : List Int) (i : Nat) : Nat := ((List.range i).map fun (p : Nat) => (els (rd r (p : Int))).length).sum
def cnt (r : List Int) : Nat := cntU r r.length
theorem cntU_succ (r : List Int) (i : Nat) : cntU r (i + 1) = cntU r i + (els (rd r (i : Int))).length := by
  unfold cntU
  rw [List.range_succ, List.map_append, List.sum_append]
  simp
theorem cntU_le (r : List Int) : ∀ i, cntU r i ≤ 64 * i
  | 0 => Nat.le_refl _
  | i + 1 => by
    have h1 := cntU_le r i
    have h2 := els_len (rd r (i : Int))
    rw [cntU_succ]
    omega
theorem cnt_le {r : List Int} (h : r.length ≤ 64) : cnt r ≤ 4096 := by
  have := cntU_le r r.length
  unfold cnt
  omega
theorem count_f {r : List Int} (h : Us r) (hm : mayB r = true) : Ev (fun k => rel_Count.f k r) ((cnt r : Nat) : Int) := by
  unfold rel_Count.f
  have hn := may_len hm
  refine Ev.bind (may_f h) (ev_if hm ?_)
  have key : ∀ (d i : Nat), r.length - i = d → i ≤ r.length → Ev (fun k => rel_Count.l0 k ((cntU r i : Nat) : Int) r (r.length : Int) (i : Int)) ((cnt r : Nat) : Int) := by
    intro d
    induction d with
    | zero =>
      intro i h1 h2
      refine Ev.step (fun k => by simp only [rel_Count.l0]; rfl) (ev_else (by omega) (ev_eq (Ev.now _) ?_))
      obtain rfl : i = r.length := by omega
      rfl
    | succ d ih =>
      intro i h1 h2
      refine Ev.step (fun k => by simp only [rel_Count.l0]; rfl) (ev_if (by omega) (ev_if (by omega) (ev_if (by omega) (ev_bind0 (bcount_f (h.at_ _)) ?_))))
      have h3 := cntU_le r i
      have h4 := els_len (rd r (i : Int))
      have h5 := ih (i + 1) (by omega) (by omega)
      rw [cntU_succ] at h5
      rw [w64 (n := ((cntU r i : Nat) : Int) + _) (by omega) (by omega), w64 (by omega) (by omega)]
      exact h5
  exact key r.length 0 rfl (by omega)
theorem count_bad {r : List Int} (h : Us r) (hm : mayB r = false) : Ev (fun k => rel_Count.f k r) 0 := by
  unfold rel_Count.f
  exact Ev.bind (may_f h) (ev_else (by rw [hm]; simp) (Ev.now _))
/-! what is kept -/
theorem kept_row_f {a : List Int} (ha : Us a) {s : Int} (hs : U s) (i : Nat) (hi : i < a.length) : rel_kept_row.f a s (i : Int) = some (if tb s i = true then bits .and .u64 (rd a (i : Int)) s else 0) := by
  unfold rel_kept_row.f
  rw [has_f hs, hasB_nat hs]
  show (if tb s i = true then _ else _) = _
  by_cases h : tb s i = true
  · rw [if_pos h, if_pos h, if_pos (by omega), if_pos (by omega)]
  · rw [if_neg h, if_neg h]
theorem keep_got {a : List Int} (ha : Us a) {s : Int} (hs : U s) : Got (fun k => rel_Keep.f k a s) (mayB a) a.length (fun p q => prs a p q && (tb s p && tb s q)) := by
  unfold rel_Keep.f
  cases hc : mayB a with
  | false => exact ⟨[], Ev.bind (may_f ha) (ev_else (by rw [hc]; simp) (Ev.now _)), fun h => (by cases h), fun _ => rfl⟩
  | true =>
    have hn := may_len hc
    refine ⟨(List.range a.length).map fun (i : Nat) => (if tb s i = true then bits .and .u64 (rd a (i : Int)) s else 0), Ev.bind (may_f ha) (ev_if hc (Ev.bind ?_ (Ev.now _))), fun _ => ?_, fun h => (by cases h)⟩
    · unfold rel_made_at_rel_kept_row.f
      refine ev_if (by omega) (ev_if (by omega) (ev_bind0 rfl ?_))
      have := made_ev (fun k x5 x10 x11 => rel_made_at_rel_kept_row.l0 k x5 x10 x11 a s) (fun k i => rel_kept_row.f a s i) a.length hn (fun (i : Nat) => (if tb s i = true then bits .and .u64 (rd a (i : Int)) s else 0)) (fun _ _ _ _ => rfl) (fun i hi => ev_some (kept_row_f ha hs i hi))
      rw [List.length_replicate]
      exact this
    · have := Is_made a.length (fun (i : Nat) => (if tb s i = true then bits .and .u64 (rd a (i : Int)) s else 0)) (fun i _ => by
        split
        · exact and_U (ha.at_ _) hs
        · exact U_zero)
      refine ⟨this.1, this.2.1, fun p hp q => (this.2.2 p hp q).trans ?_⟩
      show tb (if tb s p = true then bits .and .u64 (rd a (p : Int)) s else 0) q = (prs a p q && (tb s p && tb s q))
      by_cases h : tb s p = true
      · rw [if_pos h, and_tb (ha.at_ _) hs, h, Bool.true_and]
        rfl
      · rw [if_neg h, tb_zero]
        have : tb s p = false := by simpa using h
        rw [this, Bool.false_and, Bool.and_false]
end Go.Proofs.YtcehnbneiabaaaaDoor.PR
