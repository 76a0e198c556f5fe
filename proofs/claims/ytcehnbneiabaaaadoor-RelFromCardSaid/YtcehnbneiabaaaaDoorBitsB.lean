/- Sets as numbers: what may be a relation; which rows are alike. -/
import Derived.Test.YtcehnbneiabaaaaDoorBitsA
import Derived.Test.YtcehnbneiabaaaaDoorPRx2
import Derived.Test.YtcehnbneiabaaaaDoorPRx3
import Derived.Test.YtcehnbneiabaaaaDoorPRx7
import Derived.Test.YtcehnbneiabaaaaDoorPRx4
namespace Go.Proofs.YtcehnbneiabaaaaDoor.PR
open Go.RowKit Go.Proofs.YtcehnbneiabaaaaDoorW.PrintWords Go.Proofs.YtcehnbneiabaaaaDoorW.PrintLast Go.Proofs.YtcehnbneiabaaaaDoorW.PrintMore
set_option linter.unusedVariables false
set_option linter.unusedSimpArgs false

theorem has_f {s : Int} (h : U s) (i : Int) : bits_Has.f s i = some (hasB s i) := by
  unfold bits_Has.f
  rw [one_f]
  show some (bits .and .u64 s (oneI i) != 0) = _
  rw [and_one h]
theorem put_f (s i : Int) : bits_Put.f s i = some (bits .or .u64 s (oneI i)) := by
  unfold bits_Put.f
  rw [one_f]
  rfl
def Us (r : List Int) : Prop := ∀ s ∈ r, U s
theorem Us.at_ {r : List Int} (h : Us r) (i : Int) : U (rd r i) := by
  unfold rd
  rw [List.getD_eq_getElem?_getD]
  by_cases hi : i.toNat < r.length
  · rw [List.getElem?_eq_getElem hi]
    exact h _ (List.getElem_mem hi)
  · rw [List.getElem?_eq_none (by omega)]
    exact U_zero
theorem Us_wf {r : List Int} (h : ∀ x ∈ r, (Lit.int .u64 x).wf = true) : Us r := fun s hs => wf_u64 (h s hs)
theorem may_f {r : List Int} (h : Us r) : Ev (fun k => rel_May.f k r) (mayB r) := by
  unfold rel_May.f
  refine ev_ite (fun hl => ?_) (fun hl => ?_)
  · refine ev_eq (Ev.now _) ?_
    unfold mayB
    have : decide (r.length ≤ 64) = false := by simp; omega
    rw [this]
    rfl
  · refine Ev.bind (range_f r.length (by omega)) (ev_eq (Ev.now _) ?_)
    unfold mayB
    have : decide (r.length ≤ 64) = true := by simp; omega
    rw [this, Bool.true_and]
    have e : ∀ s ∈ r, outOf (rng r.length) s = !decide (s.toNat < 2 ^ r.length) := by
      intro s hs
      unfold outOf
      have := less_zero (h s hs) r.length (by omega)
      by_cases hlt : s.toNat < 2 ^ r.length
      · simp [this.mpr hlt, hlt]
      · have h2 : ¬ bits .andNot .u64 s (rng r.length) = 0 := fun h => hlt (this.mp h)
        simp [h2, hlt]
    rw [Bool.eq_iff_iff]
    simp only [Bool.not_eq_true', List.any_eq_false, List.all_eq_true]
    constructor
    · intro h1 s hs
      have := h1 s hs
      rw [e s hs] at this
      simpa using this
    · intro h1 s hs
      rw [e s hs]
      have := h1 s hs
      simpa using this
theorem same_f (a b : List Int) (ha : a.length ≤ 1000000) : Ev (fun k => rel_Same.f k a b) (decide (a = b)) := by
  unfold rel_Same.f slices_Equal_uint64_uint64.f
  refine Ev.bind (a := decide (a = b)) ?_ (Ev.now _)
  refine ev_ite (fun hl => ?_) (fun hl => ?_)
  · have hl' : a.length = b.length := by omega
    have key : ∀ (d i : Nat), a.length - i = d → i ≤ a.length → (∀ j, j < i → a[j]? = b[j]?) → Ev (fun k => slices_Equal_uint64_uint64.l0 k a b (a.length : Int) (i : Int)) (decide (a = b)) := by
      intro d
      induction d with
      | zero =>
        intro i h1 h2 h3
        refine Ev.step (fun k => by simp only [slices_Equal_uint64_uint64.l0]; rfl) (ev_else (by omega) (ev_eq (Ev.now _) ?_))
        symm
        rw [decide_eq_true_iff]
        refine List.ext_getElem? fun j => ?_
        by_cases hj : j < i
        · exact h3 j hj
        · rw [List.getElem?_eq_none (by omega), List.getElem?_eq_none (by omega)]
      | succ d ih =>
        intro i h1 h2 h3
        refine Ev.step (fun k => by simp only [slices_Equal_uint64_uint64.l0]; rfl) (ev_if (by omega) (ev_if (by omega) (ev_if (by omega) (ev_if (by omega) ?_))))
        have e1 : a[i]? = some (rd a (i : Int)) := by
          unfold rd
          rw [List.getD_eq_getElem?_getD, show ((i : Nat) : Int).toNat = i from rfl, List.getElem?_eq_getElem (by omega)]
          rfl
        have e2 : b[i]? = some (rd b (i : Int)) := by
          unfold rd
          rw [List.getD_eq_getElem?_getD, show ((i : Nat) : Int).toNat = i from rfl, List.getElem?_eq_getElem (by omega)]
          rfl
        refine ev_ite (fun he => ?_) (fun he => ?_)
        · rw [w64 (by omega) (by omega)]
          refine ih (i + 1) (by omega) (by omega) fun j hj => ?_
          by_cases hji : j < i
          · exact h3 j hji
          · obtain rfl : j = i := by omega
            rw [e1, e2, he]
        · refine ev_eq (Ev.now _) ?_
          symm
          rw [decide_eq_false_iff_not]
          rintro rfl
          exact he rfl
    exact key a.length 0 rfl (by omega) (fun j hj => absurd hj (Nat.not_lt_zero j))
  · refine ev_eq (Ev.now _) ?_
    symm
    rw [decide_eq_false_iff_not]
    rintro rfl
    exact hl rfl
end Go.Proofs.YtcehnbneiabaaaaDoor.PR
