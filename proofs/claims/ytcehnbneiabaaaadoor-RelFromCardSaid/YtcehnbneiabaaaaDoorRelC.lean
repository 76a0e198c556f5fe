/- How many pairs there are, whether there is a pair. -/
import Derived.Test.YtcehnbneiabaaaaDoorRelR
import Derived.Test.YtcehnbneiabaaaaDoorPopC
import Derived.Test.YtcehnbneiabaaaaDoorPRx4
import Derived.Test.YtcehnbneiabaaaaDoorPRx3
namespace Go.Proofs.YtcehnbneiabaaaaDoor.PR
open Go.RowKit Go.Proofs.YtcehnbneiabaaaaDoorW.PrintWords Go.Proofs.YtcehnbneiabaaaaDoorW.PrintLast Go.Proofs.YtcehnbneiabaaaaDoorW.PrintMore
set_option linter.unusedVariables false
set_option linter.unusedSimpArgs false

theorem relHas_f {n : Nat} {r : List Int} (h : OkN n r) (hn : n ≤ 64) {p : Nat} (hp : p < n) (q : Nat) : Ev (fun k => rel_Has.f k r (p : Int) (q : Int)) (prs r p q) := by
  unfold rel_Has.f
  have hl := h.1
  refine Ev.bind (may_f h.2.1) (ev_if (h.may hn) (ev_if (by omega) (ev_if (by omega) (ev_if (by omega) (ev_bind0 (has_f (h.2.1.at_ _) _) (ev_eq (Ev.now _) ?_))))))
  exact hasB_nat (h.2.1.at_ _) q
theorem bcount_f {s : Int} (h : U s) : bits_Count.f s = some (((els s).length : Nat) : Int) := by
  unfold bits_Count.f
  rw [ones_f h]
  rfl
/-- How many pairs the first rows have. -/
def cntU (r : List Int) (i : Nat) : Nat := ((List.range i).map fun (p : Nat) => (els (rd r (p : Int))).length).sum
def cnt (r : List Int) : Nat := cntU r r.length
theorem cntU_succ (r : List Int) (i : Nat) : cntU r (i + 1) = cntU r i + (els (rd r (i : Int))).length := by
  unfold cntU
  rw [List.range_succ, List.map_append, List.sum_append]
  simp
theorem cntU_le (r : List Int) : ∀ i, cntU r i ≤ 64 * i
  | 0 => Nat.le_refl _
  | i + 1 => by
    have h1 := cntU_le r i
    have h2 := els_len (rd r (i : Int))
    rw [cntU_succ]
    omega
theorem cnt_le {r : List Int} (h : r.length ≤ 64) : cnt r ≤ 4096 := by
  have := cntU_le r r.length
  unfold cnt
  omega
theorem count_f {r : List Int} (h : Us r) (hm : mayB r = true) : Ev (fun k => rel_Count.f k r) ((cnt r : Nat) : Int) := by
  unfold rel_Count.f
  have hn := may_len hm
  refine Ev.bind (may_f h) (ev_if hm ?_)
  have key : ∀ (d i : Nat), r.length - i = d → i ≤ r.length → Ev (fun k => rel_Count.l0 k ((cntU r i : Nat) : Int) r (r.length : Int) (i : Int)) ((cnt r : Nat) : Int) := by
    intro d
    induction d with
    | zero =>
      intro i h1 h2
      refine Ev.step (fun k => by simp only [rel_Count.l0]; rfl) (ev_else (by omega) (ev_eq (Ev.now _) ?_))
      obtain rfl : i = r.length := by omega
      rfl
    | succ d ih =>
      intro i h1 h2
      refine Ev.step (fun k => by simp only [rel_Count.l0]; rfl) (ev_if (by omega) (ev_if (by omega) (ev_if (by omega) (ev_bind0 (bcount_f (h.at_ _)) ?_))))
      have h3 := cntU_le r i
      have h4 := els_len (rd r (i : Int))
      have h5 := ih (i + 1) (by omega) (by omega)
      rw [cntU_succ] at h5
      rw [w64 (n := ((cntU r i : Nat) : Int) + _) (by omega) (by omega), w64 (by omega) (by omega)]
      exact h5
  exact key r.length 0 rfl (by omega)
theorem count_bad {r : List Int} (h : Us r) (hm : mayB r = false) : Ev (fun k => rel_Count.f k r) 0 := by
  unfold rel_Count.f
  exact Ev.bind (may_f h) (ev_else (by rw [hm]; simp) (Ev.now _))
theorem count_ok {n : Nat} {r : List Int} (h : OkN n r) (hn : n ≤ 64) : Ev (fun k => rel_Count.f k r) ((cntU r n : Nat) : Int) := by
  have := count_f h.2.1 (h.may hn)
  unfold cnt at this
  rw [h.1] at this
  exact this
theorem filter_len (f g h k : Nat → Bool) : ∀ l : List Nat, (∀ x ∈ l, f x = (h x || k x)) → (∀ x ∈ l, g x = (h x && k x)) → (l.filter f).length + (l.filter g).length = (l.filter h).length + (l.filter k).length
  | [], _, _ => rfl
  | x :: l, h1, h2 => by
    have ih := filter_len f g h k l (fun x hx => h1 x (by simp [hx])) (fun x hx => h2 x (by simp [hx]))
    have e1 := h1 x (by simp)
    have e2 := h2 x (by simp)
    cases e3 : h x <;> cases e4 : k x <;> simp [e3, e4] at e1 e2 <;> simp [List.filter_cons, e1, e2, e3, e4] <;> omega
theorem cnt_two {n : Nat} {a b o d : List Int} (ho : ∀ p, p < n → ∀ q, prs o p q = (prs a p q || prs b p q)) (hd : ∀ p, p < n → ∀ q, prs d p q = (prs a p q && prs b p q)) : ∀ i, i ≤ n → cntU o i + cntU d i = cntU a i + cntU b i
  | 0, _ => rfl
  | i + 1, hi => by
    have ih := cnt_two ho hd i (by omega)
    have h1 := filter_len (tb (rd o (i : Int))) (tb (rd d (i : Int))) (tb (rd a (i : Int))) (tb (rd b (i : Int))) (List.range 64) (fun x _ => ho i (by omega) x) (fun x _ => hd i (by omega) x)
    rw [cntU_succ, cntU_succ, cntU_succ, cntU_succ]
    unfold els
    omega
theorem shr_tb {s : Int} (h : U s) (i : Nat) (hi : i < 64) : bits .and .u64 (shr .u64 s (i : Int)) 1 = if tb s i = true then 1 else 0 := by
  have e : shr .u64 s (i : Int) = ((s.toNat / 2 ^ i : Nat) : Int) := by
    unfold shr
    have hm : min ((i : Int)).toNat IntKind.u64.bits = i := by
      have : IntKind.u64.bits = 64 := rfl
      omega
    rw [hm, Int.natCast_ediv, h.nat.1]
    simp
  have hlt : s.toNat / 2 ^ i < 18446744073709551616 := Nat.lt_of_le_of_lt (Nat.div_le_self _ _) h.nat.2
  rw [e]
  have := bits_and_u64_nat (s.toNat / 2 ^ i) 1 hlt (by decide)
  refine (show _ = _ from this).trans ?_
  rw [Nat.and_one_is_mod]
  unfold tb
  rw [Nat.testBit_eq_decide_div_mod_eq]
  generalize s.toNat / 2 ^ i = m
  by_cases hm : m % 2 = 1
  · rw [hm]
    rfl
  · have : m % 2 = 0 := by omega
    rw [this]
    rfl
end Go.Proofs.YtcehnbneiabaaaaDoor.PR
