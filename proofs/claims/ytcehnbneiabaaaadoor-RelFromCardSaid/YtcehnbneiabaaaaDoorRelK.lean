/- What is in both; what is kept; none. -/
import Derived.Test.YtcehnbneiabaaaaDoorRelC
import Derived.Test.YtcehnbneiabaaaaDoorPRx6
import Derived.Test.YtcehnbneiabaaaaDoorPRx11
import Derived.Test.YtcehnbneiabaaaaDoorPRx9
namespace Go.Proofs.YtcehnbneiabaaaaDoor.PR
open Go.RowKit Go.Proofs.YtcehnbneiabaaaaDoorW.PrintWords Go.Proofs.YtcehnbneiabaaaaDoorW.PrintLast Go.Proofs.YtcehnbneiabaaaaDoorW.PrintMore
set_option linter.unusedVariables false
set_option linter.unusedSimpArgs false

theorem and_got {a b : List Int} (ha : Us a) (hb : Us b) : Got (fun k => rel_And.f k a b) (both a b) a.length (fun p q => prs a p q && prs b p q) := by
  unfold rel_And.f rel_pair_made_at_rel_pair_and.f
  cases hc : both a b with
  | false => exact ⟨[], Ev.bind (Ev.bind (pair_may_f ha hb) (ev_else (by rw [hc]; simp) (Ev.now _))) (Ev.now _), fun h => (by cases h), fun _ => rfl⟩
  | true =>
    obtain ⟨h1, h2, h3⟩ := (both_iff a b).mp hc
    have hn := may_len h1
    refine ⟨(List.range a.length).map fun (i : Nat) => bits .and .u64 (rd a (i : Int)) (rd b (i : Int)), Ev.bind (Ev.bind (pair_may_f ha hb) (ev_if hc (Ev.bind ?_ (Ev.now _)))) (Ev.now _), fun _ => ?_, fun h => (by cases h)⟩
    · unfold rel_made_at_rel_pair_and.f
      refine ev_if (by omega) (ev_if (by omega) (ev_bind0 rfl ?_))
      have := made_ev (fun k x5 x10 x11 => rel_made_at_rel_pair_and.l0 k x5 x10 x11 a b) (fun k i => rel_pair_and.f a b i) a.length hn (fun (i : Nat) => bits .and .u64 (rd a (i : Int)) (rd b (i : Int))) (fun _ _ _ _ => rfl) (fun i hi => by
        unfold rel_pair_and.f
        exact ev_if (by omega) (ev_if (by omega) (ev_if (by omega) (Ev.now _))))
      rw [List.length_replicate]
      exact this
    · have := Is_made a.length (fun (i : Nat) => bits .and .u64 (rd a (i : Int)) (rd b (i : Int))) (fun i _ => and_U (ha.at_ _) (hb.at_ _))
      exact ⟨this.1, this.2.1, fun p hp q => (this.2.2 p hp q).trans (and_tb (ha.at_ _) (hb.at_ _) q)⟩
theorem and_ok {n : Nat} {a b : List Int} (ha : OkN n a) (hb : OkN n b) (hn : n ≤ 64) : ∃ r, Ev (fun k => rel_And.f k a b) r ∧ OkN n r ∧ ∀ p q, prs r p q = true ↔ prs a p q = true ∧ prs b p q = true := by
  obtain ⟨r, e, h, _⟩ := and_got ha.2.1 hb.2.1
  have hI := h (ha.both hb hn)
  rw [ha.1] at hI
  obtain ⟨hok, hp⟩ := OkN.of_is hI (fun p q _ hS => (ha.lt ((Bool.and_eq_true _ _).mp hS).1).2)
  refine ⟨r, e, hok, fun p q => (hp p q).trans ?_⟩
  rw [Bool.and_eq_true]
  exact ⟨fun h => h.2, fun h => ⟨(ha.lt h.1).1, h⟩⟩
theorem new_f (n : Nat) (hn : n ≤ 64) : rel_New.f (n : Int) = some (List.replicate n 0) := by
  unfold rel_New.f
  rw [if_neg (by omega), if_neg (by omega), if_pos (by omega), if_pos (by omega)]
  rfl
theorem kept_row_f {a : List Int} (ha : Us a) {s : Int} (hs : U s) (i : Nat) (hi : i < a.length) : rel_kept_row.f a s (i : Int) = some (if tb s i = true then bits .and .u64 (rd a (i : Int)) s else 0) := by
  unfold rel_kept_row.f
  rw [has_f hs, hasB_nat hs]
  show (if tb s i = true then _ else _) = _
  by_cases h : tb s i = true
  · rw [if_pos h, if_pos h, if_pos (by omega), if_pos (by omega)]
  · rw [if_neg h, if_neg h]
theorem keep_got {a : List Int} (ha : Us a) {s : Int} (hs : U s) : Got (fun k => rel_Keep.f k a s) (mayB a) a.length (fun p q => prs a p q && (tb s p && tb s q)) := by
  unfold rel_Keep.f
  cases hc : mayB a with
  | false => exact ⟨[], Ev.bind (may_f ha) (ev_else (by rw [hc]; simp) (Ev.now _)), fun h => (by cases h), fun _ => rfl⟩
  | true =>
    have hn := may_len hc
    refine ⟨(List.range a.length).map fun (i : Nat) => (if tb s i = true then bits .and .u64 (rd a (i : Int)) s else 0), Ev.bind (may_f ha) (ev_if hc (Ev.bind ?_ (Ev.now _))), fun _ => ?_, fun h => (by cases h)⟩
    · unfold rel_made_at_rel_kept_row.f
      refine ev_if (by omega) (ev_if (by omega) (ev_bind0 rfl ?_))
      have := made_ev (fun k x5 x10 x11 => rel_made_at_rel_kept_row.l0 k x5 x10 x11 a s) (fun k i => rel_kept_row.f a s i) a.length hn (fun (i : Nat) => (if tb s i = true then bits .and .u64 (rd a (i : Int)) s else 0)) (fun _ _ _ _ => rfl) (fun i hi => ev_some (kept_row_f ha hs i hi))
      rw [List.length_replicate]
      exact this
    · have := Is_made a.length (fun (i : Nat) => (if tb s i = true then bits .and .u64 (rd a (i : Int)) s else 0)) (fun i _ => by
        split
        · exact and_U (ha.at_ _) hs
        · exact U_zero)
      refine ⟨this.1, this.2.1, fun p hp q => (this.2.2 p hp q).trans ?_⟩
      show tb (if tb s p = true then bits .and .u64 (rd a (p : Int)) s else 0) q = (prs a p q && (tb s p && tb s q))
      by_cases h : tb s p = true
      · rw [if_pos h, and_tb (ha.at_ _) hs, h, Bool.true_and]
        rfl
      · rw [if_neg h, tb_zero]
        have : tb s p = false := by simpa using h
        rw [this, Bool.false_and, Bool.and_false]
theorem keep_ok {n : Nat} {a : List Int} (ha : OkN n a) (hn : n ≤ 64) {s : Int} (hs : U s) : ∃ r, Ev (fun k => rel_Keep.f k a s) r ∧ OkN n r ∧ ∀ p q, prs r p q = true ↔ prs a p q = true ∧ tb s p = true ∧ tb s q = true := by
  obtain ⟨r, e, h, _⟩ := keep_got ha.2.1 hs
  have hI := h (ha.may hn)
  rw [ha.1] at hI
  obtain ⟨hok, hp⟩ := OkN.of_is hI (fun p q _ hS => (ha.lt ((Bool.and_eq_true _ _).mp hS).1).2)
  refine ⟨r, e, hok, fun p q => (hp p q).trans ?_⟩
  rw [Bool.and_eq_true, Bool.and_eq_true]
  exact ⟨fun h => h.2, fun h => ⟨(ha.lt h.1).1, h⟩⟩
end Go.Proofs.YtcehnbneiabaaaaDoor.PR
