/- Outcomes in order: the code's compare and the document's Order are one. -/
import Derived.Test.YtbgcmbnnkigjjaaDoorPPx19
import Derived.Test.YtbgcmbnnkigjjaaDoorPPx10
namespace Go.Proofs.YtbgcmbnnkigjjaaDoor.PA
open Go.RowKit Go.Proofs.YtbgcmbnnkigjjaaDoor.PP Go.Proofs.YtbgcmbnnkigjjaaDoorW.PrintWords Go.Proofs.YtbgcmbnnkigjjaaDoorW.PrintLast Go.Proofs.YtbgcmbnnkigjjaaDoorW.PrintMore
set_option linter.unusedVariables false
set_option linter.unusedSimpArgs false

theorem ev_if {α : Type} {c : Prop} [Decidable c] {f g : Nat → Option α} {r : α} (h : c) (k : Ev f r) : Ev (fun n => if c then f n else g n) r := by
  simpa only [if_pos h] using k
theorem ev_else {α : Type} {c : Prop} [Decidable c] {f g : Nat → Option α} {r : α} (h : ¬ c) (k : Ev g r) : Ev (fun n => if c then f n else g n) r := by
  simpa only [if_neg h] using k
theorem ev_bind0 {α β : Type} {f : Option α} {g : Nat → α → Option β} {a : α} {r : β} (h : f = some a) (k : Ev (fun n => g n a) r) : Ev (fun n => f.bind (g n)) r := by
  subst h
  exact k
theorem ev_eq {α : Type} {g : Nat → Option α} {r r' : α} (h : Ev g r) (e : r = r') : Ev g r' := e ▸ h
theorem ev_some {α : Type} {g : Option α} {r : α} (h : g = some r) : Ev (fun _ => g) r := by
  subst h
  exact Ev.now _
theorem w64 {n : Int} (h : -9223372036854775808 ≤ n) (h2 : n < 9223372036854775808) : wrap64 n = n := by
  unfold wrap64
  omega
theorem wi {i : Nat} (h : i < 4611686018427387904) : wrap64 ((i : Int) + 1) = ((i + 1 : Nat) : Int) := by
  rw [w64 (by omega) (by omega)]
  rfl
theorem drop_none {α : Type} {xs : List α} {i : Nat} (h : ¬ i < xs.length) : xs.drop i = [] := List.drop_eq_nil_of_le (by omega)
theorem rd_drop (xs : List Int) (i : Nat) (h : i < xs.length) : xs.drop i = rd xs (i : Int) :: xs.drop (i + 1) := by
  rw [List.drop_eq_getElem_cons h]
  simp [rd, List.getD, h]
theorem rd3_drop (xs : List (List Int)) (i : Nat) (h : i < xs.length) : xs.drop i = rd_L3 xs (i : Int) :: xs.drop (i + 1) := by
  rw [List.drop_eq_getElem_cons h]
  simp [rd_L3, List.getD, h]
theorem rd3_mem (xs : List (List Int)) (i : Nat) (h : i < xs.length) : rd_L3 xs (i : Int) ∈ xs := by
  simp [rd_L3, List.getD, h]
def lex3 {α : Type} (c : α → α → Int) : List α → List α → Int
  | [], [] => 0
  | [], _ :: _ => -1
  | _ :: _, [] => 1
  | a :: l, b :: m => if c a b = 0 then lex3 c l m else c a b
def cmpI (a b : Int) : Int := if a < b then -1 else if a > b then 1 else 0
theorem cmp_f (a b : Int) : cmp_Compare_int.f a b = some (cmpI a b) := by
  unfold cmp_Compare_int.f cmp_isNaN_int.f cmpI
  simp only [bne_self_eq_false, Option.bind_some, Bool.false_eq_true, if_false]
  split
  · rfl
  · split <;> rfl

theorem sc_loop (a b : List Int) (ha : a.length ≤ 8) : ∀ n i, n + i = a.length → Ev (fun k => slices_Compare_int_int.l0 k a b a (a.length : Int) (i : Int)) (lex3 cmpI (a.drop i) (b.drop i))
  | 0, i, h => by
    refine Ev.step (fun k => by simp only [slices_Compare_int_int.l0]; rfl) (ev_else (by omega) ?_)
    rw [drop_none (xs := a) (i := i) (by omega)]
    by_cases hb : i < b.length
    · rw [rd_drop b i hb]
      exact ev_if (by omega) (Ev.now _)
    · rw [drop_none hb]
      exact ev_else (by omega) (Ev.now _)
  | n + 1, i, h => by
    have hi : i < a.length := by omega
    refine Ev.step (fun k => by simp only [slices_Compare_int_int.l0]; rfl) (ev_if (by omega) (ev_if (by omega) (ev_if (by omega) ?_)))
    rw [rd_drop a i hi]
    by_cases hb : i < b.length
    · rw [rd_drop b i hb]
      refine ev_else (by omega) (ev_if (by omega) (ev_bind0 (cmp_f _ _) ?_))
      rw [lex3]
      by_cases hc : cmpI (rd a i) (rd b i) = 0
      · rw [if_pos hc, wi (by omega)]
        exact ev_if hc (sc_loop a b ha n (i + 1) (by omega))
      · rw [if_neg hc]
        exact ev_else hc (Ev.now _)
    · rw [drop_none hb]
      exact ev_if (by omega) (Ev.now _)
theorem sc_f (a b : List Int) (ha : a.length ≤ 8) : Ev (fun k => slices_Compare_int_int.f k a b) (lex3 cmpI a b) := by
  have h := sc_loop a b ha a.length 0 (by omega)
  simpa [slices_Compare_int_int.f] using h

theorem cf_loop (a b : List (List Int)) (ha : a.length ≤ 6) (hx : ∀ x ∈ a, x.length ≤ 8) : ∀ n i, n + i = a.length → Ev (fun k => slices_CompareFunc_int_int_int_int_at_slices_Compare_int_int.l0 k a b a (a.length : Int) (i : Int)) (lex3 (lex3 cmpI) (a.drop i) (b.drop i))
  | 0, i, h => by
    refine Ev.step (fun k => by simp only [slices_CompareFunc_int_int_int_int_at_slices_Compare_int_int.l0]; rfl) (ev_else (by omega) ?_)
    rw [drop_none (xs := a) (i := i) (by omega)]
    by_cases hb : i < b.length
    · rw [rd3_drop b i hb]
      exact ev_if (by omega) (Ev.now _)
    · rw [drop_none hb]
      exact ev_else (by omega) (Ev.now _)
  | n + 1, i, h => by
    have hi : i < a.length := by omega
    refine Ev.step (fun k => by simp only [slices_CompareFunc_int_int_int_int_at_slices_Compare_int_int.l0]; rfl) (ev_if (by omega) (ev_if (by omega) (ev_if (by omega) ?_)))
    rw [rd3_drop a i hi]
    by_cases hb : i < b.length
    · rw [rd3_drop b i hb]
      refine ev_else (by omega) (ev_if (by omega) (Ev.bind (sc_f _ _ (hx _ (rd3_mem a i hi))) ?_))
      rw [lex3]
      by_cases hc : lex3 cmpI (rd_L3 a i) (rd_L3 b i) = 0
      · rw [if_pos hc, wi (by omega)]
        exact ev_if hc (cf_loop a b ha hx n (i + 1) (by omega))
      · rw [if_neg hc]
        exact ev_else hc (Ev.now _)
    · rw [drop_none hb]
      exact ev_if (by omega) (Ev.now _)
theorem cf_f (a b : List (List Int)) (ha : a.length ≤ 6) (hx : ∀ x ∈ a, x.length ≤ 8) : Ev (fun k => slices_CompareFunc_int_int_int_int_at_slices_Compare_int_int.f k a b) (lex3 (lex3 cmpI) a b) := by
  have h := cf_loop a b ha hx a.length 0 (by omega)
  simpa [slices_CompareFunc_int_int_int_int_at_slices_Compare_int_int.f] using h
theorem or_f (a b : Int) : Ev (fun k => cmp_Or_int.f k [a, b]) (if a = 0 then b else a) := by
  unfold cmp_Or_int.f
  have w1 : wrap64 (0 + 1) = 1 := by kernel_rfl
  have w2 : wrap64 (1 + 1) = 2 := by kernel_rfl
  have r0 : rd [a, b] 0 = a := rfl
  have r1 : rd [a, b] 1 = b := rfl
  have hl : (([a, b] : List Int).length : Int) = 2 := rfl
  rw [hl]
  refine Ev.step (fun k => by simp only [cmp_Or_int.l0]; rfl) (ev_if (by decide) (ev_if (by decide) (ev_if (by rw [hl]; decide) ?_)))
  rw [w1, r0]
  by_cases h : a = 0
  · rw [if_pos h]
    refine ev_if h (Ev.step (fun k => by simp only [cmp_Or_int.l0]; rfl) (ev_if (by decide) (ev_if (by decide) (ev_if (by rw [hl]; decide) ?_))))
    rw [w2, r1]
    by_cases h2 : b = 0
    · refine ev_if h2 (Ev.step (fun k => by simp only [cmp_Or_int.l0]; rfl) (ev_else (by decide) (ev_eq (Ev.now _) h2.symm)))
    · exact ev_else h2 (Ev.now _)
  · rw [if_neg h]
    exact ev_else h (Ev.now _)
/-- How two outcomes stand. -/
def ordO (r : List (List Int)) (m : List Int) (r2 : List (List Int)) (m2 : List Int) : Int :=
  if lex3 (lex3 cmpI) r r2 = 0 then lex3 cmpI m m2 else lex3 (lex3 cmpI) r r2
theorem compare_f (r : List (List Int)) (m : List Int) (r2 : List (List Int)) (m2 : List Int) (ha : r.length ≤ 6) (hx : ∀ x ∈ r, x.length ≤ 8) (hm : m.length ≤ 8) :
    Ev (fun k => post_compare.f k r m r2 m2) (ordO r m r2 m2) := by
  unfold post_compare.f
  refine Ev.bind (cf_f r r2 ha hx) ?_
  refine Ev.bind (sc_f m m2 hm) ?_
  exact Ev.bind (or_f _ _) (Ev.now _)

theorem ro_loop (a b : List Int) (ha : a.length ≤ 8) : ∀ n i, n + i = a.length → i ≤ b.length → Ev (fun k => witheref9_order.l0 k a b (i : Int)) (lex3 cmpI (a.drop i) (b.drop i))
  | 0, i, h, h3 => by
    refine Ev.step (fun k => by simp only [witheref9_order.l0]; rfl) (ev_else (by omega) ?_)
    refine Ev.step (fun k => by simp only [witheref9_order.j1]; rfl) (ev_else (by decide) ?_)
    rw [drop_none (xs := a) (i := i) (by omega)]
    by_cases hb : i < b.length
    · rw [rd_drop b i hb]
      exact ev_if (by omega) (Ev.now _)
    · rw [drop_none hb]
      exact ev_else (by omega) (ev_else (by omega) (Ev.now _))
  | n + 1, i, h, h3 => by
    have hi : i < a.length := by omega
    refine Ev.step (fun k => by simp only [witheref9_order.l0]; rfl) (ev_if (by omega) ?_)
    rw [rd_drop a i hi]
    refine Ev.step (fun k => by simp only [witheref9_order.j1]; rfl) ?_
    by_cases hb : i < b.length
    · rw [rd_drop b i hb]
      refine ev_if (by simpa using hb) (ev_if (by omega) (ev_if (by omega) (ev_if (by omega) ?_)))
      rw [lex3]
      unfold cmpI
      by_cases h1 : rd a i < rd b i
      · simp only [h1, if_true]
        exact Ev.now _
      · by_cases h2 : rd a i > rd b i
        · simp only [h1, h2, if_true, if_false]
          exact Ev.now _
        · simp only [h1, h2, if_true, if_false]
          rw [wi (by omega)]
          exact ro_loop a b ha n (i + 1) (by omega) (by omega)
    · rw [drop_none hb]
      refine ev_else (by simpa using hb) (ev_else (by omega) (ev_if (by omega) (Ev.now _)))
theorem ro_f (a b : List Int) (ha : a.length ≤ 8) : Ev (fun k => witheref9_order.f k a b) (lex3 cmpI a b) := by
  have h := ro_loop a b ha a.length 0 (by omega) (by omega)
  simpa [witheref9_order.f] using h
theorem rO_loop (a : List (List Int)) (m : List Int) (b : List (List Int)) (m2 : List Int) (ha : a.length ≤ 6) (hx : ∀ x ∈ a, x.length ≤ 8) (hm : m.length ≤ 8) : ∀ n i, n + i = a.length → i ≤ b.length →
    Ev (fun k => witheref9_Order.l0 k (i : Int) a m b m2) (if lex3 (lex3 cmpI) (a.drop i) (b.drop i) = 0 then lex3 cmpI m m2 else lex3 (lex3 cmpI) (a.drop i) (b.drop i))
  | 0, i, h, h3 => by
    refine Ev.step (fun k => by simp only [witheref9_Order.l0]; rfl) (ev_else (by omega) ?_)
    refine Ev.step (fun k => by simp only [witheref9_Order.j1]; rfl) (ev_else (by decide) ?_)
    rw [drop_none (xs := a) (i := i) (by omega)]
    by_cases hb : i < b.length
    · rw [rd3_drop b i hb]
      exact ev_if (by omega) (Ev.now _)
    · rw [drop_none hb]
      exact ev_else (by omega) (ev_else (by omega) (Ev.bind (ro_f m m2 hm) (Ev.now _)))
  | n + 1, i, h, h3 => by
    have hi : i < a.length := by omega
    refine Ev.step (fun k => by simp only [witheref9_Order.l0]; rfl) (ev_if (by omega) ?_)
    rw [rd3_drop a i hi]
    refine Ev.step (fun k => by simp only [witheref9_Order.j1]; rfl) ?_
    by_cases hb : i < b.length
    · rw [rd3_drop b i hb]
      refine ev_if (by simpa using hb) (ev_if (by omega) (ev_if (by omega) (ev_if (by omega) ?_)))
      refine Ev.bind (ro_f _ _ (hx _ (rd3_mem a i hi))) ?_
      rw [lex3]
      by_cases h1 : lex3 cmpI (rd_L3 a i) (rd_L3 b i) = 0
      · rw [if_pos h1]
        refine ev_if h1 ?_
        rw [wi (by omega)]
        exact rO_loop a m b m2 ha hx hm n (i + 1) (by omega) (by omega)
      · rw [if_neg h1, if_neg h1]
        exact ev_else h1 (Ev.now _)
    · rw [drop_none hb]
      refine ev_else (by simpa using hb) (ev_else (by omega) (ev_if (by omega) (Ev.now _)))
theorem rO_f (r : List (List Int)) (m : List Int) (r2 : List (List Int)) (m2 : List Int) (ha : r.length ≤ 6) (hx : ∀ x ∈ r, x.length ≤ 8) (hm : m.length ≤ 8) :
    Ev (fun k => witheref9_Order.f k r m r2 m2) (ordO r m r2 m2) := by
  have h := rO_loop r m r2 m2 ha hx hm r.length 0 (by omega) (by omega)
  simpa [witheref9_Order.f, ordO] using h
theorem same_f (r : List (List Int)) (m : List Int) (r2 : List (List Int)) (m2 : List Int) (ha : r.length ≤ 6) (hx : ∀ x ∈ r, x.length ≤ 8) (hm : m.length ≤ 8) :
    Ev (fun k => post_Same.f k r m r2 m2) (ordO r m r2 m2 == 0) := by
  unfold post_Same.f
  exact Ev.bind (compare_f r m r2 m2 ha hx hm) (Ev.now _)
theorem less_f (r : List (List Int)) (m : List Int) (r2 : List (List Int)) (m2 : List Int) (ha : r.length ≤ 6) (hx : ∀ x ∈ r, x.length ≤ 8) (hm : m.length ≤ 8) :
    Ev (fun k => post_Less.f k r m r2 m2) (decide (ordO r m r2 m2 < 0)) := by
  unfold post_Less.f
  exact Ev.bind (compare_f r m r2 m2 ha hx hm) (Ev.now _)
end Go.Proofs.YtbgcmbnnkigjjaaDoor.PA
