/- The part of the outcomes' order and lines that PostOrder needs. -/
import Derived.Test.YtbgcmbnnkigjjaaDoorPPx10
import Derived.Test.YtbgcmbnnkigjjaaDoorPPx20
import Derived.Test.YtbgcmbnnkigjjaaDoorPPx6
import Derived.Test.YtbgcmbnnkigjjaaDoorPPx7
import Derived.Test.YtbgcmbnnkigjjaaDoorPPx9
import Derived.Lib.ItoaLen
import Derived.Lib.Join
namespace Go.Proofs.YtbgcmbnnkigjjaaDoor.PO
open Go.RowKit Go.Proofs.YtbgcmbnnkigjjaaDoor.PP Go.Proofs.YtbgcmbnnkigjjaaDoorW.PrintWords Go.Proofs.YtbgcmbnnkigjjaaDoorW.PrintLast Go.Proofs.YtbgcmbnnkigjjaaDoorW.PrintMore
open Go.Lib (decDigits)
set_option linter.unusedVariables false
set_option linter.unusedSimpArgs false
theorem ev_if {α : Type} {c : Prop} [Decidable c] {f g : Nat → Option α} {r : α} (h : c) (k : Ev f r) : Ev (fun n => if c then f n else g n) r := by
  simpa only [if_pos h] using k
theorem ev_else {α : Type} {c : Prop} [Decidable c] {f g : Nat → Option α} {r : α} (h : ¬ c) (k : Ev g r) : Ev (fun n => if c then f n else g n) r := by
  simpa only [if_neg h] using k
theorem ev_bind0 {α β : Type} {f : Option α} {g : Nat → α → Option β} {a : α} {r : β} (h : f = some a) (k : Ev (fun n => g n a) r) : Ev (fun n => f.bind (g n)) r := by
  subst h
  exact k
theorem ev_eq {α : Type} {g : Nat → Option α} {r r' : α} (h : Ev g r) (e : r = r') : Ev g r' := e ▸ h
theorem ev_some {α : Type} {g : Option α} {r : α} (h : g = some r) : Ev (fun _ => g) r := by
  subst h
  exact Ev.now _
theorem w64 {n : Int} (h : -9223372036854775808 ≤ n) (h2 : n < 9223372036854775808) : wrap64 n = n := by
  unfold wrap64
  omega
theorem wi {i : Nat} (h : i < 4611686018427387904) : wrap64 ((i : Int) + 1) = ((i + 1 : Nat) : Int) := by
  rw [w64 (by omega) (by omega)]
  rfl
theorem drop_none {α : Type} {xs : List α} {i : Nat} (h : ¬ i < xs.length) : xs.drop i = [] := List.drop_eq_nil_of_le (by omega)
theorem rd_drop (xs : List Int) (i : Nat) (h : i < xs.length) : xs.drop i = rd xs (i : Int) :: xs.drop (i + 1) := by
  rw [List.drop_eq_getElem_cons h]
  simp [rd, List.getD, h]
theorem rd3_drop (xs : List (List Int)) (i : Nat) (h : i < xs.length) : xs.drop i = rd_L3 xs (i : Int) :: xs.drop (i + 1) := by
  rw [List.drop_eq_getElem_cons h]
  simp [rd_L3, List.getD, h]
theorem rd3_mem (xs : List (List Int)) (i : Nat) (h : i < xs.length) : rd_L3 xs (i : Int) ∈ xs := by
  simp [rd_L3, List.getD, h]
def lex3 {α : Type} (c : α → α → Int) : List α → List α → Int
  | [], [] => 0
  | [], _ :: _ => -1
  | _ :: _, [] => 1
  | a :: l, b :: m => if c a b = 0 then lex3 c l m else c a b
def cmpI (a b : Int) : Int := if a < b then -1 else if a > b then 1 else 0
theorem cmp_f (a b : Int) : cmp_Compare_int.f a b = some (cmpI a b) := by
  unfold cmp_Compare_int.f cmp_isNaN_int.f cmpI
  simp only [bne_self_eq_false, Option.bind_some, Bool.false_eq_true, if_false]
  split
  · rfl
  · split <;> rfl

theorem sc_loop (a b : List Int) (ha : a.length ≤ 8) : ∀ n i, n + i = a.length → Ev (fun k => slices_Compare_int_int.l0 k a b a (a.length : Int) (i : Int)) (lex3 cmpI (a.drop i) (b.drop i))
  | 0, i, h => by
    refine Ev.step (fun k => by simp only [slices_Compare_int_int.l0]; rfl) (ev_else (by omega) ?_)
    rw [drop_none (xs := a) (i := i) (by omega)]
    by_cases hb : i < b.length
    · rw [rd_drop b i hb]
      exact ev_if (by omega) (Ev.now _)
    · rw [drop_none hb]
      exact ev_else (by omega) (Ev.now _)
  | n + 1, i, h => by
    have hi : i < a.length := by omega
    refine Ev.step (fun k => by simp only [slices_Compare_int_int.l0]; rfl) (ev_if (by omega) (ev_if (by omega) (ev_if (by omega) ?_)))
    rw [rd_drop a i hi]
    by_cases hb : i < b.length
    · rw [rd_drop b i hb]
      refine ev_else (by omega) (ev_if (by omega) (ev_bind0 (cmp_f _ _) ?_))
      rw [lex3]
      by_cases hc : cmpI (rd a i) (rd b i) = 0
      · rw [if_pos hc, wi (by omega)]
        exact ev_if hc (sc_loop a b ha n (i + 1) (by omega))
      · rw [if_neg hc]
        exact ev_else hc (Ev.now _)
    · rw [drop_none hb]
      exact ev_if (by omega) (Ev.now _)
theorem sc_f (a b : List Int) (ha : a.length ≤ 8) : Ev (fun k => slices_Compare_int_int.f k a b) (lex3 cmpI a b) := by
  have h := sc_loop a b ha a.length 0 (by omega)
  simpa [slices_Compare_int_int.f] using h

theorem cf_loop (a b : List (List Int)) (ha : a.length ≤ 6) (hx : ∀ x ∈ a, x.length ≤ 8) : ∀ n i, n + i = a.length → Ev (fun k => slices_CompareFunc_int_int_int_int_at_slices_Compare_int_int.l0 k a b a (a.length : Int) (i : Int)) (lex3 (lex3 cmpI) (a.drop i) (b.drop i))
  | 0, i, h => by
    refine Ev.step (fun k => by simp only [slices_CompareFunc_int_int_int_int_at_slices_Compare_int_int.l0]; rfl) (ev_else (by omega) ?_)
    rw [drop_none (xs := a) (i := i) (by omega)]
    by_cases hb : i < b.length
    · rw [rd3_drop b i hb]
      exact ev_if (by omega) (Ev.now _)
    · rw [drop_none hb]
      exact ev_else (by omega) (Ev.now _)
  | n + 1, i, h => by
    have hi : i < a.length := by omega
    refine Ev.step (fun k => by simp only [slices_CompareFunc_int_int_int_int_at_slices_Compare_int_int.l0]; rfl) (ev_if (by omega) (ev_if (by omega) (ev_if (by omega) ?_)))
    rw [rd3_drop a i hi]
    by_cases hb : i < b.length
    · rw [rd3_drop b i hb]
      refine ev_else (by omega) (ev_if (by omega) (Ev.bind (sc_f _ _ (hx _ (rd3_mem a i hi))) ?_))
      rw [lex3]
      by_cases hc : lex3 cmpI (rd_L3 a i) (rd_L3 b i) = 0
      · rw [if_pos hc, wi (by omega)]
        exact ev_if hc (cf_loop a b ha hx n (i + 1) (by omega))
      · rw [if_neg hc]
        exact ev_else hc (Ev.now _)
    · rw [drop_none hb]
      exact ev_if (by omega) (Ev.now _)
theorem cf_f (a b : List (List Int)) (ha : a.length ≤ 6) (hx : ∀ x ∈ a, x.length ≤ 8) : Ev (fun k => slices_CompareFunc_int_int_int_int_at_slices_Compare_int_int.f k a b) (lex3 (lex3 cmpI) a b) := by
  have h := cf_loop a b ha hx a.length 0 (by omega)
  simpa [slices_CompareFunc_int_int_int_int_at_slices_Compare_int_int.f] using h
theorem or_f (a b : Int) : Ev (fun k => cmp_Or_int.f k [a, b]) (if a = 0 then b else a) := by
  unfold cmp_Or_int.f
  have w1 : wrap64 (0 + 1) = 1 := by kernel_rfl
  have w2 : wrap64 (1 + 1) = 2 := by kernel_rfl
  have r0 : rd [a, b] 0 = a := rfl
  have r1 : rd [a, b] 1 = b := rfl
  have hl : (([a, b] : List Int).length : Int) = 2 := rfl
  rw [hl]
  refine Ev.step (fun k => by simp only [cmp_Or_int.l0]; rfl) (ev_if (by decide) (ev_if (by decide) (ev_if (by rw [hl]; decide) ?_)))
  rw [w1, r0]
  by_cases h : a = 0
  · rw [if_pos h]
    refine ev_if h (Ev.step (fun k => by simp only [cmp_Or_int.l0]; rfl) (ev_if (by decide) (ev_if (by decide) (ev_if (by rw [hl]; decide) ?_))))
    rw [w2, r1]
    by_cases h2 : b = 0
    · refine ev_if h2 (Ev.step (fun k => by simp only [cmp_Or_int.l0]; rfl) (ev_else (by decide) (ev_eq (Ev.now _) h2.symm)))
    · exact ev_else h2 (Ev.now _)
  · rw [if_neg h]
    exact ev_else h (Ev.now _)
def ordO (r : List (List Int)) (m : List Int) (r2 : List (List Int)) (m2 : List Int) : Int :=
  if lex3 (lex3 cmpI) r r2 = 0 then lex3 cmpI m m2 else lex3 (lex3 cmpI) r r2
theorem compare_f (r : List (List Int)) (m : List Int) (r2 : List (List Int)) (m2 : List Int) (ha : r.length ≤ 6) (hx : ∀ x ∈ r, x.length ≤ 8) (hm : m.length ≤ 8) :
    Ev (fun k => post_compare.f k r m r2 m2) (ordO r m r2 m2) := by
  unfold post_compare.f
  refine Ev.bind (cf_f r r2 ha hx) ?_
  refine Ev.bind (sc_f m m2 hm) ?_
  exact Ev.bind (or_f _ _) (Ev.now _)

theorem same_f (r : List (List Int)) (m : List Int) (r2 : List (List Int)) (m2 : List Int) (ha : r.length ≤ 6) (hx : ∀ x ∈ r, x.length ≤ 8) (hm : m.length ≤ 8) :
    Ev (fun k => post_Same.f k r m r2 m2) (ordO r m r2 m2 == 0) := by
  unfold post_Same.f
  exact Ev.bind (compare_f r m r2 m2 ha hx hm) (Ev.now _)
theorem less_f (r : List (List Int)) (m : List Int) (r2 : List (List Int)) (m2 : List Int) (ha : r.length ≤ 6) (hx : ∀ x ∈ r, x.length ≤ 8) (hm : m.length ≤ 8) :
    Ev (fun k => post_Less.f k r m r2 m2) (decide (ordO r m r2 m2 < 0)) := by
  unfold post_Less.f
  exact Ev.bind (compare_f r m r2 m2 ha hx hm) (Ev.now _)
def R64 (n : Int) : Prop := -9223372036854775808 ≤ n ∧ n ≤ 9223372036854775807
def it (n : Int) : ByteArray := ⟨(Go.Lib.itoa n).toArray⟩
theorem it_size {n : Int} (h : R64 n) : (it n).size ≤ 21 := by
  simpa [it, ByteArray.size] using Go.Lib.itoa_length_le n h.1 h.2
theorem sz_app (a b : ByteArray) : (a ++ b).size = a.size + b.size := ByteArray.size_append
theorem sz_one (c : UInt8) : (⟨#[c]⟩ : ByteArray).size = 1 := rfl
theorem ba_ext {a b : ByteArray} (h : a.data.toList = b.data.toList) : a = b := by
  cases a; cases b
  simp only [ByteArray.mk.injEq]
  exact Array.toList_inj.mp h
theorem dec_small {n : Nat} (h : n < 10) : decDigits n = [UInt8.ofNat (48 + n)] := by rw [decDigits, dif_pos h]
theorem dec_great {n : Nat} (h : ¬ n < 10) : decDigits n = decDigits (n / 10) ++ [UInt8.ofNat (48 + n % 10)] := by rw [decDigits, dif_neg h]
theorem dec_len {n : Nat} (h : n < 18446744073709551616) : (decDigits n).length ≤ 20 := by
  rw [Go.Lib.decDigits_length]
  exact Go.Lib.nDigits_le20 n h
theorem sz_of (l : List UInt8) : (⟨l.toArray⟩ : ByteArray).size = l.length := by simp [ByteArray.size]
theorem ito_f {n : Int} (h : R64 n) : strconv_Itoa_26.f n = some (it n) := by
  unfold strconv_Itoa_26.f
  exact if_pos h
def item (h n : ByteArray) (v : Int) : ByteArray := ((h ++ n) ++ (⟨#[61]⟩ : ByteArray)) ++ it v
def pr (h : ByteArray) : List ByteArray → List Int → List ByteArray
  | n :: ns, v :: vs => item h n v :: pr h ns vs
  | [], _ => []
  | _ :: _, [] => []
def lines : Nat → List (List ByteArray) → List (List Int) → List ByteArray
  | t, r :: rs, o :: os => pr (it (t : Int) ++ (⟨#[58]⟩ : ByteArray)) r o ++ lines (t + 1) rs os
  | _, [], _ => []
  | _, _ :: _, [] => []
theorem pr_nil_r (h : ByteArray) (l : List ByteArray) : pr h l [] = [] := by cases l <;> rfl
theorem pr_nil_l (h : ByteArray) (l : List Int) : pr h [] l = [] := rfl
theorem lines_nil_r (t : Nat) (l : List (List ByteArray)) : lines t l [] = [] := by cases l <;> rfl
theorem lines_nil_l (t : Nat) (l : List (List Int)) : lines t [] l = [] := rfl
theorem rds_drop (xs : List ByteArray) (i : Nat) (h : i < xs.length) : xs.drop i = rdOf ByteArray.empty xs (i : Int) :: xs.drop (i + 1) := by
  rw [List.drop_eq_getElem_cons h]
  simp [rdOf, List.getD, h]
theorem rds_mem (xs : List ByteArray) (i : Nat) (h : i < xs.length) : rdOf ByteArray.empty xs (i : Int) ∈ xs := by
  simp [rdOf, List.getD, h]
theorem rd_mem (xs : List Int) (i : Nat) (h : i < xs.length) : rd xs (i : Int) ∈ xs := by
  simp [rd, List.getD, h]
theorem rd2_drop (xs : List (List ByteArray)) (i : Nat) (h : i < xs.length) : xs.drop i = rd_L2 xs (i : Int) :: xs.drop (i + 1) := by
  rw [List.drop_eq_getElem_cons h]
  simp [rd_L2, List.getD, h]
theorem rd2_mem (xs : List (List ByteArray)) (i : Nat) (h : i < xs.length) : rd_L2 xs (i : Int) ∈ xs := by
  simp [rd_L2, List.getD, h]
theorem pr_len (h : ByteArray) : ∀ (l : List ByteArray) (m : List Int), (pr h l m).length ≤ l.length
  | [], m => by rw [pr_nil_l]; simp
  | _ :: _, [] => by rw [pr_nil_r]; simp
  | _ :: l, _ :: m => by
    rw [pr]
    simp only [List.length_cons]
    exact Nat.succ_le_succ (pr_len h l m)
theorem pr_size (h : ByteArray) : ∀ (l : List ByteArray) (m : List Int), (∀ n ∈ l, n.size ≤ 40) → (∀ v ∈ m, R64 v) → ∀ x ∈ pr h l m, x.size ≤ h.size + 62
  | [], m => fun _ _ x hx => by rw [pr_nil_l] at hx; cases hx
  | _ :: _, [] => fun _ _ x hx => by rw [pr_nil_r] at hx; cases hx
  | n :: l, v :: m => fun h1 h2 x hx => by
    rw [pr, List.mem_cons] at hx
    rcases hx with rfl | hx
    · have a := h1 n (List.mem_cons_self ..)
      have b := it_size (h2 v (List.mem_cons_self ..))
      unfold item
      simp only [sz_app, sz_one]
      omega
    · exact pr_size h l m (fun n hn => h1 n (List.mem_cons_of_mem _ hn)) (fun n hn => h2 n (List.mem_cons_of_mem _ hn)) x hx
theorem lines_len : ∀ (t : Nat) (l : List (List ByteArray)) (m : List (List Int)), (∀ r ∈ l, r.length ≤ 6) → (lines t l m).length ≤ 6 * l.length
  | t, [], m => fun _ => by rw [lines_nil_l]; simp
  | t, _ :: _, [] => fun _ => by rw [lines_nil_r]; simp
  | t, r :: l, o :: m => fun h => by
    rw [lines, List.length_append, List.length_cons]
    have a := pr_len (it (t : Int) ++ (⟨#[58]⟩ : ByteArray)) r o
    have b := h r (List.mem_cons_self ..)
    have c := lines_len (t + 1) l m (fun r hr => h r (List.mem_cons_of_mem _ hr))
    omega
theorem lines_size : ∀ (t : Nat) (l : List (List ByteArray)) (m : List (List Int)), t + l.length ≤ 1000 → (∀ r ∈ l, ∀ n ∈ r, n.size ≤ 40) → (∀ o ∈ m, ∀ v ∈ o, R64 v) → ∀ x ∈ lines t l m, x.size ≤ 84
  | t, [], m => fun _ _ _ x hx => by rw [lines_nil_l] at hx; cases hx
  | t, _ :: _, [] => fun _ _ _ x hx => by rw [lines_nil_r] at hx; cases hx
  | t, r :: l, o :: m => fun h0 h1 h2 x hx => by
    rw [lines, List.mem_append] at hx
    simp only [List.length_cons] at h0
    rcases hx with hx | hx
    · have a := pr_size _ r o (h1 r (List.mem_cons_self ..)) (h2 o (List.mem_cons_self ..)) x hx
      have b := it_size (n := (t : Int)) (by unfold R64; omega)
      simp only [sz_app, sz_one] at a
      omega
    · exact lines_size (t + 1) l m (by omega) (fun r hr => h1 r (List.mem_cons_of_mem _ hr)) (fun r hr => h2 r (List.mem_cons_of_mem _ hr)) x hx

theorem mn_nat (a b : Nat) : mn (a : Int) (b : Int) = ((min a b : Nat) : Int) := by
  unfold mn
  split <;> omega
theorem pairs_loop (h : ByteArray) (l : List ByteArray) (m : List Int) (hh : h.size ≤ 22) (hl : l.length ≤ 6) (h1 : ∀ n ∈ l, n.size ≤ 40) (h2 : ∀ v ∈ m, R64 v) : ∀ n i acc, n + i = min l.length m.length → acc.length ≤ i →
    Ev (fun k => post_pairs.l0 k h l m acc ((min l.length m.length : Nat) : Int) (i : Int)) (acc ++ pr h (l.drop i) (m.drop i))
  | 0, i, acc, hn, ha => by
    refine Ev.step (fun k => by simp only [post_pairs.l0]; rfl) (ev_else (by omega) (ev_eq (Ev.now _) ?_))
    by_cases hi : i < l.length
    · rw [drop_none (xs := m) (i := i) (by omega), pr_nil_r, List.append_nil]
    · rw [drop_none hi, pr_nil_l, List.append_nil]
  | n + 1, i, acc, hn, ha => by
    have hi : i < l.length := by omega
    have hm : i < m.length := by omega
    have a := h1 _ (rds_mem l i hi)
    have b := h2 _ (rd_mem m i hm)
    have c := it_size b
    refine Ev.step (fun k => by simp only [post_pairs.l0]; rfl) (ev_if (by omega) (ev_if (by omega) (ev_if (by omega) (ev_if (by omega) (ev_if (by rw [sz_app]; omega) (ev_if (by omega) ?_))))))
    refine ev_bind0 (ito_f b) (ev_if (by simp only [sz_app, sz_one]; omega) (ev_if (by omega) ?_))
    rw [wi (by omega), rds_drop l i hi, rd_drop m i hm, pr]
    refine ev_eq (pairs_loop h l m hh hl h1 h2 n (i + 1) _ (by omega) (by simp; omega)) ?_
    rw [List.append_assoc]
    rfl
theorem pairs_f (h : ByteArray) (l : List ByteArray) (m : List Int) (hh : h.size ≤ 22) (hl : l.length ≤ 6) (h1 : ∀ n ∈ l, n.size ≤ 40) (h2 : ∀ v ∈ m, R64 v) :
    Ev (fun k => post_pairs.f k h l m) (pr h l m) := by
  have e := pairs_loop h l m hh hl h1 h2 (min l.length m.length) 0 [] (by omega) (by simp)
  unfold post_pairs.f
  rw [mn_nat]
  simpa using e
def flat (l : List ByteArray) : ByteArray := ⟨(Go.Lib.joinTail [32] (l.map (·.data.toList))).toArray⟩
theorem flat_nil : flat [] = (⟨#[]⟩ : ByteArray) := rfl
theorem flat_cons (x : ByteArray) (l : List ByteArray) : flat (x :: l) = ((⟨#[32]⟩ : ByteArray) ++ x) ++ flat l := by
  apply ba_ext
  simp [flat, Go.Lib.joinTail]
theorem flat_app (l m : List ByteArray) : flat (l ++ m) = flat l ++ flat m := by
  apply ba_ext
  simp [flat, Go.Lib.joinTail]
theorem app_nil (s : ByteArray) : s ++ (⟨#[]⟩ : ByteArray) = s := by
  apply ba_ext
  simp
theorem flat_size (l : List ByteArray) (b : Nat) (h : ∀ x ∈ l, x.size ≤ b) : (flat l).size ≤ (b + 1) * l.length := by
  induction l with
  | nil => simp [flat_nil, ByteArray.size]
  | cons x l ih =>
    rw [flat_cons, sz_app, sz_app, sz_one, List.length_cons, Nat.mul_succ]
    have a := h x (List.mem_cons_self ..)
    have c := ih (fun x hx => h x (List.mem_cons_of_mem _ hx))
    omega
def glue (l : List ByteArray) : ByteArray := ⟨(Go.Lib.join (l.map (·.data.toList)) [32]).toArray⟩
theorem glue_cons (x : ByteArray) (l : List ByteArray) : glue (x :: l) = x ++ flat l := by
  apply ba_ext
  simp [glue, flat, Go.Lib.join_cons]
theorem glue_size (l : List ByteArray) (b : Nat) (h : ∀ x ∈ l, x.size ≤ b) : (glue l).size ≤ (b + 1) * l.length := by
  cases l with
  | nil => simp [glue, ByteArray.size, Go.Lib.join_nil]
  | cons x l =>
    have c := flat_size l b (fun x hx => h x (List.mem_cons_of_mem _ hx))
    have a := h x (List.mem_cons_self ..)
    rw [glue_cons, sz_app, List.length_cons, Nat.mul_succ]
    omega
theorem join_f (l : List ByteArray) (hl : l.length ≤ 1000) (h : ∀ x ∈ l, x.size ≤ 84) : strings_Join.f l (⟨#[32]⟩ : ByteArray) = some (glue l) := by
  have a := glue_size l 84 h
  unfold strings_Join.f
  refine if_pos ⟨by omega, ?_⟩
  have e : (glue l).size = (Go.Lib.join (l.map (·.data.toList)) [32]).length := by simp [glue, ByteArray.size]
  show (Go.Lib.join (l.map (·.data.toList)) [32]).length ≤ 140737488355328
  omega

theorem line_loop (locs : List ByteArray) (regs : List (List ByteArray)) (r : List (List Int)) (m : List Int) (hk : locs.length ≤ 6) (hn : regs.length ≤ 6) (h1 : ∀ n ∈ locs, n.size ≤ 40)
    (h2 : ∀ l ∈ regs, l.length ≤ 6 ∧ ∀ n ∈ l, n.size ≤ 40) (h3 : ∀ o ∈ r, ∀ v ∈ o, R64 v) (h4 : ∀ v ∈ m, R64 v) : ∀ n t acc, n + t = min regs.length r.length → acc.length ≤ 6 * t → (∀ x ∈ acc, x.size ≤ 84) →
    Ev (fun k => post_Line.l0 k locs regs acc ((min regs.length r.length : Nat) : Int) (t : Int) r m) (glue (acc ++ (lines t (regs.drop t) (r.drop t) ++ pr (⟨#[]⟩ : ByteArray) locs m)))
  | 0, t, acc, hh, ha, hx => by
    refine Ev.step (fun k => by simp only [post_Line.l0]; rfl) (ev_else (by omega) ?_)
    have e : lines t (regs.drop t) (r.drop t) = [] := by
      by_cases hi : t < regs.length
      · rw [drop_none (xs := r) (i := t) (by omega), lines_nil_r]
      · rw [drop_none hi, lines_nil_l]
    rw [e, List.nil_append]
    refine Ev.bind (pairs_f _ locs m (by simp [ByteArray.size]) hk h1 h4) ?_
    have a := pr_len (⟨#[]⟩ : ByteArray) locs m
    refine ev_if (by omega) (ev_bind0 (join_f _ (by simp only [List.length_append]; omega) ?_) (Ev.now _))
    intro x q
    rcases List.mem_append.mp q with q | q
    · exact hx x q
    · have b := pr_size _ locs m h1 h4 x q
      rw [show (⟨#[]⟩ : ByteArray).size = 0 from rfl] at b
      omega
  | n + 1, t, acc, hh, ha, hx => by
    have hi : t < regs.length := by omega
    have hm : t < r.length := by omega
    have a := h2 _ (rd2_mem regs t hi)
    have b := h3 _ (rd3_mem r t hm)
    have rt : R64 (t : Int) := by unfold R64; omega
    have c := it_size rt
    refine Ev.step (fun k => by simp only [post_Line.l0]; rfl) (ev_if (by omega) ?_)
    refine ev_bind0 (ito_f rt) ?_
    refine ev_if (by omega) (ev_if (by omega) (ev_if (by omega) (ev_if (by omega) ?_)))
    refine Ev.bind (pairs_f _ _ _ (by rw [sz_app, sz_one]; omega) a.1 a.2 b) ?_
    have d := pr_len (it (t : Int) ++ (⟨#[58]⟩ : ByteArray)) (rd_L2 regs t) (rd_L3 r t)
    refine ev_if (by omega) ?_
    rw [wi (by omega), rd2_drop regs t hi, rd3_drop r t hm, lines]
    refine ev_eq (line_loop locs regs r m hk hn h1 h2 h3 h4 n (t + 1) _ (by omega) (by simp only [List.length_append]; omega) ?_) ?_
    · intro x q
      rcases List.mem_append.mp q with q | q
      · exact hx x q
      · have e := pr_size _ _ _ a.2 b x q
        rw [sz_app, sz_one] at e
        omega
    · simp only [List.append_assoc]
theorem line_f (locs : List ByteArray) (regs : List (List ByteArray)) (r : List (List Int)) (m : List Int) (hk : locs.length ≤ 6) (hn : regs.length ≤ 6) (h1 : ∀ n ∈ locs, n.size ≤ 40)
    (h2 : ∀ l ∈ regs, l.length ≤ 6 ∧ ∀ n ∈ l, n.size ≤ 40) (h3 : ∀ o ∈ r, ∀ v ∈ o, R64 v) (h4 : ∀ v ∈ m, R64 v) :
    Ev (fun k => post_Line.f k locs regs r m) (glue (lines 0 regs r ++ pr (⟨#[]⟩ : ByteArray) locs m)) := by
  have e := line_loop locs regs r m hk hn h1 h2 h3 h4 (min regs.length r.length) 0 [] (by omega) (by simp) (fun x hx => by cases hx)
  unfold post_Line.f
  rw [mn_nat]
  simpa using e

end Go.Proofs.YtbgcmbnnkigjjaaDoor.PO
