/- Outcomes as text, the lines. -/
import Derived.Test.YtbgcmbnnkigjjaaDoorPostL
namespace Go.Proofs.YtbgcmbnnkigjjaaDoor.PA
open Go.RowKit Go.Proofs.YtbgcmbnnkigjjaaDoor.PP Go.Proofs.YtbgcmbnnkigjjaaDoorW.PrintWords Go.Proofs.YtbgcmbnnkigjjaaDoorW.PrintLast Go.Proofs.YtbgcmbnnkigjjaaDoorW.PrintMore
set_option linter.unusedVariables false
set_option linter.unusedSimpArgs false
def item (h n : ByteArray) (v : Int) : ByteArray := ((h ++ n) ++ (⟨#[61]⟩ : ByteArray)) ++ it v
def pr (h : ByteArray) : List ByteArray → List Int → List ByteArray
  | n :: ns, v :: vs => item h n v :: pr h ns vs
  | [], _ => []
  | _ :: _, [] => []
def lines : Nat → List (List ByteArray) → List (List Int) → List ByteArray
  | t, r :: rs, o :: os => pr (it (t : Int) ++ (⟨#[58]⟩ : ByteArray)) r o ++ lines (t + 1) rs os
  | _, [], _ => []
  | _, _ :: _, [] => []
theorem pr_nil_r (h : ByteArray) (l : List ByteArray) : pr h l [] = [] := by cases l <;> rfl
theorem pr_nil_l (h : ByteArray) (l : List Int) : pr h [] l = [] := rfl
theorem lines_nil_r (t : Nat) (l : List (List ByteArray)) : lines t l [] = [] := by cases l <;> rfl
theorem lines_nil_l (t : Nat) (l : List (List Int)) : lines t [] l = [] := rfl
theorem rds_drop (xs : List ByteArray) (i : Nat) (h : i < xs.length) : xs.drop i = rdOf ByteArray.empty xs (i : Int) :: xs.drop (i + 1) := by
  rw [List.drop_eq_getElem_cons h]
  simp [rdOf, List.getD, h]
theorem rds_mem (xs : List ByteArray) (i : Nat) (h : i < xs.length) : rdOf ByteArray.empty xs (i : Int) ∈ xs := by
  simp [rdOf, List.getD, h]
theorem rd_mem (xs : List Int) (i : Nat) (h : i < xs.length) : rd xs (i : Int) ∈ xs := by
  simp [rd, List.getD, h]
theorem rd2_drop (xs : List (List ByteArray)) (i : Nat) (h : i < xs.length) : xs.drop i = rd_L2 xs (i : Int) :: xs.drop (i + 1) := by
  rw [List.drop_eq_getElem_cons h]
  simp [rd_L2, List.getD, h]
theorem rd2_mem (xs : List (List ByteArray)) (i : Nat) (h : i < xs.length) : rd_L2 xs (i : Int) ∈ xs := by
  simp [rd_L2, List.getD, h]
theorem pr_len (h : ByteArray) : ∀ (l : List ByteArray) (m : List Int), (pr h l m).length ≤ l.length
  | [], m => by rw [pr_nil_l]; simp
  | _ :: _, [] => by rw [pr_nil_r]; simp
  | _ :: l, _ :: m => by
    rw [pr]
    simp only [List.length_cons]
    exact Nat.succ_le_succ (pr_len h l m)
theorem pr_size (h : ByteArray) : ∀ (l : List ByteArray) (m : List Int), (∀ n ∈ l, n.size ≤ 40) → (∀ v ∈ m, R64 v) → ∀ x ∈ pr h l m, x.size ≤ h.size + 62
  | [], m => fun _ _ x hx => by rw [pr_nil_l] at hx; cases hx
  | _ :: _, [] => fun _ _ x hx => by rw [pr_nil_r] at hx; cases hx
  | n :: l, v :: m => fun h1 h2 x hx => by
    rw [pr, List.mem_cons] at hx
    rcases hx with rfl | hx
    · have a := h1 n (List.mem_cons_self ..)
      have b := it_size (h2 v (List.mem_cons_self ..))
      unfold item
      simp only [sz_app, sz_one]
      omega
    · exact pr_size h l m (fun n hn => h1 n (List.mem_cons_of_mem _ hn)) (fun n hn => h2 n (List.mem_cons_of_mem _ hn)) x hx
theorem lines_len : ∀ (t : Nat) (l : List (List ByteArray)) (m : List (List Int)), (∀ r ∈ l, r.length ≤ 6) → (lines t l m).length ≤ 6 * l.length
  | t, [], m => fun _ => by rw [lines_nil_l]; simp
  | t, _ :: _, [] => fun _ => by rw [lines_nil_r]; simp
  | t, r :: l, o :: m => fun h => by
    rw [lines, List.length_append, List.length_cons]
    have a := pr_len (it (t : Int) ++ (⟨#[58]⟩ : ByteArray)) r o
    have b := h r (List.mem_cons_self ..)
    have c := lines_len (t + 1) l m (fun r hr => h r (List.mem_cons_of_mem _ hr))
    omega
theorem lines_size : ∀ (t : Nat) (l : List (List ByteArray)) (m : List (List Int)), t + l.length ≤ 1000 → (∀ r ∈ l, ∀ n ∈ r, n.size ≤ 40) → (∀ o ∈ m, ∀ v ∈ o, R64 v) → ∀ x ∈ lines t l m, x.size ≤ 84
  | t, [], m => fun _ _ _ x hx => by rw [lines_nil_l] at hx; cases hx
  | t, _ :: _, [] => fun _ _ _ x hx => by rw [lines_nil_r] at hx; cases hx
  | t, r :: l, o :: m => fun h0 h1 h2 x hx => by
    rw [lines, List.mem_append] at hx
    simp only [List.length_cons] at h0
    rcases hx with hx | hx
    · have a := pr_size _ r o (h1 r (List.mem_cons_self ..)) (h2 o (List.mem_cons_self ..)) x hx
      have b := it_size (n := (t : Int)) (by unfold R64; omega)
      simp only [sz_app, sz_one] at a
      omega
    · exact lines_size (t + 1) l m (by omega) (fun r hr => h1 r (List.mem_cons_of_mem _ hr)) (fun r hr => h2 r (List.mem_cons_of_mem _ hr)) x hx

theorem mn_nat (a b : Nat) : mn (a : Int) (b : Int) = ((min a b : Nat) : Int) := by
  unfold mn
  split <;> omega
theorem pairs_loop (h : ByteArray) (l : List ByteArray) (m : List Int) (hh : h.size ≤ 22) (hl : l.length ≤ 6) (h1 : ∀ n ∈ l, n.size ≤ 40) (h2 : ∀ v ∈ m, R64 v) : ∀ n i acc, n + i = min l.length m.length → acc.length ≤ i →
    Ev (fun k => post_pairs.l0 k h l m acc ((min l.length m.length : Nat) : Int) (i : Int)) (acc ++ pr h (l.drop i) (m.drop i))
  | 0, i, acc, hn, ha => by
    refine Ev.step (fun k => by simp only [post_pairs.l0]; rfl) (ev_else (by omega) (ev_eq (Ev.now _) ?_))
    by_cases hi : i < l.length
    · rw [drop_none (xs := m) (i := i) (by omega), pr_nil_r, List.append_nil]
    · rw [drop_none hi, pr_nil_l, List.append_nil]
  | n + 1, i, acc, hn, ha => by
    have hi : i < l.length := by omega
    have hm : i < m.length := by omega
    have a := h1 _ (rds_mem l i hi)
    have b := h2 _ (rd_mem m i hm)
    have c := it_size b
    refine Ev.step (fun k => by simp only [post_pairs.l0]; rfl) (ev_if (by omega) (ev_if (by omega) (ev_if (by omega) (ev_if (by omega) (ev_if (by rw [sz_app]; omega) (ev_if (by omega) ?_))))))
    refine ev_bind0 (ito_f b) (ev_if (by simp only [sz_app, sz_one]; omega) (ev_if (by omega) ?_))
    rw [wi (by omega), rds_drop l i hi, rd_drop m i hm, pr]
    refine ev_eq (pairs_loop h l m hh hl h1 h2 n (i + 1) _ (by omega) (by simp; omega)) ?_
    rw [List.append_assoc]
    rfl
theorem pairs_f (h : ByteArray) (l : List ByteArray) (m : List Int) (hh : h.size ≤ 22) (hl : l.length ≤ 6) (h1 : ∀ n ∈ l, n.size ≤ 40) (h2 : ∀ v ∈ m, R64 v) :
    Ev (fun k => post_pairs.f k h l m) (pr h l m) := by
  have e := pairs_loop h l m hh hl h1 h2 (min l.length m.length) 0 [] (by omega) (by simp)
  unfold post_pairs.f
  rw [mn_nat]
  simpa using e
/-- How long the pieces are, a blank ahead of each. -/
def flat (l : List ByteArray) : ByteArray := ⟨(Go.Lib.joinTail [32] (l.map (·.data.toList))).toArray⟩
theorem flat_nil : flat [] = (⟨#[]⟩ : ByteArray) := rfl
theorem flat_cons (x : ByteArray) (l : List ByteArray) : flat (x :: l) = ((⟨#[32]⟩ : ByteArray) ++ x) ++ flat l := by
  apply ba_ext
  simp [flat, Go.Lib.joinTail]
theorem flat_app (l m : List ByteArray) : flat (l ++ m) = flat l ++ flat m := by
  apply ba_ext
  simp [flat, Go.Lib.joinTail]
theorem app_nil (s : ByteArray) : s ++ (⟨#[]⟩ : ByteArray) = s := by
  apply ba_ext
  simp
theorem flat_size (l : List ByteArray) (b : Nat) (h : ∀ x ∈ l, x.size ≤ b) : (flat l).size ≤ (b + 1) * l.length := by
  induction l with
  | nil => simp [flat_nil, ByteArray.size]
  | cons x l ih =>
    rw [flat_cons, sz_app, sz_app, sz_one, List.length_cons, Nat.mul_succ]
    have a := h x (List.mem_cons_self ..)
    have c := ih (fun x hx => h x (List.mem_cons_of_mem _ hx))
    omega
/-- The pieces put together, a blank between. -/
def glue (l : List ByteArray) : ByteArray := ⟨(Go.Lib.join (l.map (·.data.toList)) [32]).toArray⟩
theorem glue_cons (x : ByteArray) (l : List ByteArray) : glue (x :: l) = x ++ flat l := by
  apply ba_ext
  simp [glue, flat, Go.Lib.join_cons]
theorem glue_size (l : List ByteArray) (b : Nat) (h : ∀ x ∈ l, x.size ≤ b) : (glue l).size ≤ (b + 1) * l.length := by
  cases l with
  | nil => simp [glue, ByteArray.size, Go.Lib.join_nil]
  | cons x l =>
    have c := flat_size l b (fun x hx => h x (List.mem_cons_of_mem _ hx))
    have a := h x (List.mem_cons_self ..)
    rw [glue_cons, sz_app, List.length_cons, Nat.mul_succ]
    omega
theorem join_f (l : List ByteArray) (hl : l.length ≤ 1000) (h : ∀ x ∈ l, x.size ≤ 84) : strings_Join.f l (⟨#[32]⟩ : ByteArray) = some (glue l) := by
  have a := glue_size l 84 h
  unfold strings_Join.f
  refine if_pos ⟨by omega, ?_⟩
  have e : (glue l).size = (Go.Lib.join (l.map (·.data.toList)) [32]).length := by simp [glue, ByteArray.size]
  show (Go.Lib.join (l.map (·.data.toList)) [32]).length ≤ 140737488355328
  omega

theorem line_loop (locs : List ByteArray) (regs : List (List ByteArray)) (r : List (List Int)) (m : List Int) (hk : locs.length ≤ 6) (hn : regs.length ≤ 6) (h1 : ∀ n ∈ locs, n.size ≤ 40)
    (h2 : ∀ l ∈ regs, l.length ≤ 6 ∧ ∀ n ∈ l, n.size ≤ 40) (h3 : ∀ o ∈ r, ∀ v ∈ o, R64 v) (h4 : ∀ v ∈ m, R64 v) : ∀ n t acc, n + t = min regs.length r.length → acc.length ≤ 6 * t → (∀ x ∈ acc, x.size ≤ 84) →
    Ev (fun k => post_Line.l0 k locs regs acc ((min regs.length r.length : Nat) : Int) (t : Int) r m) (glue (acc ++ (lines t (regs.drop t) (r.drop t) ++ pr (⟨#[]⟩ : ByteArray) locs m)))
  | 0, t, acc, hh, ha, hx => by
    refine Ev.step (fun k => by simp only [post_Line.l0]; rfl) (ev_else (by omega) ?_)
    have e : lines t (regs.drop t) (r.drop t) = [] := by
      by_cases hi : t < regs.length
      · rw [drop_none (xs := r) (i := t) (by omega), lines_nil_r]
      · rw [drop_none hi, lines_nil_l]
    rw [e, List.nil_append]
    refine Ev.bind (pairs_f _ locs m (by simp [ByteArray.size]) hk h1 h4) ?_
    have a := pr_len (⟨#[]⟩ : ByteArray) locs m
    refine ev_if (by omega) (ev_bind0 (join_f _ (by simp only [List.length_append]; omega) ?_) (Ev.now _))
    intro x q
    rcases List.mem_append.mp q with q | q
    · exact hx x q
    · have b := pr_size _ locs m h1 h4 x q
      rw [show (⟨#[]⟩ : ByteArray).size = 0 from rfl] at b
      omega
  | n + 1, t, acc, hh, ha, hx => by
    have hi : t < regs.length := by omega
    have hm : t < r.length := by omega
    have a := h2 _ (rd2_mem regs t hi)
    have b := h3 _ (rd3_mem r t hm)
    have rt : R64 (t : Int) := by unfold R64; omega
    have c := it_size rt
    refine Ev.step (fun k => by simp only [post_Line.l0]; rfl) (ev_if (by omega) ?_)
    refine ev_bind0 (ito_f rt) ?_
    refine ev_if (by omega) (ev_if (by omega) (ev_if (by omega) (ev_if (by omega) ?_)))
    refine Ev.bind (pairs_f _ _ _ (by rw [sz_app, sz_one]; omega) a.1 a.2 b) ?_
    have d := pr_len (it (t : Int) ++ (⟨#[58]⟩ : ByteArray)) (rd_L2 regs t) (rd_L3 r t)
    refine ev_if (by omega) ?_
    rw [wi (by omega), rd2_drop regs t hi, rd3_drop r t hm, lines]
    refine ev_eq (line_loop locs regs r m hk hn h1 h2 h3 h4 n (t + 1) _ (by omega) (by simp only [List.length_append]; omega) ?_) ?_
    · intro x q
      rcases List.mem_append.mp q with q | q
      · exact hx x q
      · have e := pr_size _ _ _ a.2 b x q
        rw [sz_app, sz_one] at e
        omega
    · simp only [List.append_assoc]
theorem line_f (locs : List ByteArray) (regs : List (List ByteArray)) (r : List (List Int)) (m : List Int) (hk : locs.length ≤ 6) (hn : regs.length ≤ 6) (h1 : ∀ n ∈ locs, n.size ≤ 40)
    (h2 : ∀ l ∈ regs, l.length ≤ 6 ∧ ∀ n ∈ l, n.size ≤ 40) (h3 : ∀ o ∈ r, ∀ v ∈ o, R64 v) (h4 : ∀ v ∈ m, R64 v) :
    Ev (fun k => post_Line.f k locs regs r m) (glue (lines 0 regs r ++ pr (⟨#[]⟩ : ByteArray) locs m)) := by
  have e := line_loop locs regs r m hk hn h1 h2 h3 h4 (min regs.length r.length) 0 [] (by omega) (by simp) (fun x hx => by cases hx)
  unfold post_Line.f
  rw [mn_nat]
  simpa using e

theorem glue_fin (l : List ByteArray) (s : ByteArray) (hs : s = flat l) : glue l = if s.toList = ([] : List UInt8) then (⟨#[]⟩ : ByteArray) else s.extract 1 s.size := by
  subst hs
  cases l with
  | nil => exact (if_pos (by rw [ByteArray.toList_eq]; rfl)).symm
  | cons x l =>
    have e : (flat (x :: l)).data.toList = 32 :: (x.data.toList ++ (flat l).data.toList) := by
      rw [flat_cons]
      simp
    have n : ¬ (flat (x :: l)).toList = ([] : List UInt8) := by
      rw [ByteArray.toList_eq, e]
      simp
    rw [if_neg n, glue_cons]
    apply ba_ext
    have q : ((flat (x :: l)).extract 1 (flat (x :: l)).size).data.toList = (flat (x :: l)).data.toList.drop 1 := by
      rw [ByteArray.data_extract, Array.toList_extract, List.extract_eq_take_drop, List.take_of_length_le]
      simp only [List.length_drop, Array.length_toList]
      exact Nat.le_refl _
    rw [q, e]
    simp
/-- What the document's Line leaves at the end. -/
def fin (s : ByteArray) : ByteArray := if s.toList = ([] : List UInt8) then (⟨#[]⟩ : ByteArray) else s.extract 1 s.size
theorem fin_end (s : ByteArray) : Ev (fun _ => if s.toList = ([] : List UInt8) then some (⟨#[]⟩ : ByteArray) else if 1 ≤ (s.size : Int) then some (s.extract 1 s.size) else none) (fin s) := by
  unfold fin
  by_cases h : s.toList = ([] : List UInt8)
  · exact ev_eq (ev_if h (Ev.now _)) (if_pos h).symm
  · refine ev_eq (ev_else h (ev_if ?_ (Ev.now _))) (if_neg h).symm
    rcases Nat.eq_zero_or_pos s.size with q | q
    · exact absurd (by rw [ByteArray.toList_eq]; exact List.eq_nil_of_length_eq_zero (by rw [Array.length_toList]; exact q)) h
    · omega
theorem rl2_loop (locs : List ByteArray) (r : List (List Int)) (m : List Int) (hk : locs.length ≤ 6) (h1 : ∀ n ∈ locs, n.size ≤ 40) (h4 : ∀ v ∈ m, R64 v) : ∀ n i s, n + i = locs.length → s.size ≤ 42000 + 1000 * i →
    Ev (fun k => witheref9_Line.l2 k locs s (i : Int) r m) (fin (s ++ flat (pr (⟨#[]⟩ : ByteArray) (locs.drop i) (m.drop i))))
  | 0, i, s, hn, hs => by
    refine Ev.step (fun k => by simp only [witheref9_Line.l2]; rfl) (ev_else (by omega) ?_)
    rw [drop_none (xs := locs) (i := i) (by omega), pr_nil_l, flat_nil, app_nil]
    exact fin_end s
  | n + 1, i, s, hn, hs => by
    have hi : i < locs.length := by omega
    refine Ev.step (fun k => by simp only [witheref9_Line.l2]; rfl) (ev_if (by omega) ?_)
    by_cases hm : i < m.length
    · have a := h1 _ (rds_mem locs i hi)
      have b := h4 _ (rd_mem m i hm)
      have c := it_size b
      refine ev_if (by omega) (ev_if (by omega) (ev_if (by omega) (ev_if (by rw [sz_app, sz_one]; omega) (ev_if (by simp only [sz_app, sz_one]; omega) ?_))))
      refine Ev.bind (dig_f b) ?_
      refine ev_if (by simp only [sz_app, sz_one]; omega) ?_
      rw [wi (by omega), rds_drop locs i hi, rd_drop m i hm, pr, flat_cons]
      refine ev_eq (rl2_loop locs r m hk h1 h4 n (i + 1) _ (by omega) (by simp only [sz_app, sz_one]; omega)) ?_
      congr 1
      apply ba_ext
      simp [item]
    · rw [drop_none hm, pr_nil_r, flat_nil, app_nil]
      exact ev_else (by omega) (fin_end s)
theorem rl1_loop (locs : List ByteArray) (regs : List (List ByteArray)) (r : List (List Int)) (m : List Int) (t : Nat) (ht : t < regs.length) (htr : t < r.length) (hn6 : regs.length ≤ 6)
    (h2 : ∀ l ∈ regs, l.length ≤ 6 ∧ ∀ n ∈ l, n.size ≤ 40) (h3 : ∀ o ∈ r, ∀ v ∈ o, R64 v) (L : List ByteArray)
    (hK : ∀ s : ByteArray, s.size ≤ 7000 * (t + 1) → Ev (fun k => witheref9_Line.l0 k locs regs s ((t + 1 : Nat) : Int) r m) (fin (s ++ flat L))) : ∀ n i s, n + i = (rd_L2 regs t).length → s.size ≤ 7000 * t + 1000 * i →
    Ev (fun k => witheref9_Line.l1 k locs regs s (t : Int) (i : Int) r m) (fin (s ++ flat (pr (it (t : Int) ++ (⟨#[58]⟩ : ByteArray)) ((rd_L2 regs t).drop i) ((rd_L3 r t).drop i) ++ L)))
  | 0, i, s, hn, hs => by
    have a := h2 _ (rd2_mem regs t ht)
    refine Ev.step (fun k => by simp only [witheref9_Line.l1]; rfl) (ev_if (by omega) (ev_if (by omega) (ev_else (by omega) ?_)))
    refine Ev.step (fun k => by simp only [witheref9_Line.j3]; rfl) (ev_else (by decide) ?_)
    rw [drop_none (xs := rd_L2 regs t) (i := i) (by omega), pr_nil_l, wi (by omega), List.nil_append]
    exact hK s (by omega)
  | n + 1, i, s, hn, hs => by
    have a := h2 _ (rd2_mem regs t ht)
    have hi : i < (rd_L2 regs t).length := by omega
    refine Ev.step (fun k => by simp only [witheref9_Line.l1]; rfl) (ev_if (by omega) (ev_if (by omega) (ev_if (by omega) (ev_if (by omega) ?_))))
    refine Ev.step (fun k => by simp only [witheref9_Line.j3]; rfl) ?_
    by_cases hm : i < (rd_L3 r t).length
    · have b := h3 _ (rd3_mem r t htr) _ (rd_mem (rd_L3 r t) i hm)
      have c := it_size b
      have rt : R64 (t : Int) := by unfold R64; omega
      have d := it_size rt
      have e := a.2 _ (rds_mem (rd_L2 regs t) i hi)
      refine ev_if (by simpa using hm) (ev_if (by omega) ?_)
      refine Ev.bind (dig_f rt) ?_
      refine ev_if (by simp only [sz_app, sz_one]; omega) (ev_if (by simp only [sz_app, sz_one]; omega) (ev_if (by omega) (ev_if (by omega) (ev_if (by omega) (ev_if (by omega) ?_)))))
      refine ev_if (by simp only [sz_app, sz_one]; omega) (ev_if (by simp only [sz_app, sz_one]; omega) (ev_if (by omega) (ev_if (by omega) ?_)))
      refine Ev.bind (dig_f b) ?_
      refine ev_if (by simp only [sz_app, sz_one]; omega) ?_
      rw [wi (by omega), rds_drop (rd_L2 regs t) i hi, rd_drop (rd_L3 r t) i hm, pr, List.cons_append, flat_cons]
      refine ev_eq (rl1_loop locs regs r m t ht htr hn6 h2 h3 L hK n (i + 1) _ (by omega) (by simp only [sz_app, sz_one]; omega)) ?_
      congr 1
      apply ba_ext
      simp [item]
    · refine ev_else (by simpa using hm) ?_
      rw [drop_none hm, pr_nil_r, wi (by omega), List.nil_append]
      exact hK s (by omega)
theorem rl0_loop (locs : List ByteArray) (regs : List (List ByteArray)) (r : List (List Int)) (m : List Int) (hk : locs.length ≤ 6) (hn : regs.length ≤ 6) (h1 : ∀ n ∈ locs, n.size ≤ 40)
    (h2 : ∀ l ∈ regs, l.length ≤ 6 ∧ ∀ n ∈ l, n.size ≤ 40) (h3 : ∀ o ∈ r, ∀ v ∈ o, R64 v) (h4 : ∀ v ∈ m, R64 v) : ∀ n t s, n + t = min regs.length r.length → s.size ≤ 7000 * t →
    Ev (fun k => witheref9_Line.l0 k locs regs s (t : Int) r m) (fin (s ++ flat (lines t (regs.drop t) (r.drop t) ++ pr (⟨#[]⟩ : ByteArray) locs m)))
  | 0, t, s, hh, hs => by
    have hq : Ev (fun k => witheref9_Line.j1 k locs regs s (t : Int) false r m) (fin (s ++ flat (lines t (regs.drop t) (r.drop t) ++ pr (⟨#[]⟩ : ByteArray) locs m))) := by
      refine Ev.step (fun k => by simp only [witheref9_Line.j1]; rfl) (ev_else (by decide) ?_)
      have e : lines t (regs.drop t) (r.drop t) = [] := by
        by_cases hi : t < regs.length
        · rw [drop_none (xs := r) (i := t) (by omega), lines_nil_r]
        · rw [drop_none hi, lines_nil_l]
      rw [e, List.nil_append]
      exact rl2_loop locs r m hk h1 h4 locs.length 0 s (by omega) (by omega)
    refine Ev.step (fun k => by simp only [witheref9_Line.l0]; rfl) ?_
    by_cases hi : t < regs.length
    · refine ev_if (by omega) ?_
      rw [show decide ((t : Int) < (r.length : Int)) = false from decide_eq_false (by omega)]
      exact hq
    · exact ev_else (by omega) hq
  | n + 1, t, s, hh, hs => by
    have hi : t < regs.length := by omega
    have hm : t < r.length := by omega
    refine Ev.step (fun k => by simp only [witheref9_Line.l0]; rfl) (ev_if (by omega) ?_)
    refine Ev.step (fun k => by simp only [witheref9_Line.j1]; rfl) (ev_if (by simpa using hm) ?_)
    have a := rl1_loop locs regs r m t hi hm hn h2 h3 (lines (t + 1) (regs.drop (t + 1)) (r.drop (t + 1)) ++ pr (⟨#[]⟩ : ByteArray) locs m)
      (fun s hs => rl0_loop locs regs r m hk hn h1 h2 h3 h4 n (t + 1) s (by omega) hs) (rd_L2 regs t).length 0 s (by omega) (by omega)
    rw [rd2_drop regs t hi, rd3_drop r t hm, lines, List.append_assoc]
    exact a
theorem rline_f (locs : List ByteArray) (regs : List (List ByteArray)) (r : List (List Int)) (m : List Int) (hk : locs.length ≤ 6) (hn : regs.length ≤ 6) (h1 : ∀ n ∈ locs, n.size ≤ 40)
    (h2 : ∀ l ∈ regs, l.length ≤ 6 ∧ ∀ n ∈ l, n.size ≤ 40) (h3 : ∀ o ∈ r, ∀ v ∈ o, R64 v) (h4 : ∀ v ∈ m, R64 v) :
    Ev (fun k => witheref9_Line.f k locs regs r m) (glue (lines 0 regs r ++ pr (⟨#[]⟩ : ByteArray) locs m)) := by
  have e := rl0_loop locs regs r m hk hn h1 h2 h3 h4 (min regs.length r.length) 0 (⟨#[]⟩ : ByteArray) (by omega) (by decide)
  unfold witheref9_Line.f
  refine ev_eq e ?_
  rw [glue_fin _ _ rfl]
  unfold fin
  rw [show ∀ x : ByteArray, (⟨#[]⟩ : ByteArray) ++ x = x from fun x => ba_ext (by simp)]
  rfl
end Go.Proofs.YtbgcmbnnkigjjaaDoor.PA
