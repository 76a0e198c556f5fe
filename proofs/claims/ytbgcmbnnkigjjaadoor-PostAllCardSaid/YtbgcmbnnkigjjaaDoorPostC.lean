/- Conditions: the code's Holds and the document's are one. -/
import Derived.Test.YtbgcmbnnkigjjaaDoorPostM
namespace Go.Proofs.YtbgcmbnnkigjjaaDoor.PA
open Go.RowKit Go.Proofs.YtbgcmbnnkigjjaaDoor.PP Go.Proofs.YtbgcmbnnkigjjaaDoorW.PrintWords Go.Proofs.YtbgcmbnnkigjjaaDoorW.PrintLast Go.Proofs.YtbgcmbnnkigjjaaDoorW.PrintMore
set_option linter.unusedVariables false
set_option linter.unusedSimpArgs false
/-! ### the place of a name -/
def idx (i : Nat) : List ByteArray → ByteArray → Int
  | [], _ => -1
  | n :: l, s => if n.toList = s.toList then (i : Int) else idx (i + 1) l s
theorem idx_ge (l : List ByteArray) (s : ByteArray) : ∀ i, idx i l s = -1 ∨ ((i : Int) ≤ idx i l s ∧ idx i l s < i + l.length) := by
  induction l with
  | nil => exact fun i => .inl rfl
  | cons n l ih =>
    intro i
    rw [idx, List.length_cons]
    split
    · right
      omega
    · rcases ih (i + 1) with h | h
      · exact .inl h
      · right
        omega
theorem index_loop (l : List ByteArray) (s : ByteArray) (hl : l.length ≤ 6) : ∀ n i, n + i = l.length → Ev (fun k => slices_Index_string_string.l0 k l s (l.length : Int) (i : Int)) (idx i (l.drop i) s)
  | 0, i, h => by
    rw [drop_none (xs := l) (i := i) (by omega)]
    exact Ev.step (fun k => by simp only [slices_Index_string_string.l0]; rfl) (ev_else (by omega) (Ev.now _))
  | n + 1, i, h => by
    have hi : i < l.length := by omega
    refine Ev.step (fun k => by simp only [slices_Index_string_string.l0]; rfl) (ev_if (by omega) (ev_if (by omega) (ev_if (by omega) ?_)))
    rw [rds_drop l i hi, idx]
    by_cases e : (rdOf ByteArray.empty l (i : Int)).toList = s.toList
    · rw [if_pos e]
      exact ev_if e.symm (Ev.now _)
    · rw [if_neg e, wi (by omega)]
      exact ev_else (fun q => e q.symm) (index_loop l s hl n (i + 1) (by omega))
theorem index_f (l : List ByteArray) (s : ByteArray) (hl : l.length ≤ 6) : Ev (fun k => slices_Index_string_string.f k l s) (idx 0 l s) := index_loop l s hl l.length 0 (by omega)
theorem place_loop (l : List ByteArray) (s : ByteArray) (hl : l.length ≤ 6) : ∀ n i, n + i = l.length → Ev (fun k => witheref9_Place.l0 k l s (i : Int)) (idx i (l.drop i) s)
  | 0, i, h => by
    rw [drop_none (xs := l) (i := i) (by omega)]
    exact Ev.step (fun k => by simp only [witheref9_Place.l0]; rfl) (ev_else (by omega) (Ev.now _))
  | n + 1, i, h => by
    have hi : i < l.length := by omega
    refine Ev.step (fun k => by simp only [witheref9_Place.l0]; rfl) (ev_if (by omega) (ev_if (by omega) ?_))
    rw [rds_drop l i hi, idx]
    by_cases e : (rdOf ByteArray.empty l (i : Int)).toList = s.toList
    · rw [if_pos e]
      exact ev_if e (Ev.now _)
    · rw [if_neg e, wi (by omega)]
      exact ev_else e (place_loop l s hl n (i + 1) (by omega))
theorem place_f (l : List ByteArray) (s : ByteArray) (hl : l.length ≤ 6) : Ev (fun k => witheref9_Place.f k l s) (idx 0 l s) := place_loop l s hl l.length 0 (by omega)
/-! ### conditions without kids -/
def leaf (l : List ByteArray) (m : List Int) (s : ByteArray) (v : Int) : Bool × Bool :=
  if idx 0 l s < 0 then (false, false) else if idx 0 l s ≥ (m.length : Int) then (false, false) else (rd m (idx 0 l s) == v, true)
theorem named_f (l : List ByteArray) (m : List Int) (s : ByteArray) (hl : l.length ≤ 6) :
    Ev (fun k => post_named.f k l m s) (if idx 0 l s < 0 then (0, false) else if idx 0 l s ≥ (m.length : Int) then (0, false) else (rd m (idx 0 l s), true)) := by
  unfold post_named.f
  refine Ev.bind (index_f l s hl) ?_
  by_cases h : idx 0 l s < 0
  · exact ev_eq (ev_if h (Ev.now _)) (if_pos h).symm
  · by_cases h2 : idx 0 l s ≥ (m.length : Int)
    · refine ev_eq (ev_else h (ev_if h2 (Ev.now _))) ?_
      rw [if_neg h, if_pos h2]
    · refine ev_eq (ev_else h (ev_else h2 (ev_if (by omega) (ev_if (by omega) (Ev.now _))))) ?_
      rw [if_neg h, if_neg h2]
theorem asked (l : List ByteArray) (m : List Int) (s : ByteArray) (v : Int) : (fun x : Int × Bool => if x.2 = true then (x.1 == v, x.2) else (false, x.2)) (if idx 0 l s < 0 then ((0 : Int), false) else if idx 0 l s ≥ (m.length : Int) then (0, false) else (rd m (idx 0 l s), true)) = leaf l m s v := by
  unfold leaf
  split
  · rfl
  · split <;> rfl
theorem asked_f (l : List ByteArray) (m : List Int) (s : ByteArray) (v : Int) (hl : l.length ≤ 6) :
    Ev (fun k => (post_named.f k l m s).bind fun bt => if bt.2 = true then some (bt.1 == v, bt.2) else some (false, bt.2)) (leaf l m s v) := by
  refine Ev.bind (named_f l m s hl) ?_
  rw [← asked]
  split
  · exact Ev.now _
  · split <;> exact Ev.now _
theorem mem_f (locs : List ByteArray) (regs : List (List ByteArray)) (r : List (List Int)) (m : List Int) (y0 y1 : Int) (y2 : ByteArray) (y3 : Int) (y4 : List S24) (hk : locs.length ≤ 6) :
    Ev (fun k => post_end_mem.f k locs regs r m y0 y1 y2 y3 y4) (leaf locs m y2 y3) := by
  unfold post_end_mem.f
  exact asked_f locs m y2 y3 hk
def leafR (regs : List (List ByteArray)) (r : List (List Int)) (t : Int) (s : ByteArray) (v : Int) : Bool × Bool :=
  if t < 0 then (false, false) else if t ≥ (regs.length : Int) then (false, false) else if t ≥ (r.length : Int) then (false, false) else leaf (rd_L2 regs t) (rd_L3 r t) s v
theorem reg_f (locs : List ByteArray) (regs : List (List ByteArray)) (r : List (List Int)) (m : List Int) (y0 y1 : Int) (y2 : ByteArray) (y3 : Int) (y4 : List S24) (h2 : ∀ l ∈ regs, l.length ≤ 6) :
    Ev (fun k => post_end_reg.f k locs regs r m y0 y1 y2 y3 y4) (leafR regs r y1 y2 y3) := by
  unfold post_end_reg.f leafR
  by_cases a : y1 < 0
  · rw [if_pos a]
    exact ev_if a (Ev.now _)
  · rw [if_neg a]
    refine ev_else a ?_
    obtain ⟨t, rfl⟩ : ∃ t : Nat, y1 = (t : Int) := ⟨y1.toNat, by omega⟩
    rw [mn_nat]
    by_cases b : (t : Int) ≥ (regs.length : Int)
    · rw [if_pos b]
      exact ev_if (by omega) (Ev.now _)
    · by_cases c : (t : Int) ≥ (r.length : Int)
      · rw [if_neg b, if_pos c]
        exact ev_if (by omega) (Ev.now _)
      · rw [if_neg b, if_neg c]
        refine ev_else (by omega) (ev_if (by omega) (ev_if (by omega) (ev_if (by omega) ?_)))
        exact asked_f _ _ y2 y3 (h2 _ (rd2_mem regs t (by omega)))
/-! ### how many conditions there are -/
def Small : Nat → S24 → Prop
  | 0, _ => False
  | m + 1, x => x.f4.length ≤ 20 ∧ ∀ y ∈ x.f4, Small m y
theorem rdT_drop (xs : List S24) (i : Nat) (h : i < xs.length) : xs.drop i = rd_T24 xs (i : Int) :: xs.drop (i + 1) := by
  rw [List.drop_eq_getElem_cons h]
  simp [rd_T24, List.getD, h]
theorem rdT_mem (xs : List S24) (i : Nat) (h : i < xs.length) : rd_T24 xs (i : Int) ∈ xs := by
  simp [rd_T24, List.getD, h]
def sizeOf (k : Nat) (x : S24) (d : Int) : Option Int := withemade_CondSize.f k x.f0 x.f1 x.f2 x.f3 x.f4 d
theorem size_many (k : Nat) (d : Int) (x0 x1 : Int) (x2 : ByteArray) (x3 : Int) (x4 : List S24) : withemade_CondSize.j0 (k + 1) d true x0 x1 x2 x3 x4 = some 301 := by
  simp only [withemade_CondSize.j0]
  rfl
theorem size_ev : ∀ (m d : Nat) (x : S24), d + m = 13 → ∃ r : Int, Ev (fun k => sizeOf k x (d : Int)) r ∧ 1 ≤ r ∧ r ≤ 301 + 300 * m ∧ (r ≤ 300 → Small m x)
  | 0, d, x, hd => by
    refine ⟨301, ?_, by omega, by omega, by omega⟩
    unfold sizeOf
    refine Ev.step (fun k => by simp only [withemade_CondSize.f]; rfl) (ev_if (by omega) ?_)
    exact Ev.step (fun k => size_many k _ _ _ _ _ _) (Ev.now _)
  | m + 1, d, x, hd => by
    by_cases a : (x.f4.length : Int) > 20
    · refine ⟨301, ?_, by omega, by omega, by omega⟩
      unfold sizeOf
      refine Ev.step (fun k => by simp only [withemade_CondSize.f]; rfl) (ev_else (by omega) (ev_if a ?_))
      exact Ev.step (fun k => size_many k _ _ _ _ _ _) (Ev.now _)
    by_cases b : (x.f2.size : Int) > 40
    · refine ⟨301, ?_, by omega, by omega, by omega⟩
      unfold sizeOf
      refine Ev.step (fun k => by simp only [withemade_CondSize.f]; rfl) (ev_else (by omega) (ev_else a ?_))
      rw [decide_eq_true b]
      exact Ev.step (fun k => size_many k _ _ _ _ _ _) (Ev.now _)
    have loop : ∀ (n i : Nat) (acc : Int), n + i = x.f4.length → 1 ≤ acc → acc ≤ 300 → ∃ r : Int, Ev (fun k => withemade_CondSize.l0 k (d : Int) acc (i : Int) x.f0 x.f1 x.f2 x.f3 x.f4) r ∧ 1 ≤ r ∧ r ≤ 301 + 300 * (m + 1 : Nat) ∧ (r ≤ 300 → ∀ y ∈ x.f4.drop i, Small m y) := by
      intro n
      induction n with
      | zero =>
        intro i acc hn h1 h3
        refine ⟨acc, ?_, h1, by omega, ?_⟩
        · exact Ev.step (fun k => by simp only [withemade_CondSize.l0]; rfl) (ev_else (by omega) (Ev.now _))
        · intro _ y hy
          rw [drop_none (xs := x.f4) (i := i) (by omega)] at hy
          cases hy
      | succ n ih =>
        intro i acc hn h1 h3
        have hi : i < x.f4.length := by omega
        obtain ⟨q, hq, q1, q2, q3⟩ := size_ev m (d + 1) (rd_T24 x.f4 (i : Int)) (by omega)
        have wd : wrap64 ((d : Int) + 1) = ((d + 1 : Nat) : Int) := wi (by omega)
        have wa : wrap64 (acc + q) = acc + q := w64 (by omega) (by omega)
        by_cases c : acc + q > 300
        · refine ⟨acc + q, ?_, by omega, by omega, by omega⟩
          refine Ev.step (fun k => by simp only [withemade_CondSize.l0]; rfl) (ev_if (by omega) (ev_if (by omega) ?_))
          rw [wd]
          refine Ev.bind hq ?_
          rw [wa]
          exact ev_if c (Ev.now _)
        · obtain ⟨s, hs, s1, s2, s3⟩ := ih (i + 1) (acc + q) (by omega) (by omega) (by omega)
          refine ⟨s, ?_, s1, s2, ?_⟩
          · refine Ev.step (fun k => by simp only [withemade_CondSize.l0]; rfl) (ev_if (by omega) (ev_if (by omega) ?_))
            rw [wd]
            refine Ev.bind hq ?_
            rw [wa]
            refine ev_else c ?_
            rw [wi (by omega)]
            exact hs
          · intro hs3 y hy
            rw [rdT_drop x.f4 i hi, List.mem_cons] at hy
            rcases hy with rfl | hy
            · exact q3 (by omega)
            · exact s3 hs3 y hy
    obtain ⟨r, hr, r1, r2, r3⟩ := loop x.f4.length 0 1 (by omega) (by omega) (by omega)
    refine ⟨r, ?_, r1, r2, fun h => ⟨by omega, fun y hy => r3 h y (by simpa using hy)⟩⟩
    unfold sizeOf
    refine Ev.step (fun k => by simp only [withemade_CondSize.f]; rfl) (ev_else (by omega) (ev_else a ?_))
    rw [decide_eq_false b]
    exact Ev.step (fun k => by simp only [withemade_CondSize.j0]; rfl) (ev_else (by decide) hr)
/-! ### how deep they are -/
def dep : Nat → S24 → Int
  | 0, _ => 0
  | m + 1, x => x.f4.foldl (fun a y => if dep m y > a then dep m y else a) 0 + 1
theorem fold_ge (f : S24 → Int) : ∀ (l : List S24) (a : Int), a ≤ l.foldl (fun a y => if f y > a then f y else a) a ∧ ∀ y ∈ l, f y ≤ l.foldl (fun a y => if f y > a then f y else a) a
  | [], a => ⟨by simp, fun y hy => by cases hy⟩
  | x :: l, a => by
    have h := fold_ge f l (if f x > a then f x else a)
    rw [List.foldl_cons]
    have e : a ≤ (if f x > a then f x else a) ∧ f x ≤ (if f x > a then f x else a) := by split <;> omega
    refine ⟨by omega, fun y hy => ?_⟩
    rcases List.mem_cons.mp hy with rfl | hy
    · omega
    · exact h.2 y hy
theorem fold_le (f : S24 → Int) (b : Int) : ∀ (l : List S24) (a : Int), a ≤ b → (∀ y ∈ l, f y ≤ b) → l.foldl (fun a y => if f y > a then f y else a) a ≤ b
  | [], a => fun h _ => h
  | x :: l, a => fun h h1 => by
    rw [List.foldl_cons]
    have e := h1 x (List.mem_cons_self ..)
    exact fold_le f b l _ (by split <;> omega) (fun y hy => h1 y (List.mem_cons_of_mem _ hy))
theorem deep_ev : ∀ (m : Nat) (x : S24), m ≤ 13 → Small m x → Ev (fun k => witheref9_condDeep.f k x.f0 x.f1 x.f2 x.f3 x.f4) (dep m x) ∧ 1 ≤ dep m x ∧ dep m x ≤ m
  | 0, x, _, h => h.elim
  | m + 1, x, hm, h => by
    have kid : ∀ y ∈ x.f4, Ev (fun k => witheref9_condDeep.f k y.f0 y.f1 y.f2 y.f3 y.f4) (dep m y) ∧ 1 ≤ dep m y ∧ dep m y ≤ m := fun y hy => deep_ev m y (by omega) (h.2 y hy)
    have loop : ∀ (n i : Nat) (acc : Int), n + i = x.f4.length → 0 ≤ acc → acc ≤ m → Ev (fun k => witheref9_condDeep.l0 k acc (i : Int) x.f0 x.f1 x.f2 x.f3 x.f4) ((x.f4.drop i).foldl (fun a y => if dep m y > a then dep m y else a) acc + 1) := by
      intro n
      induction n with
      | zero =>
        intro i acc hn h1 h3
        rw [drop_none (xs := x.f4) (i := i) (by omega)]
        refine Ev.step (fun k => by simp only [witheref9_condDeep.l0]; rfl) (ev_else (by omega) ?_)
        rw [w64 (by omega) (by omega)]
        exact Ev.now _
      | succ n ih =>
        intro i acc hn h1 h3
        have hi : i < x.f4.length := by omega
        have hl := h.1
        obtain ⟨k1, k2, k3⟩ := kid _ (rdT_mem x.f4 i hi)
        refine Ev.step (fun k => by simp only [witheref9_condDeep.l0]; rfl) (ev_if (by omega) (ev_if (by omega) ?_))
        refine Ev.bind k1 ?_
        rw [rdT_drop x.f4 i hi, List.foldl_cons, wi (by omega)]
        by_cases c : dep m (rd_T24 x.f4 (i : Int)) > acc
        · rw [if_pos c]
          exact ev_if c (ih (i + 1) _ (by omega) (by omega) (by omega))
        · rw [if_neg c]
          exact ev_else c (ih (i + 1) _ (by omega) (by omega) (by omega))
    have e := loop x.f4.length 0 0 (by omega) (by omega) (by omega)
    have g := (fold_ge (dep m) x.f4 0).1
    have l := fold_le (dep m) m x.f4 0 (by omega) (fun y hy => (kid y hy).2.2)
    refine ⟨?_, ?_, ?_⟩
    · exact Ev.step (fun k => by simp only [witheref9_condDeep.f]; rfl) e
    · rw [dep]
      omega
    · rw [dep]
      omega
end Go.Proofs.YtbgcmbnnkigjjaaDoor.PA
