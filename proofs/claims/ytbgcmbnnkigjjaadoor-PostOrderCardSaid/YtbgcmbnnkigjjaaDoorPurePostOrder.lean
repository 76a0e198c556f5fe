/- PostOrder: outcomes have an order, and unlike ones have unlike lines. For all numbers. -/
import Derived.Test.YtbgcmbnnkigjjaaDoorPoM
import Derived.Test.YtbgcmbnnkigjjaaDoorPostW
namespace Go.Proofs.YtbgcmbnnkigjjaaDoor.PO
open Go.RowKit Go.Proofs.YtbgcmbnnkigjjaaDoor.PP Go.Proofs.YtbgcmbnnkigjjaaDoorW.PrintWords Go.Proofs.YtbgcmbnnkigjjaaDoorW.PrintLast Go.Proofs.YtbgcmbnnkigjjaaDoorW.PrintMore
set_option linter.unusedVariables false
set_option linter.unusedSimpArgs false
/-- What makes an order of a comparison. -/
structure Good {α : Type} (c : α → α → Int) : Prop where
  anti : ∀ a b, c b a = - c a b
  zero : ∀ a b, c a b = 0 ↔ a = b
  trans : ∀ a b d, c a b < 0 → c b d < 0 → c a d < 0
theorem good_int : Good cmpI where
  anti a b := by
    unfold cmpI
    split <;> split <;> (try split) <;> omega
  zero a b := by
    unfold cmpI
    split
    · constructor <;> intro h <;> omega
    · split
      · constructor <;> intro h <;> omega
      · constructor <;> intro h <;> omega
  trans a b d := by
    unfold cmpI
    intro h h2
    have x : a < b := by
      split at h
      · assumption
      · split at h <;> omega
    have y : b < d := by
      split at h2
      · assumption
      · split at h2 <;> omega
    rw [if_pos (by omega)]
    decide
theorem lex_anti {α : Type} {c : α → α → Int} (g : Good c) : ∀ a b, lex3 c b a = - lex3 c a b
  | [], [] => by simp [lex3]
  | [], _ :: _ => by simp [lex3]
  | _ :: _, [] => by simp [lex3]
  | a :: l, b :: m => by
    simp only [lex3]
    have e := g.anti a b
    by_cases h : c a b = 0
    · rw [if_pos h, if_pos (by omega), lex_anti g l m]
    · rw [if_neg h, if_neg (by omega), e]
theorem lex_zero {α : Type} {c : α → α → Int} (g : Good c) : ∀ a b, lex3 c a b = 0 ↔ a = b
  | [], [] => by simp [lex3]
  | [], _ :: _ => by simp [lex3]
  | _ :: _, [] => by simp [lex3]
  | a :: l, b :: m => by
    simp only [lex3]
    have e := g.zero a b
    by_cases h : c a b = 0
    · rw [if_pos h, lex_zero g l m, e.mp h]
      simp
    · rw [if_neg h]
      constructor
      · intro h2
        exact absurd h2 h
      · intro h2
        injection h2 with h3 h4
        exact absurd (e.mpr h3) h
theorem lex_trans {α : Type} {c : α → α → Int} (g : Good c) : ∀ a b d, lex3 c a b < 0 → lex3 c b d < 0 → lex3 c a d < 0
  | [], [], _ => fun h => absurd h (by simp [lex3])
  | _ :: _, [], _ => fun h => absurd h (by simp [lex3])
  | _, _ :: _, [] => fun _ h => absurd h (by simp [lex3])
  | [], _ :: _, _ :: _ => fun _ _ => by simp [lex3]
  | a :: l, b :: m, d :: n => by
    simp only [lex3]
    intro h h2
    by_cases x : c a b = 0
    · rw [if_pos x] at h
      obtain rfl := (g.zero a b).mp x
      by_cases y : c a d = 0
      · rw [if_pos y] at h2 ⊢
        exact lex_trans g l m n h h2
      · rw [if_neg y] at h2 ⊢
        exact h2
    · rw [if_neg x] at h
      by_cases y : c b d = 0
      · obtain rfl := (g.zero b d).mp y
        rw [if_neg x]
        exact h
      · rw [if_neg y] at h2
        have z := g.trans a b d h h2
        rw [if_neg (by omega)]
        exact z
theorem good_lex {α : Type} {c : α → α → Int} (g : Good c) : Good (lex3 c) := ⟨lex_anti g, lex_zero g, lex_trans g⟩
def cmpP (a b : List (List Int) × List Int) : Int := ordO a.1 a.2 b.1 b.2
theorem good_out : Good cmpP where
  anti a b := by
    have g1 := good_lex (good_lex good_int)
    have g2 := good_lex good_int
    unfold cmpP ordO
    have e := g1.anti a.1 b.1
    by_cases h : lex3 (lex3 cmpI) a.1 b.1 = 0
    · rw [if_pos h, if_pos (by omega), g2.anti a.2 b.2]
    · rw [if_neg h, if_neg (by omega), e]
  zero a b := by
    have g1 := good_lex (good_lex good_int)
    have g2 := good_lex good_int
    unfold cmpP ordO
    by_cases h : lex3 (lex3 cmpI) a.1 b.1 = 0
    · rw [if_pos h, g2.zero, Prod.ext_iff]
      exact ⟨fun x => ⟨(g1.zero _ _).mp h, x⟩, fun x => x.2⟩
    · rw [if_neg h]
      exact ⟨fun x => absurd x h, fun x => absurd ((g1.zero _ _).mpr (congrArg Prod.fst x)) h⟩
  trans a b d := by
    have g1 := good_lex (good_lex good_int)
    have g2 := good_lex good_int
    unfold cmpP ordO
    intro h h2
    by_cases x : lex3 (lex3 cmpI) a.1 b.1 = 0
    · rw [if_pos x] at h
      have x' := (g1.zero _ _).mp x
      rw [x']
      by_cases y : lex3 (lex3 cmpI) b.1 d.1 = 0
      · rw [if_pos y] at h2 ⊢
        exact g2.trans _ _ _ h h2
      · rw [if_neg y] at h2 ⊢
        exact h2
    · rw [if_neg x] at h
      by_cases y : lex3 (lex3 cmpI) b.1 d.1 = 0
      · have y' := (g1.zero _ _).mp y
        rw [← y', if_neg x]
        exact h
      · rw [if_neg y] at h2
        have z := g1.trans _ _ _ h h2
        rw [if_neg (by omega)]
        exact z

/-- A value of an outcome. -/
def V (n : Int) : Prop := n = -2 ∨ n = -1 ∨ n = 0 ∨ n = 1 ∨ n = 2
theorem V_of (x : Int) : V (wrap64 (Int.tmod x 3)) := by
  have e : Int.tmod x 3 < 3 ∧ -3 < Int.tmod x 3 := by
    have a := Int.tmod_lt_of_pos x (show (0 : Int) < 3 by decide)
    have b := Int.lt_tmod_of_pos x (show (0 : Int) < 3 by decide)
    omega
  rw [w64 (by omega) (by omega)]
  unfold V
  omega
theorem i_2 : Go.Lib.itoa (-2) = [45, 50] := by
  simp [Go.Lib.itoa, dec_small]
theorem i_1 : Go.Lib.itoa (-1) = [45, 49] := by
  simp [Go.Lib.itoa, dec_small]
theorem i0 : Go.Lib.itoa 0 = [48] := by
  simp [Go.Lib.itoa, dec_small]
theorem i1 : Go.Lib.itoa 1 = [49] := by
  simp [Go.Lib.itoa, dec_small]
theorem i2 : Go.Lib.itoa 2 = [50] := by
  simp [Go.Lib.itoa, dec_small]
theorem cut {v u : Int} (hv : V v) (hu : V u) {s t : List UInt8} : Go.Lib.itoa v ++ (32 :: s) = Go.Lib.itoa u ++ (32 :: t) ↔ v = u ∧ s = t := by
  rcases hv with rfl | rfl | rfl | rfl | rfl <;> rcases hu with rfl | rfl | rfl | rfl | rfl <;> simp [i_2, i_1, i0, i1, i2]
theorem cut0 {v u : Int} (hv : V v) (hu : V u) : Go.Lib.itoa v = Go.Lib.itoa u ↔ v = u := by
  rcases hv with rfl | rfl | rfl | rfl | rfl <;> rcases hu with rfl | rfl | rfl | rfl | rfl <;> simp [i_2, i_1, i0, i1, i2]
theorem V_64 {v : Int} (h : V v) : R64 v := by
  unfold V at h
  unfold R64
  omega
def nm1 : List ByteArray := [(⟨#[120]⟩ : ByteArray), (⟨#[121]⟩ : ByteArray)]
def nm2 : List (List ByteArray) := [[(⟨#[97]⟩ : ByteArray), (⟨#[98]⟩ : ByteArray)], [(⟨#[97]⟩ : ByteArray), (⟨#[99]⟩ : ByteArray)]]
def ln (a b c d e f : Int) : ByteArray := glue (lines 0 nm2 [[a, b], [c, d]] ++ pr (⟨#[]⟩ : ByteArray) nm1 [e, f])
theorem ln_list (a b c d e f : Int) : (ln a b c d e f).toList = 48 :: 58 :: 97 :: 61 :: (Go.Lib.itoa a ++ (32 :: (48 :: 58 :: 98 :: 61 :: (Go.Lib.itoa b ++ (32 :: (49 :: 58 :: 97 :: 61 :: (Go.Lib.itoa c ++ (32 :: (49 :: 58 :: 99 :: 61 :: (Go.Lib.itoa d ++ (32 :: (120 :: 61 :: (Go.Lib.itoa e ++ (32 :: (121 :: 61 :: Go.Lib.itoa f))))))))))))))) := by
  rw [ByteArray.toList_eq]
  simp [ln, glue, lines, pr, item, nm1, nm2, it, Go.Lib.join, i0, i1, List.append_assoc]
theorem ln_eq {a b c d e f a' b' c' d' e' f' : Int} (h1 : V a) (h2 : V b) (h3 : V c) (h4 : V d) (h5 : V e) (h6 : V f) (k1 : V a') (k2 : V b') (k3 : V c') (k4 : V d') (k5 : V e') (k6 : V f') :
    (ln a b c d e f).toList = (ln a' b' c' d' e' f').toList ↔ (a = a' ∧ b = b' ∧ c = c' ∧ d = d' ∧ e = e' ∧ f = f') := by
  rw [ln_list, ln_list]
  simp only [List.cons.injEq, true_and]
  rw [cut h1 k1]
  simp only [List.cons.injEq, true_and]
  rw [cut h2 k2]
  simp only [List.cons.injEq, true_and]
  rw [cut h3 k3]
  simp only [List.cons.injEq, true_and]
  rw [cut h4 k4]
  simp only [List.cons.injEq, true_and]
  rw [cut h5 k5]
  simp only [List.cons.injEq, true_and]
  rw [cut0 h6 k6]
theorem line_ev {a b c d e f : Int} (h1 : V a) (h2 : V b) (h3 : V c) (h4 : V d) (h5 : V e) (h6 : V f) : Ev (fun k => post_Line.f k nm1 nm2 [[a, b], [c, d]] [e, f]) (ln a b c d e f) := by
  refine line_f nm1 nm2 [[a, b], [c, d]] [e, f] (by decide) (by decide) ?_ ?_ ?_ ?_
  · intro n hn
    simp only [nm1, List.mem_cons, List.not_mem_nil, or_false] at hn
    rcases hn with rfl | rfl <;> decide
  · intro l hl
    simp only [nm2, List.mem_cons, List.not_mem_nil, or_false] at hl
    rcases hl with rfl | rfl
    · refine ⟨by decide, fun n hn => ?_⟩
      simp only [List.mem_cons, List.not_mem_nil, or_false] at hn
      rcases hn with rfl | rfl <;> decide
    · refine ⟨by decide, fun n hn => ?_⟩
      simp only [List.mem_cons, List.not_mem_nil, or_false] at hn
      rcases hn with rfl | rfl <;> decide
  · intro o ho v hv
    simp only [List.mem_cons, List.not_mem_nil, or_false] at ho
    rcases ho with rfl | rfl
    · simp only [List.mem_cons, List.not_mem_nil, or_false] at hv
      rcases hv with rfl | rfl
      · exact V_64 h1
      · exact V_64 h2
    · simp only [List.mem_cons, List.not_mem_nil, or_false] at hv
      rcases hv with rfl | rfl
      · exact V_64 h3
      · exact V_64 h4
  · intro v hv
    simp only [List.mem_cons, List.not_mem_nil, or_false] at hv
    rcases hv with rfl | rfl
    · exact V_64 h5
    · exact V_64 h6
/-- Small outcomes. -/
def Sm (x : List (List Int) × List Int) : Prop := x.1.length ≤ 6 ∧ (∀ y ∈ x.1, y.length ≤ 8) ∧ x.2.length ≤ 8
theorem sm6 (a b c d e f : Int) : Sm ([[a, b], [c, d]], [e, f]) := by
  refine ⟨by simp, fun y hy => ?_, by simp⟩
  simp only [List.mem_cons, List.not_mem_nil, or_false] at hy
  rcases hy with rfl | rfl <;> simp
theorem same_ev {x : List (List Int) × List Int} (h : Sm x) (y : List (List Int) × List Int) : Ev (fun k => post_Same.f k x.1 x.2 y.1 y.2) (cmpP x y == 0) := same_f _ _ _ _ h.1 h.2.1 h.2.2
theorem less_ev {x : List (List Int) × List Int} (h : Sm x) (y : List (List Int) × List Int) : Ev (fun k => post_Less.f k x.1 x.2 y.1 y.2) (decide (cmpP x y < 0)) := less_f _ _ _ _ h.1 h.2.1 h.2.2
theorem begun_ev : Ev (fun k => withelaw11_begun.f k) true := Ev.of withelaw11_begun.mono (k := 60) (by kernel_rfl)
theorem w1 : wrap64 (0 + 1) = 1 := by kernel_rfl
theorem w2 : wrap64 (1 + 1) = 2 := by kernel_rfl

theorem law_j4 (x y : List (List Int) × List Int) (hx : Sm x) (l m : ByteArray) (h1 : Ev (fun k => post_Line.f k nm1 nm2 x.1 x.2) l) (h2 : Ev (fun k => post_Line.f k nm1 nm2 y.1 y.2) m)
    (h : l.toList = m.toList ↔ x = y) : Ev (fun k => withelaw11_PostOrder.j4 k nm1 nm2 false x.1 x.2 y.1 y.2) true := by
  refine Ev.step (fun k => by simp only [withelaw11_PostOrder.j4]; rfl) (ev_else (by decide) ?_)
  refine Ev.bind h1 (Ev.bind h2 (Ev.bind (same_ev hx y) (ev_some ?_)))
  have z := good_out.zero x y
  by_cases e : x = y
  · rw [h.mpr e, z.mpr e]
    simp
  · have a : ¬ l.toList = m.toList := fun q => e (h.mp q)
    have b : ¬ cmpP x y = 0 := fun q => e (z.mp q)
    rw [show (l.toList == m.toList) = false from beq_eq_false_iff_ne.mpr a, show (cmpP x y == 0) = false from beq_eq_false_iff_ne.mpr b]
    rfl
theorem law_j3 (x y d : List (List Int) × List Int) (hx : Sm x) (hy : Sm y) (l m : ByteArray) (h1 : Ev (fun k => post_Line.f k nm1 nm2 x.1 x.2) l) (h2 : Ev (fun k => post_Line.f k nm1 nm2 y.1 y.2) m)
    (h : l.toList = m.toList ↔ x = y) : Ev (fun k => withelaw11_PostOrder.j3 k nm1 nm2 1 x.1 x.2 y.1 y.2 d.1 d.2) true := by
  refine Ev.step (fun k => by simp only [withelaw11_PostOrder.j3]; rfl) (ev_if (c := (1 : Int) = 1) rfl ?_)
  refine Ev.bind (less_ev hx y) ?_
  have j4 := law_j4 x y hx l m h1 h2 h
  by_cases a : cmpP x y < 0
  · refine ev_if (by simpa using a) (Ev.bind (less_ev hy d) ?_)
    by_cases b : cmpP y d < 0
    · refine ev_if (by simpa using b) (Ev.bind (less_ev hx d) ?_)
      have c := good_out.trans _ _ _ a b
      rw [show (!decide (cmpP x d < 0)) = false by simpa using c]
      exact j4
    · exact ev_else (by simpa using b) j4
  · exact ev_else (by simpa using a) j4
theorem law_all (x y d : List (List Int) × List Int) (hx : Sm x) (hy : Sm y) (l m : ByteArray) (h1 : Ev (fun k => post_Line.f k nm1 nm2 x.1 x.2) l) (h2 : Ev (fun k => post_Line.f k nm1 nm2 y.1 y.2) m)
    (h : l.toList = m.toList ↔ x = y) : Ev (fun k => (post_Less.f k x.1 x.2 x.1 x.2).bind fun t262 => (if t262 = true then (withelaw11_PostOrder.j0 k nm1 nm2 true x.1 x.2 y.1 y.2 d.1 d.2) else ((post_Same.f k x.1 x.2 x.1 x.2).bind fun t263 => (if t263 = true then ((post_Same.f k x.1 x.2 y.1 y.2).bind fun t264 => ((post_Same.f k y.1 y.2 x.1 x.2).bind fun t265 => (withelaw11_PostOrder.j0 k nm1 nm2 (t264 != t265) x.1 x.2 y.1 y.2 d.1 d.2))) else (withelaw11_PostOrder.j0 k nm1 nm2 true x.1 x.2 y.1 y.2 d.1 d.2))))) true := by
  have zx := (good_out.zero x x).mpr rfl
  have an := good_out.anti x y
  have j3 := law_j3 x y d hx hy l m h1 h2 h
  refine Ev.bind (less_ev hx x) (ev_else (by rw [zx]; decide) (Ev.bind (same_ev hx x) (ev_if (by rw [zx]; rfl) (Ev.bind (same_ev hx y) (Ev.bind (same_ev hy x) ?_)))))
  have e : ((cmpP x y == 0) != (cmpP y x == 0)) = false := by
    rw [an]
    by_cases q : cmpP x y = 0
    · simp [q]
    · rw [show (cmpP x y == 0) = false from beq_eq_false_iff_ne.mpr q, show (-cmpP x y == 0) = false from beq_eq_false_iff_ne.mpr (by omega)]
      rfl
  rw [e]
  refine Ev.step (fun k => by simp only [withelaw11_PostOrder.j0]; rfl) (ev_else (by decide) (Ev.bind (less_ev hx y) ?_))
  by_cases a : cmpP x y < 0
  · refine ev_if (by simpa using a) ?_
    rw [show (0 : Int) + 1 = 1 from rfl]
    refine Ev.step (fun k => by simp only [withelaw11_PostOrder.j1]; rfl) ?_
    refine Ev.bind (less_ev hy x) ?_
    refine ev_else (by rw [an]; simp; omega) ?_
    refine Ev.step (fun k => by simp only [withelaw11_PostOrder.j2]; rfl) ?_
    refine Ev.bind (same_ev hx y) ?_
    refine ev_else (fun q => by have := beq_iff_eq.mp q; omega) ?_
    exact j3
  · refine ev_else (by simpa using a) ?_
    refine Ev.step (fun k => by simp only [withelaw11_PostOrder.j1]; rfl) ?_
    refine Ev.bind (less_ev hy x) ?_
    by_cases b : cmpP y x < 0
    · refine ev_if (by simpa using b) ?_
      rw [w1]
      refine Ev.step (fun k => by simp only [withelaw11_PostOrder.j2]; rfl) ?_
      refine Ev.bind (same_ev hx y) ?_
      refine ev_else (fun q => by have := beq_iff_eq.mp q; omega) ?_
      exact j3
    · refine ev_else (by simpa using b) ?_
      refine Ev.step (fun k => by simp only [withelaw11_PostOrder.j2]; rfl) ?_
      refine Ev.bind (same_ev hx y) ?_
      refine ev_if (beq_iff_eq.mpr (by omega)) ?_
      rw [w1]
      exact j3
theorem PostOrder (a0 a1 a2 a3 a4 a5 b0 b1 b2 b3 b4 b5 c0 c1 c2 c3 c4 c5 : Int) : ∃ k, withelaw11_PostOrder.f k a0 a1 a2 a3 a4 a5 b0 b1 b2 b3 b4 b5 c0 c1 c2 c3 c4 c5 = some true := by
  refine Ev.rounds ?_
  unfold withelaw11_PostOrder.f
  refine Ev.bind begun_ev (ev_if rfl (ev_bind0 rfl (ev_bind0 rfl (ev_bind0 rfl (ev_bind0 rfl ?_)))))
  have A := fun x => V_of x
  refine law_all ([[wrap64 (Int.tmod a0 3), wrap64 (Int.tmod a1 3)], [wrap64 (Int.tmod a2 3), wrap64 (Int.tmod a3 3)]], [wrap64 (Int.tmod a4 3), wrap64 (Int.tmod a5 3)]) ([[wrap64 (Int.tmod b0 3), wrap64 (Int.tmod b1 3)], [wrap64 (Int.tmod b2 3), wrap64 (Int.tmod b3 3)]], [wrap64 (Int.tmod b4 3), wrap64 (Int.tmod b5 3)]) ([[wrap64 (Int.tmod c0 3), wrap64 (Int.tmod c1 3)], [wrap64 (Int.tmod c2 3), wrap64 (Int.tmod c3 3)]], [wrap64 (Int.tmod c4 3), wrap64 (Int.tmod c5 3)]) (sm6 _ _ _ _ _ _) (sm6 _ _ _ _ _ _) _ _ (line_ev (A _) (A _) (A _) (A _) (A _) (A _)) (line_ev (A _) (A _) (A _) (A _) (A _) (A _)) ?_
  rw [ln_eq (A _) (A _) (A _) (A _) (A _) (A _) (A _) (A _) (A _) (A _) (A _) (A _)]
  simp [Prod.ext_iff, and_assoc]
end Go.Proofs.YtbgcmbnnkigjjaaDoor.PO
