/- PostRules: how not, and, or go together. For all numbers. -/
import Derived.Test.YtbgcmbnnkigjjaaDoorPRx12
import Derived.Test.YtbgcmbnnkigjjaaDoorPRx10
import Derived.Test.YtbgcmbnnkigjjaaDoorPRx11
namespace Go.Proofs.YtbgcmbnnkigjjaaDoor.RU
open Go.RowKit Go.Proofs.YtbgcmbnnkigjjaaDoor.PR Go.Proofs.YtbgcmbnnkigjjaaDoorW.PrintWords Go.Proofs.YtbgcmbnnkigjjaaDoorW.PrintLast Go.Proofs.YtbgcmbnnkigjjaaDoorW.PrintMore
set_option linter.unusedVariables false
set_option linter.unusedSimpArgs false
theorem ev_if {α : Type} {c : Prop} [Decidable c] {f g : Nat → Option α} {r : α} (h : c) (k : Ev f r) : Ev (fun n => if c then f n else g n) r := by
  simpa only [if_pos h] using k
theorem ev_else {α : Type} {c : Prop} [Decidable c] {f g : Nat → Option α} {r : α} (h : ¬ c) (k : Ev g r) : Ev (fun n => if c then f n else g n) r := by
  simpa only [if_neg h] using k
theorem ev_bind0 {α β : Type} {f : Option α} {g : Nat → α → Option β} {a : α} {r : β} (h : f = some a) (k : Ev (fun n => g n a) r) : Ev (fun n => f.bind (g n)) r := by
  subst h
  exact k
theorem ev_eq {α : Type} {g : Nat → Option α} {r r' : α} (h : Ev g r) (e : r = r') : Ev g r' := e ▸ h
theorem w64 {n : Int} (h : -9223372036854775808 ≤ n) (h2 : n < 9223372036854775808) : wrap64 n = n := by
  unfold wrap64
  omega
def lx : List ByteArray := [(⟨#[120]⟩ : ByteArray), (⟨#[121]⟩ : ByteArray)]
def rx : List (List ByteArray) := [[(⟨#[97]⟩ : ByteArray), (⟨#[98]⟩ : ByteArray)], [(⟨#[97]⟩ : ByteArray), (⟨#[99]⟩ : ByteArray)]]
section
variable (a b c d e f : Int)
def hol (k : Nat) (x : S24) (n : Int) : Option (Bool × Bool) := post_end_holds.f k lx rx [[a, b], [c, d]] [e, f] x.f0 x.f1 x.f2 x.f3 x.f4 n
/-- A condition that is so deep, and has an answer. -/
def G (m : Nat) (x : S24) (v : Bool) : Prop := ∀ n : Nat, n + m ≤ 6 → Ev (fun k => hol a b c d e f k x (n : Int)) (v, true)
variable {a b c d e f}
theorem G.up {m : Nat} {x : S24} {v : Bool} (h : G a b c d e f m x v) {m' : Nat} (hm : m ≤ m') : G a b c d e f m' x v := fun n hn => h n (by omega)
theorem leaf (x : S24) (v : Bool) (h : ∀ n : Nat, n < 6 → Ev (fun k => hol a b c d e f k x (n : Int)) (v, true)) : G a b c d e f 1 x v := fun n hn => h n (by omega)
theorem six {p : Nat → Prop} (h0 : p 0) (h1 : p 1) (h2 : p 2) (h3 : p 3) (h4 : p 4) (h5 : p 5) : ∀ n, n < 6 → p n := by
  intro n hn
  match n, hn with
  | 0, _ => exact h0
  | 1, _ => exact h1
  | 2, _ => exact h2
  | 3, _ => exact h3
  | 4, _ => exact h4
  | 5, _ => exact h5
  | n + 6, hn => omega
theorem hmono (x : S24) (n : Int) (k : Nat) : LeO (hol a b c d e f k x n) (hol a b c d e f (k + 1) x n) := post_end_holds.mono _ _ _ _ _ _ _ _ _ _ k
theorem mem0 (n : Int) : G a b c d e f 1 ⟨1, 0, (⟨#[120]⟩ : ByteArray), n, []⟩ (e == n) :=
  leaf _ _ (six (Ev.of (hmono _ _) (k := 20) (by kernel_rfl)) (Ev.of (hmono _ _) (k := 20) (by kernel_rfl)) (Ev.of (hmono _ _) (k := 20) (by kernel_rfl)) (Ev.of (hmono _ _) (k := 20) (by kernel_rfl)) (Ev.of (hmono _ _) (k := 20) (by kernel_rfl)) (Ev.of (hmono _ _) (k := 20) (by kernel_rfl)))
theorem mem1 (n : Int) : G a b c d e f 1 ⟨1, 0, (⟨#[121]⟩ : ByteArray), n, []⟩ (f == n) :=
  leaf _ _ (six (Ev.of (hmono _ _) (k := 20) (by kernel_rfl)) (Ev.of (hmono _ _) (k := 20) (by kernel_rfl)) (Ev.of (hmono _ _) (k := 20) (by kernel_rfl)) (Ev.of (hmono _ _) (k := 20) (by kernel_rfl)) (Ev.of (hmono _ _) (k := 20) (by kernel_rfl)) (Ev.of (hmono _ _) (k := 20) (by kernel_rfl)))
theorem reg00 (n : Int) : G a b c d e f 1 ⟨2, 0, (⟨#[97]⟩ : ByteArray), n, []⟩ (a == n) :=
  leaf _ _ (six (Ev.of (hmono _ _) (k := 20) (by kernel_rfl)) (Ev.of (hmono _ _) (k := 20) (by kernel_rfl)) (Ev.of (hmono _ _) (k := 20) (by kernel_rfl)) (Ev.of (hmono _ _) (k := 20) (by kernel_rfl)) (Ev.of (hmono _ _) (k := 20) (by kernel_rfl)) (Ev.of (hmono _ _) (k := 20) (by kernel_rfl)))
theorem reg01 (n : Int) : G a b c d e f 1 ⟨2, 0, (⟨#[98]⟩ : ByteArray), n, []⟩ (b == n) :=
  leaf _ _ (six (Ev.of (hmono _ _) (k := 20) (by kernel_rfl)) (Ev.of (hmono _ _) (k := 20) (by kernel_rfl)) (Ev.of (hmono _ _) (k := 20) (by kernel_rfl)) (Ev.of (hmono _ _) (k := 20) (by kernel_rfl)) (Ev.of (hmono _ _) (k := 20) (by kernel_rfl)) (Ev.of (hmono _ _) (k := 20) (by kernel_rfl)))
theorem reg10 (n : Int) : G a b c d e f 1 ⟨2, 1, (⟨#[97]⟩ : ByteArray), n, []⟩ (c == n) :=
  leaf _ _ (six (Ev.of (hmono _ _) (k := 20) (by kernel_rfl)) (Ev.of (hmono _ _) (k := 20) (by kernel_rfl)) (Ev.of (hmono _ _) (k := 20) (by kernel_rfl)) (Ev.of (hmono _ _) (k := 20) (by kernel_rfl)) (Ev.of (hmono _ _) (k := 20) (by kernel_rfl)) (Ev.of (hmono _ _) (k := 20) (by kernel_rfl)))
theorem reg11 (n : Int) : G a b c d e f 1 ⟨2, 1, (⟨#[99]⟩ : ByteArray), n, []⟩ (d == n) :=
  leaf _ _ (six (Ev.of (hmono _ _) (k := 20) (by kernel_rfl)) (Ev.of (hmono _ _) (k := 20) (by kernel_rfl)) (Ev.of (hmono _ _) (k := 20) (by kernel_rfl)) (Ev.of (hmono _ _) (k := 20) (by kernel_rfl)) (Ev.of (hmono _ _) (k := 20) (by kernel_rfl)) (Ev.of (hmono _ _) (k := 20) (by kernel_rfl)))
theorem rd0 (x : S24) (l : List S24) : rd_T24 (x :: l) 0 = x := rfl
theorem rd1 (x y : S24) (l : List S24) : rd_T24 (x :: y :: l) 1 = y := rfl
/-- The code's answer of kids' answers. -/
def two (y0 : Int) (p q : Bool × Bool) : Bool × Bool := ((p.2 && q.2) && (if y0 = 3 then !p.1 else if y0 = 4 then p.1 && q.1 else p.1 || q.1), p.2 && q.2)
theorem hol_two (x : S24) (n z : Nat) (hd : n < 6) (h0 : x.f0 = 3 ∨ x.f0 = 4 ∨ x.f0 = 5) (hn : x.f4.length = (if x.f0 = 3 then 1 else 2)) (hl : wrap64 ((x.f4.length : Int) - 1) = (z : Int)) {p q : Bool × Bool}
    (hp : Ev (fun k => hol a b c d e f k (rd_T24 x.f4 0) ((n + 1 : Nat) : Int)) p) (hq : Ev (fun k => hol a b c d e f k (rd_T24 x.f4 (z : Int)) ((n + 1 : Nat) : Int)) q) : Ev (fun k => hol a b c d e f k x (n : Int)) (two x.f0 p q) := by
  unfold hol at *
  refine Ev.step (fun k => by simp only [post_end_holds.f]; rfl) ?_
  refine ev_else (by omega) (ev_else (by omega) (ev_if h0 (ev_if ⟨hn, by omega⟩ ?_)))
  rw [w64 (n := (n : Int) + 1) (by omega) (by omega), show (n : Int) + 1 = ((n + 1 : Nat) : Int) by omega, hl]
  exact Ev.bind hp (Ev.bind hq (Ev.now _))
theorem two_ev {m : Nat} {y0 y1 : Int} {y2 : ByteArray} {y3 : Int} {x y : S24} {p q : Bool} (h0 : y0 = 4 ∨ y0 = 5) (hx : G a b c d e f m x p) (hy : G a b c d e f m y q) :
    G a b c d e f (m + 1) ⟨y0, y1, y2, y3, [x, y]⟩ (if y0 = 4 then p && q else p || q) := by
  intro n hn
  have e1 := hx (n + 1) (by omega)
  have e2 := hy (n + 1) (by omega)
  have hl : ([x, y] : List S24).length = if y0 = 3 then 1 else 2 := by rw [if_neg (by omega)]; rfl
  have t := hol_two (a := a) (b := b) (c := c) (d := d) (e := e) (f := f) ⟨y0, y1, y2, y3, [x, y]⟩ n 1 (by omega) (Or.inr h0) hl (by rw [show (((⟨y0, y1, y2, y3, [x, y]⟩ : S24).f4.length : Nat) : Int) = 2 from rfl]; kernel_rfl) (p := (p, true)) (q := (q, true)) e1 e2
  refine ev_eq t ?_
  rcases h0 with rfl | rfl <;> cases p <;> cases q <;> rfl
theorem not_ev {m : Nat} {y1 : Int} {y2 : ByteArray} {y3 : Int} {x : S24} {p : Bool} (hx : G a b c d e f m x p) : G a b c d e f (m + 1) ⟨3, y1, y2, y3, [x]⟩ (!p) := by
  intro n hn
  have e1 := hx (n + 1) (by omega)
  have t := hol_two (a := a) (b := b) (c := c) (d := d) (e := e) (f := f) ⟨3, y1, y2, y3, [x]⟩ n 0 (by omega) (Or.inl rfl) rfl (by rw [show (((⟨3, y1, y2, y3, [x]⟩ : S24).f4.length : Nat) : Int) = 1 from rfl]; kernel_rfl) (p := (p, true)) (q := (p, true)) e1 e1
  refine ev_eq t ?_
  cases p <;> rfl
theorem Holds_ev {m : Nat} {x : S24} {v : Bool} (h : G a b c d e f m x v) (hm : m ≤ 6) : Ev (fun k => post_Holds.f k x.f0 x.f1 x.f2 x.f3 x.f4 lx rx [[a, b], [c, d]] [e, f]) (v, true) := by
  unfold post_Holds.f
  exact Ev.bind (h 0 (by omega)) (Ev.now _)
/-- What cond makes. -/
def Made (m : Nat) (k : Int) (l : List Int) (z : Int) : Prop := ∃ (x : S24) (v : Bool) (rest : List Int), Ev (fun k => withelaw11_cond.f k l z) (x.f0, x.f1, x.f2, x.f3, x.f4, rest) ∧ G a b c d e f m x v
theorem par (n : Int) : (n % 256) % 2 = 0 ∨ (n % 256) % 2 = 1 := by omega
theorem leaf_ev (k : Int) (l : List Int) (z : Int) : ∃ (x : S24) (v : Bool), Ev (fun n => withelaw11_cond.j0 n l z k false) (x.f0, x.f1, x.f2, x.f3, x.f4, l) ∧ G a b c d e f 1 x v := by
  by_cases h2 : Int.tmod k 2 = 0
  · rcases par (Int.tdiv k 2) with h | h
    · refine ⟨⟨1, 0, (⟨#[120]⟩ : ByteArray), ((Int.tdiv k 4) % 256) % 3, []⟩, _, ?_, mem0 _⟩
      refine Ev.step (fun n => by simp only [withelaw11_cond.j0]; rfl) (ev_else (by decide) (ev_if h2 (ev_bind0 rfl ?_)))
      rw [h]
      exact ev_if (by decide) (ev_if (by decide) (Ev.now _))
    · refine ⟨⟨1, 0, (⟨#[121]⟩ : ByteArray), ((Int.tdiv k 4) % 256) % 3, []⟩, _, ?_, mem1 _⟩
      refine Ev.step (fun n => by simp only [withelaw11_cond.j0]; rfl) (ev_else (by decide) (ev_if h2 (ev_bind0 rfl ?_)))
      rw [h]
      exact ev_if (by decide) (ev_if (by decide) (Ev.now _))
  · rcases par (Int.tdiv k 2) with h | h <;> rcases par (Int.tdiv k 4) with h4 | h4
    · refine ⟨⟨2, 0, (⟨#[97]⟩ : ByteArray), ((Int.tdiv k 8) % 256) % 3, []⟩, _, ?_, reg00 _⟩
      refine Ev.step (fun n => by simp only [withelaw11_cond.j0]; rfl) (ev_else (by decide) (ev_else h2 (ev_bind0 rfl ?_)))
      rw [h, h4]
      exact ev_if (by decide) (ev_if (by decide) (ev_if (by decide) (ev_if (by decide) (Ev.now _))))
    · refine ⟨⟨2, 0, (⟨#[98]⟩ : ByteArray), ((Int.tdiv k 8) % 256) % 3, []⟩, _, ?_, reg01 _⟩
      refine Ev.step (fun n => by simp only [withelaw11_cond.j0]; rfl) (ev_else (by decide) (ev_else h2 (ev_bind0 rfl ?_)))
      rw [h, h4]
      exact ev_if (by decide) (ev_if (by decide) (ev_if (by decide) (ev_if (by decide) (Ev.now _))))
    · refine ⟨⟨2, 1, (⟨#[97]⟩ : ByteArray), ((Int.tdiv k 8) % 256) % 3, []⟩, _, ?_, reg10 _⟩
      refine Ev.step (fun n => by simp only [withelaw11_cond.j0]; rfl) (ev_else (by decide) (ev_else h2 (ev_bind0 rfl ?_)))
      rw [h, h4]
      exact ev_if (by decide) (ev_if (by decide) (ev_if (by decide) (ev_if (by decide) (Ev.now _))))
    · refine ⟨⟨2, 1, (⟨#[99]⟩ : ByteArray), ((Int.tdiv k 8) % 256) % 3, []⟩, _, ?_, reg11 _⟩
      refine Ev.step (fun n => by simp only [withelaw11_cond.j0]; rfl) (ev_else (by decide) (ev_else h2 (ev_bind0 rfl ?_)))
      rw [h, h4]
      exact ev_if (by decide) (ev_if (by decide) (ev_if (by decide) (ev_if (by decide) (Ev.now _))))
theorem op_of (k : Int) (h : Int.tmod k 5 > 1) (h2 : ¬ Int.tmod k 5 = 2) : wrap64 ((wrap64 (4 + (wrap64 (Int.tmod k 5)))) - 3) = 4 ∨ wrap64 ((wrap64 (4 + (wrap64 (Int.tmod k 5)))) - 3) = 5 := by
  have h3 := Int.tmod_lt_of_pos k (show (0 : Int) < 5 by decide)
  rw [w64 (n := Int.tmod k 5) (by omega) (by omega), w64 (n := 4 + _) (by omega) (by omega), w64 (by omega) (by omega)]
  omega
theorem cond_ev : ∀ (m : Nat) (l : List Int), m ≤ 3 → ∃ (x : S24) (v : Bool) (rest : List Int), Ev (fun n => withelaw11_cond.f n l (m : Int)) (x.f0, x.f1, x.f2, x.f3, x.f4, rest) ∧ G a b c d e f (m + 1) x v
  | m, [], hm => by
    refine ⟨⟨1, 0, (⟨#[120]⟩ : ByteArray), 0, []⟩, _, [], ?_, (mem0 0).up (by omega)⟩
    exact Ev.step (fun n => by simp only [withelaw11_cond.f]; rfl) (ev_if (c := ((([] : List Int).length : Int) = 0)) rfl (Ev.now _))
  | 0, k :: l, hm => by
    obtain ⟨x, v, h, g⟩ := leaf_ev (a := a) (b := b) (c := c) (d := d) (e := e) (f := f) k l 0
    refine ⟨x, v, l, ?_, g⟩
    refine Ev.step (fun n => by simp only [withelaw11_cond.f]; rfl) (ev_else (by simp only [List.length_cons]; omega) (ev_if (by simp only [List.length_cons]; omega) (ev_if (by simp only [List.length_cons]; omega) (ev_else (by decide) ?_))))
    exact h
  | m + 1, k :: l, hm => by
    by_cases hk : Int.tmod k 5 > 1
    · obtain ⟨⟨x0, x1, x2, x3, x4⟩, p, rest, hx, gx⟩ := cond_ev m l (by omega)
      by_cases h2 : Int.tmod k 5 = 2
      · refine ⟨⟨3, 0, (⟨#[]⟩ : ByteArray), 0, [⟨x0, x1, x2, x3, x4⟩]⟩, _, rest, ?_, not_ev gx⟩
        refine Ev.step (fun n => by simp only [withelaw11_cond.f]; rfl) (ev_else (by simp only [List.length_cons]; omega) (ev_if (by simp only [List.length_cons]; omega) (ev_if (by simp only [List.length_cons]; omega) (ev_if (by omega) ?_))))
        show Ev (fun n => withelaw11_cond.j0 n l ((m + 1 : Nat) : Int) k (decide (Int.tmod k 5 > 1))) _
        rw [decide_eq_true hk]
        refine Ev.step (fun n => by simp only [withelaw11_cond.j0]; rfl) (ev_if (c := true = true) rfl ?_)
        rw [w64 (by omega) (by omega), show ((m + 1 : Nat) : Int) - 1 = (m : Int) by omega]
        refine Ev.bind hx (ev_if h2 ?_)
        exact Ev.now _
      · obtain ⟨⟨z0, z1, z2, z3, z4⟩, q, rest2, hy, gy⟩ := cond_ev m rest (by omega)
        refine ⟨⟨wrap64 ((wrap64 (4 + (wrap64 (Int.tmod k 5)))) - 3), 0, (⟨#[]⟩ : ByteArray), 0, [⟨x0, x1, x2, x3, x4⟩, ⟨z0, z1, z2, z3, z4⟩]⟩, _, rest2, ?_, two_ev (op_of k hk h2) gx gy⟩
        refine Ev.step (fun n => by simp only [withelaw11_cond.f]; rfl) (ev_else (by simp only [List.length_cons]; omega) (ev_if (by simp only [List.length_cons]; omega) (ev_if (by simp only [List.length_cons]; omega) (ev_if (by omega) ?_))))
        show Ev (fun n => withelaw11_cond.j0 n l ((m + 1 : Nat) : Int) k (decide (Int.tmod k 5 > 1))) _
        rw [decide_eq_true hk]
        refine Ev.step (fun n => by simp only [withelaw11_cond.j0]; rfl) (ev_if (c := true = true) rfl ?_)
        rw [w64 (n := ((m + 1 : Nat) : Int) - 1) (by omega) (by omega), show ((m + 1 : Nat) : Int) - 1 = (m : Int) by omega]
        refine Ev.bind hx (ev_else h2 (Ev.bind hy ?_))
        exact Ev.now _
    · obtain ⟨x, v, h, g⟩ := leaf_ev (a := a) (b := b) (c := c) (d := d) (e := e) (f := f) k l ((m + 1 : Nat) : Int)
      refine ⟨x, v, l, ?_, g.up (by omega)⟩
      refine Ev.step (fun n => by simp only [withelaw11_cond.f]; rfl) (ev_else (by simp only [List.length_cons]; omega) (ev_if (by simp only [List.length_cons]; omega) (ev_if (by simp only [List.length_cons]; omega) (ev_if (by omega) ?_))))
      show Ev (fun n => withelaw11_cond.j0 n l ((m + 1 : Nat) : Int) k (decide (Int.tmod k 5 > 1))) _
      rw [decide_eq_false hk]
      exact h
theorem law_j1 {x y : S24} {p q : Bool} (hx : G a b c d e f 4 x p) (hy : G a b c d e f 4 y q) : Ev (fun k => withelaw11_PostRules.j1 k lx rx p q false [[a, b], [c, d]] [e, f] x.f0 x.f1 x.f2 x.f3 x.f4 y.f0 y.f1 y.f2 y.f3 y.f4) true := by
  have h4 : Ev (fun k => post_Holds.f k 4 0 (⟨#[]⟩ : ByteArray) 0 [x, y] lx rx [[a, b], [c, d]] [e, f]) (p && q, true) := Holds_ev (two_ev (y0 := 4) (y1 := 0) (y2 := ⟨#[]⟩) (y3 := 0) (Or.inl rfl) hx hy) (by omega)
  have h5 : Ev (fun k => post_Holds.f k 5 0 (⟨#[]⟩ : ByteArray) 0 [x, y] lx rx [[a, b], [c, d]] [e, f]) (p || q, true) := Holds_ev (two_ev (y0 := 5) (y1 := 0) (y2 := ⟨#[]⟩) (y3 := 0) (Or.inr rfl) hx hy) (by omega)
  have g3 : G a b c d e f 5 ⟨3, 0, (⟨#[]⟩ : ByteArray), 0, [x]⟩ (!p) := not_ev hx
  have h3 : Ev (fun k => post_Holds.f k 3 0 (⟨#[]⟩ : ByteArray) 0 [x] lx rx [[a, b], [c, d]] [e, f]) (!p, true) := Holds_ev g3 (by omega)
  have h6 : Ev (fun k => post_Holds.f k 3 0 (⟨#[]⟩ : ByteArray) 0 [⟨3, 0, (⟨#[]⟩ : ByteArray), 0, [x]⟩] lx rx [[a, b], [c, d]] [e, f]) (!!p, true) := Holds_ev (not_ev (y1 := 0) (y2 := ⟨#[]⟩) (y3 := 0) g3) (by omega)
  obtain ⟨x0, x1, x2, x3, x4⟩ := x
  obtain ⟨z0, z1, z2, z3, z4⟩ := y
  dsimp only
  refine Ev.step (fun k => by simp only [withelaw11_PostRules.j1]; rfl) (ev_else (by decide) (ev_bind0 rfl ?_))
  refine Ev.bind h4 (Ev.bind h5 (ev_if (by simp) (Ev.bind h3 (Ev.bind h6 ?_))))
  cases p <;> cases q <;> exact Ev.of (fun k => LeO.refl _) (k := 0) (by kernel_rfl)
end
theorem begun_ev : Ev (fun k => withelaw11_begun.f k) true := Ev.of withelaw11_begun.mono (k := 60) (by kernel_rfl)
theorem PostRules (l0 l1 : List Int) (a0 a1 a2 a3 a4 a5 : Int) : ∃ k, withelaw11_PostRules.f k l0 l1 a0 a1 a2 a3 a4 a5 = some true := by
  refine Ev.rounds ?_
  unfold withelaw11_PostRules.f
  refine Ev.bind begun_ev (ev_if rfl ?_)
  have big : ∀ b0 b1 b2 b3 b4 b5, Ev (fun k => withelaw11_PostRules.j0 k l0 l1 true b0 b1 b2 b3 b4 b5) true := fun b0 b1 b2 b3 b4 b5 =>
    Ev.step (fun k => by simp only [withelaw11_PostRules.j0]; rfl) (ev_if (c := true = true) rfl (Ev.now _))
  by_cases h : (l0.length : Int) > 20
  · exact ev_if h (big _ _ _ _ _ _)
  refine ev_else h ?_
  by_cases h1 : (l1.length : Int) > 20
  · rw [decide_eq_true h1]
    exact big _ _ _ _ _ _
  rw [decide_eq_false h1]
  refine Ev.step (fun k => by simp only [withelaw11_PostRules.j0]; rfl) (ev_else (by decide) ?_)
  refine ev_bind0 (f := withelaw11_names.f) rfl (ev_bind0 (f := withelaw11_made.f a0 a1 a2 a3 a4 a5) rfl ?_)
  obtain ⟨x, p, r1, hx, gx⟩ := cond_ev (a := wrap64 (Int.tmod a0 3)) (b := wrap64 (Int.tmod a1 3)) (c := wrap64 (Int.tmod a2 3)) (d := wrap64 (Int.tmod a3 3)) (e := wrap64 (Int.tmod a4 3)) (f := wrap64 (Int.tmod a5 3)) 3 l0 (by omega)
  obtain ⟨y, q, r2, hy, gy⟩ := cond_ev (a := wrap64 (Int.tmod a0 3)) (b := wrap64 (Int.tmod a1 3)) (c := wrap64 (Int.tmod a2 3)) (d := wrap64 (Int.tmod a3 3)) (e := wrap64 (Int.tmod a4 3)) (f := wrap64 (Int.tmod a5 3)) 3 l1 (by omega)
  refine Ev.bind hx (Ev.bind hy (Ev.bind (Holds_ev gx (by omega)) (Ev.bind (Holds_ev gy (by omega)) (ev_if rfl ?_))))
  exact law_j1 gx gy
end Go.Proofs.YtbgcmbnnkigjjaaDoor.RU
