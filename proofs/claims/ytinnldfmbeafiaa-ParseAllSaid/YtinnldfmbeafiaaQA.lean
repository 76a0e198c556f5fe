/- The code's cursor, and what reading comes to. -/
import Derived.Test.YtinnldfmbeafiaaPAx0
import Derived.Lib.OthersKept
namespace Go.Proofs.Ytinnldfmbeafiaa.PA
open Go.RowKit Go.Proofs.YtinnldfmbeafiaaW.PrintWords Go.Proofs.YtinnldfmbeafiaaW.PrintLast Go.Proofs.YtinnldfmbeafiaaW.PrintMore
set_option linter.unusedVariables false
set_option linter.unusedSimpArgs false
abbrev Y : Bool := true
abbrev Z : Bool := false
theorem pA {α : Type} (l : List α) (i : Nat) (a : α) : l.toArray.setIfInBounds i a = (l.set i a).toArray := List.setIfInBounds_toArray ..
theorem pB {α : Type} (x : α) (xs : List α) (b : α) : (x :: xs).set 0 b = b :: xs := rfl
theorem pC {α : Type} (x : α) (xs : List α) (i : Nat) (b : α) : (x :: xs).set (i + 1) b = x :: xs.set i b := rfl
theorem blk_celln {w : World} {g : Nat} {l : List Value} {t : TypeId} (h : w.heap[g]? = some (.cells ⟨l⟩ t (0, 0))) (k : Nat) (v : Value) {tl : List Value} (hv : l.drop k = v :: tl) : w.cell? ⟨g, k, none⟩ = some v := by
  rw [blk_cell h k]
  have e : l[k]? = some v := by
    have e1 : l[k]? = (l.drop k)[0]? := by simp
    rw [e1, hv]
    rfl
  simpa using e
/-! ### What reading comes to -/
/-- Too few rounds; a token that does not go on; a thing, the next token, parts that began. -/
inductive Res (α : Type) where
  | out : Res α
  | fail (p : Nat) : Res α
  | ok (v : α) (i : Nat) (q : List Int) : Res α
def Res.bind {α β : Type} (r : Res α) (f : α → Nat → Res β) : Res β :=
  match r with
  | .out => .out
  | .fail p => .fail p
  | .ok v i q => match f v i with
    | .out => .out
    | .fail p => .fail p
    | .ok w j s => .ok w j (q ++ s)
/-- Where the reading stands. -/
structure Cs where
  i : Nat
  bad : Bool
  ps : List Int
/-- From one state to another by what reading comes to; a bad state stays. -/
def Step {α : Type} (s : Cs) (r : Res α) (x : α) (t : Cs) : Prop :=
  (s.bad = true → t.bad = true ∧ t.i = s.i) ∧ (s.bad = false → (∃ p, r = .fail p ∧ t.bad = true ∧ t.i = p) ∨ ∃ j q, r = .ok x j q ∧ t = ⟨j, false, s.ps ++ q⟩)
/-- There are rounds enough. -/
def Ne {α : Type} (s : Cs) (r : Res α) : Prop := s.bad = false → r ≠ .out
section
variable {α β : Type} {s t u : Cs} {r : Res α} {x : α} {y : β} {f : α → Nat → Res β}
theorem Step.bind (h : Step s r x t) (k : Step t (f x t.i) y u) : Step s (r.bind f) y u := by
  refine ⟨fun hb => ?_, fun hb => ?_⟩
  · obtain ⟨h1, h2⟩ := h.1 hb
    obtain ⟨k1, k2⟩ := k.1 h1
    exact ⟨k1, k2.trans h2⟩
  · rcases h.2 hb with ⟨p, rfl, h1, h2⟩ | ⟨j, q, rfl, rfl⟩
    · obtain ⟨k1, k2⟩ := k.1 h1
      exact .inl ⟨p, rfl, k1, k2.trans h2⟩
    · rcases k.2 rfl with ⟨p, hp, k1, k2⟩ | ⟨l, q', hp, rfl⟩
      · exact .inl ⟨p, by simp only [Res.bind]; rw [show f x j = .fail p from hp], k1, k2⟩
      · exact .inr ⟨l, q ++ q', by simp only [Res.bind]; rw [show f x j = .ok y l q' from hp], by simp⟩
theorem Ne.first (h : Ne s (r.bind f)) : Ne s r := fun hb e => h hb (by rw [e]; rfl)
theorem Ne.next (h : Ne s (r.bind f)) (k : Step s r x t) : Ne t (f x t.i) := by
  intro hb e
  cases hs : s.bad with
  | true => rw [(k.1 hs).1] at hb; cases hb
  | false =>
    rcases k.2 hs with ⟨p, _, h1, _⟩ | ⟨j, q, rfl, rfl⟩
    · rw [h1] at hb; cases hb
    · exact h hs (by simp only [Res.bind]; rw [show f x j = .out from e])
theorem Step.bad (hb : s.bad = true) (h1 : t.bad = true) (h2 : t.i = s.i) : Step s r x t := ⟨fun _ => ⟨h1, h2⟩, fun h => by rw [hb] at h; cases h⟩
theorem Step.fail (h : s.bad = false → r = .fail s.i) (h1 : t.bad = true) (h2 : t.i = s.i) : Step s r x t := ⟨fun _ => ⟨h1, h2⟩, fun hb => .inl ⟨s.i, h hb, h1, h2⟩⟩
theorem Step.good {j : Nat} {q : List Int} (hb : s.bad = false) (h : r = .ok x j q) (ht : t = ⟨j, false, s.ps ++ q⟩) : Step s r x t := ⟨fun hb' => (by rw [hb] at hb'; cases hb'), fun _ => .inr ⟨j, q, h, ht⟩⟩
end
/-! ### The cursor in memory -/
structure Env where
  w0 : World
  g : Nat
  A : Option Addr
  c : Nat
  ts : List S53
/-- The token there. -/
def Env.tk (E : Env) (i : Nat) : S53 := rd_T53 E.ts (i : Int)
structure Env.Ok (E : Env) : Prop where
  row : Kd.C k53 E.w0 E.A E.ts.length E.ts
  cap : E.ts.length ≤ E.c
  fin : ∀ i, i < E.ts.length → (E.tk i).f0 ≠ 4 → i + 1 < E.ts.length
  few : E.ts.length ≤ 100000
theorem ints_move {w w1 : World} {b : Nat} {ok : Nat → Prop} {v : Value} {xs : List Int} (h : Kd.R (Kd.int .i64) 3 w b ok v xs) (hm : ∀ k, v.ownBlock = some k → w1.heap[k]? = w.heap[k]?) : Kd.R (Kd.int .i64) 3 w1 b (fun _ => True) v xs :=
  Kd.R_mono (Kd.R_move (Kd.R_tight rfl h) (fun k hk => hm k hk.symm)) (fun _ _ => trivial)
def CU (E : Env) (s : Cs) (w : World) : Prop :=
  E.w0.heap.size ≤ E.g ∧ ∃ v, w.heap[E.g]? = some (.cells #[.slice E.A E.ts.length E.c, .int .i64 (s.i : Int), .bool s.bad, v] 85 (0, 0)) ∧ Kd.R (Kd.int .i64) 3 w E.w0.heap.size (fun _ => True) v s.ps ∧ v.ownBlock ≠ some E.g
structure ST (E : Env) (s : Cs) (w : World) : Prop where
  ok : E.Ok
  cu : CU E s w
  below : Below E.w0.heap.size E.w0 w
  lt : s.i < E.ts.length
/-- All that is no row of numbers, nor the cursor, stands. -/
def KP (E : Env) (w w1 : World) : Prop := Lib.OthersKept 3 (some E.g) w w1 ∧ w.heap.size ≤ w1.heap.size
section
variable {E : Env} {s : Cs} {w w1 w2 : World}
theorem KP.refl (E : Env) (w : World) : KP E w w := ⟨Lib.OthersKept.refl _ _ _, Nat.le_refl _⟩
theorem KP.trans (h : KP E w w1) (k : KP E w1 w2) : KP E w w2 := ⟨h.1.trans k.1, Nat.le_trans h.2 k.2⟩
theorem KP.below (h : Below w.heap.size w w1) : KP E w w1 := ⟨fun k o hk _ _ => blk_below hk h, h.size⟩
theorem CU.below (h : CU E s w) (hb : Below w.heap.size w w1) : CU E s w1 := by
  obtain ⟨hB, v, hbk, hown, hne⟩ := h
  exact ⟨hB, v, blk_below hbk hb, ints_move hown (fun k hk => by
    obtain ⟨c, hc⟩ := Kd.R_typed hown k hk
    rw [blk_below hc hb, hc]), hne⟩
theorem ST.mv (h : ST E s w) (hb : Below w.heap.size w w1) : ST E s w1 := ⟨h.ok, h.cu.below hb, h.below.trans (hb.mono h.below.size), h.lt⟩
theorem ST.drew (h : ST E s w) : ST E s w.drew := h.mv (below_drew (Below.refl _ _))
theorem ST.blk (h : ST E s w) : ∃ v, w.heap[E.g]? = some (.cells #[.slice E.A E.ts.length E.c, .int .i64 (s.i : Int), .bool s.bad, v] 85 (0, 0)) := by
  obtain ⟨_, v, hb, _⟩ := h.cu
  exact ⟨v, hb⟩
theorem ST.c0 (h : ST E s w) : w.cell? ⟨E.g, 0, none⟩ = some (.slice E.A E.ts.length E.c) := by
  obtain ⟨v, hb⟩ := h.blk
  exact blk_celln hb 0 _ rfl
theorem ST.c1 (h : ST E s w) : w.cell? ⟨E.g, 1, none⟩ = some (.int .i64 (s.i : Int)) := by
  obtain ⟨v, hb⟩ := h.blk
  exact blk_celln hb 1 _ rfl
theorem ST.c2 (h : ST E s w) : w.cell? ⟨E.g, 2, none⟩ = some (.bool s.bad) := by
  obtain ⟨v, hb⟩ := h.blk
  exact blk_celln hb 2 _ rfl
theorem ST.fz (h : ST E s w) (j : Nat) : w.frozen? ⟨E.g, j, none⟩ = false := by
  obtain ⟨v, hb⟩ := h.blk
  exact blk_frozen hb j
theorem ST.ne (h : ST E s w) {k : Nat} {cs : Array Value} {t : TypeId} (hk : w.heap[k]? = some (.cells cs t (0, 0))) (ht : t ≠ 85) : k ≠ E.g := by
  obtain ⟨v, hb⟩ := h.blk
  exact blk_ne hk hb ht
theorem KP.blk (h : KP E w w1) {k : Nat} {cs : Array Value} {t : TypeId} (hk : w.heap[k]? = some (.cells cs t (0, 0))) (hne : k ≠ E.g) (ht : t ≠ 3) : w1.heap[k]? = some (.cells cs t (0, 0)) :=
  h.1 k _ hk (fun e => hne (Option.some.inj e)) (fun c fz e => by
    injection e with _ e2
    exact ht e2)
/-- A token is read. -/
theorem ST.tok (h : ST E s w) : ∃ ad, E.A = some ad ∧ w.cell? (ad.add (s.i * 4)) = some (.int .i64 (E.tk s.i).f0) ∧ w.cell? ⟨(ad.add (s.i * 4)).block, (ad.add (s.i * 4)).off + 1, none⟩ = some (.string (E.tk s.i).f1) ∧ w.cell? ⟨(ad.add (s.i * 4)).block, (ad.add (s.i * 4)).off + 2, none⟩ = some (.int .i64 (E.tk s.i).f2) ∧ w.cell? ⟨(ad.add (s.i * 4)).block, (ad.add (s.i * 4)).off + 3, none⟩ = some (.int .i64 (E.tk s.i).f3) := by
  have hl := h.lt
  obtain ⟨ad, e, y0, y1, y2, y3⟩ := at_T53 h.ok.row (s.i : Int) (by omega) (by omega)
  simp only [Int.toNat_natCast] at y0 y1 y2 y3
  have cb : ∀ {a : Addr} {v : Value}, E.w0.cell? a = some v → w.cell? a = some v := fun hc => (h.below.cell (World.block_lt_of_cell? _ _ hc)).trans hc
  exact ⟨ad, e, cb y0, cb y1, cb y2, cb y3⟩
/-- The cursor goes on by one. -/
theorem ST.go (h : ST E s w) (hl : s.i + 1 < E.ts.length) : ST E ⟨s.i + 1, s.bad, s.ps⟩ (w.setCell ⟨E.g, 1, none⟩ (.int .i64 ((s.i + 1 : Nat) : Int))) ∧ KP E w (w.setCell ⟨E.g, 1, none⟩ (.int .i64 ((s.i + 1 : Nat) : Int))) := by
  obtain ⟨hB, v, hbk, hown, hne⟩ := h.cu
  refine ⟨⟨h.ok, ⟨hB, v, blk_put hbk 1 _ rfl, ints_move hown (fun k hk => Below.heap_setCell _ ⟨E.g, 1, none⟩ _ k (fun e => hne (by rw [hk, e]))), hne⟩, h.below.setCell (p := ⟨E.g, 1, none⟩) hB _, hl⟩, (Lib.OthersKept.refl 3 (some E.g) w).setCell ⟨E.g, 1, none⟩ rfl _, by simp [World.setCell]⟩
/-- The token there does not go on. -/
theorem ST.fail (h : ST E s w) : ST E ⟨s.i, true, s.ps⟩ (w.setCell ⟨E.g, 2, none⟩ (.bool true)) ∧ KP E w (w.setCell ⟨E.g, 2, none⟩ (.bool true)) := by
  obtain ⟨hB, v, hbk, hown, hne⟩ := h.cu
  refine ⟨⟨h.ok, ⟨hB, v, blk_put hbk 2 _ rfl, ints_move hown (fun k hk => Below.heap_setCell _ ⟨E.g, 2, none⟩ _ k (fun e => hne (by rw [hk, e]))), hne⟩, h.below.setCell (p := ⟨E.g, 2, none⟩) hB _, h.lt⟩, (Lib.OthersKept.refl 3 (some E.g) w).setCell ⟨E.g, 2, none⟩ rfl _, by simp [World.setCell]⟩
/-- Two worlds alike but in a block. -/
structure Only (g : Nat) (w w1 : World) : Prop where
  block : ∀ k, k ≠ g → w1.heap[k]? = w.heap[k]?
  below : Below g w w1
theorem Only.refl (g : Nat) (w : World) : Only g w w := ⟨fun _ _ => rfl, Below.refl _ _⟩
theorem Only.set {g : Nat} (h : Only g w w1) (j : Nat) (v : Value) : Only g w (w1.setCell ⟨g, j, none⟩ v) :=
  ⟨fun k hk => (Below.heap_setCell w1 ⟨g, j, none⟩ v k hk).trans (h.block k hk), h.below.setCell (p := ⟨g, j, none⟩) (Nat.le_refl g) _⟩
theorem ST.only {g : Nat} {cs : Array Value} {t : TypeId} (h : ST E s w) (hb : w.heap[g]? = some (.cells cs t (0, 0))) (h1 : t ≠ 85) (h2 : t ≠ 3) (hg : E.w0.heap.size ≤ g) (ho : Only g w w1) : ST E s w1 := by
  obtain ⟨hB, v, hbk, hown, hne⟩ := h.cu
  refine ⟨h.ok, ⟨hB, v, (ho.block _ (fun e => h.ne hb h1 e.symm)).trans hbk, ints_move hown (fun k hk => ho.block k (fun e => ?_)), hne⟩, h.below.trans (ho.below.mono hg), h.lt⟩
  obtain ⟨c, hc⟩ := Kd.R_typed hown k hk
  rw [e, hb] at hc
  injection hc with hc
  injection hc with _ hc
  exact h2 hc
theorem KP.only {g : Nat} {wi : World} (h : KP E wi w) (hg : wi.heap.size ≤ g) (ho : Only g w w1) : KP E wi w1 :=
  ⟨fun k o hk hb hn => (ho.block k (fun e => by
    have := (Array.getElem?_eq_some_iff.1 hk).1
    omega)).trans (h.1 k o hk hb hn), Nat.le_trans h.2 ho.below.size⟩
/-- Blocks from one on, that are no row of numbers, nor the cursor, nor a block. -/
def GD (E : Env) (x b : Nat) (w : World) (k : Nat) : Prop := b ≤ k ∧ k ≠ E.g ∧ (∀ c fz, w.heap[k]? ≠ some (.cells c 3 fz)) ∧ k ≠ x
theorem FK.to {α : Type} {d : Kd α} {z b : Nat} {x : α} {c : List Value} (h : Kd.FK d w (GD E z b w) x c) (hm : ∀ k, GD E z b w k → k < w.heap.size → w1.heap[k]? = w.heap[k]?) : Kd.FK d w1 (GD E z b w1) x c :=
  Kd.FK_mono (Kd.FK_step (Kd.FK_bound h) (fun k hk _ => hm k hk.1 hk.2)) (fun k hk => ⟨hk.1.1, hk.1.2.1, fun c fz => (by rw [hm k hk.1 hk.2]; exact hk.1.2.2.1 c fz), hk.1.2.2.2⟩)
theorem F.to {α : Type} {d : Kd α} {z b : Nat} {A : Option Addr} {n : Nat} {xs : List α} (h : Kd.F d w (GD E z b w) A n xs) (hm : ∀ k, GD E z b w k → k < w.heap.size → w1.heap[k]? = w.heap[k]?) : Kd.F d w1 (GD E z b w1) A n xs :=
  Kd.F_mono (Kd.F_step (Kd.F_bound h) (fun k hk _ => hm k hk.1 hk.2)) (fun k hk => ⟨hk.1.1, hk.1.2.1, fun c fz => (by rw [hm k hk.1 hk.2]; exact hk.1.2.2.1 c fz), hk.1.2.2.2⟩)
theorem KP.gd {z b : Nat} (h : KP E w w1) : ∀ k, GD E z b w k → k < w.heap.size → w1.heap[k]? = w.heap[k]? := by
  intro k hk hlt
  have e := Array.getElem?_eq_getElem hlt
  rw [h.1 k _ e (fun e => hk.2.1 (Option.some.inj e)) (fun c fz hc => hk.2.2.1 c fz (by rw [e, hc])), e]
theorem Only.gd {z b g : Nat} (h : Only g w w1) (hg : g < b ∨ g = z) : ∀ k, GD E z b w k → k < w.heap.size → w1.heap[k]? = w.heap[k]? := fun k hk _ => h.block k (by
  have := hk.1
  have := hk.2.2.2
  omega)
theorem F.only {α : Type} {d : Kd α} {z b g : Nat} {A : Option Addr} {n : Nat} {xs : List α} (h : Kd.F d w (GD E z b w) A n xs) (ho : Only g w w1) (hg : g < b ∨ g = z) : Kd.F d w1 (GD E z b w1) A n xs := F.to h (ho.gd hg)
/-- What is there leads to no block that is yet to come. -/
theorem F.skip {α : Type} {d : Kd α} {z b g : Nat} {A : Option Addr} {n : Nat} {xs : List α} (h : Kd.F d w (GD E z b w) A n xs) (hg : w.heap.size ≤ g) : Kd.F d w (GD E g b w) A n xs :=
  Kd.F_mono (Kd.F_bound h) (fun k hk => ⟨hk.1.1, hk.1.2.1, hk.1.2.2.1, by have := hk.2; omega⟩)
/-- .. or to none that is below. -/
theorem F.free {α : Type} {d : Kd α} {z b g : Nat} {A : Option Addr} {n : Nat} {xs : List α} (h : Kd.F d w (GD E z b w) A n xs) (hg : g < b) : Kd.F d w (GD E g b w) A n xs :=
  Kd.F_mono h (fun k hk => ⟨hk.1, hk.2.1, hk.2.2.1, by have := hk.1; omega⟩)
theorem F.any {α : Type} {d : Kd α} {z b : Nat} {A : Option Addr} {n : Nat} {xs : List α} (h : Kd.F d w (GD E z b w) A n xs) : Kd.F d w (GD E E.g b w) A n xs :=
  Kd.F_mono h (fun k hk => ⟨hk.1, hk.2.1, hk.2.2.1, hk.2.1⟩)
theorem GD.lower {z b b' k : Nat} (hb : b' ≤ b) (h : GD E z b w k) : GD E z b' w k := ⟨Nat.le_trans hb h.1, h.2⟩
theorem F.kp {α : Type} {d : Kd α} {z b : Nat} {A : Option Addr} {n : Nat} {xs : List α} (h : Kd.F d w (GD E z b w) A n xs) (hk : KP E w w1) : Kd.F d w1 (GD E z b w1) A n xs := F.to h hk.gd
theorem F.lower {α : Type} {d : Kd α} {z b b' : Nat} {A : Option Addr} {n : Nat} {xs : List α} (h : Kd.F d w (GD E z b w) A n xs) (hb : b' ≤ b) : Kd.F d w (GD E z b' w) A n xs := Kd.F_mono h (fun _ hk => hk.lower hb)
theorem FK.kp {α : Type} {d : Kd α} {z b : Nat} {x : α} {c : List Value} (h : Kd.FK d w (GD E z b w) x c) (hk : KP E w w1) : Kd.FK d w1 (GD E z b w1) x c := FK.to h hk.gd
theorem FK.lower {α : Type} {d : Kd α} {z b b' : Nat} {x : α} {c : List Value} (h : Kd.FK d w (GD E z b w) x c) (hb : b' ≤ b) : Kd.FK d w (GD E z b' w) x c := Kd.FK_mono h (fun _ hk => hk.lower hb)
theorem F.nil {α : Type} (d : Kd α) (E : Env) (z b : Nat) (w : World) : Kd.F d w (GD E z b w) none ([] : List α).length [] := Kd.F_nil d w _
theorem C_one' {α : Type} {d : Kd α} {w : World} {g : Nat} {x : α} {cs : List Value} {t : TypeId} (h : w.heap[g]? = some (.cells ⟨cs⟩ t (0, 0))) (hK : d.K w x cs) : Kd.C d w (some ⟨g, 0, none⟩) 1 [x] := by
  refine ⟨rfl, by decide, fun _ => ⟨_, rfl, fun j p hj => ?_⟩⟩
  have h0 : j = 0 := by
    have := (List.getElem?_eq_some_iff.1 hj).1
    simp at this
    omega
  subst h0
  have hp : x = p := by simpa using hj
  subst hp
  refine ⟨cs, d.K_len hK, hK, fun i u hu => ?_⟩
  have e : (⟨g, 0, none⟩ : Addr).add (0 * d.sz + i) = ⟨g, i, none⟩ := by
    simp [Addr.add]
    intro h0
    exact h0.symm
  rw [e, blk_cell h i]
  simpa using hu
theorem C_two' {α : Type} {d : Kd α} {w : World} {g : Nat} {x y : α} {cs ds : List Value} {t : TypeId} (h : w.heap[g]? = some (.cells ⟨cs ++ ds⟩ t (0, 0))) (hK : d.K w x cs) (hL : d.K w y ds) : Kd.C d w (some ⟨g, 0, none⟩) 2 [x, y] := by
  have lc := d.K_len hK
  have ld := d.K_len hL
  refine ⟨rfl, by decide, fun _ => ⟨_, rfl, fun j p hj => ?_⟩⟩
  have h0 : j = 0 ∨ j = 1 := by
    have := (List.getElem?_eq_some_iff.1 hj).1
    simp at this
    omega
  rcases h0 with rfl | rfl
  · have hp : x = p := by simpa using hj
    subst hp
    refine ⟨cs, lc, hK, fun i u hu => ?_⟩
    have e : (⟨g, 0, none⟩ : Addr).add (0 * d.sz + i) = ⟨g, i, none⟩ := by
      simp [Addr.add]
      intro h0
      exact h0.symm
    have hi := (List.getElem?_eq_some_iff.1 hu).1
    rw [e, blk_cell h i, List.getElem?_toArray, List.getElem?_append_left hi]
    exact hu
  · have hp : y = p := by simpa using hj
    subst hp
    refine ⟨ds, ld, hL, fun i u hu => ?_⟩
    have e : (⟨g, 0, none⟩ : Addr).add (1 * d.sz + i) = ⟨g, d.sz + i, none⟩ := by
      rw [Nat.one_mul]
      simp [Addr.add]
      intro a b
      omega
    rw [e, blk_cell h (d.sz + i), List.getElem?_toArray, ← lc, List.getElem?_append_right (by omega), Nat.add_sub_cancel_left]
    exact hu
/-- A block made, read as a row of one or two. -/
theorem F.one {α : Type} {d : Kd α} {z b g : Nat} {x : α} {cs : List Value} {t : TypeId} (h : w.heap[g]? = some (.cells ⟨cs⟩ t (0, 0))) (hg : GD E z b w g) (hK : Kd.FK d w (GD E z b w) x cs) : Kd.F d w (GD E z b w) (some ⟨g, 0, none⟩) 1 [x] :=
  fun W' hW => C_one' ((hW g hg (blk_lt h)).trans h) (hK W' hW)
theorem F.two {α : Type} {d : Kd α} {z b g : Nat} {x y : α} {cs ds : List Value} {t : TypeId} (h : w.heap[g]? = some (.cells ⟨cs ++ ds⟩ t (0, 0))) (hg : GD E z b w g) (hK : Kd.FK d w (GD E z b w) x cs) (hL : Kd.FK d w (GD E z b w) y ds) : Kd.F d w (GD E z b w) (some ⟨g, 0, none⟩) 2 [x, y] :=
  fun W' hW => C_two' ((hW g hg (blk_lt h)).trans h) (hK W' hW) (hL W' hW)
theorem GD.at {z b g : Nat} {cs : Array Value} {t : TypeId} (h : w.heap[g]? = some (.cells cs t (0, 0))) (hS : ST E s w) (hb : b ≤ g) (hz : g ≠ z) (h1 : t ≠ 85) (h2 : t ≠ 3) : GD E z b w g :=
  ⟨hb, hS.ne h h1, fun c fz e => by
    rw [h] at e
    injection e with e
    injection e with _ e
    exact h2 e, hz⟩
theorem lt_new {g g' : Nat} {o : Obj} (h : w.heap[g]? = some o) (e : g' = w.heap.size) : g < g' := by
  have := blk_lt h
  omega
theorem ne_new {g g' : Nat} {o : Obj} (h : w.heap[g]? = some o) (e : g' = w.heap.size) : g ≠ g' := by
  have := blk_lt h
  omega
theorem FK94 {z b : Nat} {x : S94} {A : Option Addr} {c : Nat} (hl : x.f3.length ≤ c) (h : Kd.F k94 w (GD E z b w) A x.f3.length x.f3) : Kd.FK k94 w (GD E z b w) x [.int .i64 x.f0, .int .i64 x.f1, .string x.f2, .slice A x.f3.length c] :=
  fun W' hW => k94_mk W' x hl (h W' hW)
theorem FK27 {z b : Nat} {x : S27} {A : Option Addr} {c : Nat} (hl : x.f4.length ≤ c) (h : Kd.F k27 w (GD E z b w) A x.f4.length x.f4) : Kd.FK k27 w (GD E z b w) x [.int .i64 x.f0, .int .i64 x.f1, .string x.f2, .int .i64 x.f3, .slice A x.f4.length c] :=
  fun W' hW => k27_mk W' x hl (h W' hW)
theorem FK62 {z b : Nat} {x : S62} {A4 A5 A6 : Option Addr} {c4 c5 c6 : Nat} (h4 : x.f4.length ≤ c4) (r4 : Kd.F k94 w (GD E z b w) A4 x.f4.length x.f4) (h5 : x.f5.length ≤ c5) (r5 : Kd.F k62 w (GD E z b w) A5 x.f5.length x.f5) (h6 : x.f6.length ≤ c6) (r6 : Kd.F k62 w (GD E z b w) A6 x.f6.length x.f6) :
    Kd.FK k62 w (GD E z b w) x [.int .i64 x.f0, .int .i64 x.f1, .string x.f2, .string x.f3, .slice A4 x.f4.length c4, .slice A5 x.f5.length c5, .slice A6 x.f6.length c6] :=
  fun W' hW => k62_mk W' x h4 (r4 W' hW) h5 (r5 W' hW) h6 (r6 W' hW)
end
/-! ### Short names, for short texts -/
theorem cn2 {w : World} {g : Nat} {t : TypeId} {a0 a1 : Value} (h : w.heap[g]? = some (.cells #[a0, a1] t (0, 0))) : w.cell? ⟨g, 0, none⟩ = some a0 ∧ w.cell? ⟨g, 1, none⟩ = some a1 := ⟨blk_celln h 0 _ rfl, blk_celln h 1 _ rfl⟩
theorem cf2 {w : World} {g : Nat} {t : TypeId} {a0 a1 : Value} (h : w.heap[g]? = some (.cells #[a0, a1] t (0, 0))) : w.cell? ⟨g, 0, none⟩ = some a0 ∧ w.frozen? ⟨g, 0, none⟩ = false ∧ w.cell? ⟨g, 1, none⟩ = some a1 ∧ w.frozen? ⟨g, 1, none⟩ = false := ⟨blk_celln h 0 _ rfl, blk_frozen h 0, blk_celln h 1 _ rfl, blk_frozen h 1⟩
theorem cn4 {w : World} {g : Nat} {t : TypeId} {a0 a1 a2 a3 : Value} (h : w.heap[g]? = some (.cells #[a0, a1, a2, a3] t (0, 0))) : w.cell? ⟨g, 0, none⟩ = some a0 ∧ w.cell? ⟨g, 1, none⟩ = some a1 ∧ w.cell? ⟨g, 2, none⟩ = some a2 ∧ w.cell? ⟨g, 3, none⟩ = some a3 := ⟨blk_celln h 0 _ rfl, blk_celln h 1 _ rfl, blk_celln h 2 _ rfl, blk_celln h 3 _ rfl⟩
theorem cf4 {w : World} {g : Nat} {t : TypeId} {a0 a1 a2 a3 : Value} (h : w.heap[g]? = some (.cells #[a0, a1, a2, a3] t (0, 0))) : w.cell? ⟨g, 0, none⟩ = some a0 ∧ w.frozen? ⟨g, 0, none⟩ = false ∧ w.cell? ⟨g, 1, none⟩ = some a1 ∧ w.frozen? ⟨g, 1, none⟩ = false ∧ w.cell? ⟨g, 2, none⟩ = some a2 ∧ w.frozen? ⟨g, 2, none⟩ = false ∧ w.cell? ⟨g, 3, none⟩ = some a3 ∧ w.frozen? ⟨g, 3, none⟩ = false := ⟨blk_celln h 0 _ rfl, blk_frozen h 0, blk_celln h 1 _ rfl, blk_frozen h 1, blk_celln h 2 _ rfl, blk_frozen h 2, blk_celln h 3 _ rfl, blk_frozen h 3⟩
theorem cn5 {w : World} {g : Nat} {t : TypeId} {a0 a1 a2 a3 a4 : Value} (h : w.heap[g]? = some (.cells #[a0, a1, a2, a3, a4] t (0, 0))) : w.cell? ⟨g, 0, none⟩ = some a0 ∧ w.cell? ⟨g, 1, none⟩ = some a1 ∧ w.cell? ⟨g, 2, none⟩ = some a2 ∧ w.cell? ⟨g, 3, none⟩ = some a3 ∧ w.cell? ⟨g, 4, none⟩ = some a4 := ⟨blk_celln h 0 _ rfl, blk_celln h 1 _ rfl, blk_celln h 2 _ rfl, blk_celln h 3 _ rfl, blk_celln h 4 _ rfl⟩
theorem cf5 {w : World} {g : Nat} {t : TypeId} {a0 a1 a2 a3 a4 : Value} (h : w.heap[g]? = some (.cells #[a0, a1, a2, a3, a4] t (0, 0))) : w.cell? ⟨g, 0, none⟩ = some a0 ∧ w.frozen? ⟨g, 0, none⟩ = false ∧ w.cell? ⟨g, 1, none⟩ = some a1 ∧ w.frozen? ⟨g, 1, none⟩ = false ∧ w.cell? ⟨g, 2, none⟩ = some a2 ∧ w.frozen? ⟨g, 2, none⟩ = false ∧ w.cell? ⟨g, 3, none⟩ = some a3 ∧ w.frozen? ⟨g, 3, none⟩ = false ∧ w.cell? ⟨g, 4, none⟩ = some a4 ∧ w.frozen? ⟨g, 4, none⟩ = false := ⟨blk_celln h 0 _ rfl, blk_frozen h 0, blk_celln h 1 _ rfl, blk_frozen h 1, blk_celln h 2 _ rfl, blk_frozen h 2, blk_celln h 3 _ rfl, blk_frozen h 3, blk_celln h 4 _ rfl, blk_frozen h 4⟩
theorem cn7 {w : World} {g : Nat} {t : TypeId} {a0 a1 a2 a3 a4 a5 a6 : Value} (h : w.heap[g]? = some (.cells #[a0, a1, a2, a3, a4, a5, a6] t (0, 0))) : w.cell? ⟨g, 0, none⟩ = some a0 ∧ w.cell? ⟨g, 1, none⟩ = some a1 ∧ w.cell? ⟨g, 2, none⟩ = some a2 ∧ w.cell? ⟨g, 3, none⟩ = some a3 ∧ w.cell? ⟨g, 4, none⟩ = some a4 ∧ w.cell? ⟨g, 5, none⟩ = some a5 ∧ w.cell? ⟨g, 6, none⟩ = some a6 := ⟨blk_celln h 0 _ rfl, blk_celln h 1 _ rfl, blk_celln h 2 _ rfl, blk_celln h 3 _ rfl, blk_celln h 4 _ rfl, blk_celln h 5 _ rfl, blk_celln h 6 _ rfl⟩
theorem cf7 {w : World} {g : Nat} {t : TypeId} {a0 a1 a2 a3 a4 a5 a6 : Value} (h : w.heap[g]? = some (.cells #[a0, a1, a2, a3, a4, a5, a6] t (0, 0))) : w.cell? ⟨g, 0, none⟩ = some a0 ∧ w.frozen? ⟨g, 0, none⟩ = false ∧ w.cell? ⟨g, 1, none⟩ = some a1 ∧ w.frozen? ⟨g, 1, none⟩ = false ∧ w.cell? ⟨g, 2, none⟩ = some a2 ∧ w.frozen? ⟨g, 2, none⟩ = false ∧ w.cell? ⟨g, 3, none⟩ = some a3 ∧ w.frozen? ⟨g, 3, none⟩ = false ∧ w.cell? ⟨g, 4, none⟩ = some a4 ∧ w.frozen? ⟨g, 4, none⟩ = false ∧ w.cell? ⟨g, 5, none⟩ = some a5 ∧ w.frozen? ⟨g, 5, none⟩ = false ∧ w.cell? ⟨g, 6, none⟩ = some a6 ∧ w.frozen? ⟨g, 6, none⟩ = false := ⟨blk_celln h 0 _ rfl, blk_frozen h 0, blk_celln h 1 _ rfl, blk_frozen h 1, blk_celln h 2 _ rfl, blk_frozen h 2, blk_celln h 3 _ rfl, blk_frozen h 3, blk_celln h 4 _ rfl, blk_frozen h 4, blk_celln h 5 _ rfl, blk_frozen h 5, blk_celln h 6 _ rfl, blk_frozen h 6⟩
theorem cn10 {w : World} {g : Nat} {t : TypeId} {a0 a1 a2 a3 a4 a5 a6 a7 a8 a9 : Value} (h : w.heap[g]? = some (.cells #[a0, a1, a2, a3, a4, a5, a6, a7, a8, a9] t (0, 0))) : w.cell? ⟨g, 0, none⟩ = some a0 ∧ w.cell? ⟨g, 1, none⟩ = some a1 ∧ w.cell? ⟨g, 2, none⟩ = some a2 ∧ w.cell? ⟨g, 3, none⟩ = some a3 ∧ w.cell? ⟨g, 4, none⟩ = some a4 ∧ w.cell? ⟨g, 5, none⟩ = some a5 ∧ w.cell? ⟨g, 6, none⟩ = some a6 ∧ w.cell? ⟨g, 7, none⟩ = some a7 ∧ w.cell? ⟨g, 8, none⟩ = some a8 ∧ w.cell? ⟨g, 9, none⟩ = some a9 := ⟨blk_celln h 0 _ rfl, blk_celln h 1 _ rfl, blk_celln h 2 _ rfl, blk_celln h 3 _ rfl, blk_celln h 4 _ rfl, blk_celln h 5 _ rfl, blk_celln h 6 _ rfl, blk_celln h 7 _ rfl, blk_celln h 8 _ rfl, blk_celln h 9 _ rfl⟩
theorem cf10 {w : World} {g : Nat} {t : TypeId} {a0 a1 a2 a3 a4 a5 a6 a7 a8 a9 : Value} (h : w.heap[g]? = some (.cells #[a0, a1, a2, a3, a4, a5, a6, a7, a8, a9] t (0, 0))) : w.cell? ⟨g, 0, none⟩ = some a0 ∧ w.frozen? ⟨g, 0, none⟩ = false ∧ w.cell? ⟨g, 1, none⟩ = some a1 ∧ w.frozen? ⟨g, 1, none⟩ = false ∧ w.cell? ⟨g, 2, none⟩ = some a2 ∧ w.frozen? ⟨g, 2, none⟩ = false ∧ w.cell? ⟨g, 3, none⟩ = some a3 ∧ w.frozen? ⟨g, 3, none⟩ = false ∧ w.cell? ⟨g, 4, none⟩ = some a4 ∧ w.frozen? ⟨g, 4, none⟩ = false ∧ w.cell? ⟨g, 5, none⟩ = some a5 ∧ w.frozen? ⟨g, 5, none⟩ = false ∧ w.cell? ⟨g, 6, none⟩ = some a6 ∧ w.frozen? ⟨g, 6, none⟩ = false ∧ w.cell? ⟨g, 7, none⟩ = some a7 ∧ w.frozen? ⟨g, 7, none⟩ = false ∧ w.cell? ⟨g, 8, none⟩ = some a8 ∧ w.frozen? ⟨g, 8, none⟩ = false ∧ w.cell? ⟨g, 9, none⟩ = some a9 ∧ w.frozen? ⟨g, 9, none⟩ = false := ⟨blk_celln h 0 _ rfl, blk_frozen h 0, blk_celln h 1 _ rfl, blk_frozen h 1, blk_celln h 2 _ rfl, blk_frozen h 2, blk_celln h 3 _ rfl, blk_frozen h 3, blk_celln h 4 _ rfl, blk_frozen h 4, blk_celln h 5 _ rfl, blk_frozen h 5, blk_celln h 6 _ rfl, blk_frozen h 6, blk_celln h 7 _ rfl, blk_frozen h 7, blk_celln h 8 _ rfl, blk_frozen h 8, blk_celln h 9 _ rfl, blk_frozen h 9⟩
abbrev z53v : Array Value := #[.int .i64 0, .string ⟨#[]⟩, .int .i64 0, .int .i64 0]
abbrev z94v : Array Value := #[.int .i64 0, .int .i64 0, .string ⟨#[]⟩, .slice none 0 0]
abbrev z27v : Array Value := #[.int .i64 0, .int .i64 0, .string ⟨#[]⟩, .int .i64 0, .slice none 0 0]
abbrev z62v : Array Value := #[.int .i64 0, .int .i64 0, .string ⟨#[]⟩, .string ⟨#[]⟩, .slice none 0 0, .slice none 0 0, .slice none 0 0]
abbrev z29v : Array Value := #[.string ⟨#[]⟩, .int .i64 0, .slice none 0 0, .slice none 0 0, .int .i64 0, .int .i64 0, .int .i64 0, .string ⟨#[]⟩, .int .i64 0, .slice none 0 0]
section
variable {E : Env} {s : Cs} {w w1 w2 : World} {k g : Nat} {t : TypeId} {cs : Array Value}
theorem mvB {o : Obj} (q : Below w.heap.size w w1) (h : Aside0 (w.heap[k]? = some o)) : Aside0 (w1.heap[k]? = some o) := ⟨blk_below h.out q⟩
theorem kkT (h : Aside0 (KP E w w1)) (q : KP E w1 w2) : Aside0 (KP E w w2) := ⟨h.out.trans q⟩
theorem kkB (h : Aside0 (KP E w w1)) (q : Below w1.heap.size w1 w2) : Aside0 (KP E w w2) := ⟨h.out.trans (KP.below q)⟩
theorem kkO (h : Aside0 (KP E w w1)) (hg : Aside0 (w.heap.size ≤ g)) (ho : Only g w1 w2) : Aside0 (KP E w w2) := ⟨h.out.only hg.out ho⟩
theorem ssM (h : Aside0 (ST E s w)) (q : Below w.heap.size w w1) : Aside0 (ST E s w1) := ⟨h.out.mv q⟩
theorem ssO (h : Aside0 (ST E s w)) (hb : Aside0 (w.heap[g]? = some (.cells cs t (0, 0)))) (hs : Aside0 (E.w0.heap.size ≤ k)) (hg : Aside0 (k ≤ g)) (ho : Only g w w1) (h1 : t ≠ 85 := by decide) (h2 : t ≠ 3 := by decide) : Aside0 (ST E s w1) := ⟨h.out.only hb.out h1 h2 (Nat.le_trans hs.out hg.out) ho⟩
theorem mvK (q : KP E w w1) (hs : Aside0 (ST E s w)) (h : Aside0 (w.heap[k]? = some (.cells cs t (0, 0)))) (h1 : t ≠ 85 := by decide) (h2 : t ≠ 3 := by decide) : Aside0 (w1.heap[k]? = some (.cells cs t (0, 0))) := ⟨KP.blk q h.out (hs.out.ne h.out h1) h2⟩
theorem ffK {α : Type} {d : Kd α} {z b n : Nat} {A : Option Addr} {xs : List α} (h : Aside0 (Kd.F d w (GD E z b w) A n xs)) (q : KP E w w1) : Aside0 (Kd.F d w1 (GD E z b w1) A n xs) := ⟨F.kp h.out q⟩
theorem ffB {α : Type} {d : Kd α} {z b n : Nat} {A : Option Addr} {xs : List α} (h : Aside0 (Kd.F d w (GD E z b w) A n xs)) (q : Below w.heap.size w w1) : Aside0 (Kd.F d w1 (GD E z b w1) A n xs) := ⟨F.kp h.out (KP.below q)⟩
end
section
variable {P : Program} {ops : Array Oper} {rest : List Oper} {o : Oper} {a : Act} {Q : Exit → Act → World → Prop}
theorem bbX {W : World} {N : Tmp} (cs : Array Value) (t : TypeId) (hrun : (execOp a.eval o).run P W = .ok (.value (.pointer (some ⟨W.heap.size, 0, none⟩))) (W.alloc (.cells cs t (0, 0))))
    (h : ∀ g, Aside0 (g = W.heap.size) → ∀ w1, w1.heap[g]? = some (.cells cs t (0, 0)) → Below W.heap.size W w1 → wpList P ops Q rest (a.put o.dst (.pointer (some ⟨g, 0, none⟩))) w1) (hgd : o.guard = none := by rfl) (hd : o.dst = some N := by rfl) : wpList P ops Q (o :: rest) a W :=
  box_event hgd hd hrun (fun g hg => h g ⟨hg⟩)
end
section
variable {P : Program} {md : Region.Mode} {ops : Array Oper} {Q : Exit → Act → World → Prop} {S : World → Prop} {ds : List Nat} {T : Bool × List (List Nat × List Nat)} {B : List Nat}
theorem ppU {i : Nat} {N : Option Tmp} {oi : Oper} {v : Value} {fuel : Nat} {l : Array Bool} {a a' : Act} {w : World} (l' : Array Bool) (HT : Aside0 (rtab md ops = T)) (h : wpAnyLast P md ops Q S ds fuel l' a' w)
    (hi : ops[i]? = some oi := by rfl) (hN : oi.dst = N := by rfl) (hr : ∀ w', (execOp a.eval oi).run P w' = .ok (.value v) w' := by intro w'; go_simp; with_reducible rfl) (ha : a.put N v = a' := by simp only [Act.put, pA, pB, pC, i64_w, i32_w]; rfl) (hc : anyT T l.toList l'.toList i = true := by kernel_rfl) (hQ : ∀ c a w, Q (.panic c) (a.put oi.dst v) w → Q (.panic c) a w := by exact fun _ _ _ h => h) (hw : Region.wanted oi (yielded ops a.tmps) = true := by rfl) : wpAnyLast P md ops Q S ds (fuel + 1) l a w :=
  pure_ l' hi hN (any_of HT.out hc) hQ (Or.inl ⟨hw, hr⟩) ha h
end
end Go.Proofs.Ytinnldfmbeafiaa.PA
