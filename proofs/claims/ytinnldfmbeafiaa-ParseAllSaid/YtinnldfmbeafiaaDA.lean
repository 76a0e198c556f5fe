/- The document's cursor. -/
import Derived.Test.YtinnldfmbeafiaaQO
namespace Go.Proofs.Ytinnldfmbeafiaa.PA.D
open Go.RowKit Go.Proofs.YtinnldfmbeafiaaW.PrintWords Go.Proofs.YtinnldfmbeafiaaW.PrintLast Go.Proofs.YtinnldfmbeafiaaW.PrintMore
set_option linter.unusedVariables false
set_option linter.unusedSimpArgs false
/-- What is wrong, as the document keeps it: a place; -1: nothing. -/
def bdI (E : Env) (s : Cs) : Int := if s.bad = true then (E.tk s.i).f3 else -1
structure Ok2 (E : Env) : Prop where
  nn : ∀ i, 0 ≤ (E.tk i).f3
  sg : ∀ i, (E.tk i).f0 = 3 → ixS modes (E.tk i).f1 0 < 0
def CU (E : Env) (s : Cs) (w : World) : Prop :=
  E.w0.heap.size ≤ E.g ∧ ∃ v, w.heap[E.g]? = some (.cells #[.slice E.A E.ts.length E.c, .int .i64 (s.i : Int), .int .i64 (bdI E s), v] 65 (0, 0)) ∧ Kd.R (Kd.int .i64) 3 w E.w0.heap.size (fun _ => True) v s.ps ∧ v.ownBlock ≠ some E.g
structure ST (E : Env) (s : Cs) (w : World) : Prop where
  ok : E.Ok
  ok2 : Ok2 E
  cu : CU E s w
  below : Below E.w0.heap.size E.w0 w
  lt : s.i < E.ts.length
section
variable {E : Env} {s : Cs} {w w1 w2 : World}
theorem CU.below (h : CU E s w) (hb : Below w.heap.size w w1) : CU E s w1 := by
  obtain ⟨hB, v, hbk, hown, hne⟩ := h
  exact ⟨hB, v, blk_below hbk hb, ints_move hown (fun k hk => by
    obtain ⟨c, hc⟩ := Kd.R_typed hown k hk
    rw [blk_below hc hb, hc]), hne⟩
theorem ST.mv (h : ST E s w) (hb : Below w.heap.size w w1) : ST E s w1 := ⟨h.ok, h.ok2, h.cu.below hb, h.below.trans (hb.mono h.below.size), h.lt⟩
theorem ST.drew (h : ST E s w) : ST E s w.drew := h.mv (below_drew (Below.refl _ _))
theorem ST.blk (h : ST E s w) : ∃ v, w.heap[E.g]? = some (.cells #[.slice E.A E.ts.length E.c, .int .i64 (s.i : Int), .int .i64 (bdI E s), v] 65 (0, 0)) := by
  obtain ⟨_, v, hb, _⟩ := h.cu
  exact ⟨v, hb⟩
theorem ST.c0 (h : ST E s w) : w.cell? ⟨E.g, 0, none⟩ = some (.slice E.A E.ts.length E.c) := by
  obtain ⟨v, hb⟩ := h.blk
  exact blk_celln hb 0 _ rfl
theorem ST.c1 (h : ST E s w) : w.cell? ⟨E.g, 1, none⟩ = some (.int .i64 (s.i : Int)) := by
  obtain ⟨v, hb⟩ := h.blk
  exact blk_celln hb 1 _ rfl
theorem ST.c2 (h : ST E s w) : w.cell? ⟨E.g, 2, none⟩ = some (.int .i64 (bdI E s)) := by
  obtain ⟨v, hb⟩ := h.blk
  exact blk_celln hb 2 _ rfl
theorem ST.fz (h : ST E s w) (j : Nat) : w.frozen? ⟨E.g, j, none⟩ = false := by
  obtain ⟨v, hb⟩ := h.blk
  exact blk_frozen hb j
theorem ST.ne (h : ST E s w) {k : Nat} {cs : Array Value} {t : TypeId} (hk : w.heap[k]? = some (.cells cs t (0, 0))) (ht : t ≠ 65) : k ≠ E.g := by
  obtain ⟨v, hb⟩ := h.blk
  exact blk_ne hk hb ht
theorem ST.tok (h : ST E s w) : ∃ ad, E.A = some ad ∧ w.cell? (ad.add (s.i * 4)) = some (.int .i64 (E.tk s.i).f0) ∧ w.cell? ⟨(ad.add (s.i * 4)).block, (ad.add (s.i * 4)).off + 1, none⟩ = some (.string (E.tk s.i).f1) ∧ w.cell? ⟨(ad.add (s.i * 4)).block, (ad.add (s.i * 4)).off + 2, none⟩ = some (.int .i64 (E.tk s.i).f2) ∧ w.cell? ⟨(ad.add (s.i * 4)).block, (ad.add (s.i * 4)).off + 3, none⟩ = some (.int .i64 (E.tk s.i).f3) := by
  have hl := h.lt
  obtain ⟨ad, e, y0, y1, y2, y3⟩ := at_T53 h.ok.row (s.i : Int) (by omega) (by omega)
  simp only [Int.toNat_natCast] at y0 y1 y2 y3
  have cb : ∀ {a : Addr} {v : Value}, E.w0.cell? a = some v → w.cell? a = some v := fun hc => (h.below.cell (World.block_lt_of_cell? _ _ hc)).trans hc
  exact ⟨ad, e, cb y0, cb y1, cb y2, cb y3⟩
theorem ST.go (h : ST E s w) (hbd : s.bad = false) (hl : s.i + 1 < E.ts.length) : ST E ⟨s.i + 1, s.bad, s.ps⟩ (w.setCell ⟨E.g, 1, none⟩ (.int .i64 ((s.i + 1 : Nat) : Int))) ∧ KP E w (w.setCell ⟨E.g, 1, none⟩ (.int .i64 ((s.i + 1 : Nat) : Int))) := by
  obtain ⟨hB, v, hbk, hown, hne⟩ := h.cu
  refine ⟨⟨h.ok, h.ok2, ⟨hB, v, by rw [show bdI E ⟨s.i + 1, s.bad, s.ps⟩ = bdI E s from by unfold bdI; simp [hbd]]; exact blk_put hbk 1 _ rfl, ints_move hown (fun k hk => Below.heap_setCell _ ⟨E.g, 1, none⟩ _ k (fun e => hne (by rw [hk, e]))), hne⟩, h.below.setCell (p := ⟨E.g, 1, none⟩) hB _, hl⟩, (Lib.OthersKept.refl 3 (some E.g) w).setCell ⟨E.g, 1, none⟩ rfl _, by simp [World.setCell]⟩
/-- What stands here does not go on. -/
theorem ST.wrong (h : ST E s w) : ST E ⟨s.i, true, s.ps⟩ (w.setCell ⟨E.g, 2, none⟩ (.int .i64 (E.tk s.i).f3)) ∧ KP E w (w.setCell ⟨E.g, 2, none⟩ (.int .i64 (E.tk s.i).f3)) := by
  obtain ⟨hB, v, hbk, hown, hne⟩ := h.cu
  refine ⟨⟨h.ok, h.ok2, ⟨hB, v, blk_put hbk 2 _ rfl, ints_move hown (fun k hk => Below.heap_setCell _ ⟨E.g, 2, none⟩ _ k (fun e => hne (by rw [hk, e]))), hne⟩, h.below.setCell (p := ⟨E.g, 2, none⟩) hB _, h.lt⟩, (Lib.OthersKept.refl 3 (some E.g) w).setCell ⟨E.g, 2, none⟩ rfl _, by simp [World.setCell]⟩
theorem ST.same (h : ST E s w) (hb : s.bad = true) : ST E ⟨s.i, true, s.ps⟩ w := by
  obtain ⟨i, bad, ps⟩ := s
  simp only at hb
  subst hb
  exact h
theorem ST.only {g : Nat} {cs : Array Value} {t : TypeId} (h : ST E s w) (hb : w.heap[g]? = some (.cells cs t (0, 0))) (h1 : t ≠ 65) (h2 : t ≠ 3) (hg : E.w0.heap.size ≤ g) (ho : Only g w w1) : ST E s w1 := by
  obtain ⟨hB, v, hbk, hown, hne⟩ := h.cu
  refine ⟨h.ok, h.ok2, ⟨hB, v, (ho.block _ (fun e => h.ne hb h1 e.symm)).trans hbk, ints_move hown (fun k hk => ho.block k (fun e => ?_)), hne⟩, h.below.trans (ho.below.mono hg), h.lt⟩
  obtain ⟨c, hc⟩ := Kd.R_typed hown k hk
  rw [e, hb] at hc
  injection hc with hc
  injection hc with _ hc
  exact h2 hc
theorem GD.at {z b g : Nat} {cs : Array Value} {t : TypeId} (h : w.heap[g]? = some (.cells cs t (0, 0))) (hS : ST E s w) (hb : b ≤ g) (hz : g ≠ z) (h1 : t ≠ 65) (h2 : t ≠ 3) : GD E z b w g :=
  ⟨hb, hS.ne h h1, fun c fz e => by
    rw [h] at e
    injection e with e
    injection e with _ e
    exact h2 e, hz⟩
end
section
variable {E : Env} {s : Cs} {w w1 wi : World} {row : Option Nat}
theorem ST.grown (h : ST E s w) (hg : w.grownBy w1 row) (hb : Below E.w0.heap.size E.w0 w1) (hr : ∀ g, row = some g → ∃ cells t, w.heap[g]? = some (.cells cells t (0, 0)) ∧ t ≠ 65 ∧ t ≠ 3) : ST E s w1 := by
  obtain ⟨hB, v, hbk, hown, hne⟩ := h.cu
  refine ⟨h.ok, h.ok2, ⟨hB, v, blk_grown hbk hg (fun e => ?_), ints_move hown (fun k hk => ?_), hne⟩, hb, h.lt⟩
  · obtain ⟨c, t, hc, h1, _⟩ := hr E.g e.symm
    rw [hbk] at hc
    injection hc with hc
    injection hc with _ hc
    exact h1 hc.symm
  · obtain ⟨c, hc⟩ := Kd.R_typed hown k hk
    rw [hg.block k (blk_lt hc) (fun e => ?_)]
    obtain ⟨c', t, hc', _, h2⟩ := hr k e.symm
    rw [hc] at hc'
    injection hc' with hc'
    injection hc' with _ hc'
    exact h2 hc'.symm
end
section
variable {E : Env} {s : Cs} {w w1 : World} {α : Type} {d : Kd α} {z b e : Nat} {v v1 : Value} {xs : List α}
/-- A row that was appended to. -/
theorem NG.app {rows : List (List Value)} {p : α} {cs : List Value} (hS : ST E s w) (he : e ≠ 3) (he2 : e ≠ 65) (hz : z = E.g) (h0 : ∀ k, v.ownBlock = some k → GD E z b w k) (hl : rows.length = xs.length)
    (hf : ∀ (j : Nat) (x : α) (c : List Value), xs[j]? = some x → rows[j]? = some c → Kd.FK d w (fun k => GD E z b w k ∧ some k ≠ v.ownBlock) x c) (hp : Kd.FK d w (fun k => GD E z b w k ∧ some k ≠ v.ownBlock) p cs)
    (hr : (Kd.raw d.sz).R e w1 b (fun _ => True) v1 (rows ++ [cs])) (hg : w.grownBy w1 v.ownBlock) (hat : v1.ownBlock = v.ownBlock ∨ ∃ b', v1.ownBlock = some b' ∧ w.heap.size ≤ b') : Kd.N d e w1 b (GD E z b w1) v1 (xs ++ [p]) := by
  obtain ⟨u, hu⟩ := hS.blk
  have hE : w1.heap[E.g]? = _ := blk_grown hu hg (fun e => (h0 E.g e.symm).2.1 rfl)
  have hne : ∀ k, some k ≠ v.ownBlock → k < w.heap.size → some k ≠ v1.ownBlock := by
    intro k hk hlt
    rcases hat with hat | ⟨b', hb, hle⟩
    · rw [hat]; exact hk
    · rw [hb]
      intro he
      injection he with he
      omega
  have step : ∀ {x : α} {c : List Value}, Kd.FK d w (fun k => GD E z b w k ∧ some k ≠ v.ownBlock) x c → Kd.FK d w1 (fun k => GD E z b w1 k ∧ some k ≠ v1.ownBlock) x c := by
    intro x c hq
    refine Kd.FK_mono (Kd.FK_step (Kd.FK_bound hq) (fun k hk hlt => hg.block k hlt hk.1.2)) (fun k hk => ⟨⟨hk.1.1.1, hk.1.1.2.1, fun c fz => ?_, hk.1.1.2.2.2⟩, hne k hk.1.2 hk.2⟩)
    rw [hg.block k hk.2 hk.1.2]
    exact hk.1.1.2.2.1 c fz
  refine ⟨fun k hk => ?_, rows ++ [cs], by rw [List.length_append, List.length_append, hl]; rfl, Kd.raw_tight hr, fun j x c hx hc => ?_⟩
  · obtain ⟨cells, hcell⟩ := Kd.R_typed hr k hk
    refine ⟨Kd.R_base hr k hk, fun e => ?_, fun c fz e => ?_, fun e => ?_⟩
    · rw [e, hE] at hcell
      injection hcell with hcell
      injection hcell with _ hcell
      exact he2 hcell.symm
    · rw [hcell] at e
      injection e with e
      injection e with _ e
      exact he e
    · rw [e, hz, hE] at hcell
      injection hcell with hcell
      injection hcell with _ hcell
      exact he2 hcell.symm
  · rcases Nat.lt_or_ge j xs.length with hj | hj
    · rw [List.getElem?_append_left hj] at hx
      rw [List.getElem?_append_left (by omega)] at hc
      exact step (hf j x c hx hc)
    · rw [List.getElem?_append_right hj] at hx
      rw [List.getElem?_append_right (by omega), hl] at hc
      have h1 := (List.getElem?_eq_some_iff.1 hx).1
      have h2 : j - xs.length = 0 := by simp at h1; omega
      rw [h2] at hx hc
      have e1 : p = x := by simpa using hx
      have e2 : cs = c := by simpa using hc
      subst e1 e2
      exact step hp
end
section
variable {α : Type} {P : Program} {ops : Array Oper} {rest : List Oper} {o : Oper} {a : Act} {Q : Exit → Act → World → Prop} {Kc : Act → World → Prop} {E : Env} {s' : Cs} {z : Nat}
theorem NG_append (d : Kd α) {w0 W : World} (base : Nat) (hgd : o.guard = none) (s x : Operand) (t e : TypeId) (zv : Value) (bytes : Nat)
    (ho : o.op = .call { callee := .builtin .append, args := #[s, x], argTypes := #[t, t] })
    (ht : P.underlying t = some (.slice e)) (hinfo : (P.info? e).map (fun i => (i.zero, i.size, i.bytes)) = some (some zv, d.sz, bytes)) (hz : zv.cells.size = d.sz) (hs0 : 0 < d.sz) (hb0 : 0 < bytes)
    (v : Value) (xs : List α) (p : α) (cs : List Value) (hs : a.eval s = v) (hx : a.eval x = .slice (some ⟨W.heap.size, 0, none⟩) 1 1) (hp : Kd.FK d W (fun k => GD E z base W k ∧ some k ≠ v.ownBlock) p cs)
    (hS : ST E s' W) (he : e ≠ 3) (he2 : e ≠ 65) (hzz : z = E.g) (HO : Kd.N d e W base (GD E z base W) v xs) (HB : Below base w0 W) (hbase : base ≤ W.heap.size) (hl : (xs.length + 1) * bytes ≤ 140737488355328)
    (h : ∀ v1 w1, Kd.N d e w1 base (GD E z base w1) v1 (xs ++ [p]) → Below base w0 w1 → W.grownBy w1 v.ownBlock → (v1.ownBlock = v.ownBlock ∨ ∃ b, v1.ownBlock = some b ∧ W.heap.size ≤ b) → wpList P ops Q rest (a.put o.dst v1) w1) :
    wpList P ops Q (o :: rest) a (W.alloc (.cells cs.toArray e)) := by
  obtain ⟨h0, rows, hlr, hR, hf⟩ := HO
  refine Kd.R_append (Kd.raw d.sz) base hgd s x t e zv bytes ho ht hinfo hz hs0 hb0 v rows cs cs (fun _ => True) (fun _ => False) hs hx (Kd.FK_raw hp) (fun _ hk => hk.elim) (fun _ _ => trivial) (Kd.raw_any hR) HB hbase (by rw [hlr]; exact hl) ?_
  intro v1 w1 hr hb hg hat
  exact h v1 w1 (NG.app hS he he2 hzz h0 hlr hf hp hr hg hat) hb hg hat
theorem NG_append_step (d : Kd α) {w0 W : World} (base : Nat) (hw : Region.wanted o (yielded ops a.tmps) = true) (s x : Operand) (t e : TypeId) (zv : Value) (bytes : Nat)
    (ho : o.op = .call { callee := .builtin .append, args := #[s, x], argTypes := #[t, t] })
    (ht : P.underlying t = some (.slice e)) (hinfo : (P.info? e).map (fun i => (i.zero, i.size, i.bytes)) = some (some zv, d.sz, bytes)) (hz : zv.cells.size = d.sz) (hs0 : 0 < d.sz) (hb0 : 0 < bytes)
    (v : Value) (xs : List α) (p : α) (cs : List Value) (hs : a.eval s = v) (hx : a.eval x = .slice (some ⟨W.heap.size, 0, none⟩) 1 1) (hp : Kd.FK d W (fun k => GD E z base W k ∧ some k ≠ v.ownBlock) p cs)
    (hS : ST E s' W) (he : e ≠ 3) (he2 : e ≠ 65) (hzz : z = E.g) (HO : Kd.N d e W base (GD E z base W) v xs) (HB : Below base w0 W) (hbase : base ≤ W.heap.size) (hl : (xs.length + 1) * bytes ≤ 140737488355328)
    (h : ∀ v1 w1, Kd.N d e w1 base (GD E z base w1) v1 (xs ++ [p]) → Below base w0 w1 → W.grownBy w1 v.ownBlock → (v1.ownBlock = v.ownBlock ∨ ∃ b, v1.ownBlock = some b ∧ W.heap.size ≤ b) → Kc (a.put o.dst v1) w1) :
    if Region.wanted o (yielded ops a.tmps) = true then Oper.wp P o a (W.alloc (.cells cs.toArray e)) Kc Q else Kc (a.put o.dst undef) (W.alloc (.cells cs.toArray e)) := by
  obtain ⟨h0, rows, hlr, hR, hf⟩ := HO
  refine Kd.R_append_step (Kd.raw d.sz) base hw s x t e zv bytes ho ht hinfo hz hs0 hb0 v rows cs cs (fun _ => True) (fun _ => False) hs hx (Kd.FK_raw hp) (fun _ hk => hk.elim) (fun _ _ => trivial) (Kd.raw_any hR) HB hbase (by rw [hlr]; exact hl) ?_
  intro v1 w1 hr hb hg hat
  exact h v1 w1 (NG.app hS he he2 hzz h0 hlr hf hp hr hg hat) hb hg hat
end

def Got {α : Type} (E : Env) (s : Cs) (w : World) (r : Res α) (V : World → α → Value → Prop) (e : Ending) (w' : World) : Prop :=
  ∃ x v t, e = .returned v ∧ V w' x v ∧ ST E t w' ∧ KP E w w' ∧ Step s r x t ∧ s.i ≤ t.i ∧ t.ps = s.ps
def GotB {α : Type} (E : Env) (s : Cs) (w : World) (r : Res α) (V : World → α → Value → Prop) (e : Ending) (w' : World) : Prop :=
  ∃ x v t, e = .returned v ∧ V w' x v ∧ ST E t w' ∧ KP E w w' ∧ Step s r x t ∧ s.i ≤ t.i ∧ Pl t
def GotP (E : Env) (s : Cs) (w : World) (r : Res PR) (e : Ending) (w' : World) : Prop :=
  ∃ x v t, e = .returned v ∧ VP E w w' x v ∧ ST E t w' ∧ KP E w w' ∧ Step s r x t
theorem ST.parts {E : Env} {s : Cs} {w : World} (h : ST E s w) : ∃ A c, w.cell? ⟨E.g, 3, none⟩ = some (.slice A s.ps.length c) ∧ Kd.R (Kd.int .i64) 3 w E.w0.heap.size (fun _ => True) (.slice A s.ps.length c) s.ps := by
  obtain ⟨hB, v, hbk, hR, hne⟩ := h.cu
  obtain ⟨A, c, rfl⟩ := Kd.R_slice hR
  exact ⟨A, c, blk_celln hbk 3 _ rfl, hR⟩
theorem cur_made {w w1 : World} {g : Nat} {A : Option Addr} {c : Nat} {ts : List S53} (hg : g = w.heap.size) (hb : w1.heap[g]? = some (.cells #[.slice A ts.length c, .int .i64 0, .int .i64 (-1), .slice none 0 0] 65 (0, 0))) (hB : Below w.heap.size w w1) (hr : Kd.C k53 w A ts.length ts) (hc : ts.length ≤ c) (ht : TsOk ts) (h2 : Ok2 ⟨w, g, A, c, ts⟩) : ST ⟨w, g, A, c, ts⟩ ⟨0, false, []⟩ w1 :=
  ⟨⟨hr, hc, fun i hi hk => ht.fin i hi hk, ht.few⟩, h2, ⟨Nat.le_of_eq hg.symm, .slice none 0 0, hb, Kd.R_nil _ _ _ _ _, by simp [Value.ownBlock]⟩, hB, ht.pos⟩
def GoodAt (E : Env) (ex : Nat → Res S94) : Prop := ∀ s w, ST E s w → s.bad = false → ex s.i ≠ .out → Calls Try.prog 89 #[.pointer (some ⟨E.g, 0, none⟩)] w (Got E s w (ex s.i) (VE E w))
def GoodC (E : Env) (fn : Nat) (ex : Nat → Res S27) : Prop := ∀ s w, ST E s w → s.bad = false → ex s.i ≠ .out → Calls Try.prog fn #[.pointer (some ⟨E.g, 0, none⟩)] w (Got E s w (ex s.i) (VC E w))
def FullC (E : Env) (fn : Nat) (ex : Nat → Res S27) : Prop := ∀ s w, ST E s w → Ne s (ex s.i) → Calls Try.prog fn #[.pointer (some ⟨E.g, 0, none⟩)] w (Got E s w (ex s.i) (VC E w))
def FullB (E : Env) (blk : Nat → Res (List S62)) : Prop := ∀ s w, ST E s w → Pl s → Ne s (blk s.i) → Calls Try.prog 39 #[.pointer (some ⟨E.g, 0, none⟩)] w (GotB E s w (blk s.i) (VB E w))
def StAt (E : Env) (st : Nat → Res S62) : Prop := ∀ s w, ST E s w → s.bad = false → Pl s → st s.i ≠ .out → Calls Try.prog 64 #[.pointer (some ⟨E.g, 0, none⟩)] w (GotB E s w (st s.i) (VS E w))
section
variable {E : Env} {s : Cs} {w w1 : World} {k g : Nat} {t : TypeId} {cs : Array Value}
theorem ssM (h : Aside0 (ST E s w)) (q : Below w.heap.size w w1) : Aside0 (ST E s w1) := ⟨h.out.mv q⟩
theorem ssO (h : Aside0 (ST E s w)) (hb : Aside0 (w.heap[g]? = some (.cells cs t (0, 0)))) (hs : Aside0 (E.w0.heap.size ≤ k)) (hg : Aside0 (k ≤ g)) (ho : Only g w w1) (h1 : t ≠ 65 := by decide) (h2 : t ≠ 3 := by decide) : Aside0 (ST E s w1) := ⟨h.out.only hb.out h1 h2 (Nat.le_trans hs.out hg.out) ho⟩
theorem mvK (q : KP E w w1) (hs : Aside0 (ST E s w)) (h : Aside0 (w.heap[k]? = some (.cells cs t (0, 0)))) (h1 : t ≠ 65 := by decide) (h2 : t ≠ 3 := by decide) : Aside0 (w1.heap[k]? = some (.cells cs t (0, 0))) := ⟨KP.blk q h.out (hs.out.ne h.out h1) h2⟩
end
end Go.Proofs.Ytinnldfmbeafiaa.PA.D
