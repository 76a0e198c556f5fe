/- Statements of one line: store, fence, set; walked by hand. -/
import Derived.Test.YtinnldfmbeafiaaQG
namespace Go.Proofs.Ytinnldfmbeafiaa.PA
open Go.RowKit Go.Proofs.YtinnldfmbeafiaaW.PrintWords Go.Proofs.YtinnldfmbeafiaaW.PrintLast Go.Proofs.YtinnldfmbeafiaaW.PrintMore
set_option linter.unusedVariables false
set_option linter.unusedSimpArgs false
attribute [local go_sem] cell_set_some fld53_0 fld53_1 fld53_2 fld53_3
section
variable {E : Env} {s : Cs} {w w1 : World} {α : Type} {d : Kd α} {z b e : Nat} {v v1 : Value} {xs : List α}
theorem NG.to (h : Kd.N d e w b (GD E z b w) v xs) (hm : ∀ k, GD E z b w k → k < w.heap.size → w1.heap[k]? = w.heap[k]?) : Kd.N d e w1 b (GD E z b w1) v xs :=
  Kd.N_mono (Kd.N_step (Kd.N_bound h) (fun k hk _ => hm k hk.1 hk.2)) (fun k hk => ⟨hk.1.1, hk.1.2.1, fun c fz => (by rw [hm k hk.1 hk.2]; exact hk.1.2.2.1 c fz), hk.1.2.2.2⟩)
theorem NG.kp (h : Kd.N d e w b (GD E z b w) v xs) (hk : KP E w w1) : Kd.N d e w1 b (GD E z b w1) v xs := NG.to h hk.gd
theorem NG.only {g : Nat} (h : Kd.N d e w b (GD E z b w) v xs) (ho : Only g w w1) (hg : g < b ∨ g = z) : Kd.N d e w1 b (GD E z b w1) v xs := NG.to h (ho.gd hg)
/-- What a value leads to stands below a block that came behind it. -/
theorem FK.cut {g : Nat} {x : α} {c : List Value} (h : Kd.FK d w (GD E z b w) x c) (hb : Below w.heap.size w w1) (hg : w.heap.size ≤ g) : Kd.FK d w1 (fun k => GD E z b w1 k ∧ k < g) x c :=
  Kd.FK_mono (Kd.FK_below (Kd.FK_bound h) hb) (fun k hk => ⟨⟨hk.1.1, hk.1.2.1, fun c fz => (by rw [hb.block k hk.2]; exact hk.1.2.2.1 c fz), hk.1.2.2.2⟩, Nat.lt_of_lt_of_le hk.2 hg⟩)
/-- A block of one element, as a row of the call's own. -/
theorem NG.one {g : Nat} {x : α} {cs : List Value} (h : w.heap[g]? = some (.cells ⟨cs⟩ e (0, 0))) (hs : 0 < d.sz) (hb : b ≤ g) (hg : GD E z b w g) (hK : Kd.FK d w (fun k => GD E z b w k ∧ k < g) x cs) : Kd.N d e w b (GD E z b w) (.slice (some ⟨g, 0, none⟩) 1 1) [x] := by
  have hc := d.K_len (Kd.FK_now hK)
  have ho := d.K_one (Kd.FK_now hK)
  refine ⟨fun k hk => ?_, [cs], rfl, ⟨fun k hk => hk.symm, cs, ⟨?_, .inr ⟨g, 1, ⟨cs⟩, rfl, hb, h, Nat.le_refl 1, by decide, by simp [Kd.raw, hc], ?_⟩⟩, ?_⟩, fun j y c hy hc' => ?_⟩
  · have : g = k := by simpa [Value.ownBlock] using hk
    exact this ▸ hg
  · simp [Kd.raw, hc]
  · show cs.take (1 * d.sz) = cs
    rw [Nat.one_mul, ← hc, List.take_length]
  · refine ⟨by simp [Kd.raw, hc], fun j p hj => ?_⟩
    have h0 : j = 0 := by
      have := (List.getElem?_eq_some_iff.1 hj).1
      simp at this
      omega
    subst h0
    have hp : cs = p := by simpa using hj
    subst hp
    have e2 : (cs.drop (0 * d.sz)).take d.sz = cs := by rw [Nat.zero_mul, List.drop_zero, ← hc, List.take_length]
    exact ⟨e2, by rw [show ((cs.drop (0 * (Kd.raw d.sz).sz)).take (Kd.raw d.sz).sz) = cs from e2]; exact ⟨hc, ho⟩⟩
  · have h0 : j = 0 := by
      have := (List.getElem?_eq_some_iff.1 hy).1
      simp at this
      omega
    subst h0
    have e1 : x = y := by simpa using hy
    have e2 : cs = c := by simpa using hc'
    subst e1 e2
    refine Kd.FK_mono hK (fun k hk => ⟨hk.1, fun he => ?_⟩)
    have : k = g := by simpa [Value.ownBlock] using he
    have := hk.2
    omega
/-- A row that was appended to. -/
theorem NG.app {rows : List (List Value)} {p : α} {cs : List Value} (hS : ST E s w) (he : e ≠ 3) (he2 : e ≠ 85) (hz : z = E.g) (h0 : ∀ k, v.ownBlock = some k → GD E z b w k) (hl : rows.length = xs.length)
    (hf : ∀ (j : Nat) (x : α) (c : List Value), xs[j]? = some x → rows[j]? = some c → Kd.FK d w (fun k => GD E z b w k ∧ some k ≠ v.ownBlock) x c) (hp : Kd.FK d w (fun k => GD E z b w k ∧ some k ≠ v.ownBlock) p cs)
    (hr : (Kd.raw d.sz).R e w1 b (fun _ => True) v1 (rows ++ [cs])) (hg : w.grownBy w1 v.ownBlock) (hat : v1.ownBlock = v.ownBlock ∨ ∃ b', v1.ownBlock = some b' ∧ w.heap.size ≤ b') : Kd.N d e w1 b (GD E z b w1) v1 (xs ++ [p]) := by
  obtain ⟨u, hu⟩ := hS.blk
  have hE : w1.heap[E.g]? = _ := blk_grown hu hg (fun e => (h0 E.g e.symm).2.1 rfl)
  have hne : ∀ k, some k ≠ v.ownBlock → k < w.heap.size → some k ≠ v1.ownBlock := by
    intro k hk hlt
    rcases hat with hat | ⟨b', hb, hle⟩
    · rw [hat]; exact hk
    · rw [hb]
      intro he
      injection he with he
      omega
  have step : ∀ {x : α} {c : List Value}, Kd.FK d w (fun k => GD E z b w k ∧ some k ≠ v.ownBlock) x c → Kd.FK d w1 (fun k => GD E z b w1 k ∧ some k ≠ v1.ownBlock) x c := by
    intro x c hq
    refine Kd.FK_mono (Kd.FK_step (Kd.FK_bound hq) (fun k hk hlt => hg.block k hlt hk.1.2)) (fun k hk => ⟨⟨hk.1.1.1, hk.1.1.2.1, fun c fz => ?_, hk.1.1.2.2.2⟩, hne k hk.1.2 hk.2⟩)
    rw [hg.block k hk.2 hk.1.2]
    exact hk.1.1.2.2.1 c fz
  refine ⟨fun k hk => ?_, rows ++ [cs], by rw [List.length_append, List.length_append, hl]; rfl, Kd.raw_tight hr, fun j x c hx hc => ?_⟩
  · obtain ⟨cells, hcell⟩ := Kd.R_typed hr k hk
    refine ⟨Kd.R_base hr k hk, fun e => ?_, fun c fz e => ?_, fun e => ?_⟩
    · rw [e, hE] at hcell
      injection hcell with hcell
      injection hcell with _ hcell
      exact he2 hcell.symm
    · rw [hcell] at e
      injection e with e
      injection e with _ e
      exact he e
    · rw [e, hz, hE] at hcell
      injection hcell with hcell
      injection hcell with _ hcell
      exact he2 hcell.symm
  · rcases Nat.lt_or_ge j xs.length with hj | hj
    · rw [List.getElem?_append_left hj] at hx
      rw [List.getElem?_append_left (by omega)] at hc
      exact step (hf j x c hx hc)
    · rw [List.getElem?_append_right hj] at hx
      rw [List.getElem?_append_right (by omega), hl] at hc
      have h1 := (List.getElem?_eq_some_iff.1 hx).1
      have h2 : j - xs.length = 0 := by simp at h1; omega
      rw [h2] at hx hc
      have e1 : p = x := by simpa using hx
      have e2 : cs = c := by simpa using hc
      subst e1 e2
      exact step hp
end
section
variable {α : Type} {P : Program} {ops : Array Oper} {rest : List Oper} {o : Oper} {a : Act} {Q : Exit → Act → World → Prop} {Kc : Act → World → Prop} {E : Env} {s' : Cs} {z : Nat}
theorem NG_append (d : Kd α) {w0 W : World} (base : Nat) (hgd : o.guard = none) (s x : Operand) (t e : TypeId) (zv : Value) (bytes : Nat)
    (ho : o.op = .call { callee := .builtin .append, args := #[s, x], argTypes := #[t, t] })
    (ht : P.underlying t = some (.slice e)) (hinfo : (P.info? e).map (fun i => (i.zero, i.size, i.bytes)) = some (some zv, d.sz, bytes)) (hz : zv.cells.size = d.sz) (hs0 : 0 < d.sz) (hb0 : 0 < bytes)
    (v : Value) (xs : List α) (p : α) (cs : List Value) (hs : a.eval s = v) (hx : a.eval x = .slice (some ⟨W.heap.size, 0, none⟩) 1 1) (hp : Kd.FK d W (fun k => GD E z base W k ∧ some k ≠ v.ownBlock) p cs)
    (hS : ST E s' W) (he : e ≠ 3) (he2 : e ≠ 85) (hzz : z = E.g) (HO : Kd.N d e W base (GD E z base W) v xs) (HB : Below base w0 W) (hbase : base ≤ W.heap.size) (hl : (xs.length + 1) * bytes ≤ 140737488355328)
    (h : ∀ v1 w1, Kd.N d e w1 base (GD E z base w1) v1 (xs ++ [p]) → Below base w0 w1 → W.grownBy w1 v.ownBlock → (v1.ownBlock = v.ownBlock ∨ ∃ b, v1.ownBlock = some b ∧ W.heap.size ≤ b) → wpList P ops Q rest (a.put o.dst v1) w1) :
    wpList P ops Q (o :: rest) a (W.alloc (.cells cs.toArray e)) := by
  obtain ⟨h0, rows, hlr, hR, hf⟩ := HO
  refine Kd.R_append (Kd.raw d.sz) base hgd s x t e zv bytes ho ht hinfo hz hs0 hb0 v rows cs cs (fun _ => True) (fun _ => False) hs hx (Kd.FK_raw hp) (fun _ hk => hk.elim) (fun _ _ => trivial) (Kd.raw_any hR) HB hbase (by rw [hlr]; exact hl) ?_
  intro v1 w1 hr hb hg hat
  exact h v1 w1 (NG.app hS he he2 hzz h0 hlr hf hp hr hg hat) hb hg hat
theorem NG_append_step (d : Kd α) {w0 W : World} (base : Nat) (hw : Region.wanted o (yielded ops a.tmps) = true) (s x : Operand) (t e : TypeId) (zv : Value) (bytes : Nat)
    (ho : o.op = .call { callee := .builtin .append, args := #[s, x], argTypes := #[t, t] })
    (ht : P.underlying t = some (.slice e)) (hinfo : (P.info? e).map (fun i => (i.zero, i.size, i.bytes)) = some (some zv, d.sz, bytes)) (hz : zv.cells.size = d.sz) (hs0 : 0 < d.sz) (hb0 : 0 < bytes)
    (v : Value) (xs : List α) (p : α) (cs : List Value) (hs : a.eval s = v) (hx : a.eval x = .slice (some ⟨W.heap.size, 0, none⟩) 1 1) (hp : Kd.FK d W (fun k => GD E z base W k ∧ some k ≠ v.ownBlock) p cs)
    (hS : ST E s' W) (he : e ≠ 3) (he2 : e ≠ 85) (hzz : z = E.g) (HO : Kd.N d e W base (GD E z base W) v xs) (HB : Below base w0 W) (hbase : base ≤ W.heap.size) (hl : (xs.length + 1) * bytes ≤ 140737488355328)
    (h : ∀ v1 w1, Kd.N d e w1 base (GD E z base w1) v1 (xs ++ [p]) → Below base w0 w1 → W.grownBy w1 v.ownBlock → (v1.ownBlock = v.ownBlock ∨ ∃ b, v1.ownBlock = some b ∧ W.heap.size ≤ b) → Kc (a.put o.dst v1) w1) :
    if Region.wanted o (yielded ops a.tmps) = true then Oper.wp P o a (W.alloc (.cells cs.toArray e)) Kc Q else Kc (a.put o.dst undef) (W.alloc (.cells cs.toArray e)) := by
  obtain ⟨h0, rows, hlr, hR, hf⟩ := HO
  refine Kd.R_append_step (Kd.raw d.sz) base hw s x t e zv bytes ho ht hinfo hz hs0 hb0 v rows cs cs (fun _ => True) (fun _ => False) hs hx (Kd.FK_raw hp) (fun _ hk => hk.elim) (fun _ _ => trivial) (Kd.raw_any hR) HB hbase (by rw [hlr]; exact hl) ?_
  intro v1 w1 hr hb hg hat
  exact h v1 w1 (NG.app hS he he2 hzz h0 hlr hf hp hr hg hat) hb hg hat
end
end Go.Proofs.Ytinnldfmbeafiaa.PA
