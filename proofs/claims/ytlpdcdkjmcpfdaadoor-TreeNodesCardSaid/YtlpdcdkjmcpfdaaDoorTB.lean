/- The builder's methods (witheref12), walked by hand. -/
import Derived.Test.YtlpdcdkjmcpfdaaDoorPTx0
namespace Go.Proofs.YtlpdcdkjmcpfdaaDoor.PT
open Go.RowKit Go.Proofs.YtlpdcdkjmcpfdaaDoorW.PrintWords Go.Proofs.YtlpdcdkjmcpfdaaDoorW.PrintLast Go.Proofs.YtlpdcdkjmcpfdaaDoorW.PrintMore
set_option linter.unusedVariables false
set_option linter.unusedSimpArgs false
attribute [local go_sem] cell_set_some
abbrev Y : Bool := true
abbrev Z : Bool := false
theorem pA {α : Type} (l : List α) (i : Nat) (a : α) : l.toArray.setIfInBounds i a = (l.set i a).toArray := List.setIfInBounds_toArray ..
theorem pB {α : Type} (x : α) (xs : List α) (b : α) : (x :: xs).set 0 b = b :: xs := rfl
theorem pC {α : Type} (x : α) (xs : List α) (i : Nat) (b : α) : (x :: xs).set (i + 1) b = x :: xs.set i b := rfl
theorem info53 : (Tryd.prog.info? 53).map (fun i => (i.zero, i.size, i.bytes)) = some (some (.agg #[.int .i64 0, .int .i64 0, .int .i64 0, .int .i64 0, .int .i64 0, .int .i64 0, .bool false, .bool false, .slice none 0 0]), 9, 80) := by kernel_rfl
theorem w64' {n : Int} (h : -9223372036854775808 ≤ n) (h2 : n < 9223372036854775808) : wrap64 n = n := by
  unfold wrap64
  omega
/-- A node as a value; its row of registers is nil. -/
def nodeV (n : S53) : Value := .agg #[.int .i64 n.f0, .int .i64 n.f1, .int .i64 n.f2, .int .i64 n.f3, .int .i64 n.f4, .int .i64 n.f5, .bool n.f6, .bool n.f7, .slice none 0 0]
/-- What no method of a builder's changes, once its names stand: all blocks but its own, and the nodes' row. -/
def TK (w w' : World) : Prop := w.heap.size ≤ w'.heap.size ∧ ∀ (k : Nat) (cs : Array Value) (t : TypeId), w.heap[k]? = some (.cells cs t (0, 0)) → t ≠ 88 → t ≠ 53 → w'.heap[k]? = some (.cells cs t (0, 0))
theorem TK.refl (w : World) : TK w w := ⟨Nat.le_refl _, fun _ _ _ h _ _ => h⟩
theorem TK.of_below {w w' : World} (h : Below w.heap.size w w') : TK w w' := ⟨h.size, fun k cs t hk _ _ => blk_below hk h⟩
theorem TK.trans {w w1 w2 : World} (h : TK w w1) (k : TK w1 w2) : TK w w2 := ⟨Nat.le_trans h.1 k.1, fun i cs t hi h1 h2 => k.2 i cs t (h.2 i cs t hi h1 h2) h1 h2⟩
theorem setCell_size (w : World) (a : Addr) (u : Value) : (w.setCell a u).heap.size = w.heap.size := by
  simp [World.setCell]
theorem TK.set {w w1 : World} (h : TK w w1) {g j : Nat} {cs : Array Value} {t : TypeId} (hb : w1.heap[g]? = some (.cells cs t (0, 0))) (ht : t = 88 ∨ t = 53) (u : Value) : TK w (w1.setCell ⟨g, j, none⟩ u) :=
  ⟨Nat.le_trans h.1 (Nat.le_of_eq (setCell_size _ _ _).symm), fun k cs' t' hk h1 h2 => by
    have e := h.2 k cs' t' hk h1 h2
    have ne : k ≠ g := by
      rintro rfl
      rw [hb] at e
      injection e with e
      injection e with e1 e2
      subst e2
      exact ht.elim h1 h2
    rw [Below.heap_setCell w1 ⟨g, j, none⟩ u k ne]
    exact e⟩
theorem TK.grown {w w1 w2 : World} (h : TK w w1) {row : Option Nat} (hg : w1.grownBy w2 row) (ht : ∀ k, row = some k → ∃ cs, w1.heap[k]? = some (.cells cs 53 (0, 0))) : TK w w2 :=
  ⟨Nat.le_trans h.1 hg.size, fun k cs t hk h1 h2 => by
    have e := h.2 k cs t hk h1 h2
    refine blk_grown e hg ?_
    intro q
    obtain ⟨cs2, e2⟩ := ht k q.symm
    rw [e] at e2
    injection e2 with e2
    injection e2 with _ e3
    exact h2 e3⟩
/-- A builder, its names and nodes (all made since w0). -/
structure BS (w0 : World) (c0 c1 c2 c3 c4 c5 c6 c7 c8 c9 : Value) (w : World) (g : Nat) (vals : Int) (locs : List ByteArray) (regs : List (List ByteArray)) (nodes : List S53) (th : Int) (lg : Bool) (v1 v2 v3 : Value) : Prop where
  blk : w.heap[g]? = some (.cells #[c0, c1, c2, c3, c4, c5, c6, c7, c8, c9, .int .i64 vals, v1, v2, v3, .int .i64 th, .bool lg] 88 (0, 0))
  h1 : Kd.R Kd.string 9 w w0.heap.size (fun _ => True) v1 locs
  h2 : Kd.S (Kd.slice 9 Kd.string) 24 w w0.heap.size (fun k => some k ≠ v1.ownBlock) v2 regs
  h3 : Kd.S k53 53 w w0.heap.size (fun _ => True) v3 nodes
  hB : Below w0.heap.size w0 w
  hg : w0.heap.size ≤ g
variable {w0 w w' : World} {c0 c1 c2 c3 c4 c5 c6 c7 c8 c9 : Value} {g : Nat} {vals : Int} {locs : List ByteArray} {regs : List (List ByteArray)} {nodes : List S53} {th : Int} {lg : Bool} {v1 v2 v3 : Value}
theorem BS.below (h : BS w0 c0 c1 c2 c3 c4 c5 c6 c7 c8 c9 w g vals locs regs nodes th lg v1 v2 v3) (hb : Below w.heap.size w w') : BS w0 c0 c1 c2 c3 c4 c5 c6 c7 c8 c9 w' g vals locs regs nodes th lg v1 v2 v3 where
  blk := blk_below h.blk hb
  h1 := Kd.R_below h.h1 hb
  h2 := Kd.S_below h.h2 hb
  h3 := Kd.S_below h.h3 hb
  hB := below_step h.hB hb
  hg := h.hg
theorem BS.drew (h : BS w0 c0 c1 c2 c3 c4 c5 c6 c7 c8 c9 w g vals locs regs nodes th lg v1 v2 v3) : BS w0 c0 c1 c2 c3 c4 c5 c6 c7 c8 c9 w.drew g vals locs regs nodes th lg v1 v2 v3 := h.below (below_drew (Below.refl _ _))
theorem TK.drew (h : TK w w') : TK w w'.drew := h
theorem BS.stay (h : BS w0 c0 c1 c2 c3 c4 c5 c6 c7 c8 c9 w g vals locs regs nodes th lg v1 v2 v3) (hg : w.grownBy w' v3.ownBlock) :
    w'.heap[g]? = some (.cells #[c0, c1, c2, c3, c4, c5, c6, c7, c8, c9, .int .i64 vals, v1, v2, v3, .int .i64 th, .bool lg] 88 (0, 0)) := blk_grown h.blk hg (Kd.S_ne h.h3 h.blk (by decide))
/-- A node more: the nodes' row appended to, and stored. -/
theorem BS.app {v4 : Value} {nodes' : List S53} (h : BS w0 c0 c1 c2 c3 c4 c5 c6 c7 c8 c9 w g vals locs regs nodes th lg v1 v2 v3) (hg : w.grownBy w' v3.ownBlock) (hS : Kd.S k53 53 w' w0.heap.size (fun _ => True) v4 nodes') (hB : Below w0.heap.size w0 w') :
    BS w0 c0 c1 c2 c3 c4 c5 c6 c7 c8 c9 (w'.setCell ⟨g, 13, none⟩ v4) g vals locs regs nodes' th lg v1 v2 v4 := by
  have hb := h.stay hg
  have k1 : Kd.R Kd.string 9 w' w0.heap.size (fun _ => True) v1 locs := Kd.R_grown2 h.h1 rfl hg (fun k e1 e2 => by
    obtain ⟨cs, a⟩ := Kd.S_typed h.h3 k e1
    obtain ⟨cs', b⟩ := Kd.R_typed h.h1 k e2.symm
    rw [a] at b
    injection b with b
    injection b with _ b
    exact absurd b (by decide))
  have k2 : Kd.S (Kd.slice 9 Kd.string) 24 w' w0.heap.size (fun k => some k ≠ v1.ownBlock) v2 regs := by
    cases e : v3.ownBlock with
    | none =>
      rw [e] at hg
      exact Kd.S_grown h.h2 hg (fun k _ q => by cases q)
    | some b =>
      obtain ⟨cs, a⟩ := Kd.S_typed h.h3 b e
      rw [e] at hg
      exact Kd.S_mono (Kd.S_grown (Kd.S_types h.h2 a (by decide)) hg (fun k hk q => hk.2 (Option.some.inj q))) (fun _ hk => hk.1)
  exact ⟨blk_put hb 13 _ rfl, Kd.R_set k1 hb (by decide) 13 _, Kd.S_set k2 hb (by decide) 13 _, Kd.S_set hS hb (by decide) 13 _, below_set hB h.hg, h.hg⟩
def put.T4 : Bool × List (List Nat × List Nat) := (true, [([], []), ([], []), ([1], [1]), ([2], [2]), ([3], [3]), ([4], [4]), ([], []), ([6], [6]), ([5, 7], [5, 7]), ([0, 0, 1, 2, 3, 4, 5, 6, 7, 8], [0]), ([9, 0, 1, 2, 3, 4, 5, 6, 7, 8], [9]), ([10, 0, 1, 2, 3, 4, 5, 6, 7, 8], [10]), ([11, 8, 8, 0, 1, 2, 3, 4, 5, 6, 7, 8], [8, 11])])
def put.B4 : List Nat := [0, 0, 2, 6, 14, 30, 0, 64, 254, 511, 1023, 2047, 4095]
theorem put.tab4 : rtab .any (opsOf Tryd.f55 4) = put.T4 := by kernel_rfl
theorem put.bits4 : waitsOk put.T4.2 put.B4 = true := by kernel_rfl
set_option maxHeartbeats 8000000 in
set_option maxRecDepth 100000 in
theorem put_ok (n : S53) (h8 : n.f8 = []) (hn : nodes.length < 64) (h : BS w0 c0 c1 c2 c3 c4 c5 c6 c7 c8 c9 w g vals locs regs nodes th false v1 v2 v3) :
    Calls Tryd.prog 55 #[.pointer (some ⟨g, 0, none⟩), nodeV n] w fun e w' => ∃ v3', e = .returned (.int .i64 nodes.length) ∧ BS w0 c0 c1 c2 c3 c4 c5 c6 c7 c8 c9 w' g vals locs regs (nodes ++ [n]) th false v1 v2 v3' ∧ TK w w' := by
  obtain ⟨A3, c3', rfl⟩ := Kd.S_slice h.h3
  have hu53 := Tryd.underlying53
  have hu88 := Tryd.underlying88
  have hu28 := Tryd.underlying28
  have HS := Aside0.mk h
  have hl : (64 ≤ (nodes.length : Int)) = False := eq_false (by omega)
  have hz : w.cell? ⟨g, 13, none⟩ = some (.slice A3 nodes.length c3') := (blk_cell h.blk 13).trans rfl
  clear h
  unfold nodeV
  go_enter Tryd.func55, Tryd.ntmps55
  go_wp2_with (first | ((with_reducible refine gate_dst (N := 3) rfl ?_); refine box_event ?hg (N := 3) ?hd (cs := #[.int .i64 n.f0, .int .i64 n.f1, .int .i64 n.f2, .int .i64 n.f3, .int .i64 n.f4, .int .i64 n.f5, .bool n.f6, .bool n.f7, .slice none 0 0]) (t := 53) ?hr ?_; (case hd => rfl); (case hg => rfl); (case hr => first | (go_simp; done) | (go_simp; rfl)); intro g1 hg1 w1 hbox hb1; replace hz := (hb1.cell (World.block_lt_of_cell? w _ hz)).trans hz; have hT := TK.of_below hb1; replace HS := Aside0.mk (HS.out.below hb1); have hx0 : w1.cell? ⟨g1, 0, none⟩ = some (.int .i64 n.f0) := (blk_cell hbox 0).trans rfl; have hx1 : w1.cell? ⟨g1, 1, none⟩ = some (.int .i64 n.f1) := (blk_cell hbox 1).trans rfl; have hx2 : w1.cell? ⟨g1, 2, none⟩ = some (.int .i64 n.f2) := (blk_cell hbox 2).trans rfl; have hx3 : w1.cell? ⟨g1, 3, none⟩ = some (.int .i64 n.f3) := (blk_cell hbox 3).trans rfl; have hx4 : w1.cell? ⟨g1, 4, none⟩ = some (.int .i64 n.f4) := (blk_cell hbox 4).trans rfl; have hx5 : w1.cell? ⟨g1, 5, none⟩ = some (.int .i64 n.f5) := (blk_cell hbox 5).trans rfl; have hx6 : w1.cell? ⟨g1, 6, none⟩ = some (.bool n.f6) := (blk_cell hbox 6).trans rfl; have hx7 : w1.cell? ⟨g1, 7, none⟩ = some (.bool n.f7) := (blk_cell hbox 7).trans rfl; have hx8 : w1.cell? ⟨g1, 8, none⟩ = some (.slice none 0 0) := (blk_cell hbox 8).trans rfl; clear hg1))
  replace HS := Aside0.mk HS.out.drew
  replace hT := TK.drew hT
  refine start_ (n := 13) (S := fun w' => w'.cell? ⟨g, 13, none⟩ = some (.slice A3 nodes.length c3') ∧ w'.cell? ⟨g1, 0, none⟩ = some (.int .i64 n.f0) ∧ w'.cell? ⟨g1, 1, none⟩ = some (.int .i64 n.f1) ∧ w'.cell? ⟨g1, 2, none⟩ = some (.int .i64 n.f2) ∧ w'.cell? ⟨g1, 3, none⟩ = some (.int .i64 n.f3) ∧ w'.cell? ⟨g1, 4, none⟩ = some (.int .i64 n.f4) ∧ w'.cell? ⟨g1, 5, none⟩ = some (.int .i64 n.f5) ∧ w'.cell? ⟨g1, 6, none⟩ = some (.bool n.f6) ∧ w'.cell? ⟨g1, 7, none⟩ = some (.bool n.f7) ∧ w'.cell? ⟨g1, 8, none⟩ = some (.slice none 0 0)) (ds := [8, 12]) #[Z,Z,Z,Z,Z,Z,Z,Z,Z,Z,Z,Z,Z] (by kernel_rfl) rfl rfl ⟨hz, hx0, hx1, hx2, hx3, hx4, hx5, hx6, hx7, hx8⟩ (fun hHeld => ?_)
  refine with_tabW put.tab4 put.bits4 (fun HT_ HW_ => ?_)
  generalize World.drew _ = wd at HS hT hHeld ⊢
  refine pure_ (i := 0) (N := some 15) (v := ?_) (a' := ?_) #[Y,Z,Z,Z,Z,Z,Z,Z,Z,Z,Z,Z,Z] rfl rfl (any_of HT_.out (by kernel_rfl)) (fun _ _ _ h => h) (Or.inl ⟨by rfl, ?_⟩) ?_ ?_
  rotate_left
  · intro w'
    go_simp
    with_reducible rfl
  rotate_left
  · simp only [Act.put, pA, pB, pC, i64_w, i32_w]
    rfl
  refine pure_ (i := 1) (N := some 16) (v := ?_) (a' := ?_) #[Y,Y,Z,Z,Z,Z,Z,Z,Z,Z,Z,Z,Z] rfl rfl (any_of HT_.out (by kernel_rfl)) (fun _ _ _ h => h) (Or.inl ⟨by rfl, ?_⟩) ?_ ?_
  rotate_left
  · intro w'
    go_simp
    with_reducible rfl
  rotate_left
  · simp only [Act.put, pA, pB, pC, i64_w, i32_w]
    rfl
  refine pure_ (i := 2) (N := some 17) (v := ?_) (a' := ?_) #[Y,Y,Y,Z,Z,Z,Z,Z,Z,Z,Z,Z,Z] rfl rfl (any_of HT_.out (by kernel_rfl)) (fun _ _ _ h => h) (Or.inl ⟨by rfl, ?_⟩) ?_ ?_
  rotate_left
  · intro w'
    go_simp
    with_reducible rfl
  rotate_left
  · simp only [Act.put, pA, pB, pC, i64_w, i32_w]
    rfl
  refine pure_ (i := 3) (N := some 18) (v := ?_) (a' := ?_) #[Y,Y,Y,Y,Z,Z,Z,Z,Z,Z,Z,Z,Z] rfl rfl (any_of HT_.out (by kernel_rfl)) (fun _ _ _ h => h) (Or.inl ⟨by rfl, ?_⟩) ?_ ?_
  rotate_left
  · intro w'
    go_simp
    with_reducible rfl
  rotate_left
  · simp only [Act.put, pA, pB, pC, i64_w, i32_w]
    rfl
  refine pure_ (i := 4) (N := some 19) (v := ?_) (a' := ?_) #[Y,Y,Y,Y,Y,Z,Z,Z,Z,Z,Z,Z,Z] rfl rfl (any_of HT_.out (by kernel_rfl)) (fun _ _ _ h => h) (Or.inl ⟨by rfl, ?_⟩) ?_ ?_
  rotate_left
  · intro w'
    go_simp
    with_reducible rfl
  rotate_left
  · simp only [Act.put, pA, pB, pC, i64_w, i32_w]
    rfl
  refine take_ (i := 5) (N := some 20) (v := ?_) (a' := ?_) #[Y,Y,Y,Y,Y,Y,Z,Z,Z,Z,Z,Z,Z] rfl rfl (take_ofW HT_.out HW_.out (by kernel_rfl)) (fun _ _ _ h => h) (Or.inl ⟨by rfl, ?_⟩) hHeld ?_ ?_
  rotate_left
  · rintro w' ⟨s0, s1, s2, s3, s4, s5, s6, s7, s8, s9⟩
    go_simp
    with_reducible rfl
  rotate_left
  · simp only [Act.put, pA, pB, pC, i64_w, i32_w]
    rfl
  refine take_ (i := 6) (N := some 21) (v := ?_) (a' := ?_) #[Y,Y,Y,Y,Y,Y,Y,Z,Z,Z,Z,Z,Z] rfl rfl (take_ofW HT_.out HW_.out (by kernel_rfl)) (fun _ _ _ h => h) (Or.inl ⟨by rfl, ?_⟩) hHeld ?_ ?_
  rotate_left
  · rintro w' ⟨s0, s1, s2, s3, s4, s5, s6, s7, s8, s9⟩
    go_simp
    with_reducible rfl
  rotate_left
  · simp only [Act.put, pA, pB, pC, i64_w, i32_w]
    rfl
  refine one_ (i := 7) (N := some 22) #[Y,Y,Y,Y,Y,Y,Y,Y,Z,Z,Z,Z,Z] rfl rfl (one_of HT_.out (by kernel_rfl)) (by decide) (fun K hK => ?_)
  refine value_ (w1 := ?_) (v := ?_) (by rfl) rfl ?_ ?_
  rotate_left 2
  · go_simp
    constructor
    · rfl
    · rfl
  refine hK.out _ _ (by obtain ⟨s0, s1, s2, s3, s4, s5, s6, s7, s8, s9⟩ := hHeld; exact ⟨(World.cell?_alloc_lt _ _ _ (World.block_lt_of_cell? _ _ s0)).trans s0, (World.cell?_alloc_lt _ _ _ (World.block_lt_of_cell? _ _ s1)).trans s1, (World.cell?_alloc_lt _ _ _ (World.block_lt_of_cell? _ _ s2)).trans s2, (World.cell?_alloc_lt _ _ _ (World.block_lt_of_cell? _ _ s3)).trans s3, (World.cell?_alloc_lt _ _ _ (World.block_lt_of_cell? _ _ s4)).trans s4, (World.cell?_alloc_lt _ _ _ (World.block_lt_of_cell? _ _ s5)).trans s5, (World.cell?_alloc_lt _ _ _ (World.block_lt_of_cell? _ _ s6)).trans s6, (World.cell?_alloc_lt _ _ _ (World.block_lt_of_cell? _ _ s7)).trans s7, (World.cell?_alloc_lt _ _ _ (World.block_lt_of_cell? _ _ s8)).trans s8, (World.cell?_alloc_lt _ _ _ (World.block_lt_of_cell? _ _ s9)).trans s9⟩) (fun hHeld => ?_)
  clear hK K
  refine norm_ (a' := ?_) ?_ ?_
  rotate_left
  · show Act.put _ (some 22) _ = _
    simp only [Act.put, pA, pB, pC, i64_w, i32_w]
    rfl
  refine last_ (i := 8) (N := some 23) #[Y,Y,Y,Y,Y,Y,Y,Y,Y,Z,Z,Z,Z] rfl rfl (one_of HT_.out (by kernel_rfl)) (by decide) (fun K hK => ?_)
  refine Kd.S_append_step k53 (w0 := w0) w0.heap.size (by rfl) (.tmp 20) (.tmp 22) 26 53 (.agg #[.int .i64 0, .int .i64 0, .int .i64 0, .int .i64 0, .int .i64 0, .int .i64 0, .bool false, .bool false, .slice none 0 0]) 80 rfl Tryd.underlying26 info53 rfl (by decide) (by decide) (.slice A3 nodes.length c3') nodes n [.int .i64 n.f0, .int .i64 n.f1, .int .i64 n.f2, .int .i64 n.f3, .int .i64 n.f4, .int .i64 n.f5, .bool n.f6, .bool n.f7, .slice none 0 0] (fun _ => True) (fun _ => False) rfl rfl ?hp (fun _ hk => hk.elim) (fun _ _ => trivial) ?hS HS.out.hB HS.out.hB.size (by omega) ?_
  (case hp => exact k53_mkM _ _ _ n (by rw [h8]; exact Kd.R_nil _ _ _ _ _))
  (case hS => exact Kd.S_mono HS.out.h3 (fun _ _ => ⟨trivial, fun h => h⟩))
  intro v4 w2 q1 q2 q3 _
  refine hK.out _ _ ?_
  clear hK K
  refine norm_ (a' := ?_) ?_ ?_
  rotate_left
  · show Act.put _ (some 23) _ = _
    simp only [Act.put, pA, pB, pC, i64_w, i32_w]
    rfl
  obtain ⟨A4, cc4, rfl⟩ := Kd.S_slice q1
  have H4 := HS.out.app q3 q1 q2
  have hb2 := HS.out.stay q3
  refine pure_ (i := 9) (N := some 24) (v := ?_) (a' := ?_) #[Y,Y,Y,Y,Y,Y,Y,Y,Y,Y,Z,Z,Z] rfl rfl (any_of HT_.out (by kernel_rfl)) (fun _ _ _ h => h) (Or.inl ⟨by rfl, ?_⟩) ?_ ?_
  rotate_left
  · intro w'
    go_simp
    with_reducible rfl
  rotate_left
  · simp only [Act.put, pA, pB, pC, i64_w, i32_w]
    rfl
  refine pure_ (i := 10) (N := some 25) (v := ?_) (a' := ?_) #[Y,Y,Y,Y,Y,Y,Y,Y,Y,Y,Y,Z,Z] rfl rfl (any_of HT_.out (by kernel_rfl)) (fun _ _ _ h => h) (Or.inl ⟨by rfl, ?_⟩) ?_ ?_
  rotate_left
  · intro w'
    go_simp
    with_reducible rfl
  rotate_left
  · simp only [Act.put, pA, pB, pC, i64_w, i32_w]
    rfl
  refine pure_ (i := 11) (N := some 26) (v := ?_) (a' := ?_) #[Y,Y,Y,Y,Y,Y,Y,Y,Y,Y,Y,Y,Z] rfl rfl (any_of HT_.out (by kernel_rfl)) (fun _ _ _ h => h) (Or.inl ⟨by rfl, ?_⟩) ?_ ?_
  rotate_left
  · intro w'
    go_simp
    with_reducible rfl
  rotate_left
  · simp only [Act.put, pA, pB, pC, i64_w, i32_w]
    rfl
  refine last_ (i := 12) (N := none) #[Y,Y,Y,Y,Y,Y,Y,Y,Y,Y,Y,Y,Y] rfl rfl (one_of HT_.out (by kernel_rfl)) (by decide) (fun K hK => ?_)
  have hs13 : w2.cell? ⟨g, 13, none⟩ = some (.slice A3 nodes.length c3') := (blk_cell hb2 13).trans rfl
  have hf13 := blk_frozen hb2 13
  refine skip_ (w1 := ?_) (by rfl) rfl ?_ ?_
  rotate_left
  · go_simp
    rfl
  refine hK.out _ _ ?_
  clear hK K
  refine done_ (done_of HT_.out (by kernel_rfl)) ?_
  have hT2 := (hT.grown q3 (fun k e => Kd.S_typed HS.out.h3 k e)).set (j := 13) hb2 (Or.inl rfl) (.slice A4 (nodes ++ [n]).length cc4)
  have hl4 : (nodes ++ [n]).length = nodes.length + 1 := by simp
  have hz4 := (blk_cell H4.blk 13).trans rfl
  go_wp2
  go_ret
  rw [hl4] at H4 hT2
  exact ⟨_, rfl, H4, hT2⟩
end Go.Proofs.YtlpdcdkjmcpfdaaDoor.PT
