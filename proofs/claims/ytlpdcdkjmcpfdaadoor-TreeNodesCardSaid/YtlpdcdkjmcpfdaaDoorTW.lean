/- The tree package's own form of a tree (of), at the tree that begun makes: walked by hand. -/
import Derived.Test.YtlpdcdkjmcpfdaaDoorTT
import Derived.Test.YtlpdcdkjmcpfdaaDoorTV
namespace Go.Proofs.YtlpdcdkjmcpfdaaDoor.PT
open Go.RowKit Go.Proofs.YtlpdcdkjmcpfdaaDoorW.PrintWords Go.Proofs.YtlpdcdkjmcpfdaaDoorW.PrintLast Go.Proofs.YtlpdcdkjmcpfdaaDoorW.PrintMore
set_option linter.unusedVariables false
set_option linter.unusedSimpArgs false
attribute [local go_sem] cell_set_some
section
variable {P : Program} {ops : Array Oper} {o : Oper} {a : Act} {Q : Exit → Act → World → Prop} {Kc : Act → World → Prop}
theorem made4 (z : Value) : madeCells #[z] 4 = #[z, z, z, z] := by
  refine Array.ext (by simp [madeCells]) fun i hi hi2 => ?_
  have h4 : i < 4 := by simpa using hi2
  rcases (by omega : i = 0 ∨ i = 1 ∨ i = 2 ∨ i = 3) with rfl | rfl | rfl | rfl <;> simp [madeCells]
/-- A row of four made, as one step of a region that draws. -/
theorem make_step {W : World} (hw : Region.wanted o (yielded ops a.tmps) = true) {N : Tmp} (_hd : o.dst = some N) (l : Operand) (t e : TypeId) (ho : o.op = .makeSlice t l l) (z : Value) (bytes : Nat) (hl : a.eval l = .int .i64 4)
    (ht : P.underlying t = some (.slice e)) (hinfo : (P.info? e).map (fun i => (i.zero, i.size, i.bytes)) = some (some z, 1, bytes)) (hz1 : z.cells = #[z]) (hb : bytes * 4 ≤ 281474976710656)
    (h : ∀ g, g = W.heap.size → ∀ w1, w1.heap[g]? = some (.cells #[z, z, z, z] e (0, 0)) → Below W.heap.size W w1 → Kc (a.put o.dst (.slice (some ⟨g, 0, none⟩) 4 4)) w1) : if Region.wanted o (yielded ops a.tmps) = true then Oper.wp P o a W Kc Q else Kc (a.put o.dst undef) W := by
  have hrun := run_make_row' (P := P) t e z bytes ht hinfo hz1 .i64 .i64 4 hb (by decide) W
  rw [made4] at hrun
  rw [show ((4 : Nat) : Int) = 4 from rfl] at hrun
  have hr : (execOp a.eval o).run P W = .ok (.value (.slice (some ⟨W.heap.size, 0, none⟩) 4 4)) (W.alloc (.cells #[z, z, z, z] e)) := by
    simp only [execOp, ho, hl]
    simp [hrun, go_sem]
  exact event_step hw hr (h _ rfl _ (blk_new W _) (below_alloc (Below.refl _ _) _))
end
theorem wrap64_one : wrap64 1 = 1 := w64' (by omega) (by omega)
theorem far1 {w : World} {g j g2 : Nat} {v : Value} {x : Obj} (h : w.heap[g2]? = some x) (hne : g2 ≠ g) : (w.setCell ⟨g, j, none⟩ v).heap[g2]? = some x := (Below.heap_setCell _ ⟨g, j, none⟩ _ g2 hne).trans h
theorem fill72 {w : World} {g : Nat} {e0 e1 e2 e3 e4 e5 : Value} (h : w.heap[g]? = some (.cells #[e0, e1, e2, e3, e4, e5] 72 (0, 0))) (v0 v1 v2 v3 v4 v5 : Value) (W : World) (hW : W = (((((w.setCell ⟨g, 0, none⟩ v0).setCell ⟨g, 1, none⟩ v1).setCell ⟨g, 2, none⟩ v2).setCell ⟨g, 3, none⟩ v3).setCell ⟨g, 4, none⟩ v4).setCell ⟨g, 5, none⟩ v5) :
    W.heap[g]? = some (.cells #[v0, v1, v2, v3, v4, v5] 72 (0, 0)) ∧ (∀ B, B ≤ g → Below B w W) ∧ ∀ (g2 : Nat) (x : Obj), w.heap[g2]? = some x → g2 ≠ g → W.heap[g2]? = some x := by
  subst hW
  have b0 := blk_put (cs' := #[v0, e1, e2, e3, e4, e5]) h 0 v0 (by simp)
  have b1 := blk_put (cs' := #[v0, v1, e2, e3, e4, e5]) b0 1 v1 (by simp)
  have b2 := blk_put (cs' := #[v0, v1, v2, e3, e4, e5]) b1 2 v2 (by simp)
  have b3 := blk_put (cs' := #[v0, v1, v2, v3, e4, e5]) b2 3 v3 (by simp)
  have b4 := blk_put (cs' := #[v0, v1, v2, v3, v4, e5]) b3 4 v4 (by simp)
  have b5 := blk_put (cs' := #[v0, v1, v2, v3, v4, v5]) b4 5 v5 (by simp)
  exact ⟨b5, fun B hB => ((((((Below.refl B w).setCell hB _).setCell hB _).setCell hB _).setCell hB _).setCell hB _).setCell hB _, fun g2 x hx hne => far1 (far1 (far1 (far1 (far1 (far1 hx hne) hne) hne) hne) hne) hne⟩
def of.T3 : Bool × List (List Nat × List Nat) := (true, [([], []), ([], []), ([1], [1]), ([2], [2]), ([3, 3], [3]), ([], []), ([5], [5]), ([6], [6]), ([7, 7], [7]), ([0, 4, 8], [0, 4, 8]), ([], []), ([10, 9, 0, 1, 2, 3, 4, 5, 6, 7, 8, 9, 10], [9, 10])])
def of.B3 : List Nat := [0, 0, 2, 6, 14, 0, 32, 96, 224, 511, 0, 2047]
theorem of.tab3 : rtab .any (opsOf Tryd.f36 3) = of.T3 := by kernel_rfl
theorem of.bits3 : waitsOk of.T3.2 of.B3 = true := by kernel_rfl
def of.T8 : Bool × List (List Nat × List Nat) := (true, [([], []), ([0], [0]), ([], []), ([], []), ([3], [3]), ([], []), ([5], [5]), ([4, 6], [4, 6]), ([7], [7]), ([8], [8]), ([1, 2, 0, 1, 2, 3, 4, 5, 6, 7, 8, 9], [1, 2]), ([10, 9, 0, 1, 2, 3, 4, 5, 6, 7, 8, 9], [9, 10])])
def of.B8 : List Nat := [0, 1, 0, 0, 8, 0, 32, 120, 248, 504, 1023, 2047]
theorem of.tab8 : rtab .any (opsOf Tryd.f36 8) = of.T8 := by kernel_rfl
theorem of.bits8 : waitsOk of.T8.2 of.B8 = true := by kernel_rfl
def of.T9 : Bool × List (List Nat × List Nat) := (true, [([], []), ([0], [0]), ([], []), ([], []), ([3], [3]), ([], []), ([5], [5]), ([4, 6], [4, 6]), ([7], [7]), ([], []), ([9], [9]), ([8, 10], [8, 10]), ([1, 2, 0, 1, 2, 3, 4, 5, 6, 7, 8, 9, 10, 11], [1, 2]), ([12, 11, 11, 0, 1, 2, 3, 4, 5, 6, 7, 8, 9, 10, 11], [11, 12])])
def of.B9 : List Nat := [0, 1, 0, 0, 8, 0, 32, 120, 248, 0, 512, 2040, 4095, 8191]
theorem of.tab9 : rtab .any (opsOf Tryd.f36 9) = of.T9 := by kernel_rfl
theorem of.bits9 : waitsOk of.T9.2 of.B9 = true := by kernel_rfl
set_option maxHeartbeats 8000000 in
set_option maxRecDepth 100000 in
theorem of_c (w : World) (A1 A2 A3 : Option Addr) (c1 c2 c3 : Nat) (h1 : Kd.C Kd.string w A1 1 [⟨#[120]⟩]) (hc1 : 1 ≤ c1) (h2 : Kd.C (Kd.slice 9 Kd.string) w A2 1 [[⟨#[114]⟩]]) (hc2 : 1 ≤ c2) (h3 : Kd.C k53 w A3 4 nodes0) (hc3 : 4 ≤ c3) :
    Calls Tryd.prog 36 #[.agg #[.int .i64 2, .slice A1 1 c1, .slice A2 1 c2, .slice A3 4 c3]] w fun e w' => ∃ gd go, e = .returned (.tuple #[.agg #[.int .i64 2, .slice A1 1 c1, .slice A2 1 c2, .slice A3 4 c3, .slice (some ⟨gd, 0, none⟩) 4 4, .slice (some ⟨go, 0, none⟩) 4 4], .bool true]) ∧
      w'.heap[gd]? = some (.cells #[.int .i64 0, .int .i64 0, .int .i64 1, .int .i64 1] 3 (0, 0)) ∧ w'.heap[go]? = some (.cells #[.int .u64 0, .int .u64 0, .int .u64 2, .int .u64 2] 44 (0, 0)) ∧ Below w.heap.size w w' := by
  have hu28 := Tryd.underlying28
  have hu72 := Tryd.underlying72
  have hu53 := Tryd.underlying53
  have h3_ := h3
  obtain ⟨b, o, B0, b0, B1, b1, ar2, b2, ar3, b3, rfl, hn⟩ := NC.of h3_
  have HN := Aside0.mk hn
  have H1 := Aside0.mk h1
  have H2 := Aside0.mk h2
  have H3 := Aside0.mk h3
  clear hn h1 h2 h3 h3_
  go_enter Tryd.func36, Tryd.ntmps36
  go_upto_region 1 with (first
    | ((with_reducible refine gate_dst (N := 1) rfl ?_); refine box_event ?hg (N := 1) ?hd (cs := #[.int .i64 2, .slice A1 1 c1, .slice A2 1 c2, .slice (some ⟨b, o, none⟩) 4 c3]) (t := 28) ?hr ?_; (case hd => rfl); (case hg => rfl); (case hr => first | (go_simp; done) | (go_simp; rfl)); intro g1 hg1 w1 hbox hb1; have HX := Aside0.mk hbox; have HB := Aside0.mk hb1; clear hg1 hb1 hbox)
    | ((with_reducible refine gate_dst (N := 2) rfl ?_); refine box_event ?hg (N := 2) ?hd (cs := #[.int .i64 0, .slice none 0 0, .slice none 0 0, .slice none 0 0, .slice none 0 0, .slice none 0 0]) (t := 72) ?hr ?_; (case hd => rfl); (case hg => rfl); (case hr => first | (go_simp; done) | (go_simp; rfl)); intro g2 hg2 w2 hbox2 hb2; have HC := Aside0.mk hbox2; have Gg2 := Aside0.mk (show w.heap.size ≤ g2 from hg2 ▸ HB.out.size); replace HX := Aside0.mk (blk_below HX.out hb2); replace HB := Aside0.mk (below_step HB.out hb2); clear hg2 hb2 hbox2))
  have hx0 := blk_celln (HX.out) 0 _ rfl; have hx1 := blk_celln (HX.out) 1 _ rfl; have hx2 := blk_celln (HX.out) 2 _ rfl; have hx3 := blk_celln (HX.out) 3 _ rfl
  go_wp2_with (fail)
  refine (may_tree _ A1 A2 (some ⟨b, o, none⟩) c1 c2 c3 (Kd.C_below H1.out HB.out) hc1 (Kd.C_below H2.out HB.out) hc2 (Kd.C_below H3.out HB.out) hc3).mono ?_
  rintro e w3 ⟨rfl, q3⟩
  replace HX := Aside0.mk (blk_below HX.out q3)
  replace HC := Aside0.mk (blk_below HC.out q3)
  replace HB := Aside0.mk (below_step HB.out q3)
  clear q3 hx0 hx1 hx2 hx3
  go_upto_region 3 with (fail)
  replace HX := Aside0.mk (blk_drew HX.out)
  replace HC := Aside0.mk (blk_drew HC.out)
  replace HB := Aside0.mk (below_drew HB.out)
  refine start_ (n := 12) (S := fun w' => w'.cell? ⟨g1, 0, none⟩ = some (.int .i64 2) ∧ w'.cell? ⟨g1, 1, none⟩ = some (.slice A1 1 c1) ∧ w'.cell? ⟨g1, 2, none⟩ = some (.slice A2 1 c2) ∧ w'.cell? ⟨g1, 3, none⟩ = some (.slice (some ⟨b, o, none⟩) 4 c3)) (ds := [11]) #[Z,Z,Z,Z,Z,Z,Z,Z,Z,Z,Z,Z] (by kernel_rfl) rfl rfl ⟨(blk_celln HX.out 0 _ rfl), (blk_celln HX.out 1 _ rfl), (blk_celln HX.out 2 _ rfl), (blk_celln HX.out 3 _ rfl)⟩ (fun hHeld => ?_)
  refine with_tabW of.tab3 of.bits3 (fun HT_ HW_ => ?_)
  generalize World.drew _ = wE at HX HC HB hHeld ⊢
  have HE := Aside0.mk (Below.refl wE.heap.size wE)
  have hwE := HB.out.size
  refine take_ (i := 0) (N := some 11) (v := ?_) (a' := ?_) #[Y,Z,Z,Z,Z,Z,Z,Z,Z,Z,Z,Z] rfl rfl (take_ofW HT_.out HW_.out (by kernel_rfl)) (fun _ _ _ h => h) (Or.inl ⟨by rfl, ?_⟩) hHeld ?_ ?_
  rotate_left
  · rintro w' ⟨s0, s1, s2, s3⟩
    go_simp
    with_reducible rfl
  rotate_left
  · simp only [Act.put, pA, pB, pC, i64_w, i32_w]
    rfl
  refine pure_ (i := 1) (N := some 12) (v := ?_) (a' := ?_) #[Y,Y,Z,Z,Z,Z,Z,Z,Z,Z,Z,Z] rfl rfl (any_of HT_.out (by kernel_rfl)) (fun _ _ _ h => h) (Or.inl ⟨by rfl, ?_⟩) ?_ ?_
  rotate_left
  · intro w'
    go_simp
    with_reducible rfl
  rotate_left
  · simp only [Act.put, pA, pB, pC, i64_w, i32_w]
    rfl
  refine take_ (i := 2) (N := some 13) (v := ?_) (a' := ?_) #[Y,Y,Y,Z,Z,Z,Z,Z,Z,Z,Z,Z] rfl rfl (take_ofW HT_.out HW_.out (by kernel_rfl)) (fun _ _ _ h => h) (Or.inl ⟨by rfl, ?_⟩) hHeld ?_ ?_
  rotate_left
  · rintro w' ⟨s0, s1, s2, s3⟩
    go_simp
    with_reducible rfl
  rotate_left
  · simp only [Act.put, pA, pB, pC, i64_w, i32_w]
    rfl
  refine pure_ (i := 3) (N := some 14) (v := ?_) (a' := ?_) #[Y,Y,Y,Y,Z,Z,Z,Z,Z,Z,Z,Z] rfl rfl (any_of HT_.out (by kernel_rfl)) (fun _ _ _ h => h) (Or.inl ⟨by rfl, ?_⟩) ?_ ?_
  rotate_left
  · intro w'
    go_simp
    with_reducible rfl
  rotate_left
  · simp only [Act.put, pA, pB, pC, i64_w, i32_w]
    rfl
  refine pure_ (i := 5) (N := some 16) (v := ?_) (a' := ?_) #[Y,Y,Y,Y,Z,Y,Z,Z,Z,Z,Z,Z] rfl rfl (any_of HT_.out (by kernel_rfl)) (fun _ _ _ h => h) (Or.inl ⟨by rfl, ?_⟩) ?_ ?_
  rotate_left
  · intro w'
    go_simp
    with_reducible rfl
  rotate_left
  · simp only [Act.put, pA, pB, pC, i64_w, i32_w]
    rfl
  refine take_ (i := 6) (N := some 17) (v := ?_) (a' := ?_) #[Y,Y,Y,Y,Z,Y,Y,Z,Z,Z,Z,Z] rfl rfl (take_ofW HT_.out HW_.out (by kernel_rfl)) (fun _ _ _ h => h) (Or.inl ⟨by rfl, ?_⟩) hHeld ?_ ?_
  rotate_left
  · rintro w' ⟨s0, s1, s2, s3⟩
    go_simp
    with_reducible rfl
  rotate_left
  · simp only [Act.put, pA, pB, pC, i64_w, i32_w]
    rfl
  refine pure_ (i := 7) (N := some 18) (v := ?_) (a' := ?_) #[Y,Y,Y,Y,Z,Y,Y,Y,Z,Z,Z,Z] rfl rfl (any_of HT_.out (by kernel_rfl)) (fun _ _ _ h => h) (Or.inl ⟨by rfl, ?_⟩) ?_ ?_
  rotate_left
  · intro w'
    go_simp
    with_reducible rfl
  rotate_left
  · simp only [Act.put, pA, pB, pC, i64_w, i32_w]
    rfl
  refine join_ (σ := Nat × Nat × Nat) 1 #[Y,Y,Y,Y,Y,Y,Y,Y,Y,Y,Y,Z] (fun s_ => [(15, .slice (some ⟨s_.1, 0, none⟩) 4 4), (19, .slice (some ⟨s_.2.1, 0, none⟩) 4 4), (20, .agg #[(.int .i64 2), (.slice A1 1 c1), (.slice A2 1 c2), (.slice (some ⟨b, o, none⟩) 4 c3), .slice (some ⟨s_.1, 0, none⟩) 4 4, .slice (some ⟨s_.2.1, 0, none⟩) 4 4]), (4, .pointer (some ⟨s_.2.2, 0, none⟩))]) (fun s_ w' => (w'.cell? ⟨g1, 0, none⟩ = some (.int .i64 2) ∧ w'.cell? ⟨g1, 1, none⟩ = some (.slice A1 1 c1) ∧ w'.cell? ⟨g1, 2, none⟩ = some (.slice A2 1 c2) ∧ w'.cell? ⟨g1, 3, none⟩ = some (.slice (some ⟨b, o, none⟩) 4 c3)) ∧ w'.heap[s_.1]? = some (.cells #[.int .i64 0, .int .i64 0, .int .i64 0, .int .i64 0] 3 (0, 0)) ∧ w'.heap[s_.2.1]? = some (.cells #[.int .u64 0, .int .u64 0, .int .u64 0, .int .u64 0] 44 (0, 0)) ∧ w'.heap[s_.2.2]? = some (.cells #[.int .i64 0, .slice none 0 0, .slice none 0 0, .slice none 0 0, .slice none 0 0, .slice none 0 0] 72 (0, 0)) ∧ w.heap.size ≤ s_.1 ∧ w.heap.size ≤ s_.2.1 ∧ w.heap.size ≤ s_.2.2 ∧ g2 ≠ s_.2.2 ∧ Below wE.heap.size wE w') ?_ ?_
  rotate_left
  · intro hCont
    refine three_ (i := 4) (j := 8) (k := 10) (Ni := some 15) (Nj := some 19) (Nk := some 4) #[Y,Y,Y,Y,Y,Y,Y,Y,Z,Z,Z,Z] #[Y,Y,Y,Y,Z,Y,Y,Y,Y,Z,Z,Z] #[Y,Y,Y,Y,Z,Y,Y,Y,Z,Z,Y,Z] rfl rfl rfl rfl rfl rfl (three_of HT_.out (by kernel_rfl)) (by decide) (by decide) (by decide) (fun K hK => ?_) (fun K hK => ?_) (fun K hK => ?_)
    · skip
      refine make_step (by rfl) (N := 15) rfl (.tmp 14) 41 3 rfl (.int .i64 0) 8 rfl Tryd.underlying41 info3 rfl (by decide) ?_
      intro gd hg__ w5_ hbox_ hq_
      have H4 := Aside0.mk hbox_
      have Ggd := Aside0.mk (show w.heap.size ≤ gd from hg__ ▸ Nat.le_trans hwE HE.out.size)
      replace HE := Aside0.mk (below_step HE.out hq_)
      refine hK.out _ _ (by obtain ⟨s0, s1, s2, s3⟩ := hHeld; exact ⟨(cell_below s0 hq_), (cell_below s1 hq_), (cell_below s2 hq_), (cell_below s3 hq_)⟩) (fun hHeld => ?_)
      clear hK K hg__ hbox_ hq_
      refine norm_ (a' := ?_) ?_ ?_
      rotate_left
      · show Act.put _ (some 15) _ = _
        simp only [Act.put, pA, pB, pC, i64_w, i32_w]
        rfl
      refine two_ (i := 8) (j := 10) (Ni := some 19) (Nj := some 4) #[Y,Y,Y,Y,Y,Y,Y,Y,Y,Z,Z,Z] #[Y,Y,Y,Y,Y,Y,Y,Y,Z,Z,Y,Z] rfl rfl rfl rfl (two_of HT_.out (by kernel_rfl)) (by decide) (by decide) (fun K hK => ?_) (fun K hK => ?_)
      · skip
        refine make_step (by rfl) (N := 19) rfl (.tmp 18) 48 44 rfl (.int .u64 0) 8 rfl Tryd.underlying48 info44 rfl (by decide) ?_
        intro go hg__ w5_ hbox_ hq_
        have H8 := Aside0.mk hbox_
        have Ggo := Aside0.mk (show w.heap.size ≤ go from hg__ ▸ Nat.le_trans hwE HE.out.size)
        replace H4 := Aside0.mk (blk_below H4.out hq_)
        replace HE := Aside0.mk (below_step HE.out hq_)
        refine hK.out _ _ (by obtain ⟨s0, s1, s2, s3⟩ := hHeld; exact ⟨(cell_below s0 hq_), (cell_below s1 hq_), (cell_below s2 hq_), (cell_below s3 hq_)⟩) (fun hHeld => ?_)
        clear hK K hg__ hbox_ hq_
        refine norm_ (a' := ?_) ?_ ?_
        rotate_left
        · show Act.put _ (some 19) _ = _
          simp only [Act.put, pA, pB, pC, i64_w, i32_w]
          rfl
        refine pure_ (i := 9) (N := some 20) (v := ?_) (a' := ?_) #[Y,Y,Y,Y,Y,Y,Y,Y,Y,Y,Z,Z] rfl rfl (any_of HT_.out (by kernel_rfl)) (fun _ _ _ h => h) (Or.inl ⟨by rfl, ?_⟩) ?_ ?_
        rotate_left
        · intro w'
          go_simp
          with_reducible rfl
        rotate_left
        · simp only [Act.put, pA, pB, pC, i64_w, i32_w]
          rfl
        refine one_ (i := 10) (N := some 4) #[Y,Y,Y,Y,Y,Y,Y,Y,Y,Y,Y,Z] rfl rfl (one_of HT_.out (by kernel_rfl)) (by decide) (fun K hK => ?_)
        refine box_step ?hg (N := 4) ?hd (cs := #[.int .i64 0, .slice none 0 0, .slice none 0 0, .slice none 0 0, .slice none 0 0, .slice none 0 0]) (t := 72) ?hr ?_; (case hd => rfl); (case hg => rfl); (case hr => first | (go_simp; done) | (go_simp; rfl))
        intro g4 hg__ w5_ hbox_ hq_
        have HT := Aside0.mk hbox_
        have Gg4 := Aside0.mk (show w.heap.size ≤ g4 from hg__ ▸ Nat.le_trans hwE HE.out.size)
        have neC := Aside0.mk (show g2 ≠ g4 from Nat.ne_of_lt (Nat.lt_of_lt_of_le (blk_lt HC.out) (hg__ ▸ HE.out.size)))
        replace H4 := Aside0.mk (blk_below H4.out hq_)
        replace H8 := Aside0.mk (blk_below H8.out hq_)
        replace HE := Aside0.mk (below_step HE.out hq_)
        refine hK.out _ _ (by obtain ⟨s0, s1, s2, s3⟩ := hHeld; exact ⟨(cell_below s0 hq_), (cell_below s1 hq_), (cell_below s2 hq_), (cell_below s3 hq_)⟩) (fun hHeld => ?_)
        clear hK K hg__ hbox_ hq_
        refine norm_ (a' := ?_) ?_ ?_
        rotate_left
        · show Act.put _ (some 4) _ = _
          simp only [Act.put, pA, pB, pC, i64_w, i32_w]
          rfl
        exact norm_ (by simp only [putAll, Act.put, pA, pB, pC]) (hCont (gd, go, g4) _ ⟨hHeld, H4.out, H8.out, HT.out, Ggd.out, Ggo.out, Gg4.out, neC.out, HE.out⟩)
      · skip
        refine box_step ?hg (N := 4) ?hd (cs := #[.int .i64 0, .slice none 0 0, .slice none 0 0, .slice none 0 0, .slice none 0 0, .slice none 0 0]) (t := 72) ?hr ?_; (case hd => rfl); (case hg => rfl); (case hr => first | (go_simp; done) | (go_simp; rfl))
        intro g4 hg__ w5_ hbox_ hq_
        have HT := Aside0.mk hbox_
        have Gg4 := Aside0.mk (show w.heap.size ≤ g4 from hg__ ▸ Nat.le_trans hwE HE.out.size)
        have neC := Aside0.mk (show g2 ≠ g4 from Nat.ne_of_lt (Nat.lt_of_lt_of_le (blk_lt HC.out) (hg__ ▸ HE.out.size)))
        replace H4 := Aside0.mk (blk_below H4.out hq_)
        replace HE := Aside0.mk (below_step HE.out hq_)
        refine hK.out _ _ (by obtain ⟨s0, s1, s2, s3⟩ := hHeld; exact ⟨(cell_below s0 hq_), (cell_below s1 hq_), (cell_below s2 hq_), (cell_below s3 hq_)⟩) (fun hHeld => ?_)
        clear hK K hg__ hbox_ hq_
        refine norm_ (a' := ?_) ?_ ?_
        rotate_left
        · show Act.put _ (some 4) _ = _
          simp only [Act.put, pA, pB, pC, i64_w, i32_w]
          rfl
        refine one_ (i := 8) (N := some 19) #[Y,Y,Y,Y,Y,Y,Y,Y,Y,Z,Y,Z] rfl rfl (one_of HT_.out (by kernel_rfl)) (by decide) (fun K hK => ?_)
        refine make_step (by rfl) (N := 19) rfl (.tmp 18) 48 44 rfl (.int .u64 0) 8 rfl Tryd.underlying48 info44 rfl (by decide) ?_
        intro go hg__ w5_ hbox_ hq_
        have H8 := Aside0.mk hbox_
        have Ggo := Aside0.mk (show w.heap.size ≤ go from hg__ ▸ Nat.le_trans hwE HE.out.size)
        replace H4 := Aside0.mk (blk_below H4.out hq_)
        replace HT := Aside0.mk (blk_below HT.out hq_)
        replace HE := Aside0.mk (below_step HE.out hq_)
        refine hK.out _ _ (by obtain ⟨s0, s1, s2, s3⟩ := hHeld; exact ⟨(cell_below s0 hq_), (cell_below s1 hq_), (cell_below s2 hq_), (cell_below s3 hq_)⟩) (fun hHeld => ?_)
        clear hK K hg__ hbox_ hq_
        refine norm_ (a' := ?_) ?_ ?_
        rotate_left
        · show Act.put _ (some 19) _ = _
          simp only [Act.put, pA, pB, pC, i64_w, i32_w]
          rfl
        refine pure_ (i := 9) (N := some 20) (v := ?_) (a' := ?_) #[Y,Y,Y,Y,Y,Y,Y,Y,Y,Y,Y,Z] rfl rfl (any_of HT_.out (by kernel_rfl)) (fun _ _ _ h => h) (Or.inl ⟨by rfl, ?_⟩) ?_ ?_
        rotate_left
        · intro w'
          go_simp
          with_reducible rfl
        rotate_left
        · simp only [Act.put, pA, pB, pC, i64_w, i32_w]
          rfl
        exact norm_ (by simp only [putAll, Act.put, pA, pB, pC]) (hCont (gd, go, g4) _ ⟨hHeld, H4.out, H8.out, HT.out, Ggd.out, Ggo.out, Gg4.out, neC.out, HE.out⟩)
    · skip
      refine make_step (by rfl) (N := 19) rfl (.tmp 18) 48 44 rfl (.int .u64 0) 8 rfl Tryd.underlying48 info44 rfl (by decide) ?_
      intro go hg__ w5_ hbox_ hq_
      have H8 := Aside0.mk hbox_
      have Ggo := Aside0.mk (show w.heap.size ≤ go from hg__ ▸ Nat.le_trans hwE HE.out.size)
      replace HE := Aside0.mk (below_step HE.out hq_)
      refine hK.out _ _ (by obtain ⟨s0, s1, s2, s3⟩ := hHeld; exact ⟨(cell_below s0 hq_), (cell_below s1 hq_), (cell_below s2 hq_), (cell_below s3 hq_)⟩) (fun hHeld => ?_)
      clear hK K hg__ hbox_ hq_
      refine norm_ (a' := ?_) ?_ ?_
      rotate_left
      · show Act.put _ (some 19) _ = _
        simp only [Act.put, pA, pB, pC, i64_w, i32_w]
        rfl
      refine two_ (i := 4) (j := 10) (Ni := some 15) (Nj := some 4) #[Y,Y,Y,Y,Y,Y,Y,Y,Y,Z,Z,Z] #[Y,Y,Y,Y,Z,Y,Y,Y,Y,Z,Y,Z] rfl rfl rfl rfl (two_of HT_.out (by kernel_rfl)) (by decide) (by decide) (fun K hK => ?_) (fun K hK => ?_)
      · skip
        refine make_step (by rfl) (N := 15) rfl (.tmp 14) 41 3 rfl (.int .i64 0) 8 rfl Tryd.underlying41 info3 rfl (by decide) ?_
        intro gd hg__ w5_ hbox_ hq_
        have H4 := Aside0.mk hbox_
        have Ggd := Aside0.mk (show w.heap.size ≤ gd from hg__ ▸ Nat.le_trans hwE HE.out.size)
        replace H8 := Aside0.mk (blk_below H8.out hq_)
        replace HE := Aside0.mk (below_step HE.out hq_)
        refine hK.out _ _ (by obtain ⟨s0, s1, s2, s3⟩ := hHeld; exact ⟨(cell_below s0 hq_), (cell_below s1 hq_), (cell_below s2 hq_), (cell_below s3 hq_)⟩) (fun hHeld => ?_)
        clear hK K hg__ hbox_ hq_
        refine norm_ (a' := ?_) ?_ ?_
        rotate_left
        · show Act.put _ (some 15) _ = _
          simp only [Act.put, pA, pB, pC, i64_w, i32_w]
          rfl
        refine pure_ (i := 9) (N := some 20) (v := ?_) (a' := ?_) #[Y,Y,Y,Y,Y,Y,Y,Y,Y,Y,Z,Z] rfl rfl (any_of HT_.out (by kernel_rfl)) (fun _ _ _ h => h) (Or.inl ⟨by rfl, ?_⟩) ?_ ?_
        rotate_left
        · intro w'
          go_simp
          with_reducible rfl
        rotate_left
        · simp only [Act.put, pA, pB, pC, i64_w, i32_w]
          rfl
        refine one_ (i := 10) (N := some 4) #[Y,Y,Y,Y,Y,Y,Y,Y,Y,Y,Y,Z] rfl rfl (one_of HT_.out (by kernel_rfl)) (by decide) (fun K hK => ?_)
        refine box_step ?hg (N := 4) ?hd (cs := #[.int .i64 0, .slice none 0 0, .slice none 0 0, .slice none 0 0, .slice none 0 0, .slice none 0 0]) (t := 72) ?hr ?_; (case hd => rfl); (case hg => rfl); (case hr => first | (go_simp; done) | (go_simp; rfl))
        intro g4 hg__ w5_ hbox_ hq_
        have HT := Aside0.mk hbox_
        have Gg4 := Aside0.mk (show w.heap.size ≤ g4 from hg__ ▸ Nat.le_trans hwE HE.out.size)
        have neC := Aside0.mk (show g2 ≠ g4 from Nat.ne_of_lt (Nat.lt_of_lt_of_le (blk_lt HC.out) (hg__ ▸ HE.out.size)))
        replace H8 := Aside0.mk (blk_below H8.out hq_)
        replace H4 := Aside0.mk (blk_below H4.out hq_)
        replace HE := Aside0.mk (below_step HE.out hq_)
        refine hK.out _ _ (by obtain ⟨s0, s1, s2, s3⟩ := hHeld; exact ⟨(cell_below s0 hq_), (cell_below s1 hq_), (cell_below s2 hq_), (cell_below s3 hq_)⟩) (fun hHeld => ?_)
        clear hK K hg__ hbox_ hq_
        refine norm_ (a' := ?_) ?_ ?_
        rotate_left
        · show Act.put _ (some 4) _ = _
          simp only [Act.put, pA, pB, pC, i64_w, i32_w]
          rfl
        exact norm_ (by simp only [putAll, Act.put, pA, pB, pC]) (hCont (gd, go, g4) _ ⟨hHeld, H4.out, H8.out, HT.out, Ggd.out, Ggo.out, Gg4.out, neC.out, HE.out⟩)
      · skip
        refine box_step ?hg (N := 4) ?hd (cs := #[.int .i64 0, .slice none 0 0, .slice none 0 0, .slice none 0 0, .slice none 0 0, .slice none 0 0]) (t := 72) ?hr ?_; (case hd => rfl); (case hg => rfl); (case hr => first | (go_simp; done) | (go_simp; rfl))
        intro g4 hg__ w5_ hbox_ hq_
        have HT := Aside0.mk hbox_
        have Gg4 := Aside0.mk (show w.heap.size ≤ g4 from hg__ ▸ Nat.le_trans hwE HE.out.size)
        have neC := Aside0.mk (show g2 ≠ g4 from Nat.ne_of_lt (Nat.lt_of_lt_of_le (blk_lt HC.out) (hg__ ▸ HE.out.size)))
        replace H8 := Aside0.mk (blk_below H8.out hq_)
        replace HE := Aside0.mk (below_step HE.out hq_)
        refine hK.out _ _ (by obtain ⟨s0, s1, s2, s3⟩ := hHeld; exact ⟨(cell_below s0 hq_), (cell_below s1 hq_), (cell_below s2 hq_), (cell_below s3 hq_)⟩) (fun hHeld => ?_)
        clear hK K hg__ hbox_ hq_
        refine norm_ (a' := ?_) ?_ ?_
        rotate_left
        · show Act.put _ (some 4) _ = _
          simp only [Act.put, pA, pB, pC, i64_w, i32_w]
          rfl
        refine one_ (i := 4) (N := some 15) #[Y,Y,Y,Y,Y,Y,Y,Y,Y,Z,Y,Z] rfl rfl (one_of HT_.out (by kernel_rfl)) (by decide) (fun K hK => ?_)
        refine make_step (by rfl) (N := 15) rfl (.tmp 14) 41 3 rfl (.int .i64 0) 8 rfl Tryd.underlying41 info3 rfl (by decide) ?_
        intro gd hg__ w5_ hbox_ hq_
        have H4 := Aside0.mk hbox_
        have Ggd := Aside0.mk (show w.heap.size ≤ gd from hg__ ▸ Nat.le_trans hwE HE.out.size)
        replace H8 := Aside0.mk (blk_below H8.out hq_)
        replace HT := Aside0.mk (blk_below HT.out hq_)
        replace HE := Aside0.mk (below_step HE.out hq_)
        refine hK.out _ _ (by obtain ⟨s0, s1, s2, s3⟩ := hHeld; exact ⟨(cell_below s0 hq_), (cell_below s1 hq_), (cell_below s2 hq_), (cell_below s3 hq_)⟩) (fun hHeld => ?_)
        clear hK K hg__ hbox_ hq_
        refine norm_ (a' := ?_) ?_ ?_
        rotate_left
        · show Act.put _ (some 15) _ = _
          simp only [Act.put, pA, pB, pC, i64_w, i32_w]
          rfl
        refine pure_ (i := 9) (N := some 20) (v := ?_) (a' := ?_) #[Y,Y,Y,Y,Y,Y,Y,Y,Y,Y,Y,Z] rfl rfl (any_of HT_.out (by kernel_rfl)) (fun _ _ _ h => h) (Or.inl ⟨by rfl, ?_⟩) ?_ ?_
        rotate_left
        · intro w'
          go_simp
          with_reducible rfl
        rotate_left
        · simp only [Act.put, pA, pB, pC, i64_w, i32_w]
          rfl
        exact norm_ (by simp only [putAll, Act.put, pA, pB, pC]) (hCont (gd, go, g4) _ ⟨hHeld, H4.out, H8.out, HT.out, Ggd.out, Ggo.out, Gg4.out, neC.out, HE.out⟩)
    · skip
      refine box_step ?hg (N := 4) ?hd (cs := #[.int .i64 0, .slice none 0 0, .slice none 0 0, .slice none 0 0, .slice none 0 0, .slice none 0 0]) (t := 72) ?hr ?_; (case hd => rfl); (case hg => rfl); (case hr => first | (go_simp; done) | (go_simp; rfl))
      intro g4 hg__ w5_ hbox_ hq_
      have HT := Aside0.mk hbox_
      have Gg4 := Aside0.mk (show w.heap.size ≤ g4 from hg__ ▸ Nat.le_trans hwE HE.out.size)
      have neC := Aside0.mk (show g2 ≠ g4 from Nat.ne_of_lt (Nat.lt_of_lt_of_le (blk_lt HC.out) (hg__ ▸ HE.out.size)))
      replace HE := Aside0.mk (below_step HE.out hq_)
      refine hK.out _ _ (by obtain ⟨s0, s1, s2, s3⟩ := hHeld; exact ⟨(cell_below s0 hq_), (cell_below s1 hq_), (cell_below s2 hq_), (cell_below s3 hq_)⟩) (fun hHeld => ?_)
      clear hK K hg__ hbox_ hq_
      refine norm_ (a' := ?_) ?_ ?_
      rotate_left
      · show Act.put _ (some 4) _ = _
        simp only [Act.put, pA, pB, pC, i64_w, i32_w]
        rfl
      refine two_ (i := 4) (j := 8) (Ni := some 15) (Nj := some 19) #[Y,Y,Y,Y,Y,Y,Y,Y,Z,Z,Y,Z] #[Y,Y,Y,Y,Z,Y,Y,Y,Y,Z,Y,Z] rfl rfl rfl rfl (two_of HT_.out (by kernel_rfl)) (by decide) (by decide) (fun K hK => ?_) (fun K hK => ?_)
      · skip
        refine make_step (by rfl) (N := 15) rfl (.tmp 14) 41 3 rfl (.int .i64 0) 8 rfl Tryd.underlying41 info3 rfl (by decide) ?_
        intro gd hg__ w5_ hbox_ hq_
        have H4 := Aside0.mk hbox_
        have Ggd := Aside0.mk (show w.heap.size ≤ gd from hg__ ▸ Nat.le_trans hwE HE.out.size)
        replace HT := Aside0.mk (blk_below HT.out hq_)
        replace HE := Aside0.mk (below_step HE.out hq_)
        refine hK.out _ _ (by obtain ⟨s0, s1, s2, s3⟩ := hHeld; exact ⟨(cell_below s0 hq_), (cell_below s1 hq_), (cell_below s2 hq_), (cell_below s3 hq_)⟩) (fun hHeld => ?_)
        clear hK K hg__ hbox_ hq_
        refine norm_ (a' := ?_) ?_ ?_
        rotate_left
        · show Act.put _ (some 15) _ = _
          simp only [Act.put, pA, pB, pC, i64_w, i32_w]
          rfl
        refine one_ (i := 8) (N := some 19) #[Y,Y,Y,Y,Y,Y,Y,Y,Y,Z,Y,Z] rfl rfl (one_of HT_.out (by kernel_rfl)) (by decide) (fun K hK => ?_)
        refine make_step (by rfl) (N := 19) rfl (.tmp 18) 48 44 rfl (.int .u64 0) 8 rfl Tryd.underlying48 info44 rfl (by decide) ?_
        intro go hg__ w5_ hbox_ hq_
        have H8 := Aside0.mk hbox_
        have Ggo := Aside0.mk (show w.heap.size ≤ go from hg__ ▸ Nat.le_trans hwE HE.out.size)
        replace HT := Aside0.mk (blk_below HT.out hq_)
        replace H4 := Aside0.mk (blk_below H4.out hq_)
        replace HE := Aside0.mk (below_step HE.out hq_)
        refine hK.out _ _ (by obtain ⟨s0, s1, s2, s3⟩ := hHeld; exact ⟨(cell_below s0 hq_), (cell_below s1 hq_), (cell_below s2 hq_), (cell_below s3 hq_)⟩) (fun hHeld => ?_)
        clear hK K hg__ hbox_ hq_
        refine norm_ (a' := ?_) ?_ ?_
        rotate_left
        · show Act.put _ (some 19) _ = _
          simp only [Act.put, pA, pB, pC, i64_w, i32_w]
          rfl
        refine pure_ (i := 9) (N := some 20) (v := ?_) (a' := ?_) #[Y,Y,Y,Y,Y,Y,Y,Y,Y,Y,Y,Z] rfl rfl (any_of HT_.out (by kernel_rfl)) (fun _ _ _ h => h) (Or.inl ⟨by rfl, ?_⟩) ?_ ?_
        rotate_left
        · intro w'
          go_simp
          with_reducible rfl
        rotate_left
        · simp only [Act.put, pA, pB, pC, i64_w, i32_w]
          rfl
        exact norm_ (by simp only [putAll, Act.put, pA, pB, pC]) (hCont (gd, go, g4) _ ⟨hHeld, H4.out, H8.out, HT.out, Ggd.out, Ggo.out, Gg4.out, neC.out, HE.out⟩)
      · skip
        refine make_step (by rfl) (N := 19) rfl (.tmp 18) 48 44 rfl (.int .u64 0) 8 rfl Tryd.underlying48 info44 rfl (by decide) ?_
        intro go hg__ w5_ hbox_ hq_
        have H8 := Aside0.mk hbox_
        have Ggo := Aside0.mk (show w.heap.size ≤ go from hg__ ▸ Nat.le_trans hwE HE.out.size)
        replace HT := Aside0.mk (blk_below HT.out hq_)
        replace HE := Aside0.mk (below_step HE.out hq_)
        refine hK.out _ _ (by obtain ⟨s0, s1, s2, s3⟩ := hHeld; exact ⟨(cell_below s0 hq_), (cell_below s1 hq_), (cell_below s2 hq_), (cell_below s3 hq_)⟩) (fun hHeld => ?_)
        clear hK K hg__ hbox_ hq_
        refine norm_ (a' := ?_) ?_ ?_
        rotate_left
        · show Act.put _ (some 19) _ = _
          simp only [Act.put, pA, pB, pC, i64_w, i32_w]
          rfl
        refine one_ (i := 4) (N := some 15) #[Y,Y,Y,Y,Y,Y,Y,Y,Y,Z,Y,Z] rfl rfl (one_of HT_.out (by kernel_rfl)) (by decide) (fun K hK => ?_)
        refine make_step (by rfl) (N := 15) rfl (.tmp 14) 41 3 rfl (.int .i64 0) 8 rfl Tryd.underlying41 info3 rfl (by decide) ?_
        intro gd hg__ w5_ hbox_ hq_
        have H4 := Aside0.mk hbox_
        have Ggd := Aside0.mk (show w.heap.size ≤ gd from hg__ ▸ Nat.le_trans hwE HE.out.size)
        replace HT := Aside0.mk (blk_below HT.out hq_)
        replace H8 := Aside0.mk (blk_below H8.out hq_)
        replace HE := Aside0.mk (below_step HE.out hq_)
        refine hK.out _ _ (by obtain ⟨s0, s1, s2, s3⟩ := hHeld; exact ⟨(cell_below s0 hq_), (cell_below s1 hq_), (cell_below s2 hq_), (cell_below s3 hq_)⟩) (fun hHeld => ?_)
        clear hK K hg__ hbox_ hq_
        refine norm_ (a' := ?_) ?_ ?_
        rotate_left
        · show Act.put _ (some 15) _ = _
          simp only [Act.put, pA, pB, pC, i64_w, i32_w]
          rfl
        refine pure_ (i := 9) (N := some 20) (v := ?_) (a' := ?_) #[Y,Y,Y,Y,Y,Y,Y,Y,Y,Y,Y,Z] rfl rfl (any_of HT_.out (by kernel_rfl)) (fun _ _ _ h => h) (Or.inl ⟨by rfl, ?_⟩) ?_ ?_
        rotate_left
        · intro w'
          go_simp
          with_reducible rfl
        rotate_left
        · simp only [Act.put, pA, pB, pC, i64_w, i32_w]
          rfl
        exact norm_ (by simp only [putAll, Act.put, pA, pB, pC]) (hCont (gd, go, g4) _ ⟨hHeld, H4.out, H8.out, HT.out, Ggd.out, Ggo.out, Gg4.out, neC.out, HE.out⟩)
  rintro ⟨gd, go, g4⟩ wJ ⟨hHeld, q1_, q2_, q3_, q4_, q5_, q6_, q7_, q8_⟩
  dsimp only at q1_ q2_ q3_ q4_ q5_ q6_ q7_
  have HD := Aside0.mk q1_
  have HO := Aside0.mk q2_
  have HT := Aside0.mk q3_
  have Ggd := Aside0.mk q4_
  have Ggo := Aside0.mk q5_
  have Gg4 := Aside0.mk q6_
  have neC := Aside0.mk q7_
  replace HX := Aside0.mk (blk_below HX.out q8_)
  replace HC := Aside0.mk (blk_below HC.out q8_)
  replace HB := Aside0.mk (below_step HB.out q8_)
  clear q1_ q2_ q3_ q4_ q5_ q6_ q7_ q8_ HE hwE
  refine norm_ (a' := ?_) ?_ ?_
  rotate_left
  · simp only [putAll, Act.put, pA, pB, pC]
    rfl
  refine last_ (i := 11) (N := none) #[Y,Y,Y,Y,Y,Y,Y,Y,Y,Y,Y,Y] rfl rfl (one_of HT_.out (by kernel_rfl)) (by decide) (fun K hK => ?_)
  have z0_ := blk_celln HT.out 0 _ rfl; have z1_ := blk_celln HT.out 1 _ rfl; have z2_ := blk_celln HT.out 2 _ rfl; have z3_ := blk_celln HT.out 3 _ rfl; have z4_ := blk_celln HT.out 4 _ rfl; have z5_ := blk_celln HT.out 5 _ rfl; have f0_ := blk_frozen HT.out 0; have f1_ := blk_frozen HT.out 1; have f2_ := blk_frozen HT.out 2; have f3_ := blk_frozen HT.out 3; have f4_ := blk_frozen HT.out 4; have f5_ := blk_frozen HT.out 5
  refine skip_ (w1 := ?_) (by rfl) rfl ?_ ?_
  rotate_left
  · go_simp
    rfl
  refine hK.out _ _ ?_
  clear hK K
  refine done_ (done_of HT_.out (by kernel_rfl)) ?_
  obtain ⟨F1_, F2_, F3_⟩ := fill72 HT.out (.int .i64 2) (.slice A1 1 c1) (.slice A2 1 c2) (.slice (some ⟨b, o, none⟩) 4 c3) (.slice (some ⟨gd, 0, none⟩) 4 4) (.slice (some ⟨go, 0, none⟩) 4 4) _ rfl
  clear hHeld z0_ f0_ z1_ f1_ z2_ f2_ z3_ f3_ z4_ f4_ z5_ f5_
  generalize (((((wJ.setCell ⟨g4, 0, none⟩ (.int .i64 2)).setCell ⟨g4, 1, none⟩ (.slice A1 1 c1)).setCell ⟨g4, 2, none⟩ (.slice A2 1 c2)).setCell ⟨g4, 3, none⟩ (.slice (some ⟨b, o, none⟩) 4 c3)).setCell ⟨g4, 4, none⟩ (.slice (some ⟨gd, 0, none⟩) 4 4)).setCell ⟨g4, 5, none⟩ (.slice (some ⟨go, 0, none⟩) 4 4) = w4 at F1_ F2_ F3_ ⊢
  replace HX := Aside0.mk (F3_ _ _ HX.out (blk_ne HX.out HT.out (by decide)))
  replace HD := Aside0.mk (F3_ _ _ HD.out (blk_ne HD.out HT.out (by decide)))
  replace HO := Aside0.mk (F3_ _ _ HO.out (blk_ne HO.out HT.out (by decide)))
  replace HC := Aside0.mk (F3_ _ _ HC.out neC.out)
  replace HB := Aside0.mk (HB.out.trans (F2_ w.heap.size Gg4.out))
  replace HT := Aside0.mk F1_
  clear F1_ F2_ F3_
  have hx3 := blk_celln (HX.out) 3 _ rfl
  go_wp2
  refine wp_loop_rounds 5 ?_
  clear hx3 HX
  rw [rounds_succ]
  have m0 := cell_below HN.out.n0 HB.out
  have m1 := cell_below HN.out.n1 HB.out
  have m2 := cell_below HN.out.n2 HB.out
  have m3 := cell_below HN.out.n3 HB.out
  have m4 := cell_below HN.out.n4 HB.out
  have m5 := cell_below HN.out.n5 HB.out
  have m6 := cell_below HN.out.n6 HB.out
  have m7 := cell_below HN.out.n7 HB.out
  have m8 := cell_below HN.out.n8 HB.out
  go_upto_region 7 with (((with_reducible refine gate_dst (N := 6) rfl ?_); refine box_event ?hg (N := 6) ?hd (cs := #[.int .i64 0, .int .i64 0, .int .i64 0, .int .i64 0, .int .i64 0, .int .i64 0, .bool false, .bool false, .slice none 0 0]) (t := 53) ?hr ?_; (case hd => rfl); (case hg => rfl); (case hr => first | (go_simp; done) | (go_simp; rfl)); intro g6 hg__ w6 hbox_ hq_; have hg_ := Aside0.mk hg__; clear hg__; have z0_ := blk_celln hbox_ 0 _ rfl; have z1_ := blk_celln hbox_ 1 _ rfl; have z2_ := blk_celln hbox_ 2 _ rfl; have z3_ := blk_celln hbox_ 3 _ rfl; have z4_ := blk_celln hbox_ 4 _ rfl; have z5_ := blk_celln hbox_ 5 _ rfl; have z6_ := blk_celln hbox_ 6 _ rfl; have z7_ := blk_celln hbox_ 7 _ rfl; have z8_ := blk_celln hbox_ 8 _ rfl; have f0_ := blk_frozen hbox_ 0; have f1_ := blk_frozen hbox_ 1; have f2_ := blk_frozen hbox_ 2; have f3_ := blk_frozen hbox_ 3; have f4_ := blk_frozen hbox_ 4; have f5_ := blk_frozen hbox_ 5; have f6_ := blk_frozen hbox_ 6; have f7_ := blk_frozen hbox_ 7; have f8_ := blk_frozen hbox_ 8))
  obtain ⟨F1_, F2_⟩ := fill53 hbox_ (.int .i64 (-1)) (.int .i64 (-1)) (.int .i64 3) (.int .i64 0) (.int .i64 0) (.int .i64 0) (.bool false) (.bool false) (.slice B0 0 b0) _ rfl
  replace hq_ := hq_.trans (F2_ w4.heap.size (Nat.le_of_eq hg_.out.symm))
  clear hg_ hbox_ z0_ f0_ z1_ f1_ z2_ f2_ z3_ f3_ z4_ f4_ z5_ f5_ z6_ f6_ z7_ f7_ z8_ f8_ m0 m1 m2 m3 m4 m5 m6 m7 m8
  generalize ((((((((w6.setCell ⟨g6, 0, none⟩ (.int .i64 (-1))).setCell ⟨g6, 1, none⟩ (.int .i64 (-1))).setCell ⟨g6, 2, none⟩ (.int .i64 3)).setCell ⟨g6, 3, none⟩ (.int .i64 0)).setCell ⟨g6, 4, none⟩ (.int .i64 0)).setCell ⟨g6, 5, none⟩ (.int .i64 0)).setCell ⟨g6, 6, none⟩ (.bool false)).setCell ⟨g6, 7, none⟩ (.bool false)).setCell ⟨g6, 8, none⟩ (.slice B0 0 b0) = w7 at F1_ F2_ hq_ ⊢
  have H6 := Aside0.mk F1_
  replace HT := Aside0.mk (blk_below HT.out hq_)
  replace HC := Aside0.mk (blk_below HC.out hq_)
  replace HD := Aside0.mk (blk_below HD.out hq_)
  replace HO := Aside0.mk (blk_below HO.out hq_)
  replace HB := Aside0.mk (below_step HB.out hq_)
  clear F1_ F2_ hq_
  have h61 := blk_celln (H6.out) 1 _ rfl
  go_wp2
  clear h61 H6
  rw [rounds_succ]
  have m9 := cell_below HN.out.n9 HB.out
  have m10 := cell_below HN.out.n10 HB.out
  have m11 := cell_below HN.out.n11 HB.out
  have m12 := cell_below HN.out.n12 HB.out
  have m13 := cell_below HN.out.n13 HB.out
  have m14 := cell_below HN.out.n14 HB.out
  have m15 := cell_below HN.out.n15 HB.out
  have m16 := cell_below HN.out.n16 HB.out
  have m17 := cell_below HN.out.n17 HB.out
  go_upto_region 7 with (((with_reducible refine gate_dst (N := 6) rfl ?_); refine box_event ?hg (N := 6) ?hd (cs := #[.int .i64 0, .int .i64 0, .int .i64 0, .int .i64 0, .int .i64 0, .int .i64 0, .bool false, .bool false, .slice none 0 0]) (t := 53) ?hr ?_; (case hd => rfl); (case hg => rfl); (case hr => first | (go_simp; done) | (go_simp; rfl)); intro g6 hg__ w6 hbox_ hq_; have hg_ := Aside0.mk hg__; clear hg__; have z0_ := blk_celln hbox_ 0 _ rfl; have z1_ := blk_celln hbox_ 1 _ rfl; have z2_ := blk_celln hbox_ 2 _ rfl; have z3_ := blk_celln hbox_ 3 _ rfl; have z4_ := blk_celln hbox_ 4 _ rfl; have z5_ := blk_celln hbox_ 5 _ rfl; have z6_ := blk_celln hbox_ 6 _ rfl; have z7_ := blk_celln hbox_ 7 _ rfl; have z8_ := blk_celln hbox_ 8 _ rfl; have f0_ := blk_frozen hbox_ 0; have f1_ := blk_frozen hbox_ 1; have f2_ := blk_frozen hbox_ 2; have f3_ := blk_frozen hbox_ 3; have f4_ := blk_frozen hbox_ 4; have f5_ := blk_frozen hbox_ 5; have f6_ := blk_frozen hbox_ 6; have f7_ := blk_frozen hbox_ 7; have f8_ := blk_frozen hbox_ 8))
  obtain ⟨F1_, F2_⟩ := fill53 hbox_ (.int .i64 0) (.int .i64 (-1)) (.int .i64 1) (.int .i64 0) (.int .i64 0) (.int .i64 0) (.bool false) (.bool false) (.slice B1 0 b1) _ rfl
  replace hq_ := hq_.trans (F2_ w7.heap.size (Nat.le_of_eq hg_.out.symm))
  clear hg_ hbox_ z0_ f0_ z1_ f1_ z2_ f2_ z3_ f3_ z4_ f4_ z5_ f5_ z6_ f6_ z7_ f7_ z8_ f8_ m9 m10 m11 m12 m13 m14 m15 m16 m17
  generalize ((((((((w6.setCell ⟨g6, 0, none⟩ (.int .i64 0)).setCell ⟨g6, 1, none⟩ (.int .i64 (-1))).setCell ⟨g6, 2, none⟩ (.int .i64 1)).setCell ⟨g6, 3, none⟩ (.int .i64 0)).setCell ⟨g6, 4, none⟩ (.int .i64 0)).setCell ⟨g6, 5, none⟩ (.int .i64 0)).setCell ⟨g6, 6, none⟩ (.bool false)).setCell ⟨g6, 7, none⟩ (.bool false)).setCell ⟨g6, 8, none⟩ (.slice B1 0 b1) = w7 at F1_ F2_ hq_ ⊢
  have H6 := Aside0.mk F1_
  replace HT := Aside0.mk (blk_below HT.out hq_)
  replace HC := Aside0.mk (blk_below HC.out hq_)
  replace HD := Aside0.mk (blk_below HD.out hq_)
  replace HO := Aside0.mk (blk_below HO.out hq_)
  replace HB := Aside0.mk (below_step HB.out hq_)
  clear F1_ F2_ hq_
  have h61 := blk_celln (H6.out) 1 _ rfl
  go_wp2
  clear h61 H6
  rw [rounds_succ]
  have m18 := cell_below HN.out.n18 HB.out
  have m19 := cell_below HN.out.n19 HB.out
  have m20 := cell_below HN.out.n20 HB.out
  have m21 := cell_below HN.out.n21 HB.out
  have m22 := cell_below HN.out.n22 HB.out
  have m23 := cell_below HN.out.n23 HB.out
  have m24 := cell_below HN.out.n24 HB.out
  have m25 := cell_below HN.out.n25 HB.out
  have m26 := cell_below HN.out.n26 HB.out
  go_upto_region 7 with (((with_reducible refine gate_dst (N := 6) rfl ?_); refine box_event ?hg (N := 6) ?hd (cs := #[.int .i64 0, .int .i64 0, .int .i64 0, .int .i64 0, .int .i64 0, .int .i64 0, .bool false, .bool false, .slice none 0 0]) (t := 53) ?hr ?_; (case hd => rfl); (case hg => rfl); (case hr => first | (go_simp; done) | (go_simp; rfl)); intro g6 hg__ w6 hbox_ hq_; have hg_ := Aside0.mk hg__; clear hg__; have z0_ := blk_celln hbox_ 0 _ rfl; have z1_ := blk_celln hbox_ 1 _ rfl; have z2_ := blk_celln hbox_ 2 _ rfl; have z3_ := blk_celln hbox_ 3 _ rfl; have z4_ := blk_celln hbox_ 4 _ rfl; have z5_ := blk_celln hbox_ 5 _ rfl; have z6_ := blk_celln hbox_ 6 _ rfl; have z7_ := blk_celln hbox_ 7 _ rfl; have z8_ := blk_celln hbox_ 8 _ rfl; have f0_ := blk_frozen hbox_ 0; have f1_ := blk_frozen hbox_ 1; have f2_ := blk_frozen hbox_ 2; have f3_ := blk_frozen hbox_ 3; have f4_ := blk_frozen hbox_ 4; have f5_ := blk_frozen hbox_ 5; have f6_ := blk_frozen hbox_ 6; have f7_ := blk_frozen hbox_ 7; have f8_ := blk_frozen hbox_ 8))
  obtain ⟨F1_, F2_⟩ := fill53 hbox_ (.int .i64 0) (.int .i64 1) (.int .i64 2) (.int .i64 0) (.int .i64 4) (.int .i64 0) (.bool false) (.bool true) (.slice (some ar2) 1 b2) _ rfl
  replace hq_ := hq_.trans (F2_ w7.heap.size (Nat.le_of_eq hg_.out.symm))
  clear hg_ hbox_ z0_ f0_ z1_ f1_ z2_ f2_ z3_ f3_ z4_ f4_ z5_ f5_ z6_ f6_ z7_ f7_ z8_ f8_ m18 m19 m20 m21 m22 m23 m24 m25 m26
  generalize ((((((((w6.setCell ⟨g6, 0, none⟩ (.int .i64 0)).setCell ⟨g6, 1, none⟩ (.int .i64 1)).setCell ⟨g6, 2, none⟩ (.int .i64 2)).setCell ⟨g6, 3, none⟩ (.int .i64 0)).setCell ⟨g6, 4, none⟩ (.int .i64 4)).setCell ⟨g6, 5, none⟩ (.int .i64 0)).setCell ⟨g6, 6, none⟩ (.bool false)).setCell ⟨g6, 7, none⟩ (.bool true)).setCell ⟨g6, 8, none⟩ (.slice (some ar2) 1 b2) = w7 at F1_ F2_ hq_ ⊢
  have H6 := Aside0.mk F1_
  replace HT := Aside0.mk (blk_below HT.out hq_)
  replace HC := Aside0.mk (blk_below HC.out hq_)
  replace HD := Aside0.mk (blk_below HD.out hq_)
  replace HO := Aside0.mk (blk_below HO.out hq_)
  replace HB := Aside0.mk (below_step HB.out hq_)
  clear F1_ F2_ hq_
  have h61 := blk_celln (H6.out) 1 _ rfl
  go_upto_region 8 with (fail)
  clear h61
  replace HT := Aside0.mk (blk_drew HT.out)
  replace HC := Aside0.mk (blk_drew HC.out)
  replace HD := Aside0.mk (blk_drew HD.out)
  replace HO := Aside0.mk (blk_drew HO.out)
  replace HB := Aside0.mk (below_drew HB.out)
  replace H6 := Aside0.mk (blk_drew H6.out)
  refine start_ (n := 12) (S := fun w' => w'.cell? ⟨g4, 4, none⟩ = some (.slice (some ⟨gd, 0, none⟩) 4 4) ∧ w'.cell? ⟨g6, 1, none⟩ = some (.int .i64 1) ∧ w'.cell? ⟨gd, 1, none⟩ = some (.int .i64 0)) (ds := [11]) #[Z,Z,Z,Z,Z,Z,Z,Z,Z,Z,Z,Z] (by kernel_rfl) rfl rfl ⟨(blk_celln HT.out 4 _ rfl), (blk_celln H6.out 1 _ rfl), (blk_celln HD.out 1 _ rfl)⟩ (fun hHeld => ?_)
  refine with_tabW of.tab8 of.bits8 (fun HT_ HW_ => ?_)
  generalize World.drew _ = wP at HT HC HD HO HB H6 hHeld ⊢
  refine pure_ (i := 0) (N := some 32) (v := ?_) (a' := ?_) #[Y,Z,Z,Z,Z,Z,Z,Z,Z,Z,Z,Z] rfl rfl (any_of HT_.out (by kernel_rfl)) (fun _ _ _ h => h) (Or.inl ⟨by rfl, ?_⟩) ?_ ?_
  rotate_left
  · intro w'
    go_simp
    with_reducible rfl
  rotate_left
  · simp only [Act.put, pA, pB, pC, i64_w, i32_w]
    rfl
  refine take_ (i := 1) (N := some 33) (v := ?_) (a' := ?_) #[Y,Y,Z,Z,Z,Z,Z,Z,Z,Z,Z,Z] rfl rfl (take_ofW HT_.out HW_.out (by kernel_rfl)) (fun _ _ _ h => h) (Or.inl ⟨by rfl, ?_⟩) hHeld ?_ ?_
  rotate_left
  · rintro w' ⟨s0, s1, s2⟩
    go_simp
    with_reducible rfl
  rotate_left
  · simp only [Act.put, pA, pB, pC, i64_w, i32_w]
    rfl
  refine pure_ (i := 2) (N := some 34) (v := ?_) (a' := ?_) #[Y,Y,Y,Z,Z,Z,Z,Z,Z,Z,Z,Z] rfl rfl (any_of HT_.out (by kernel_rfl)) (fun _ _ _ h => h) (Or.inl ⟨by rfl, ?_⟩) ?_ ?_
  rotate_left
  · intro w'
    go_simp
    with_reducible rfl
  rotate_left
  · simp only [Act.put, pA, pB, pC, i64_w, i32_w]
    rfl
  refine pure_ (i := 3) (N := some 35) (v := ?_) (a' := ?_) #[Y,Y,Y,Y,Z,Z,Z,Z,Z,Z,Z,Z] rfl rfl (any_of HT_.out (by kernel_rfl)) (fun _ _ _ h => h) (Or.inl ⟨by rfl, ?_⟩) ?_ ?_
  rotate_left
  · intro w'
    go_simp
    with_reducible rfl
  rotate_left
  · simp only [Act.put, pA, pB, pC, i64_w, i32_w]
    rfl
  refine take_ (i := 4) (N := some 36) (v := ?_) (a' := ?_) #[Y,Y,Y,Y,Y,Z,Z,Z,Z,Z,Z,Z] rfl rfl (take_ofW HT_.out HW_.out (by kernel_rfl)) (fun _ _ _ h => h) (Or.inl ⟨by rfl, ?_⟩) hHeld ?_ ?_
  rotate_left
  · rintro w' ⟨s0, s1, s2⟩
    go_simp
    with_reducible rfl
  rotate_left
  · simp only [Act.put, pA, pB, pC, i64_w, i32_w]
    rfl
  refine pure_ (i := 5) (N := some 37) (v := ?_) (a' := ?_) #[Y,Y,Y,Y,Y,Y,Z,Z,Z,Z,Z,Z] rfl rfl (any_of HT_.out (by kernel_rfl)) (fun _ _ _ h => h) (Or.inl ⟨by rfl, ?_⟩) ?_ ?_
  rotate_left
  · intro w'
    go_simp
    with_reducible rfl
  rotate_left
  · simp only [Act.put, pA, pB, pC, i64_w, i32_w]
    rfl
  refine take_ (i := 6) (N := some 38) (v := ?_) (a' := ?_) #[Y,Y,Y,Y,Y,Y,Y,Z,Z,Z,Z,Z] rfl rfl (take_ofW HT_.out HW_.out (by kernel_rfl)) (fun _ _ _ h => h) (Or.inl ⟨by rfl, ?_⟩) hHeld ?_ ?_
  rotate_left
  · rintro w' ⟨s0, s1, s2⟩
    go_simp
    with_reducible rfl
  rotate_left
  · simp only [Act.put, pA, pB, pC, i64_w, i32_w]
    rfl
  refine pure_ (i := 7) (N := some 39) (v := ?_) (a' := ?_) #[Y,Y,Y,Y,Y,Y,Y,Y,Z,Z,Z,Z] rfl rfl (any_of HT_.out (by kernel_rfl)) (fun _ _ _ h => h) (Or.inl ⟨by rfl, ?_⟩) ?_ ?_
  rotate_left
  · intro w'
    go_simp
    with_reducible rfl
  rotate_left
  · simp only [Act.put, pA, pB, pC, i64_w, i32_w]
    rfl
  refine take_ (i := 8) (N := some 40) (v := ?_) (a' := ?_) #[Y,Y,Y,Y,Y,Y,Y,Y,Y,Z,Z,Z] rfl rfl (take_ofW HT_.out HW_.out (by kernel_rfl)) (fun _ _ _ h => h) (Or.inl ⟨by rfl, ?_⟩) hHeld ?_ ?_
  rotate_left
  · rintro w' ⟨s0, s1, s2⟩
    go_simp
    with_reducible rfl
  rotate_left
  · simp only [Act.put, pA, pB, pC, i64_w, i32_w]
    rfl
  refine pure_ (i := 9) (N := some 41) (v := ?_) (a' := ?_) #[Y,Y,Y,Y,Y,Y,Y,Y,Y,Y,Z,Z] rfl rfl (any_of HT_.out (by kernel_rfl)) (fun _ _ _ h => h) (Or.inl ⟨by rfl, ?_⟩) ?_ ?_
  rotate_left
  · intro w'
    go_simp
    with_reducible rfl
  rotate_left
  · simp only [Act.put, pA, pB, pC, i64_w, i32_w]
    rfl
  refine pure_ (i := 10) (N := some 42) (v := ?_) (a' := ?_) #[Y,Y,Y,Y,Y,Y,Y,Y,Y,Y,Y,Z] rfl rfl (any_of HT_.out (by kernel_rfl)) (fun _ _ _ h => h) (Or.inl ⟨by rfl, ?_⟩) ?_ ?_
  rotate_left
  · intro w'
    go_simp
    with_reducible rfl
  rotate_left
  · simp only [Act.put, pA, pB, pC, i64_w, i32_w]
    rfl
  refine last_ (i := 11) (N := none) #[Y,Y,Y,Y,Y,Y,Y,Y,Y,Y,Y,Y] rfl rfl (one_of HT_.out (by kernel_rfl)) (by decide) (fun K hK => ?_)
  have zs := blk_celln HD.out 2 _ rfl
  have fs := blk_frozen HD.out 2
  refine skip_ (w1 := ?_) (by rfl) rfl ?_ ?_
  rotate_left
  · go_simp
    rfl
  refine hK.out _ _ ?_
  clear hK K
  refine done_ (done_of HT_.out (by kernel_rfl)) ?_
  rw [wrap64_one]
  clear hHeld zs fs
  replace HT := Aside0.mk (far1 (j := 2) (v := .int .i64 1) HT.out (blk_ne HT.out HD.out (by decide)))
  replace HC := Aside0.mk (far1 (j := 2) (v := .int .i64 1) HC.out (blk_ne HC.out HD.out (by decide)))
  replace HO := Aside0.mk (far1 (j := 2) (v := .int .i64 1) HO.out (blk_ne HO.out HD.out (by decide)))
  replace H6 := Aside0.mk (far1 (j := 2) (v := .int .i64 1) H6.out (blk_ne H6.out HD.out (by decide)))
  replace HD := Aside0.mk (show (wP.setCell ⟨gd, 2, none⟩ (.int .i64 1)).heap[gd]? = some (.cells #[.int .i64 0, .int .i64 0, .int .i64 1, .int .i64 0] 3 (0, 0)) from blk_put HD.out 2 _ rfl)
  replace HB := Aside0.mk (below_set (j := 2) (v := .int .i64 1) HB.out Ggd.out)
  generalize wP.setCell ⟨gd, 2, none⟩ (.int .i64 1) = wQ at HT HC HD HO HB H6 ⊢
  go_upto_region 9 with (fail)
  replace HT := Aside0.mk (blk_drew HT.out)
  replace HC := Aside0.mk (blk_drew HC.out)
  replace HD := Aside0.mk (blk_drew HD.out)
  replace HO := Aside0.mk (blk_drew HO.out)
  replace HB := Aside0.mk (below_drew HB.out)
  replace H6 := Aside0.mk (blk_drew H6.out)
  refine start_ (n := 14) (S := fun w' => w'.cell? ⟨g4, 5, none⟩ = some (.slice (some ⟨go, 0, none⟩) 4 4) ∧ w'.cell? ⟨g6, 1, none⟩ = some (.int .i64 1) ∧ w'.cell? ⟨go, 1, none⟩ = some (.int .u64 0)) (ds := [13]) #[Z,Z,Z,Z,Z,Z,Z,Z,Z,Z,Z,Z,Z,Z] (by kernel_rfl) rfl rfl ⟨(blk_celln HT.out 5 _ rfl), (blk_celln H6.out 1 _ rfl), (blk_celln HO.out 1 _ rfl)⟩ (fun hHeld => ?_)
  refine with_tabW of.tab9 of.bits9 (fun HT_ HW_ => ?_)
  generalize World.drew _ = wR at HT HC HD HO HB H6 hHeld ⊢
  refine pure_ (i := 0) (N := some 43) (v := ?_) (a' := ?_) #[Y,Z,Z,Z,Z,Z,Z,Z,Z,Z,Z,Z,Z,Z] rfl rfl (any_of HT_.out (by kernel_rfl)) (fun _ _ _ h => h) (Or.inl ⟨by rfl, ?_⟩) ?_ ?_
  rotate_left
  · intro w'
    go_simp
    with_reducible rfl
  rotate_left
  · simp only [Act.put, pA, pB, pC, i64_w, i32_w]
    rfl
  refine take_ (i := 1) (N := some 44) (v := ?_) (a' := ?_) #[Y,Y,Z,Z,Z,Z,Z,Z,Z,Z,Z,Z,Z,Z] rfl rfl (take_ofW HT_.out HW_.out (by kernel_rfl)) (fun _ _ _ h => h) (Or.inl ⟨by rfl, ?_⟩) hHeld ?_ ?_
  rotate_left
  · rintro w' ⟨s0, s1, s2⟩
    go_simp
    with_reducible rfl
  rotate_left
  · simp only [Act.put, pA, pB, pC, i64_w, i32_w]
    rfl
  refine pure_ (i := 2) (N := some 45) (v := ?_) (a' := ?_) #[Y,Y,Y,Z,Z,Z,Z,Z,Z,Z,Z,Z,Z,Z] rfl rfl (any_of HT_.out (by kernel_rfl)) (fun _ _ _ h => h) (Or.inl ⟨by rfl, ?_⟩) ?_ ?_
  rotate_left
  · intro w'
    go_simp
    with_reducible rfl
  rotate_left
  · simp only [Act.put, pA, pB, pC, i64_w, i32_w]
    rfl
  refine pure_ (i := 3) (N := some 46) (v := ?_) (a' := ?_) #[Y,Y,Y,Y,Z,Z,Z,Z,Z,Z,Z,Z,Z,Z] rfl rfl (any_of HT_.out (by kernel_rfl)) (fun _ _ _ h => h) (Or.inl ⟨by rfl, ?_⟩) ?_ ?_
  rotate_left
  · intro w'
    go_simp
    with_reducible rfl
  rotate_left
  · simp only [Act.put, pA, pB, pC, i64_w, i32_w]
    rfl
  refine take_ (i := 4) (N := some 47) (v := ?_) (a' := ?_) #[Y,Y,Y,Y,Y,Z,Z,Z,Z,Z,Z,Z,Z,Z] rfl rfl (take_ofW HT_.out HW_.out (by kernel_rfl)) (fun _ _ _ h => h) (Or.inl ⟨by rfl, ?_⟩) hHeld ?_ ?_
  rotate_left
  · rintro w' ⟨s0, s1, s2⟩
    go_simp
    with_reducible rfl
  rotate_left
  · simp only [Act.put, pA, pB, pC, i64_w, i32_w]
    rfl
  refine pure_ (i := 5) (N := some 48) (v := ?_) (a' := ?_) #[Y,Y,Y,Y,Y,Y,Z,Z,Z,Z,Z,Z,Z,Z] rfl rfl (any_of HT_.out (by kernel_rfl)) (fun _ _ _ h => h) (Or.inl ⟨by rfl, ?_⟩) ?_ ?_
  rotate_left
  · intro w'
    go_simp
    with_reducible rfl
  rotate_left
  · simp only [Act.put, pA, pB, pC, i64_w, i32_w]
    rfl
  refine take_ (i := 6) (N := some 49) (v := ?_) (a' := ?_) #[Y,Y,Y,Y,Y,Y,Y,Z,Z,Z,Z,Z,Z,Z] rfl rfl (take_ofW HT_.out HW_.out (by kernel_rfl)) (fun _ _ _ h => h) (Or.inl ⟨by rfl, ?_⟩) hHeld ?_ ?_
  rotate_left
  · rintro w' ⟨s0, s1, s2⟩
    go_simp
    with_reducible rfl
  rotate_left
  · simp only [Act.put, pA, pB, pC, i64_w, i32_w]
    rfl
  refine pure_ (i := 7) (N := some 50) (v := ?_) (a' := ?_) #[Y,Y,Y,Y,Y,Y,Y,Y,Z,Z,Z,Z,Z,Z] rfl rfl (any_of HT_.out (by kernel_rfl)) (fun _ _ _ h => h) (Or.inl ⟨by rfl, ?_⟩) ?_ ?_
  rotate_left
  · intro w'
    go_simp
    with_reducible rfl
  rotate_left
  · simp only [Act.put, pA, pB, pC, i64_w, i32_w]
    rfl
  refine take_ (i := 8) (N := some 51) (v := ?_) (a' := ?_) #[Y,Y,Y,Y,Y,Y,Y,Y,Y,Z,Z,Z,Z,Z] rfl rfl (take_ofW HT_.out HW_.out (by kernel_rfl)) (fun _ _ _ h => h) (Or.inl ⟨by rfl, ?_⟩) hHeld ?_ ?_
  rotate_left
  · rintro w' ⟨s0, s1, s2⟩
    go_simp
    with_reducible rfl
  rotate_left
  · simp only [Act.put, pA, pB, pC, i64_w, i32_w]
    rfl
  refine pure_ (i := 9) (N := some 52) (v := ?_) (a' := ?_) #[Y,Y,Y,Y,Y,Y,Y,Y,Y,Y,Z,Z,Z,Z] rfl rfl (any_of HT_.out (by kernel_rfl)) (fun _ _ _ h => h) (Or.inl ⟨by rfl, ?_⟩) ?_ ?_
  rotate_left
  · intro w'
    go_simp
    with_reducible rfl
  rotate_left
  · simp only [Act.put, pA, pB, pC, i64_w, i32_w]
    rfl
  refine take_ (i := 10) (N := some 53) (v := ?_) (a' := ?_) #[Y,Y,Y,Y,Y,Y,Y,Y,Y,Y,Y,Z,Z,Z] rfl rfl (take_ofW HT_.out HW_.out (by kernel_rfl)) (fun _ _ _ h => h) (Or.inl ⟨by rfl, ?_⟩) hHeld ?_ ?_
  rotate_left
  · rintro w' ⟨s0, s1, s2⟩
    go_simp
    with_reducible rfl
  rotate_left
  · simp only [Act.put, pA, pB, pC, i64_w, i32_w]
    rfl
  refine one_ (i := 11) (N := some 54) #[Y,Y,Y,Y,Y,Y,Y,Y,Y,Y,Y,Y,Z,Z] rfl rfl (one_of HT_.out (by kernel_rfl)) (by decide) (fun K hK => ?_)
  refine goes_ Tryd.func42 (by kernel_rfl) rfl #[.int .u64 0, .int .i64 1] (by rfl) rfl rfl (by (try simp only [List.map_toArray, List.map_cons, List.map_nil]); first | done | rfl) ?_
  refine (bits_Put.calls 0 1 2 _ (by kernel_rfl)).mono ?_
  rintro e w8 ⟨rfl, ⟨nd, rfl⟩⟩
  refine ⟨_, rfl, ?_⟩
  replace HT := Aside0.mk (blk_drewN HT.out nd)
  replace HC := Aside0.mk (blk_drewN HC.out nd)
  replace HD := Aside0.mk (blk_drewN HD.out nd)
  replace HO := Aside0.mk (blk_drewN HO.out nd)
  replace HB := Aside0.mk (pw_below_drewN HB.out nd)
  replace H6 := Aside0.mk (blk_drewN H6.out nd)
  refine hK.out _ _ hHeld (fun hHeld => ?_)
  clear hK K
  refine norm_ (a' := ?_) ?_ ?_
  rotate_left
  · show Act.put _ (some 54) _ = _
    simp only [Act.put, pA, pB, pC, i64_w, i32_w]
    rfl
  refine pure_ (i := 12) (N := some 55) (v := ?_) (a' := ?_) #[Y,Y,Y,Y,Y,Y,Y,Y,Y,Y,Y,Y,Y,Z] rfl rfl (any_of HT_.out (by kernel_rfl)) (fun _ _ _ h => h) (Or.inl ⟨by rfl, ?_⟩) ?_ ?_
  rotate_left
  · intro w'
    go_simp
    with_reducible rfl
  rotate_left
  · simp only [Act.put, pA, pB, pC, i64_w, i32_w]
    rfl
  refine last_ (i := 13) (N := none) #[Y,Y,Y,Y,Y,Y,Y,Y,Y,Y,Y,Y,Y,Y] rfl rfl (one_of HT_.out (by kernel_rfl)) (by decide) (fun K hK => ?_)
  have zs := blk_celln HO.out 2 _ rfl
  have fs := blk_frozen HO.out 2
  refine skip_ (w1 := ?_) (by rfl) rfl ?_ ?_
  rotate_left
  · go_simp
    rfl
  refine hK.out _ _ ?_
  clear hK K
  refine done_ (done_of HT_.out (by kernel_rfl)) ?_
  clear hHeld zs fs
  replace HT := Aside0.mk (far1 (j := 2) (v := .int .u64 2) HT.out (blk_ne HT.out HO.out (by decide)))
  replace HC := Aside0.mk (far1 (j := 2) (v := .int .u64 2) HC.out (blk_ne HC.out HO.out (by decide)))
  replace HD := Aside0.mk (far1 (j := 2) (v := .int .u64 2) HD.out (blk_ne HD.out HO.out (by decide)))
  replace H6 := Aside0.mk (far1 (j := 2) (v := .int .u64 2) H6.out (blk_ne H6.out HO.out (by decide)))
  replace HO := Aside0.mk (show ((wR.drewN nd).setCell ⟨go, 2, none⟩ (.int .u64 2)).heap[go]? = some (.cells #[.int .u64 0, .int .u64 0, .int .u64 2, .int .u64 0] 44 (0, 0)) from blk_put HO.out 2 _ rfl)
  replace HB := Aside0.mk (below_set (j := 2) (v := .int .u64 2) HB.out Ggo.out)
  generalize (wR.drewN nd).setCell ⟨go, 2, none⟩ (.int .u64 2) = wT at HT HC HD HO HB H6 ⊢
  go_wp2
  clear H6
  rw [rounds_succ]
  have m27 := cell_below HN.out.n27 HB.out
  have m28 := cell_below HN.out.n28 HB.out
  have m29 := cell_below HN.out.n29 HB.out
  have m30 := cell_below HN.out.n30 HB.out
  have m31 := cell_below HN.out.n31 HB.out
  have m32 := cell_below HN.out.n32 HB.out
  have m33 := cell_below HN.out.n33 HB.out
  have m34 := cell_below HN.out.n34 HB.out
  have m35 := cell_below HN.out.n35 HB.out
  go_upto_region 7 with (((with_reducible refine gate_dst (N := 6) rfl ?_); refine box_event ?hg (N := 6) ?hd (cs := #[.int .i64 0, .int .i64 0, .int .i64 0, .int .i64 0, .int .i64 0, .int .i64 0, .bool false, .bool false, .slice none 0 0]) (t := 53) ?hr ?_; (case hd => rfl); (case hg => rfl); (case hr => first | (go_simp; done) | (go_simp; rfl)); intro g6 hg__ w6 hbox_ hq_; have hg_ := Aside0.mk hg__; clear hg__; have z0_ := blk_celln hbox_ 0 _ rfl; have z1_ := blk_celln hbox_ 1 _ rfl; have z2_ := blk_celln hbox_ 2 _ rfl; have z3_ := blk_celln hbox_ 3 _ rfl; have z4_ := blk_celln hbox_ 4 _ rfl; have z5_ := blk_celln hbox_ 5 _ rfl; have z6_ := blk_celln hbox_ 6 _ rfl; have z7_ := blk_celln hbox_ 7 _ rfl; have z8_ := blk_celln hbox_ 8 _ rfl; have f0_ := blk_frozen hbox_ 0; have f1_ := blk_frozen hbox_ 1; have f2_ := blk_frozen hbox_ 2; have f3_ := blk_frozen hbox_ 3; have f4_ := blk_frozen hbox_ 4; have f5_ := blk_frozen hbox_ 5; have f6_ := blk_frozen hbox_ 6; have f7_ := blk_frozen hbox_ 7; have f8_ := blk_frozen hbox_ 8))
  obtain ⟨F1_, F2_⟩ := fill53 hbox_ (.int .i64 0) (.int .i64 1) (.int .i64 2) (.int .i64 0) (.int .i64 4) (.int .i64 1) (.bool false) (.bool true) (.slice (some ar3) 1 b3) _ rfl
  replace hq_ := hq_.trans (F2_ wT.heap.size (Nat.le_of_eq hg_.out.symm))
  clear hg_ hbox_ z0_ f0_ z1_ f1_ z2_ f2_ z3_ f3_ z4_ f4_ z5_ f5_ z6_ f6_ z7_ f7_ z8_ f8_ m27 m28 m29 m30 m31 m32 m33 m34 m35
  generalize ((((((((w6.setCell ⟨g6, 0, none⟩ (.int .i64 0)).setCell ⟨g6, 1, none⟩ (.int .i64 1)).setCell ⟨g6, 2, none⟩ (.int .i64 2)).setCell ⟨g6, 3, none⟩ (.int .i64 0)).setCell ⟨g6, 4, none⟩ (.int .i64 4)).setCell ⟨g6, 5, none⟩ (.int .i64 1)).setCell ⟨g6, 6, none⟩ (.bool false)).setCell ⟨g6, 7, none⟩ (.bool true)).setCell ⟨g6, 8, none⟩ (.slice (some ar3) 1 b3) = w7 at F1_ F2_ hq_ ⊢
  have H6 := Aside0.mk F1_
  replace HT := Aside0.mk (blk_below HT.out hq_)
  replace HC := Aside0.mk (blk_below HC.out hq_)
  replace HD := Aside0.mk (blk_below HD.out hq_)
  replace HO := Aside0.mk (blk_below HO.out hq_)
  replace HB := Aside0.mk (below_step HB.out hq_)
  clear F1_ F2_ hq_
  have h61 := blk_celln (H6.out) 1 _ rfl
  go_upto_region 8 with (fail)
  clear h61
  replace HT := Aside0.mk (blk_drew HT.out)
  replace HC := Aside0.mk (blk_drew HC.out)
  replace HD := Aside0.mk (blk_drew HD.out)
  replace HO := Aside0.mk (blk_drew HO.out)
  replace HB := Aside0.mk (below_drew HB.out)
  replace H6 := Aside0.mk (blk_drew H6.out)
  refine start_ (n := 12) (S := fun w' => w'.cell? ⟨g4, 4, none⟩ = some (.slice (some ⟨gd, 0, none⟩) 4 4) ∧ w'.cell? ⟨g6, 1, none⟩ = some (.int .i64 1) ∧ w'.cell? ⟨gd, 1, none⟩ = some (.int .i64 0)) (ds := [11]) #[Z,Z,Z,Z,Z,Z,Z,Z,Z,Z,Z,Z] (by kernel_rfl) rfl rfl ⟨(blk_celln HT.out 4 _ rfl), (blk_celln H6.out 1 _ rfl), (blk_celln HD.out 1 _ rfl)⟩ (fun hHeld => ?_)
  refine with_tabW of.tab8 of.bits8 (fun HT_ HW_ => ?_)
  generalize World.drew _ = wP at HT HC HD HO HB H6 hHeld ⊢
  refine pure_ (i := 0) (N := some 32) (v := ?_) (a' := ?_) #[Y,Z,Z,Z,Z,Z,Z,Z,Z,Z,Z,Z] rfl rfl (any_of HT_.out (by kernel_rfl)) (fun _ _ _ h => h) (Or.inl ⟨by rfl, ?_⟩) ?_ ?_
  rotate_left
  · intro w'
    go_simp
    with_reducible rfl
  rotate_left
  · simp only [Act.put, pA, pB, pC, i64_w, i32_w]
    rfl
  refine take_ (i := 1) (N := some 33) (v := ?_) (a' := ?_) #[Y,Y,Z,Z,Z,Z,Z,Z,Z,Z,Z,Z] rfl rfl (take_ofW HT_.out HW_.out (by kernel_rfl)) (fun _ _ _ h => h) (Or.inl ⟨by rfl, ?_⟩) hHeld ?_ ?_
  rotate_left
  · rintro w' ⟨s0, s1, s2⟩
    go_simp
    with_reducible rfl
  rotate_left
  · simp only [Act.put, pA, pB, pC, i64_w, i32_w]
    rfl
  refine pure_ (i := 2) (N := some 34) (v := ?_) (a' := ?_) #[Y,Y,Y,Z,Z,Z,Z,Z,Z,Z,Z,Z] rfl rfl (any_of HT_.out (by kernel_rfl)) (fun _ _ _ h => h) (Or.inl ⟨by rfl, ?_⟩) ?_ ?_
  rotate_left
  · intro w'
    go_simp
    with_reducible rfl
  rotate_left
  · simp only [Act.put, pA, pB, pC, i64_w, i32_w]
    rfl
  refine pure_ (i := 3) (N := some 35) (v := ?_) (a' := ?_) #[Y,Y,Y,Y,Z,Z,Z,Z,Z,Z,Z,Z] rfl rfl (any_of HT_.out (by kernel_rfl)) (fun _ _ _ h => h) (Or.inl ⟨by rfl, ?_⟩) ?_ ?_
  rotate_left
  · intro w'
    go_simp
    with_reducible rfl
  rotate_left
  · simp only [Act.put, pA, pB, pC, i64_w, i32_w]
    rfl
  refine take_ (i := 4) (N := some 36) (v := ?_) (a' := ?_) #[Y,Y,Y,Y,Y,Z,Z,Z,Z,Z,Z,Z] rfl rfl (take_ofW HT_.out HW_.out (by kernel_rfl)) (fun _ _ _ h => h) (Or.inl ⟨by rfl, ?_⟩) hHeld ?_ ?_
  rotate_left
  · rintro w' ⟨s0, s1, s2⟩
    go_simp
    with_reducible rfl
  rotate_left
  · simp only [Act.put, pA, pB, pC, i64_w, i32_w]
    rfl
  refine pure_ (i := 5) (N := some 37) (v := ?_) (a' := ?_) #[Y,Y,Y,Y,Y,Y,Z,Z,Z,Z,Z,Z] rfl rfl (any_of HT_.out (by kernel_rfl)) (fun _ _ _ h => h) (Or.inl ⟨by rfl, ?_⟩) ?_ ?_
  rotate_left
  · intro w'
    go_simp
    with_reducible rfl
  rotate_left
  · simp only [Act.put, pA, pB, pC, i64_w, i32_w]
    rfl
  refine take_ (i := 6) (N := some 38) (v := ?_) (a' := ?_) #[Y,Y,Y,Y,Y,Y,Y,Z,Z,Z,Z,Z] rfl rfl (take_ofW HT_.out HW_.out (by kernel_rfl)) (fun _ _ _ h => h) (Or.inl ⟨by rfl, ?_⟩) hHeld ?_ ?_
  rotate_left
  · rintro w' ⟨s0, s1, s2⟩
    go_simp
    with_reducible rfl
  rotate_left
  · simp only [Act.put, pA, pB, pC, i64_w, i32_w]
    rfl
  refine pure_ (i := 7) (N := some 39) (v := ?_) (a' := ?_) #[Y,Y,Y,Y,Y,Y,Y,Y,Z,Z,Z,Z] rfl rfl (any_of HT_.out (by kernel_rfl)) (fun _ _ _ h => h) (Or.inl ⟨by rfl, ?_⟩) ?_ ?_
  rotate_left
  · intro w'
    go_simp
    with_reducible rfl
  rotate_left
  · simp only [Act.put, pA, pB, pC, i64_w, i32_w]
    rfl
  refine take_ (i := 8) (N := some 40) (v := ?_) (a' := ?_) #[Y,Y,Y,Y,Y,Y,Y,Y,Y,Z,Z,Z] rfl rfl (take_ofW HT_.out HW_.out (by kernel_rfl)) (fun _ _ _ h => h) (Or.inl ⟨by rfl, ?_⟩) hHeld ?_ ?_
  rotate_left
  · rintro w' ⟨s0, s1, s2⟩
    go_simp
    with_reducible rfl
  rotate_left
  · simp only [Act.put, pA, pB, pC, i64_w, i32_w]
    rfl
  refine pure_ (i := 9) (N := some 41) (v := ?_) (a' := ?_) #[Y,Y,Y,Y,Y,Y,Y,Y,Y,Y,Z,Z] rfl rfl (any_of HT_.out (by kernel_rfl)) (fun _ _ _ h => h) (Or.inl ⟨by rfl, ?_⟩) ?_ ?_
  rotate_left
  · intro w'
    go_simp
    with_reducible rfl
  rotate_left
  · simp only [Act.put, pA, pB, pC, i64_w, i32_w]
    rfl
  refine pure_ (i := 10) (N := some 42) (v := ?_) (a' := ?_) #[Y,Y,Y,Y,Y,Y,Y,Y,Y,Y,Y,Z] rfl rfl (any_of HT_.out (by kernel_rfl)) (fun _ _ _ h => h) (Or.inl ⟨by rfl, ?_⟩) ?_ ?_
  rotate_left
  · intro w'
    go_simp
    with_reducible rfl
  rotate_left
  · simp only [Act.put, pA, pB, pC, i64_w, i32_w]
    rfl
  refine last_ (i := 11) (N := none) #[Y,Y,Y,Y,Y,Y,Y,Y,Y,Y,Y,Y] rfl rfl (one_of HT_.out (by kernel_rfl)) (by decide) (fun K hK => ?_)
  have zs := blk_celln HD.out 3 _ rfl
  have fs := blk_frozen HD.out 3
  refine skip_ (w1 := ?_) (by rfl) rfl ?_ ?_
  rotate_left
  · go_simp
    rfl
  refine hK.out _ _ ?_
  clear hK K
  refine done_ (done_of HT_.out (by kernel_rfl)) ?_
  rw [wrap64_one]
  clear hHeld zs fs
  replace HT := Aside0.mk (far1 (j := 3) (v := .int .i64 1) HT.out (blk_ne HT.out HD.out (by decide)))
  replace HC := Aside0.mk (far1 (j := 3) (v := .int .i64 1) HC.out (blk_ne HC.out HD.out (by decide)))
  replace HO := Aside0.mk (far1 (j := 3) (v := .int .i64 1) HO.out (blk_ne HO.out HD.out (by decide)))
  replace H6 := Aside0.mk (far1 (j := 3) (v := .int .i64 1) H6.out (blk_ne H6.out HD.out (by decide)))
  replace HD := Aside0.mk (show (wP.setCell ⟨gd, 3, none⟩ (.int .i64 1)).heap[gd]? = some (.cells #[.int .i64 0, .int .i64 0, .int .i64 1, .int .i64 1] 3 (0, 0)) from blk_put HD.out 3 _ rfl)
  replace HB := Aside0.mk (below_set (j := 3) (v := .int .i64 1) HB.out Ggd.out)
  generalize wP.setCell ⟨gd, 3, none⟩ (.int .i64 1) = wQ at HT HC HD HO HB H6 ⊢
  go_upto_region 9 with (fail)
  replace HT := Aside0.mk (blk_drew HT.out)
  replace HC := Aside0.mk (blk_drew HC.out)
  replace HD := Aside0.mk (blk_drew HD.out)
  replace HO := Aside0.mk (blk_drew HO.out)
  replace HB := Aside0.mk (below_drew HB.out)
  replace H6 := Aside0.mk (blk_drew H6.out)
  refine start_ (n := 14) (S := fun w' => w'.cell? ⟨g4, 5, none⟩ = some (.slice (some ⟨go, 0, none⟩) 4 4) ∧ w'.cell? ⟨g6, 1, none⟩ = some (.int .i64 1) ∧ w'.cell? ⟨go, 1, none⟩ = some (.int .u64 0)) (ds := [13]) #[Z,Z,Z,Z,Z,Z,Z,Z,Z,Z,Z,Z,Z,Z] (by kernel_rfl) rfl rfl ⟨(blk_celln HT.out 5 _ rfl), (blk_celln H6.out 1 _ rfl), (blk_celln HO.out 1 _ rfl)⟩ (fun hHeld => ?_)
  refine with_tabW of.tab9 of.bits9 (fun HT_ HW_ => ?_)
  generalize World.drew _ = wR at HT HC HD HO HB H6 hHeld ⊢
  refine pure_ (i := 0) (N := some 43) (v := ?_) (a' := ?_) #[Y,Z,Z,Z,Z,Z,Z,Z,Z,Z,Z,Z,Z,Z] rfl rfl (any_of HT_.out (by kernel_rfl)) (fun _ _ _ h => h) (Or.inl ⟨by rfl, ?_⟩) ?_ ?_
  rotate_left
  · intro w'
    go_simp
    with_reducible rfl
  rotate_left
  · simp only [Act.put, pA, pB, pC, i64_w, i32_w]
    rfl
  refine take_ (i := 1) (N := some 44) (v := ?_) (a' := ?_) #[Y,Y,Z,Z,Z,Z,Z,Z,Z,Z,Z,Z,Z,Z] rfl rfl (take_ofW HT_.out HW_.out (by kernel_rfl)) (fun _ _ _ h => h) (Or.inl ⟨by rfl, ?_⟩) hHeld ?_ ?_
  rotate_left
  · rintro w' ⟨s0, s1, s2⟩
    go_simp
    with_reducible rfl
  rotate_left
  · simp only [Act.put, pA, pB, pC, i64_w, i32_w]
    rfl
  refine pure_ (i := 2) (N := some 45) (v := ?_) (a' := ?_) #[Y,Y,Y,Z,Z,Z,Z,Z,Z,Z,Z,Z,Z,Z] rfl rfl (any_of HT_.out (by kernel_rfl)) (fun _ _ _ h => h) (Or.inl ⟨by rfl, ?_⟩) ?_ ?_
  rotate_left
  · intro w'
    go_simp
    with_reducible rfl
  rotate_left
  · simp only [Act.put, pA, pB, pC, i64_w, i32_w]
    rfl
  refine pure_ (i := 3) (N := some 46) (v := ?_) (a' := ?_) #[Y,Y,Y,Y,Z,Z,Z,Z,Z,Z,Z,Z,Z,Z] rfl rfl (any_of HT_.out (by kernel_rfl)) (fun _ _ _ h => h) (Or.inl ⟨by rfl, ?_⟩) ?_ ?_
  rotate_left
  · intro w'
    go_simp
    with_reducible rfl
  rotate_left
  · simp only [Act.put, pA, pB, pC, i64_w, i32_w]
    rfl
  refine take_ (i := 4) (N := some 47) (v := ?_) (a' := ?_) #[Y,Y,Y,Y,Y,Z,Z,Z,Z,Z,Z,Z,Z,Z] rfl rfl (take_ofW HT_.out HW_.out (by kernel_rfl)) (fun _ _ _ h => h) (Or.inl ⟨by rfl, ?_⟩) hHeld ?_ ?_
  rotate_left
  · rintro w' ⟨s0, s1, s2⟩
    go_simp
    with_reducible rfl
  rotate_left
  · simp only [Act.put, pA, pB, pC, i64_w, i32_w]
    rfl
  refine pure_ (i := 5) (N := some 48) (v := ?_) (a' := ?_) #[Y,Y,Y,Y,Y,Y,Z,Z,Z,Z,Z,Z,Z,Z] rfl rfl (any_of HT_.out (by kernel_rfl)) (fun _ _ _ h => h) (Or.inl ⟨by rfl, ?_⟩) ?_ ?_
  rotate_left
  · intro w'
    go_simp
    with_reducible rfl
  rotate_left
  · simp only [Act.put, pA, pB, pC, i64_w, i32_w]
    rfl
  refine take_ (i := 6) (N := some 49) (v := ?_) (a' := ?_) #[Y,Y,Y,Y,Y,Y,Y,Z,Z,Z,Z,Z,Z,Z] rfl rfl (take_ofW HT_.out HW_.out (by kernel_rfl)) (fun _ _ _ h => h) (Or.inl ⟨by rfl, ?_⟩) hHeld ?_ ?_
  rotate_left
  · rintro w' ⟨s0, s1, s2⟩
    go_simp
    with_reducible rfl
  rotate_left
  · simp only [Act.put, pA, pB, pC, i64_w, i32_w]
    rfl
  refine pure_ (i := 7) (N := some 50) (v := ?_) (a' := ?_) #[Y,Y,Y,Y,Y,Y,Y,Y,Z,Z,Z,Z,Z,Z] rfl rfl (any_of HT_.out (by kernel_rfl)) (fun _ _ _ h => h) (Or.inl ⟨by rfl, ?_⟩) ?_ ?_
  rotate_left
  · intro w'
    go_simp
    with_reducible rfl
  rotate_left
  · simp only [Act.put, pA, pB, pC, i64_w, i32_w]
    rfl
  refine take_ (i := 8) (N := some 51) (v := ?_) (a' := ?_) #[Y,Y,Y,Y,Y,Y,Y,Y,Y,Z,Z,Z,Z,Z] rfl rfl (take_ofW HT_.out HW_.out (by kernel_rfl)) (fun _ _ _ h => h) (Or.inl ⟨by rfl, ?_⟩) hHeld ?_ ?_
  rotate_left
  · rintro w' ⟨s0, s1, s2⟩
    go_simp
    with_reducible rfl
  rotate_left
  · simp only [Act.put, pA, pB, pC, i64_w, i32_w]
    rfl
  refine pure_ (i := 9) (N := some 52) (v := ?_) (a' := ?_) #[Y,Y,Y,Y,Y,Y,Y,Y,Y,Y,Z,Z,Z,Z] rfl rfl (any_of HT_.out (by kernel_rfl)) (fun _ _ _ h => h) (Or.inl ⟨by rfl, ?_⟩) ?_ ?_
  rotate_left
  · intro w'
    go_simp
    with_reducible rfl
  rotate_left
  · simp only [Act.put, pA, pB, pC, i64_w, i32_w]
    rfl
  refine take_ (i := 10) (N := some 53) (v := ?_) (a' := ?_) #[Y,Y,Y,Y,Y,Y,Y,Y,Y,Y,Y,Z,Z,Z] rfl rfl (take_ofW HT_.out HW_.out (by kernel_rfl)) (fun _ _ _ h => h) (Or.inl ⟨by rfl, ?_⟩) hHeld ?_ ?_
  rotate_left
  · rintro w' ⟨s0, s1, s2⟩
    go_simp
    with_reducible rfl
  rotate_left
  · simp only [Act.put, pA, pB, pC, i64_w, i32_w]
    rfl
  refine one_ (i := 11) (N := some 54) #[Y,Y,Y,Y,Y,Y,Y,Y,Y,Y,Y,Y,Z,Z] rfl rfl (one_of HT_.out (by kernel_rfl)) (by decide) (fun K hK => ?_)
  refine goes_ Tryd.func42 (by kernel_rfl) rfl #[.int .u64 0, .int .i64 1] (by rfl) rfl rfl (by (try simp only [List.map_toArray, List.map_cons, List.map_nil]); first | done | rfl) ?_
  refine (bits_Put.calls 0 1 2 _ (by kernel_rfl)).mono ?_
  rintro e w8 ⟨rfl, ⟨nd, rfl⟩⟩
  refine ⟨_, rfl, ?_⟩
  replace HT := Aside0.mk (blk_drewN HT.out nd)
  replace HC := Aside0.mk (blk_drewN HC.out nd)
  replace HD := Aside0.mk (blk_drewN HD.out nd)
  replace HO := Aside0.mk (blk_drewN HO.out nd)
  replace HB := Aside0.mk (pw_below_drewN HB.out nd)
  replace H6 := Aside0.mk (blk_drewN H6.out nd)
  refine hK.out _ _ hHeld (fun hHeld => ?_)
  clear hK K
  refine norm_ (a' := ?_) ?_ ?_
  rotate_left
  · show Act.put _ (some 54) _ = _
    simp only [Act.put, pA, pB, pC, i64_w, i32_w]
    rfl
  refine pure_ (i := 12) (N := some 55) (v := ?_) (a' := ?_) #[Y,Y,Y,Y,Y,Y,Y,Y,Y,Y,Y,Y,Y,Z] rfl rfl (any_of HT_.out (by kernel_rfl)) (fun _ _ _ h => h) (Or.inl ⟨by rfl, ?_⟩) ?_ ?_
  rotate_left
  · intro w'
    go_simp
    with_reducible rfl
  rotate_left
  · simp only [Act.put, pA, pB, pC, i64_w, i32_w]
    rfl
  refine last_ (i := 13) (N := none) #[Y,Y,Y,Y,Y,Y,Y,Y,Y,Y,Y,Y,Y,Y] rfl rfl (one_of HT_.out (by kernel_rfl)) (by decide) (fun K hK => ?_)
  have zs := blk_celln HO.out 3 _ rfl
  have fs := blk_frozen HO.out 3
  refine skip_ (w1 := ?_) (by rfl) rfl ?_ ?_
  rotate_left
  · go_simp
    rfl
  refine hK.out _ _ ?_
  clear hK K
  refine done_ (done_of HT_.out (by kernel_rfl)) ?_
  clear hHeld zs fs
  replace HT := Aside0.mk (far1 (j := 3) (v := .int .u64 2) HT.out (blk_ne HT.out HO.out (by decide)))
  replace HC := Aside0.mk (far1 (j := 3) (v := .int .u64 2) HC.out (blk_ne HC.out HO.out (by decide)))
  replace HD := Aside0.mk (far1 (j := 3) (v := .int .u64 2) HD.out (blk_ne HD.out HO.out (by decide)))
  replace H6 := Aside0.mk (far1 (j := 3) (v := .int .u64 2) H6.out (blk_ne H6.out HO.out (by decide)))
  replace HO := Aside0.mk (show ((wR.drewN nd).setCell ⟨go, 3, none⟩ (.int .u64 2)).heap[go]? = some (.cells #[.int .u64 0, .int .u64 0, .int .u64 2, .int .u64 2] 44 (0, 0)) from blk_put HO.out 3 _ rfl)
  replace HB := Aside0.mk (below_set (j := 3) (v := .int .u64 2) HB.out Ggo.out)
  generalize (wR.drewN nd).setCell ⟨go, 3, none⟩ (.int .u64 2) = wT at HT HC HD HO HB H6 ⊢
  go_wp2
  clear H6
  rw [rounds_succ]
  have ht0 := blk_celln (HT.out) 0 _ rfl; have ht1 := blk_celln (HT.out) 1 _ rfl; have ht2 := blk_celln (HT.out) 2 _ rfl; have ht3 := blk_celln (HT.out) 3 _ rfl; have ht4 := blk_celln (HT.out) 4 _ rfl; have ht5 := blk_celln (HT.out) 5 _ rfl
  have z0_ := blk_celln HC.out 0 _ rfl; have z1_ := blk_celln HC.out 1 _ rfl; have z2_ := blk_celln HC.out 2 _ rfl; have z3_ := blk_celln HC.out 3 _ rfl; have z4_ := blk_celln HC.out 4 _ rfl; have z5_ := blk_celln HC.out 5 _ rfl; have f0_ := blk_frozen HC.out 0; have f1_ := blk_frozen HC.out 1; have f2_ := blk_frozen HC.out 2; have f3_ := blk_frozen HC.out 3; have f4_ := blk_frozen HC.out 4; have f5_ := blk_frozen HC.out 5
  go_wp2
  obtain ⟨F1_, F2_, F3_⟩ := fill72 HC.out (.int .i64 2) (.slice A1 1 c1) (.slice A2 1 c2) (.slice (some ⟨b, o, none⟩) 4 c3) (.slice (some ⟨gd, 0, none⟩) 4 4) (.slice (some ⟨go, 0, none⟩) 4 4) _ rfl
  refine bodyPost_ret (results_ct rfl _ _ g2 72 _ (0, 0) _ rfl F1_ Tryd.underlying72 rfl (by kernel_rfl)) rfl ?_
  exact ⟨gd, go, rfl, F3_ _ _ HD.out (blk_ne HD.out HC.out (by decide)), F3_ _ _ HO.out (blk_ne HO.out HC.out (by decide)), HB.out.trans (F2_ w.heap.size Gg2.out)⟩
end Go.Proofs.YtlpdcdkjmcpfdaaDoor.PT
