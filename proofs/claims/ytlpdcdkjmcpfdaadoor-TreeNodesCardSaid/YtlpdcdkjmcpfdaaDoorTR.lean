/- The looker side by side (lts): walked by hand. -/
import Derived.Test.YtlpdcdkjmcpfdaaDoorTQ
namespace Go.Proofs.YtlpdcdkjmcpfdaaDoor.PT
open Go.RowKit Go.Proofs.YtlpdcdkjmcpfdaaDoorW.PrintWords Go.Proofs.YtlpdcdkjmcpfdaaDoorW.PrintLast Go.Proofs.YtlpdcdkjmcpfdaaDoorW.PrintMore
set_option linter.unusedVariables false
set_option linter.unusedSimpArgs false
attribute [local go_sem] cell_set_some
set_option maxHeartbeats 4000000 in
theorem fill53 {w : World} {g : Nat} {e0 e1 e2 e3 e4 e5 e6 e7 e8 : Value} (h : w.heap[g]? = some (.cells #[e0, e1, e2, e3, e4, e5, e6, e7, e8] 53 (0, 0))) (v0 v1 v2 v3 v4 v5 v6 v7 v8 : Value) (W : World) (hW : W = ((((((((w.setCell ⟨g, 0, none⟩ v0).setCell ⟨g, 1, none⟩ v1).setCell ⟨g, 2, none⟩ v2).setCell ⟨g, 3, none⟩ v3).setCell ⟨g, 4, none⟩ v4).setCell ⟨g, 5, none⟩ v5).setCell ⟨g, 6, none⟩ v6).setCell ⟨g, 7, none⟩ v7).setCell ⟨g, 8, none⟩ v8) :
    W.heap[g]? = some (.cells #[v0, v1, v2, v3, v4, v5, v6, v7, v8] 53 (0, 0)) ∧ ∀ B, B ≤ g → Below B w W := by
  subst hW
  have b0 := blk_put (cs' := #[v0, e1, e2, e3, e4, e5, e6, e7, e8]) h 0 v0 (by simp)
  have b1 := blk_put (cs' := #[v0, v1, e2, e3, e4, e5, e6, e7, e8]) b0 1 v1 (by simp)
  have b2 := blk_put (cs' := #[v0, v1, v2, e3, e4, e5, e6, e7, e8]) b1 2 v2 (by simp)
  have b3 := blk_put (cs' := #[v0, v1, v2, v3, e4, e5, e6, e7, e8]) b2 3 v3 (by simp)
  have b4 := blk_put (cs' := #[v0, v1, v2, v3, v4, e5, e6, e7, e8]) b3 4 v4 (by simp)
  have b5 := blk_put (cs' := #[v0, v1, v2, v3, v4, v5, e6, e7, e8]) b4 5 v5 (by simp)
  have b6 := blk_put (cs' := #[v0, v1, v2, v3, v4, v5, v6, e7, e8]) b5 6 v6 (by simp)
  have b7 := blk_put (cs' := #[v0, v1, v2, v3, v4, v5, v6, v7, e8]) b6 7 v7 (by simp)
  have b8 := blk_put (cs' := #[v0, v1, v2, v3, v4, v5, v6, v7, v8]) b7 8 v8 (by simp)
  exact ⟨b8, fun B hB => (((((((((Below.refl B w).setCell hB _).setCell hB _).setCell hB _).setCell hB _).setCell hB _).setCell hB _).setCell hB _).setCell hB _).setCell hB _⟩
def side.T1 : Bool × List (List Nat × List Nat) := (true, [([], []), ([0], [0]), ([1], [1]), ([2], [2]), ([3], [3]), ([], []), ([5], [5]), ([6], [6]), ([7], [7]), ([4, 8], [4, 8]), ([9], [9]), ([], []), ([11, 10, 0, 1, 2, 3, 4, 5, 6, 7, 8, 9, 10, 11], [10, 11])])
def side.B1 : List Nat := [0, 1, 3, 7, 15, 0, 32, 96, 224, 511, 1023, 0, 4095]
theorem side.tab1 : rtab .any (opsOf Tryd.f113 1) = side.T1 := by kernel_rfl
theorem side.bits1 : waitsOk side.T1.2 side.B1 = true := by kernel_rfl
def side.T8 : Bool × List (List Nat × List Nat) := (true, [([], []), ([0], [0]), ([1], [1]), ([2], [2]), ([3], [3]), ([], []), ([5], [5]), ([6], [6]), ([7], [7]), ([4, 8], [4, 8]), ([9], [9]), ([], []), ([11, 10, 0, 1, 2, 3, 4, 5, 6, 7, 8, 9, 10, 11], [10, 11])])
def side.B8 : List Nat := [0, 1, 3, 7, 15, 0, 32, 96, 224, 511, 1023, 0, 4095]
theorem side.tab8 : rtab .any (opsOf Tryd.f113 8) = side.T8 := by kernel_rfl
theorem side.bits8 : waitsOk side.T8.2 side.B8 = true := by kernel_rfl
set_option maxHeartbeats 8000000 in
set_option maxRecDepth 100000 in
theorem side_c (w0 w : World) (gk : Nat) (A1 : Option Addr) (c1 c2 c3 : Nat) (b o : Nat) (B0 : Option Addr) (b0 : Nat) (B1 : Option Addr) (b1 : Nat) (ar2 : Addr) (b2 : Nat) (ar3 : Addr) (b3 : Nat) (adR : Addr) (AG : Option Addr) (cG : Nat) (hR : w0.cell? adR = some (.slice AG 1 cG)) (hge : w0.heap.size ≤ gk) (hn : NC w0 b o B0 b0 B1 b1 ar2 b2 ar3 b3) (hB : Below w0.heap.size w0 w) (hb : w.heap[gk]? = some (.cells #[.int .i64 2, .slice A1 1 c1, .slice (some adR) 1 c2, .slice (some ⟨b, o, none⟩) 4 c3, .int .i64 2] 130 (0, 0))) :
    Calls Tryd.prog 113 #[.pointer (some ⟨gk, 0, none⟩), .int .i64 1] w fun e w' => e = .returned (.bool true) ∧ w'.heap[gk]? = some (.cells #[.int .i64 2, .slice A1 1 c1, .slice (some adR) 1 c2, .slice (some ⟨b, o, none⟩) 4 c3, .int .i64 4] 130 (0, 0)) ∧ Below w0.heap.size w0 w' ∧ KeepBut w w' gk none := by
  have hu130 := Tryd.underlying130
  have hu128 := Tryd.underlying128
  have hu28 := Tryd.underlying28
  have hu53 := Tryd.underlying53
  have HB := Aside0.mk hB
  have HG := Aside0.mk hb
  have HN := Aside0.mk hn
  have HK := Aside0.mk (KeepBut.refl w gk none)
  clear hb hB hn
  go_enter Tryd.func113, Tryd.ntmps113
  go_upto_region 1 with (fail)
  replace HG := Aside0.mk (blk_drew HG.out)
  replace HB := Aside0.mk (below_drew HB.out)
  replace HK := Aside0.mk (keep_drew HK.out)
  refine start_ (n := 13) (S := fun w' => w'.cell? ⟨gk, 4, none⟩ = some (.int .i64 2) ∧ w'.cell? ⟨gk, 3, none⟩ = some (.slice (some ⟨b, o, none⟩) 4 c3) ∧ w'.cell? ⟨b, o + 18, none⟩ = some (.int .i64 0) ∧ w'.cell? ⟨b, o + 19, none⟩ = some (.int .i64 1) ∧ w'.cell? ⟨b, o + 20, none⟩ = some (.int .i64 2) ∧ w'.cell? ⟨b, o + 21, none⟩ = some (.int .i64 0) ∧ w'.cell? ⟨b, o + 22, none⟩ = some (.int .i64 4) ∧ w'.cell? ⟨b, o + 23, none⟩ = some (.int .i64 0) ∧ w'.cell? ⟨b, o + 24, none⟩ = some (.bool false) ∧ w'.cell? ⟨b, o + 25, none⟩ = some (.bool true) ∧ w'.cell? ⟨b, o + 26, none⟩ = some (.slice (some ar2) 1 b2)) (ds := [12]) #[Z,Z,Z,Z,Z,Z,Z,Z,Z,Z,Z,Z,Z] (by kernel_rfl) rfl rfl ⟨(blk_celln HG.out 4 _ rfl), (blk_celln HG.out 3 _ rfl), (cell_below HN.out.n18 HB.out), (cell_below HN.out.n19 HB.out), (cell_below HN.out.n20 HB.out), (cell_below HN.out.n21 HB.out), (cell_below HN.out.n22 HB.out), (cell_below HN.out.n23 HB.out), (cell_below HN.out.n24 HB.out), (cell_below HN.out.n25 HB.out), (cell_below HN.out.n26 HB.out)⟩ (fun hHeld => ?_)
  refine with_tabW side.tab1 side.bits1 (fun HT_ HW_ => ?_)
  generalize World.drew _ = w1a at HG HB HK hHeld ⊢
  refine pure_ (i := 0) (N := some 12) (v := ?_) (a' := ?_) #[Y,Z,Z,Z,Z,Z,Z,Z,Z,Z,Z,Z,Z] rfl rfl (any_of HT_.out (by kernel_rfl)) (fun _ _ _ h => h) (Or.inl ⟨by rfl, ?_⟩) ?_ ?_
  rotate_left
  · intro w'
    go_simp
    with_reducible rfl
  rotate_left
  · simp only [Act.put, pA, pB, pC, i64_w, i32_w]
    rfl
  refine pure_ (i := 1) (N := some 13) (v := ?_) (a' := ?_) #[Y,Y,Z,Z,Z,Z,Z,Z,Z,Z,Z,Z,Z] rfl rfl (any_of HT_.out (by kernel_rfl)) (fun _ _ _ h => h) (Or.inl ⟨by rfl, ?_⟩) ?_ ?_
  rotate_left
  · intro w'
    go_simp
    with_reducible rfl
  rotate_left
  · simp only [Act.put, pA, pB, pC, i64_w, i32_w]
    rfl
  refine pure_ (i := 2) (N := some 14) (v := ?_) (a' := ?_) #[Y,Y,Y,Z,Z,Z,Z,Z,Z,Z,Z,Z,Z] rfl rfl (any_of HT_.out (by kernel_rfl)) (fun _ _ _ h => h) (Or.inl ⟨by rfl, ?_⟩) ?_ ?_
  rotate_left
  · intro w'
    go_simp
    with_reducible rfl
  rotate_left
  · simp only [Act.put, pA, pB, pC, i64_w, i32_w]
    rfl
  refine pure_ (i := 3) (N := some 15) (v := ?_) (a' := ?_) #[Y,Y,Y,Y,Z,Z,Z,Z,Z,Z,Z,Z,Z] rfl rfl (any_of HT_.out (by kernel_rfl)) (fun _ _ _ h => h) (Or.inl ⟨by rfl, ?_⟩) ?_ ?_
  rotate_left
  · intro w'
    go_simp
    with_reducible rfl
  rotate_left
  · simp only [Act.put, pA, pB, pC, i64_w, i32_w]
    rfl
  refine take_ (i := 4) (N := some 16) (v := ?_) (a' := ?_) #[Y,Y,Y,Y,Y,Z,Z,Z,Z,Z,Z,Z,Z] rfl rfl (take_ofW HT_.out HW_.out (by kernel_rfl)) (fun _ _ _ h => h) (Or.inl ⟨by rfl, ?_⟩) hHeld ?_ ?_
  rotate_left
  · rintro w' ⟨s0, s1, s2, s3, s4, s5, s6, s7, s8, s9, s10⟩
    go_simp
    with_reducible rfl
  rotate_left
  · simp only [Act.put, pA, pB, pC, i64_w, i32_w]
    rfl
  refine pure_ (i := 5) (N := some 17) (v := ?_) (a' := ?_) #[Y,Y,Y,Y,Y,Y,Z,Z,Z,Z,Z,Z,Z] rfl rfl (any_of HT_.out (by kernel_rfl)) (fun _ _ _ h => h) (Or.inl ⟨by rfl, ?_⟩) ?_ ?_
  rotate_left
  · intro w'
    go_simp
    with_reducible rfl
  rotate_left
  · simp only [Act.put, pA, pB, pC, i64_w, i32_w]
    rfl
  refine pure_ (i := 6) (N := some 18) (v := ?_) (a' := ?_) #[Y,Y,Y,Y,Y,Y,Y,Z,Z,Z,Z,Z,Z] rfl rfl (any_of HT_.out (by kernel_rfl)) (fun _ _ _ h => h) (Or.inl ⟨by rfl, ?_⟩) ?_ ?_
  rotate_left
  · intro w'
    go_simp
    with_reducible rfl
  rotate_left
  · simp only [Act.put, pA, pB, pC, i64_w, i32_w]
    rfl
  refine pure_ (i := 7) (N := some 19) (v := ?_) (a' := ?_) #[Y,Y,Y,Y,Y,Y,Y,Y,Z,Z,Z,Z,Z] rfl rfl (any_of HT_.out (by kernel_rfl)) (fun _ _ _ h => h) (Or.inl ⟨by rfl, ?_⟩) ?_ ?_
  rotate_left
  · intro w'
    go_simp
    with_reducible rfl
  rotate_left
  · simp only [Act.put, pA, pB, pC, i64_w, i32_w]
    rfl
  refine take_ (i := 8) (N := some 20) (v := ?_) (a' := ?_) #[Y,Y,Y,Y,Y,Y,Y,Y,Y,Z,Z,Z,Z] rfl rfl (take_ofW HT_.out HW_.out (by kernel_rfl)) (fun _ _ _ h => h) (Or.inl ⟨by rfl, ?_⟩) hHeld ?_ ?_
  rotate_left
  · rintro w' ⟨s0, s1, s2, s3, s4, s5, s6, s7, s8, s9, s10⟩
    go_simp
    with_reducible rfl
  rotate_left
  · simp only [Act.put, pA, pB, pC, i64_w, i32_w]
    rfl
  refine pure_ (i := 9) (N := some 21) (v := ?_) (a' := ?_) #[Y,Y,Y,Y,Y,Y,Y,Y,Y,Y,Z,Z,Z] rfl rfl (any_of HT_.out (by kernel_rfl)) (fun _ _ _ h => h) (Or.inl ⟨by rfl, ?_⟩) ?_ ?_
  rotate_left
  · intro w'
    go_simp
    with_reducible rfl
  rotate_left
  · simp only [Act.put, pA, pB, pC, i64_w, i32_w]
    rfl
  refine take_ (i := 10) (N := some 22) (v := ?_) (a' := ?_) #[Y,Y,Y,Y,Y,Y,Y,Y,Y,Y,Y,Z,Z] rfl rfl (take_ofW HT_.out HW_.out (by kernel_rfl)) (fun _ _ _ h => h) (Or.inl ⟨by rfl, ?_⟩) hHeld ?_ ?_
  rotate_left
  · rintro w' ⟨s0, s1, s2, s3, s4, s5, s6, s7, s8, s9, s10⟩
    go_simp
    with_reducible rfl
  rotate_left
  · simp only [Act.put, pA, pB, pC, i64_w, i32_w]
    rfl
  refine one_ (i := 11) (N := some 5) #[Y,Y,Y,Y,Y,Y,Y,Y,Y,Y,Y,Y,Z] rfl rfl (one_of HT_.out (by kernel_rfl)) (by decide) (fun K hK => ?_)
  refine box_step ?hg (N := 5) ?hd (cs := #[.int .i64 0, .int .i64 0, .int .i64 0, .int .i64 0, .int .i64 0, .int .i64 0, .bool false, .bool false, .slice none 0 0]) (t := 53) ?hr ?_; (case hd => rfl); (case hg => rfl); (case hr => first | (go_simp; done) | (go_simp; rfl))
  intro g5 hg__ w1_ hbox_ hq_
  have hg_ := Aside0.mk hg__
  clear hg__
  refine hK.out _ _ (by obtain ⟨s0, s1, s2, s3, s4, s5, s6, s7, s8, s9, s10⟩ := hHeld; exact ⟨(cell_below s0 hq_), (cell_below s1 hq_), (cell_below s2 hq_), (cell_below s3 hq_), (cell_below s4 hq_), (cell_below s5 hq_), (cell_below s6 hq_), (cell_below s7 hq_), (cell_below s8 hq_), (cell_below s9 hq_), (cell_below s10 hq_)⟩) (fun hHeld => ?_)
  clear hK K
  refine norm_ (a' := ?_) ?_ ?_
  rotate_left
  · show Act.put _ (some 5) _ = _
    simp only [Act.put, pA, pB, pC, i64_w, i32_w]
    rfl
  have z0_ := blk_celln hbox_ 0 _ rfl; have z1_ := blk_celln hbox_ 1 _ rfl; have z2_ := blk_celln hbox_ 2 _ rfl; have z3_ := blk_celln hbox_ 3 _ rfl; have z4_ := blk_celln hbox_ 4 _ rfl; have z5_ := blk_celln hbox_ 5 _ rfl; have z6_ := blk_celln hbox_ 6 _ rfl; have z7_ := blk_celln hbox_ 7 _ rfl; have z8_ := blk_celln hbox_ 8 _ rfl; have f0_ := blk_frozen hbox_ 0; have f1_ := blk_frozen hbox_ 1; have f2_ := blk_frozen hbox_ 2; have f3_ := blk_frozen hbox_ 3; have f4_ := blk_frozen hbox_ 4; have f5_ := blk_frozen hbox_ 5; have f6_ := blk_frozen hbox_ 6; have f7_ := blk_frozen hbox_ 7; have f8_ := blk_frozen hbox_ 8
  refine last_ (i := 12) (N := none) #[Y,Y,Y,Y,Y,Y,Y,Y,Y,Y,Y,Y,Y] rfl rfl (one_of HT_.out (by kernel_rfl)) (by decide) (fun K hK => ?_)
  refine skip_ (w1 := ?_) (by rfl) rfl ?_ ?_
  rotate_left
  · go_simp
    rfl
  refine hK.out _ _ ?_
  clear hK K
  refine done_ (done_of HT_.out (by kernel_rfl)) ?_
  obtain ⟨F1_, F2_⟩ := fill53 hbox_ (.int .i64 0) (.int .i64 1) (.int .i64 2) (.int .i64 0) (.int .i64 4) (.int .i64 0) (.bool false) (.bool true) (.slice (some ar2) 1 b2) _ rfl
  replace hq_ := hq_.trans (F2_ w1a.heap.size (Nat.le_of_eq hg_.out.symm))
  clear hHeld hg_ hbox_ z0_ f0_ z1_ f1_ z2_ f2_ z3_ f3_ z4_ f4_ z5_ f5_ z6_ f6_ z7_ f7_ z8_ f8_
  generalize ((((((((w1_.setCell ⟨g5, 0, none⟩ (.int .i64 0)).setCell ⟨g5, 1, none⟩ (.int .i64 1)).setCell ⟨g5, 2, none⟩ (.int .i64 2)).setCell ⟨g5, 3, none⟩ (.int .i64 0)).setCell ⟨g5, 4, none⟩ (.int .i64 4)).setCell ⟨g5, 5, none⟩ (.int .i64 0)).setCell ⟨g5, 6, none⟩ (.bool false)).setCell ⟨g5, 7, none⟩ (.bool true)).setCell ⟨g5, 8, none⟩ (.slice (some ar2) 1 b2) = w1 at F1_ F2_ hq_ ⊢
  have H5 := Aside0.mk F1_
  replace HG := Aside0.mk (blk_below HG.out hq_)
  replace HK := Aside0.mk (HK.out.trans (KeepBut.of_below hq_ gk none) (.inl rfl))
  replace HB := Aside0.mk (below_step HB.out hq_)
  clear F1_ F2_ hq_
  have hz0 := blk_celln (HG.out) 0 _ rfl
  go_wp2
  refine wp_loop_rounds 3 ?_
  clear hz0
  rw [rounds_succ]
  go_wp2_with (fail)
  refine (comes_2_1 w0 _ gk A1 (some adR) c1 c2 c3 b o B0 b0 B1 b1 ar2 b2 ar3 b3 HN.out HB.out HG.out).mono ?_
  rintro e wx ⟨rfl, n2, rfl⟩
  replace HG := Aside0.mk (blk_drewN HG.out n2)
  replace HB := Aside0.mk (pw_below_drewN HB.out n2)
  replace HK := Aside0.mk (keep_drewN HK.out n2)
  replace H5 := Aside0.mk (blk_drewN H5.out n2)
  generalize World.drewN _ n2 = wc2 at HG HB HK H5 ⊢
  go_upto_region 8 with (fail)
  replace HG := Aside0.mk (blk_drew HG.out)
  replace HB := Aside0.mk (below_drew HB.out)
  replace HK := Aside0.mk (keep_drew HK.out)
  replace H5 := Aside0.mk (blk_drew H5.out)
  refine start_ (n := 13) (S := fun w' => w'.cell? ⟨gk, 4, none⟩ = some (.int .i64 2) ∧ w'.cell? ⟨gk, 3, none⟩ = some (.slice (some ⟨b, o, none⟩) 4 c3) ∧ w'.cell? ⟨b, o + 18, none⟩ = some (.int .i64 0) ∧ w'.cell? ⟨b, o + 19, none⟩ = some (.int .i64 1) ∧ w'.cell? ⟨b, o + 20, none⟩ = some (.int .i64 2) ∧ w'.cell? ⟨b, o + 21, none⟩ = some (.int .i64 0) ∧ w'.cell? ⟨b, o + 22, none⟩ = some (.int .i64 4) ∧ w'.cell? ⟨b, o + 23, none⟩ = some (.int .i64 0) ∧ w'.cell? ⟨b, o + 24, none⟩ = some (.bool false) ∧ w'.cell? ⟨b, o + 25, none⟩ = some (.bool true) ∧ w'.cell? ⟨b, o + 26, none⟩ = some (.slice (some ar2) 1 b2)) (ds := [12]) #[Z,Z,Z,Z,Z,Z,Z,Z,Z,Z,Z,Z,Z] (by kernel_rfl) rfl rfl ⟨(blk_celln HG.out 4 _ rfl), (blk_celln HG.out 3 _ rfl), (cell_below HN.out.n18 HB.out), (cell_below HN.out.n19 HB.out), (cell_below HN.out.n20 HB.out), (cell_below HN.out.n21 HB.out), (cell_below HN.out.n22 HB.out), (cell_below HN.out.n23 HB.out), (cell_below HN.out.n24 HB.out), (cell_below HN.out.n25 HB.out), (cell_below HN.out.n26 HB.out)⟩ (fun hHeld => ?_)
  refine with_tabW side.tab8 side.bits8 (fun HT_ HW_ => ?_)
  generalize World.drew _ = wn2a at HG HB HK H5 hHeld ⊢
  refine pure_ (i := 0) (N := some 35) (v := ?_) (a' := ?_) #[Y,Z,Z,Z,Z,Z,Z,Z,Z,Z,Z,Z,Z] rfl rfl (any_of HT_.out (by kernel_rfl)) (fun _ _ _ h => h) (Or.inl ⟨by rfl, ?_⟩) ?_ ?_
  rotate_left
  · intro w'
    go_simp
    with_reducible rfl
  rotate_left
  · simp only [Act.put, pA, pB, pC, i64_w, i32_w]
    rfl
  refine pure_ (i := 1) (N := some 36) (v := ?_) (a' := ?_) #[Y,Y,Z,Z,Z,Z,Z,Z,Z,Z,Z,Z,Z] rfl rfl (any_of HT_.out (by kernel_rfl)) (fun _ _ _ h => h) (Or.inl ⟨by rfl, ?_⟩) ?_ ?_
  rotate_left
  · intro w'
    go_simp
    with_reducible rfl
  rotate_left
  · simp only [Act.put, pA, pB, pC, i64_w, i32_w]
    rfl
  refine pure_ (i := 2) (N := some 37) (v := ?_) (a' := ?_) #[Y,Y,Y,Z,Z,Z,Z,Z,Z,Z,Z,Z,Z] rfl rfl (any_of HT_.out (by kernel_rfl)) (fun _ _ _ h => h) (Or.inl ⟨by rfl, ?_⟩) ?_ ?_
  rotate_left
  · intro w'
    go_simp
    with_reducible rfl
  rotate_left
  · simp only [Act.put, pA, pB, pC, i64_w, i32_w]
    rfl
  refine pure_ (i := 3) (N := some 38) (v := ?_) (a' := ?_) #[Y,Y,Y,Y,Z,Z,Z,Z,Z,Z,Z,Z,Z] rfl rfl (any_of HT_.out (by kernel_rfl)) (fun _ _ _ h => h) (Or.inl ⟨by rfl, ?_⟩) ?_ ?_
  rotate_left
  · intro w'
    go_simp
    with_reducible rfl
  rotate_left
  · simp only [Act.put, pA, pB, pC, i64_w, i32_w]
    rfl
  refine take_ (i := 4) (N := some 39) (v := ?_) (a' := ?_) #[Y,Y,Y,Y,Y,Z,Z,Z,Z,Z,Z,Z,Z] rfl rfl (take_ofW HT_.out HW_.out (by kernel_rfl)) (fun _ _ _ h => h) (Or.inl ⟨by rfl, ?_⟩) hHeld ?_ ?_
  rotate_left
  · rintro w' ⟨s0, s1, s2, s3, s4, s5, s6, s7, s8, s9, s10⟩
    go_simp
    with_reducible rfl
  rotate_left
  · simp only [Act.put, pA, pB, pC, i64_w, i32_w]
    rfl
  refine pure_ (i := 5) (N := some 40) (v := ?_) (a' := ?_) #[Y,Y,Y,Y,Y,Y,Z,Z,Z,Z,Z,Z,Z] rfl rfl (any_of HT_.out (by kernel_rfl)) (fun _ _ _ h => h) (Or.inl ⟨by rfl, ?_⟩) ?_ ?_
  rotate_left
  · intro w'
    go_simp
    with_reducible rfl
  rotate_left
  · simp only [Act.put, pA, pB, pC, i64_w, i32_w]
    rfl
  refine pure_ (i := 6) (N := some 41) (v := ?_) (a' := ?_) #[Y,Y,Y,Y,Y,Y,Y,Z,Z,Z,Z,Z,Z] rfl rfl (any_of HT_.out (by kernel_rfl)) (fun _ _ _ h => h) (Or.inl ⟨by rfl, ?_⟩) ?_ ?_
  rotate_left
  · intro w'
    go_simp
    with_reducible rfl
  rotate_left
  · simp only [Act.put, pA, pB, pC, i64_w, i32_w]
    rfl
  refine pure_ (i := 7) (N := some 42) (v := ?_) (a' := ?_) #[Y,Y,Y,Y,Y,Y,Y,Y,Z,Z,Z,Z,Z] rfl rfl (any_of HT_.out (by kernel_rfl)) (fun _ _ _ h => h) (Or.inl ⟨by rfl, ?_⟩) ?_ ?_
  rotate_left
  · intro w'
    go_simp
    with_reducible rfl
  rotate_left
  · simp only [Act.put, pA, pB, pC, i64_w, i32_w]
    rfl
  refine take_ (i := 8) (N := some 43) (v := ?_) (a' := ?_) #[Y,Y,Y,Y,Y,Y,Y,Y,Y,Z,Z,Z,Z] rfl rfl (take_ofW HT_.out HW_.out (by kernel_rfl)) (fun _ _ _ h => h) (Or.inl ⟨by rfl, ?_⟩) hHeld ?_ ?_
  rotate_left
  · rintro w' ⟨s0, s1, s2, s3, s4, s5, s6, s7, s8, s9, s10⟩
    go_simp
    with_reducible rfl
  rotate_left
  · simp only [Act.put, pA, pB, pC, i64_w, i32_w]
    rfl
  refine pure_ (i := 9) (N := some 44) (v := ?_) (a' := ?_) #[Y,Y,Y,Y,Y,Y,Y,Y,Y,Y,Z,Z,Z] rfl rfl (any_of HT_.out (by kernel_rfl)) (fun _ _ _ h => h) (Or.inl ⟨by rfl, ?_⟩) ?_ ?_
  rotate_left
  · intro w'
    go_simp
    with_reducible rfl
  rotate_left
  · simp only [Act.put, pA, pB, pC, i64_w, i32_w]
    rfl
  refine take_ (i := 10) (N := some 45) (v := ?_) (a' := ?_) #[Y,Y,Y,Y,Y,Y,Y,Y,Y,Y,Y,Z,Z] rfl rfl (take_ofW HT_.out HW_.out (by kernel_rfl)) (fun _ _ _ h => h) (Or.inl ⟨by rfl, ?_⟩) hHeld ?_ ?_
  rotate_left
  · rintro w' ⟨s0, s1, s2, s3, s4, s5, s6, s7, s8, s9, s10⟩
    go_simp
    with_reducible rfl
  rotate_left
  · simp only [Act.put, pA, pB, pC, i64_w, i32_w]
    rfl
  refine one_ (i := 11) (N := some 8) #[Y,Y,Y,Y,Y,Y,Y,Y,Y,Y,Y,Y,Z] rfl rfl (one_of HT_.out (by kernel_rfl)) (by decide) (fun K hK => ?_)
  refine box_step ?hg (N := 8) ?hd (cs := #[.int .i64 0, .int .i64 0, .int .i64 0, .int .i64 0, .int .i64 0, .int .i64 0, .bool false, .bool false, .slice none 0 0]) (t := 53) ?hr ?_; (case hd => rfl); (case hg => rfl); (case hr => first | (go_simp; done) | (go_simp; rfl))
  intro g8 hg__ wn2_ hbox_ hq_
  have hg_ := Aside0.mk hg__
  clear hg__
  refine hK.out _ _ (by obtain ⟨s0, s1, s2, s3, s4, s5, s6, s7, s8, s9, s10⟩ := hHeld; exact ⟨(cell_below s0 hq_), (cell_below s1 hq_), (cell_below s2 hq_), (cell_below s3 hq_), (cell_below s4 hq_), (cell_below s5 hq_), (cell_below s6 hq_), (cell_below s7 hq_), (cell_below s8 hq_), (cell_below s9 hq_), (cell_below s10 hq_)⟩) (fun hHeld => ?_)
  clear hK K
  refine norm_ (a' := ?_) ?_ ?_
  rotate_left
  · show Act.put _ (some 8) _ = _
    simp only [Act.put, pA, pB, pC, i64_w, i32_w]
    rfl
  have z0_ := blk_celln hbox_ 0 _ rfl; have z1_ := blk_celln hbox_ 1 _ rfl; have z2_ := blk_celln hbox_ 2 _ rfl; have z3_ := blk_celln hbox_ 3 _ rfl; have z4_ := blk_celln hbox_ 4 _ rfl; have z5_ := blk_celln hbox_ 5 _ rfl; have z6_ := blk_celln hbox_ 6 _ rfl; have z7_ := blk_celln hbox_ 7 _ rfl; have z8_ := blk_celln hbox_ 8 _ rfl; have f0_ := blk_frozen hbox_ 0; have f1_ := blk_frozen hbox_ 1; have f2_ := blk_frozen hbox_ 2; have f3_ := blk_frozen hbox_ 3; have f4_ := blk_frozen hbox_ 4; have f5_ := blk_frozen hbox_ 5; have f6_ := blk_frozen hbox_ 6; have f7_ := blk_frozen hbox_ 7; have f8_ := blk_frozen hbox_ 8
  refine last_ (i := 12) (N := none) #[Y,Y,Y,Y,Y,Y,Y,Y,Y,Y,Y,Y,Y] rfl rfl (one_of HT_.out (by kernel_rfl)) (by decide) (fun K hK => ?_)
  refine skip_ (w1 := ?_) (by rfl) rfl ?_ ?_
  rotate_left
  · go_simp
    rfl
  refine hK.out _ _ ?_
  clear hK K
  refine done_ (done_of HT_.out (by kernel_rfl)) ?_
  obtain ⟨F1_, F2_⟩ := fill53 hbox_ (.int .i64 0) (.int .i64 1) (.int .i64 2) (.int .i64 0) (.int .i64 4) (.int .i64 0) (.bool false) (.bool true) (.slice (some ar2) 1 b2) _ rfl
  replace hq_ := hq_.trans (F2_ wn2a.heap.size (Nat.le_of_eq hg_.out.symm))
  clear hHeld hg_ hbox_ z0_ f0_ z1_ f1_ z2_ f2_ z3_ f3_ z4_ f4_ z5_ f5_ z6_ f6_ z7_ f7_ z8_ f8_
  generalize ((((((((wn2_.setCell ⟨g8, 0, none⟩ (.int .i64 0)).setCell ⟨g8, 1, none⟩ (.int .i64 1)).setCell ⟨g8, 2, none⟩ (.int .i64 2)).setCell ⟨g8, 3, none⟩ (.int .i64 0)).setCell ⟨g8, 4, none⟩ (.int .i64 4)).setCell ⟨g8, 5, none⟩ (.int .i64 0)).setCell ⟨g8, 6, none⟩ (.bool false)).setCell ⟨g8, 7, none⟩ (.bool true)).setCell ⟨g8, 8, none⟩ (.slice (some ar2) 1 b2) = wn2 at F1_ F2_ hq_ ⊢
  have H8 := Aside0.mk F1_
  replace HG := Aside0.mk (blk_below HG.out hq_)
  replace HK := Aside0.mk (HK.out.trans (KeepBut.of_below hq_ gk none) (.inl rfl))
  replace H5 := Aside0.mk (blk_below H5.out hq_)
  replace HB := Aside0.mk (below_step HB.out hq_)
  clear F1_ F2_ hq_
  have hz4 := blk_celln (HG.out) 4 _ rfl
  have h53 := blk_celln (H5.out) 3 _ rfl; have h54 := blk_celln (H5.out) 4 _ rfl
  have h82 := blk_celln (H8.out) 2 _ rfl; have h83 := blk_celln (H8.out) 3 _ rfl; have h84 := blk_celln (H8.out) 4 _ rfl; have h85 := blk_celln (H8.out) 5 _ rfl; have h86 := blk_celln (H8.out) 6 _ rfl
  go_wp2_with (fail)
  refine (beneath_2 w0 _ gk A1 c1 c2 c3 b o B0 b0 B1 b1 ar2 b2 ar3 b3 adR AG cG hR 2 hge HN.out HB.out HG.out).mono ?_
  rintro e wl2 ⟨rfl, q1, q2, q3⟩
  clear hz4 h53 h54 h82 h83 h84 h85 h86
  replace H5 := Aside0.mk (q3.blk H5.out (blk_ne H5.out HG.out (by decide)) nofun)
  replace H8 := Aside0.mk (q3.blk H8.out (blk_ne H8.out HG.out (by decide)) nofun)
  replace HK := Aside0.mk (HK.out.trans q3 (.inl rfl))
  replace HG := Aside0.mk q1
  replace HB := Aside0.mk q2
  clear q1 q2 q3
  have hz3 := blk_celln (HG.out) 3 _ rfl
  have m28 := cell_below HN.out.n28 HB.out
  go_wp2
  clear hz3 H8 m28
  rw [rounds_succ]
  go_wp2_with (fail)
  refine (comes_3_1 w0 _ gk A1 (some adR) c1 c2 c3 b o B0 b0 B1 b1 ar2 b2 ar3 b3 HN.out HB.out HG.out).mono ?_
  rintro e wx ⟨rfl, n3, rfl⟩
  replace HG := Aside0.mk (blk_drewN HG.out n3)
  replace HB := Aside0.mk (pw_below_drewN HB.out n3)
  replace HK := Aside0.mk (keep_drewN HK.out n3)
  replace H5 := Aside0.mk (blk_drewN H5.out n3)
  generalize World.drewN _ n3 = wc3 at HG HB HK H5 ⊢
  go_upto_region 8 with (fail)
  replace HG := Aside0.mk (blk_drew HG.out)
  replace HB := Aside0.mk (below_drew HB.out)
  replace HK := Aside0.mk (keep_drew HK.out)
  replace H5 := Aside0.mk (blk_drew H5.out)
  refine start_ (n := 13) (S := fun w' => w'.cell? ⟨gk, 4, none⟩ = some (.int .i64 3) ∧ w'.cell? ⟨gk, 3, none⟩ = some (.slice (some ⟨b, o, none⟩) 4 c3) ∧ w'.cell? ⟨b, o + 27, none⟩ = some (.int .i64 0) ∧ w'.cell? ⟨b, o + 28, none⟩ = some (.int .i64 1) ∧ w'.cell? ⟨b, o + 29, none⟩ = some (.int .i64 2) ∧ w'.cell? ⟨b, o + 30, none⟩ = some (.int .i64 0) ∧ w'.cell? ⟨b, o + 31, none⟩ = some (.int .i64 4) ∧ w'.cell? ⟨b, o + 32, none⟩ = some (.int .i64 1) ∧ w'.cell? ⟨b, o + 33, none⟩ = some (.bool false) ∧ w'.cell? ⟨b, o + 34, none⟩ = some (.bool true) ∧ w'.cell? ⟨b, o + 35, none⟩ = some (.slice (some ar3) 1 b3)) (ds := [12]) #[Z,Z,Z,Z,Z,Z,Z,Z,Z,Z,Z,Z,Z] (by kernel_rfl) rfl rfl ⟨(blk_celln HG.out 4 _ rfl), (blk_celln HG.out 3 _ rfl), (cell_below HN.out.n27 HB.out), (cell_below HN.out.n28 HB.out), (cell_below HN.out.n29 HB.out), (cell_below HN.out.n30 HB.out), (cell_below HN.out.n31 HB.out), (cell_below HN.out.n32 HB.out), (cell_below HN.out.n33 HB.out), (cell_below HN.out.n34 HB.out), (cell_below HN.out.n35 HB.out)⟩ (fun hHeld => ?_)
  refine with_tabW side.tab8 side.bits8 (fun HT_ HW_ => ?_)
  generalize World.drew _ = wn3a at HG HB HK H5 hHeld ⊢
  refine pure_ (i := 0) (N := some 35) (v := ?_) (a' := ?_) #[Y,Z,Z,Z,Z,Z,Z,Z,Z,Z,Z,Z,Z] rfl rfl (any_of HT_.out (by kernel_rfl)) (fun _ _ _ h => h) (Or.inl ⟨by rfl, ?_⟩) ?_ ?_
  rotate_left
  · intro w'
    go_simp
    with_reducible rfl
  rotate_left
  · simp only [Act.put, pA, pB, pC, i64_w, i32_w]
    rfl
  refine pure_ (i := 1) (N := some 36) (v := ?_) (a' := ?_) #[Y,Y,Z,Z,Z,Z,Z,Z,Z,Z,Z,Z,Z] rfl rfl (any_of HT_.out (by kernel_rfl)) (fun _ _ _ h => h) (Or.inl ⟨by rfl, ?_⟩) ?_ ?_
  rotate_left
  · intro w'
    go_simp
    with_reducible rfl
  rotate_left
  · simp only [Act.put, pA, pB, pC, i64_w, i32_w]
    rfl
  refine pure_ (i := 2) (N := some 37) (v := ?_) (a' := ?_) #[Y,Y,Y,Z,Z,Z,Z,Z,Z,Z,Z,Z,Z] rfl rfl (any_of HT_.out (by kernel_rfl)) (fun _ _ _ h => h) (Or.inl ⟨by rfl, ?_⟩) ?_ ?_
  rotate_left
  · intro w'
    go_simp
    with_reducible rfl
  rotate_left
  · simp only [Act.put, pA, pB, pC, i64_w, i32_w]
    rfl
  refine pure_ (i := 3) (N := some 38) (v := ?_) (a' := ?_) #[Y,Y,Y,Y,Z,Z,Z,Z,Z,Z,Z,Z,Z] rfl rfl (any_of HT_.out (by kernel_rfl)) (fun _ _ _ h => h) (Or.inl ⟨by rfl, ?_⟩) ?_ ?_
  rotate_left
  · intro w'
    go_simp
    with_reducible rfl
  rotate_left
  · simp only [Act.put, pA, pB, pC, i64_w, i32_w]
    rfl
  refine take_ (i := 4) (N := some 39) (v := ?_) (a' := ?_) #[Y,Y,Y,Y,Y,Z,Z,Z,Z,Z,Z,Z,Z] rfl rfl (take_ofW HT_.out HW_.out (by kernel_rfl)) (fun _ _ _ h => h) (Or.inl ⟨by rfl, ?_⟩) hHeld ?_ ?_
  rotate_left
  · rintro w' ⟨s0, s1, s2, s3, s4, s5, s6, s7, s8, s9, s10⟩
    go_simp
    with_reducible rfl
  rotate_left
  · simp only [Act.put, pA, pB, pC, i64_w, i32_w]
    rfl
  refine pure_ (i := 5) (N := some 40) (v := ?_) (a' := ?_) #[Y,Y,Y,Y,Y,Y,Z,Z,Z,Z,Z,Z,Z] rfl rfl (any_of HT_.out (by kernel_rfl)) (fun _ _ _ h => h) (Or.inl ⟨by rfl, ?_⟩) ?_ ?_
  rotate_left
  · intro w'
    go_simp
    with_reducible rfl
  rotate_left
  · simp only [Act.put, pA, pB, pC, i64_w, i32_w]
    rfl
  refine pure_ (i := 6) (N := some 41) (v := ?_) (a' := ?_) #[Y,Y,Y,Y,Y,Y,Y,Z,Z,Z,Z,Z,Z] rfl rfl (any_of HT_.out (by kernel_rfl)) (fun _ _ _ h => h) (Or.inl ⟨by rfl, ?_⟩) ?_ ?_
  rotate_left
  · intro w'
    go_simp
    with_reducible rfl
  rotate_left
  · simp only [Act.put, pA, pB, pC, i64_w, i32_w]
    rfl
  refine pure_ (i := 7) (N := some 42) (v := ?_) (a' := ?_) #[Y,Y,Y,Y,Y,Y,Y,Y,Z,Z,Z,Z,Z] rfl rfl (any_of HT_.out (by kernel_rfl)) (fun _ _ _ h => h) (Or.inl ⟨by rfl, ?_⟩) ?_ ?_
  rotate_left
  · intro w'
    go_simp
    with_reducible rfl
  rotate_left
  · simp only [Act.put, pA, pB, pC, i64_w, i32_w]
    rfl
  refine take_ (i := 8) (N := some 43) (v := ?_) (a' := ?_) #[Y,Y,Y,Y,Y,Y,Y,Y,Y,Z,Z,Z,Z] rfl rfl (take_ofW HT_.out HW_.out (by kernel_rfl)) (fun _ _ _ h => h) (Or.inl ⟨by rfl, ?_⟩) hHeld ?_ ?_
  rotate_left
  · rintro w' ⟨s0, s1, s2, s3, s4, s5, s6, s7, s8, s9, s10⟩
    go_simp
    with_reducible rfl
  rotate_left
  · simp only [Act.put, pA, pB, pC, i64_w, i32_w]
    rfl
  refine pure_ (i := 9) (N := some 44) (v := ?_) (a' := ?_) #[Y,Y,Y,Y,Y,Y,Y,Y,Y,Y,Z,Z,Z] rfl rfl (any_of HT_.out (by kernel_rfl)) (fun _ _ _ h => h) (Or.inl ⟨by rfl, ?_⟩) ?_ ?_
  rotate_left
  · intro w'
    go_simp
    with_reducible rfl
  rotate_left
  · simp only [Act.put, pA, pB, pC, i64_w, i32_w]
    rfl
  refine take_ (i := 10) (N := some 45) (v := ?_) (a' := ?_) #[Y,Y,Y,Y,Y,Y,Y,Y,Y,Y,Y,Z,Z] rfl rfl (take_ofW HT_.out HW_.out (by kernel_rfl)) (fun _ _ _ h => h) (Or.inl ⟨by rfl, ?_⟩) hHeld ?_ ?_
  rotate_left
  · rintro w' ⟨s0, s1, s2, s3, s4, s5, s6, s7, s8, s9, s10⟩
    go_simp
    with_reducible rfl
  rotate_left
  · simp only [Act.put, pA, pB, pC, i64_w, i32_w]
    rfl
  refine one_ (i := 11) (N := some 8) #[Y,Y,Y,Y,Y,Y,Y,Y,Y,Y,Y,Y,Z] rfl rfl (one_of HT_.out (by kernel_rfl)) (by decide) (fun K hK => ?_)
  refine box_step ?hg (N := 8) ?hd (cs := #[.int .i64 0, .int .i64 0, .int .i64 0, .int .i64 0, .int .i64 0, .int .i64 0, .bool false, .bool false, .slice none 0 0]) (t := 53) ?hr ?_; (case hd => rfl); (case hg => rfl); (case hr => first | (go_simp; done) | (go_simp; rfl))
  intro g8 hg__ wn3_ hbox_ hq_
  have hg_ := Aside0.mk hg__
  clear hg__
  refine hK.out _ _ (by obtain ⟨s0, s1, s2, s3, s4, s5, s6, s7, s8, s9, s10⟩ := hHeld; exact ⟨(cell_below s0 hq_), (cell_below s1 hq_), (cell_below s2 hq_), (cell_below s3 hq_), (cell_below s4 hq_), (cell_below s5 hq_), (cell_below s6 hq_), (cell_below s7 hq_), (cell_below s8 hq_), (cell_below s9 hq_), (cell_below s10 hq_)⟩) (fun hHeld => ?_)
  clear hK K
  refine norm_ (a' := ?_) ?_ ?_
  rotate_left
  · show Act.put _ (some 8) _ = _
    simp only [Act.put, pA, pB, pC, i64_w, i32_w]
    rfl
  have z0_ := blk_celln hbox_ 0 _ rfl; have z1_ := blk_celln hbox_ 1 _ rfl; have z2_ := blk_celln hbox_ 2 _ rfl; have z3_ := blk_celln hbox_ 3 _ rfl; have z4_ := blk_celln hbox_ 4 _ rfl; have z5_ := blk_celln hbox_ 5 _ rfl; have z6_ := blk_celln hbox_ 6 _ rfl; have z7_ := blk_celln hbox_ 7 _ rfl; have z8_ := blk_celln hbox_ 8 _ rfl; have f0_ := blk_frozen hbox_ 0; have f1_ := blk_frozen hbox_ 1; have f2_ := blk_frozen hbox_ 2; have f3_ := blk_frozen hbox_ 3; have f4_ := blk_frozen hbox_ 4; have f5_ := blk_frozen hbox_ 5; have f6_ := blk_frozen hbox_ 6; have f7_ := blk_frozen hbox_ 7; have f8_ := blk_frozen hbox_ 8
  refine last_ (i := 12) (N := none) #[Y,Y,Y,Y,Y,Y,Y,Y,Y,Y,Y,Y,Y] rfl rfl (one_of HT_.out (by kernel_rfl)) (by decide) (fun K hK => ?_)
  refine skip_ (w1 := ?_) (by rfl) rfl ?_ ?_
  rotate_left
  · go_simp
    rfl
  refine hK.out _ _ ?_
  clear hK K
  refine done_ (done_of HT_.out (by kernel_rfl)) ?_
  obtain ⟨F1_, F2_⟩ := fill53 hbox_ (.int .i64 0) (.int .i64 1) (.int .i64 2) (.int .i64 0) (.int .i64 4) (.int .i64 1) (.bool false) (.bool true) (.slice (some ar3) 1 b3) _ rfl
  replace hq_ := hq_.trans (F2_ wn3a.heap.size (Nat.le_of_eq hg_.out.symm))
  clear hHeld hg_ hbox_ z0_ f0_ z1_ f1_ z2_ f2_ z3_ f3_ z4_ f4_ z5_ f5_ z6_ f6_ z7_ f7_ z8_ f8_
  generalize ((((((((wn3_.setCell ⟨g8, 0, none⟩ (.int .i64 0)).setCell ⟨g8, 1, none⟩ (.int .i64 1)).setCell ⟨g8, 2, none⟩ (.int .i64 2)).setCell ⟨g8, 3, none⟩ (.int .i64 0)).setCell ⟨g8, 4, none⟩ (.int .i64 4)).setCell ⟨g8, 5, none⟩ (.int .i64 1)).setCell ⟨g8, 6, none⟩ (.bool false)).setCell ⟨g8, 7, none⟩ (.bool true)).setCell ⟨g8, 8, none⟩ (.slice (some ar3) 1 b3) = wn3 at F1_ F2_ hq_ ⊢
  have H8 := Aside0.mk F1_
  replace HG := Aside0.mk (blk_below HG.out hq_)
  replace HK := Aside0.mk (HK.out.trans (KeepBut.of_below hq_ gk none) (.inl rfl))
  replace H5 := Aside0.mk (blk_below H5.out hq_)
  replace HB := Aside0.mk (below_step HB.out hq_)
  clear F1_ F2_ hq_
  have hz4 := blk_celln (HG.out) 4 _ rfl
  have h53 := blk_celln (H5.out) 3 _ rfl; have h54 := blk_celln (H5.out) 4 _ rfl
  have h82 := blk_celln (H8.out) 2 _ rfl; have h83 := blk_celln (H8.out) 3 _ rfl; have h84 := blk_celln (H8.out) 4 _ rfl; have h85 := blk_celln (H8.out) 5 _ rfl; have h86 := blk_celln (H8.out) 6 _ rfl
  go_wp2_with (fail)
  refine (beneath_3 w0 _ gk A1 c1 c2 c3 b o B0 b0 B1 b1 ar2 b2 ar3 b3 adR AG cG hR 3 hge HN.out HB.out HG.out).mono ?_
  rintro e wl3 ⟨rfl, q1, q2, q3⟩
  clear hz4 h53 h54 h82 h83 h84 h85 h86
  replace H5 := Aside0.mk (q3.blk H5.out (blk_ne H5.out HG.out (by decide)) nofun)
  replace H8 := Aside0.mk (q3.blk H8.out (blk_ne H8.out HG.out (by decide)) nofun)
  replace HK := Aside0.mk (HK.out.trans q3 (.inl rfl))
  replace HG := Aside0.mk q1
  replace HB := Aside0.mk q2
  clear q1 q2 q3
  have hz3 := blk_celln (HG.out) 3 _ rfl
  go_wp2
  clear hz3 H8
  rw [rounds_succ]
  have h53 := blk_celln (H5.out) 3 _ rfl; have h54 := blk_celln (H5.out) 4 _ rfl
  go_wp2_with (fail)
  refine (loc_c _ gk A1 c1 (blk_celln HG.out 1 _ rfl)).mono ?_
  rintro e wz ⟨rfl, ez⟩
  rw [← ez] at HG HB HK
  clear ez h53 h54 H5
  go_wp2
  go_ret
  exact ⟨rfl, HG.out, HB.out, HK.out⟩
end Go.Proofs.YtlpdcdkjmcpfdaaDoor.PT
