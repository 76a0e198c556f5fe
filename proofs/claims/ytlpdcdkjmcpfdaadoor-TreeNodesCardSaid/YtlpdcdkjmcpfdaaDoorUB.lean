/- The thread's ends, and the tree made, at the program that begun makes: walked by hand. -/
import Derived.Test.YtlpdcdkjmcpfdaaDoorUA
namespace Go.Proofs.YtlpdcdkjmcpfdaaDoor.PT
open Go.RowKit Go.Proofs.YtlpdcdkjmcpfdaaDoorW.PrintWords Go.Proofs.YtlpdcdkjmcpfdaaDoorW.PrintLast Go.Proofs.YtlpdcdkjmcpfdaaDoorW.PrintMore
set_option linter.unusedVariables false
set_option linter.unusedSimpArgs false
attribute [local go_sem] cell_set_some
theorem fill28 {w : World} {g : Nat} {e0 e1 e2 e3 : Value} (h : w.heap[g]? = some (.cells #[e0, e1, e2, e3] 28 (0, 0))) (v0 v1 v2 v3 : Value) (W : World) (hW : W = (((w.setCell ⟨g, 0, none⟩ v0).setCell ⟨g, 1, none⟩ v1).setCell ⟨g, 2, none⟩ v2).setCell ⟨g, 3, none⟩ v3) :
    W.heap[g]? = some (.cells #[v0, v1, v2, v3] 28 (0, 0)) ∧ (∀ B, B ≤ g → Below B w W) ∧ ∀ (g2 : Nat) (x : Obj), w.heap[g2]? = some x → g2 ≠ g → W.heap[g2]? = some x := by
  subst hW
  have b0 := blk_put (cs' := #[v0, e1, e2, e3]) h 0 v0 (by simp)
  have b1 := blk_put (cs' := #[v0, v1, e2, e3]) b0 1 v1 (by simp)
  have b2 := blk_put (cs' := #[v0, v1, v2, e3]) b1 2 v2 (by simp)
  have b3 := blk_put (cs' := #[v0, v1, v2, v3]) b2 3 v3 (by simp)
  exact ⟨b3, fun B hB => ((((Below.refl B w).setCell hB _).setCell hB _).setCell hB _).setCell hB _, fun g2 x hx hne => far1 (far1 (far1 (far1 hx hne) hne) hne) hne⟩
/-- The tree's three rows, of the call's own, once the result's block is filled. -/
theorem res28 {w : World} {base g : Nat} {e0 e1 e2 e3 u1 u2 u3 : Value} {ok : Nat → Prop} (h : w.heap[g]? = some (.cells #[e0, e1, e2, e3] 28 (0, 0))) (h1 : Kd.R Kd.string 9 w base (fun _ => True) u1 [⟨#[120]⟩]) (h2 : Kd.S (Kd.slice 9 Kd.string) 24 w base ok u2 [[⟨#[114]⟩]]) (h3 : Kd.S k53 53 w base (fun _ => True) u3 nodes0) (v0 v1 v2 v3 : Value) (W : World) (hW : W = (((w.setCell ⟨g, 0, none⟩ v0).setCell ⟨g, 1, none⟩ v1).setCell ⟨g, 2, none⟩ v2).setCell ⟨g, 3, none⟩ v3) :
    Kd.R Kd.string 9 W base (fun _ => True) u1 [⟨#[120]⟩] ∧ Kd.S (Kd.slice 9 Kd.string) 24 W base ok u2 [[⟨#[114]⟩]] ∧ Kd.S k53 53 W base (fun _ => True) u3 nodes0 := by
  subst hW
  have b0 := blk_put (cs' := #[v0, e1, e2, e3]) h 0 v0 (by simp)
  have b1 := blk_put (cs' := #[v0, v1, e2, e3]) b0 1 v1 (by simp)
  have b2 := blk_put (cs' := #[v0, v1, v2, e3]) b1 2 v2 (by simp)
  exact ⟨Kd.R_set (Kd.R_set (Kd.R_set (Kd.R_set h1 h (by decide) 0 _) b0 (by decide) 1 _) b1 (by decide) 2 _) b2 (by decide) 3 _,
    Kd.S_set (Kd.S_set (Kd.S_set (Kd.S_set h2 h (by decide) 0 _) b0 (by decide) 1 _) b1 (by decide) 2 _) b2 (by decide) 3 _,
    Kd.S_set (Kd.S_set (Kd.S_set (Kd.S_set h3 h (by decide) 0 _) b0 (by decide) 1 _) b1 (by decide) 2 _) b2 (by decide) 3 _⟩
def ends1.T1 : Bool × List (List Nat × List Nat) := (true, [([], []), ([0], [0]), ([], []), ([1, 2], [1, 2]), ([3], [3]), ([4], [4]), ([], []), ([5, 6], [5, 6]), ([7], [7]), ([8], [8]), ([9, 8], [8, 9]), ([8], [8]), ([10, 11, 8], [8, 10, 11]), ([12, 8], [8, 12]), ([13, 8], [8, 13]), ([8, 14], [8, 14]), ([15, 8, 0, 1, 2, 3, 4, 5, 6, 7, 8, 9, 10, 11, 12, 13, 14, 15], [15])])
def ends1.B1 : List Nat := [0, 1, 0, 7, 15, 31, 0, 127, 255, 511, 1023, 511, 4095, 8191, 16383, 32767, 65535]
theorem ends1.tab1 : rtab .any (opsOf Tryd.f48 1) = ends1.T1 := by kernel_rfl
theorem ends1.bits1 : waitsOk ends1.T1.2 ends1.B1 = true := by kernel_rfl
set_option maxHeartbeats 8000000 in
set_option maxRecDepth 100000 in
theorem ends1_0 (w : World) (g1 gt : Nat) (A1 A2 : Option Addr) (c1 c2 c3 : Nat) (b o : Nat) (B0 : Option Addr) (b0 : Nat) (B1 : Option Addr) (b1 : Nat) (ar2 : Addr) (b2 : Nat) (ar3 : Addr) (b3 : Nat) (hn : NC w b o B0 b0 B1 b1 ar2 b2 ar3 b3) (hx : w.heap[g1]? = some (.cells #[.int .i64 2, .slice A1 1 c1, .slice A2 1 c2, .slice (some ⟨b, o, none⟩) 4 c3] 28 (0, 0))) (ht : w.heap[gt]? = some (.cells #[.int .i64 0] 3 (0, 0))) : Calls Tryd.prog 48 #[.int .i64 0, .pointer (some ⟨g1, 0, none⟩), .pointer (some ⟨gt, 0, none⟩)] w fun e w' => e = .returned (.bool false) ∧ Drawn0 w w' := by
  have hu28 := Tryd.underlying28
  have hu53 := Tryd.underlying53
  have HX := Aside0.mk hx
  have HY := Aside0.mk ht
  have HN := Aside0.mk hn
  have HB := Aside0.mk (Below.refl w.heap.size w)
  clear hx ht hn
  go_enter Tryd.func48, Tryd.ntmps48
  go_upto_region 1 with (fail)
  replace HX := Aside0.mk (blk_drew HX.out)
  replace HY := Aside0.mk (blk_drew HY.out)
  replace HB := Aside0.mk (below_drew HB.out)
  refine start_ (n := 17) (S := fun w' => w'.cell? ⟨g1, 3, none⟩ = some (.slice (some ⟨b, o, none⟩) 4 c3) ∧ w'.cell? ⟨gt, 0, none⟩ = some (.int .i64 0) ∧ w'.cell? ⟨b, o, none⟩ = some (.int .i64 (-1))) (ds := []) #[Z,Z,Z,Z,Z,Z,Z,Z,Z,Z,Z,Z,Z,Z,Z,Z,Z] (by kernel_rfl) rfl rfl ⟨(blk_celln HX.out 3 _ rfl), (blk_celln HY.out 0 _ rfl), (cell_below HN.out.n0 HB.out)⟩ (fun hHeld => ?_)
  refine with_tabW ends1.tab1 ends1.bits1 (fun HT_ HW_ => ?_)
  refine pure_ (i := 0) (N := some 5) (v := ?_) (a' := ?_) #[Y,Z,Z,Z,Z,Z,Z,Z,Z,Z,Z,Z,Z,Z,Z,Z,Z] rfl rfl (any_of HT_.out (by kernel_rfl)) (fun _ _ _ h => h) (Or.inl ⟨by rfl, ?_⟩) ?_ ?_
  rotate_left
  · intro w'
    go_simp
    with_reducible rfl
  rotate_left
  · simp only [Act.put, pA, pB, pC, i64_w, i32_w]
    rfl
  refine take_ (i := 1) (N := some 6) (v := ?_) (a' := ?_) #[Y,Y,Z,Z,Z,Z,Z,Z,Z,Z,Z,Z,Z,Z,Z,Z,Z] rfl rfl (take_ofW HT_.out HW_.out (by kernel_rfl)) (fun _ _ _ h => h) (Or.inl ⟨by rfl, ?_⟩) hHeld ?_ ?_
  rotate_left
  · rintro w' ⟨s0, s1, s2⟩
    go_simp
    with_reducible rfl
  rotate_left
  · simp only [Act.put, pA, pB, pC, i64_w, i32_w]
    rfl
  refine pure_ (i := 2) (N := some 7) (v := ?_) (a' := ?_) #[Y,Y,Y,Z,Z,Z,Z,Z,Z,Z,Z,Z,Z,Z,Z,Z,Z] rfl rfl (any_of HT_.out (by kernel_rfl)) (fun _ _ _ h => h) (Or.inl ⟨by rfl, ?_⟩) ?_ ?_
  rotate_left
  · intro w'
    go_simp
    with_reducible rfl
  rotate_left
  · simp only [Act.put, pA, pB, pC, i64_w, i32_w]
    rfl
  refine pure_ (i := 3) (N := some 8) (v := ?_) (a' := ?_) #[Y,Y,Y,Y,Z,Z,Z,Z,Z,Z,Z,Z,Z,Z,Z,Z,Z] rfl rfl (any_of HT_.out (by kernel_rfl)) (fun _ _ _ h => h) (Or.inl ⟨by rfl, ?_⟩) ?_ ?_
  rotate_left
  · intro w'
    go_simp
    with_reducible rfl
  rotate_left
  · simp only [Act.put, pA, pB, pC, i64_w, i32_w]
    rfl
  refine pure_ (i := 4) (N := some 9) (v := ?_) (a' := ?_) #[Y,Y,Y,Y,Y,Z,Z,Z,Z,Z,Z,Z,Z,Z,Z,Z,Z] rfl rfl (any_of HT_.out (by kernel_rfl)) (fun _ _ _ h => h) (Or.inl ⟨by rfl, ?_⟩) ?_ ?_
  rotate_left
  · intro w'
    go_simp
    with_reducible rfl
  rotate_left
  · simp only [Act.put, pA, pB, pC, i64_w, i32_w]
    rfl
  refine take_ (i := 5) (N := some 10) (v := ?_) (a' := ?_) #[Y,Y,Y,Y,Y,Y,Z,Z,Z,Z,Z,Z,Z,Z,Z,Z,Z] rfl rfl (take_ofW HT_.out HW_.out (by kernel_rfl)) (fun _ _ _ h => h) (Or.inl ⟨by rfl, ?_⟩) hHeld ?_ ?_
  rotate_left
  · rintro w' ⟨s0, s1, s2⟩
    go_simp
    with_reducible rfl
  rotate_left
  · simp only [Act.put, pA, pB, pC, i64_w, i32_w]
    rfl
  refine take_ (i := 6) (N := some 11) (v := ?_) (a' := ?_) #[Y,Y,Y,Y,Y,Y,Y,Z,Z,Z,Z,Z,Z,Z,Z,Z,Z] rfl rfl (take_ofW HT_.out HW_.out (by kernel_rfl)) (fun _ _ _ h => h) (Or.inl ⟨by rfl, ?_⟩) hHeld ?_ ?_
  rotate_left
  · rintro w' ⟨s0, s1, s2⟩
    go_simp
    with_reducible rfl
  rotate_left
  · simp only [Act.put, pA, pB, pC, i64_w, i32_w]
    rfl
  refine pure_ (i := 7) (N := some 12) (v := ?_) (a' := ?_) #[Y,Y,Y,Y,Y,Y,Y,Y,Z,Z,Z,Z,Z,Z,Z,Z,Z] rfl rfl (any_of HT_.out (by kernel_rfl)) (fun _ _ _ h => h) (Or.inl ⟨by rfl, ?_⟩) ?_ ?_
  rotate_left
  · intro w'
    go_simp
    with_reducible rfl
  rotate_left
  · simp only [Act.put, pA, pB, pC, i64_w, i32_w]
    rfl
  refine pure_ (i := 8) (N := some 13) (v := ?_) (a' := ?_) #[Y,Y,Y,Y,Y,Y,Y,Y,Y,Z,Z,Z,Z,Z,Z,Z,Z] rfl rfl (any_of HT_.out (by kernel_rfl)) (fun _ _ _ h => h) (Or.inl ⟨by rfl, ?_⟩) ?_ ?_
  rotate_left
  · intro w'
    go_simp
    with_reducible rfl
  rotate_left
  · simp only [Act.put, pA, pB, pC, i64_w, i32_w]
    rfl
  refine pure_ (i := 9) (N := some 14) (v := undef) (a' := ?_) #[Y,Y,Y,Y,Y,Y,Y,Y,Y,Y,Z,Z,Z,Z,Z,Z,Z] rfl rfl (any_of HT_.out (by kernel_rfl)) (fun _ _ _ h => h) (Or.inr ⟨by rfl, rfl⟩) ?_ ?_
  rotate_left
  · simp only [Act.put, pA, pB, pC, i64_w, i32_w]
    rfl
  refine pure_ (i := 10) (N := some 15) (v := undef) (a' := ?_) #[Y,Y,Y,Y,Y,Y,Y,Y,Y,Y,Y,Z,Z,Z,Z,Z,Z] rfl rfl (any_of HT_.out (by kernel_rfl)) (fun _ _ _ h => h) (Or.inr ⟨by rfl, rfl⟩) ?_ ?_
  rotate_left
  · simp only [Act.put, pA, pB, pC, i64_w, i32_w]
    rfl
  refine pure_ (i := 11) (N := some 16) (v := undef) (a' := ?_) #[Y,Y,Y,Y,Y,Y,Y,Y,Y,Y,Y,Y,Z,Z,Z,Z,Z] rfl rfl (any_of HT_.out (by kernel_rfl)) (fun _ _ _ h => h) (Or.inr ⟨by rfl, rfl⟩) ?_ ?_
  rotate_left
  · simp only [Act.put, pA, pB, pC, i64_w, i32_w]
    rfl
  refine pure_ (i := 12) (N := some 17) (v := undef) (a' := ?_) #[Y,Y,Y,Y,Y,Y,Y,Y,Y,Y,Y,Y,Y,Z,Z,Z,Z] rfl rfl (any_of HT_.out (by kernel_rfl)) (fun _ _ _ h => h) (Or.inr ⟨by rfl, rfl⟩) ?_ ?_
  rotate_left
  · simp only [Act.put, pA, pB, pC, i64_w, i32_w]
    rfl
  refine pure_ (i := 13) (N := some 18) (v := undef) (a' := ?_) #[Y,Y,Y,Y,Y,Y,Y,Y,Y,Y,Y,Y,Y,Y,Z,Z,Z] rfl rfl (any_of HT_.out (by kernel_rfl)) (fun _ _ _ h => h) (Or.inr ⟨by rfl, rfl⟩) ?_ ?_
  rotate_left
  · simp only [Act.put, pA, pB, pC, i64_w, i32_w]
    rfl
  refine pure_ (i := 14) (N := some 19) (v := undef) (a' := ?_) #[Y,Y,Y,Y,Y,Y,Y,Y,Y,Y,Y,Y,Y,Y,Y,Z,Z] rfl rfl (any_of HT_.out (by kernel_rfl)) (fun _ _ _ h => h) (Or.inr ⟨by rfl, rfl⟩) ?_ ?_
  rotate_left
  · simp only [Act.put, pA, pB, pC, i64_w, i32_w]
    rfl
  refine pure_ (i := 15) (N := some 20) (v := ?_) (a' := ?_) #[Y,Y,Y,Y,Y,Y,Y,Y,Y,Y,Y,Y,Y,Y,Y,Y,Z] rfl rfl (any_of HT_.out (by kernel_rfl)) (fun _ _ _ h => h) (Or.inl ⟨by rfl, ?_⟩) ?_ ?_
  rotate_left
  · intro w'
    go_simp
    with_reducible rfl
  rotate_left
  · simp only [Act.put, pA, pB, pC, i64_w, i32_w]
    rfl
  refine pure_ (i := 16) (N := some 4) (v := ?_) (a' := ?_) #[Y,Y,Y,Y,Y,Y,Y,Y,Y,Y,Y,Y,Y,Y,Y,Y,Y] rfl rfl (any_of HT_.out (by kernel_rfl)) (fun _ _ _ h => h) (Or.inl ⟨by rfl, ?_⟩) ?_ ?_
  rotate_left
  · intro w'
    go_simp
    with_reducible rfl
  rotate_left
  · simp only [Act.put, pA, pB, pC, i64_w, i32_w]
    rfl
  refine done_ (done_of HT_.out (by kernel_rfl)) ?_
  go_wp2
  go_ret
  exact ⟨rfl, 1, rfl⟩
set_option maxHeartbeats 8000000 in
set_option maxRecDepth 100000 in
theorem ends1_1 (w : World) (g1 gt : Nat) (A1 A2 : Option Addr) (c1 c2 c3 : Nat) (b o : Nat) (B0 : Option Addr) (b0 : Nat) (B1 : Option Addr) (b1 : Nat) (ar2 : Addr) (b2 : Nat) (ar3 : Addr) (b3 : Nat) (hn : NC w b o B0 b0 B1 b1 ar2 b2 ar3 b3) (hx : w.heap[g1]? = some (.cells #[.int .i64 2, .slice A1 1 c1, .slice A2 1 c2, .slice (some ⟨b, o, none⟩) 4 c3] 28 (0, 0))) (ht : w.heap[gt]? = some (.cells #[.int .i64 0] 3 (0, 0))) : Calls Tryd.prog 48 #[.int .i64 1, .pointer (some ⟨g1, 0, none⟩), .pointer (some ⟨gt, 0, none⟩)] w fun e w' => e = .returned (.bool false) ∧ Drawn0 w w' := by
  have hu28 := Tryd.underlying28
  have hu53 := Tryd.underlying53
  have HX := Aside0.mk hx
  have HY := Aside0.mk ht
  have HN := Aside0.mk hn
  have HB := Aside0.mk (Below.refl w.heap.size w)
  clear hx ht hn
  go_enter Tryd.func48, Tryd.ntmps48
  go_upto_region 1 with (fail)
  replace HX := Aside0.mk (blk_drew HX.out)
  replace HY := Aside0.mk (blk_drew HY.out)
  replace HB := Aside0.mk (below_drew HB.out)
  refine start_ (n := 17) (S := fun w' => w'.cell? ⟨g1, 3, none⟩ = some (.slice (some ⟨b, o, none⟩) 4 c3) ∧ w'.cell? ⟨gt, 0, none⟩ = some (.int .i64 0) ∧ w'.cell? ⟨b, o + 9, none⟩ = some (.int .i64 0) ∧ w'.cell? ⟨b, o + 16, none⟩ = some (.bool false)) (ds := []) #[Z,Z,Z,Z,Z,Z,Z,Z,Z,Z,Z,Z,Z,Z,Z,Z,Z] (by kernel_rfl) rfl rfl ⟨(blk_celln HX.out 3 _ rfl), (blk_celln HY.out 0 _ rfl), (cell_below HN.out.n9 HB.out), (cell_below HN.out.n16 HB.out)⟩ (fun hHeld => ?_)
  refine with_tabW ends1.tab1 ends1.bits1 (fun HT_ HW_ => ?_)
  refine pure_ (i := 0) (N := some 5) (v := ?_) (a' := ?_) #[Y,Z,Z,Z,Z,Z,Z,Z,Z,Z,Z,Z,Z,Z,Z,Z,Z] rfl rfl (any_of HT_.out (by kernel_rfl)) (fun _ _ _ h => h) (Or.inl ⟨by rfl, ?_⟩) ?_ ?_
  rotate_left
  · intro w'
    go_simp
    with_reducible rfl
  rotate_left
  · simp only [Act.put, pA, pB, pC, i64_w, i32_w]
    rfl
  refine take_ (i := 1) (N := some 6) (v := ?_) (a' := ?_) #[Y,Y,Z,Z,Z,Z,Z,Z,Z,Z,Z,Z,Z,Z,Z,Z,Z] rfl rfl (take_ofW HT_.out HW_.out (by kernel_rfl)) (fun _ _ _ h => h) (Or.inl ⟨by rfl, ?_⟩) hHeld ?_ ?_
  rotate_left
  · rintro w' ⟨s0, s1, s2, s3⟩
    go_simp
    with_reducible rfl
  rotate_left
  · simp only [Act.put, pA, pB, pC, i64_w, i32_w]
    rfl
  refine pure_ (i := 2) (N := some 7) (v := ?_) (a' := ?_) #[Y,Y,Y,Z,Z,Z,Z,Z,Z,Z,Z,Z,Z,Z,Z,Z,Z] rfl rfl (any_of HT_.out (by kernel_rfl)) (fun _ _ _ h => h) (Or.inl ⟨by rfl, ?_⟩) ?_ ?_
  rotate_left
  · intro w'
    go_simp
    with_reducible rfl
  rotate_left
  · simp only [Act.put, pA, pB, pC, i64_w, i32_w]
    rfl
  refine pure_ (i := 3) (N := some 8) (v := ?_) (a' := ?_) #[Y,Y,Y,Y,Z,Z,Z,Z,Z,Z,Z,Z,Z,Z,Z,Z,Z] rfl rfl (any_of HT_.out (by kernel_rfl)) (fun _ _ _ h => h) (Or.inl ⟨by rfl, ?_⟩) ?_ ?_
  rotate_left
  · intro w'
    go_simp
    with_reducible rfl
  rotate_left
  · simp only [Act.put, pA, pB, pC, i64_w, i32_w]
    rfl
  refine pure_ (i := 4) (N := some 9) (v := ?_) (a' := ?_) #[Y,Y,Y,Y,Y,Z,Z,Z,Z,Z,Z,Z,Z,Z,Z,Z,Z] rfl rfl (any_of HT_.out (by kernel_rfl)) (fun _ _ _ h => h) (Or.inl ⟨by rfl, ?_⟩) ?_ ?_
  rotate_left
  · intro w'
    go_simp
    with_reducible rfl
  rotate_left
  · simp only [Act.put, pA, pB, pC, i64_w, i32_w]
    rfl
  refine take_ (i := 5) (N := some 10) (v := ?_) (a' := ?_) #[Y,Y,Y,Y,Y,Y,Z,Z,Z,Z,Z,Z,Z,Z,Z,Z,Z] rfl rfl (take_ofW HT_.out HW_.out (by kernel_rfl)) (fun _ _ _ h => h) (Or.inl ⟨by rfl, ?_⟩) hHeld ?_ ?_
  rotate_left
  · rintro w' ⟨s0, s1, s2, s3⟩
    go_simp
    with_reducible rfl
  rotate_left
  · simp only [Act.put, pA, pB, pC, i64_w, i32_w]
    rfl
  refine take_ (i := 6) (N := some 11) (v := ?_) (a' := ?_) #[Y,Y,Y,Y,Y,Y,Y,Z,Z,Z,Z,Z,Z,Z,Z,Z,Z] rfl rfl (take_ofW HT_.out HW_.out (by kernel_rfl)) (fun _ _ _ h => h) (Or.inl ⟨by rfl, ?_⟩) hHeld ?_ ?_
  rotate_left
  · rintro w' ⟨s0, s1, s2, s3⟩
    go_simp
    with_reducible rfl
  rotate_left
  · simp only [Act.put, pA, pB, pC, i64_w, i32_w]
    rfl
  refine pure_ (i := 7) (N := some 12) (v := ?_) (a' := ?_) #[Y,Y,Y,Y,Y,Y,Y,Y,Z,Z,Z,Z,Z,Z,Z,Z,Z] rfl rfl (any_of HT_.out (by kernel_rfl)) (fun _ _ _ h => h) (Or.inl ⟨by rfl, ?_⟩) ?_ ?_
  rotate_left
  · intro w'
    go_simp
    with_reducible rfl
  rotate_left
  · simp only [Act.put, pA, pB, pC, i64_w, i32_w]
    rfl
  refine pure_ (i := 8) (N := some 13) (v := ?_) (a' := ?_) #[Y,Y,Y,Y,Y,Y,Y,Y,Y,Z,Z,Z,Z,Z,Z,Z,Z] rfl rfl (any_of HT_.out (by kernel_rfl)) (fun _ _ _ h => h) (Or.inl ⟨by rfl, ?_⟩) ?_ ?_
  rotate_left
  · intro w'
    go_simp
    with_reducible rfl
  rotate_left
  · simp only [Act.put, pA, pB, pC, i64_w, i32_w]
    rfl
  refine pure_ (i := 9) (N := some 14) (v := ?_) (a' := ?_) #[Y,Y,Y,Y,Y,Y,Y,Y,Y,Y,Z,Z,Z,Z,Z,Z,Z] rfl rfl (any_of HT_.out (by kernel_rfl)) (fun _ _ _ h => h) (Or.inl ⟨by rfl, ?_⟩) ?_ ?_
  rotate_left
  · intro w'
    go_simp
    with_reducible rfl
  rotate_left
  · simp only [Act.put, pA, pB, pC, i64_w, i32_w]
    rfl
  refine take_ (i := 10) (N := some 15) (v := ?_) (a' := ?_) #[Y,Y,Y,Y,Y,Y,Y,Y,Y,Y,Y,Z,Z,Z,Z,Z,Z] rfl rfl (take_ofW HT_.out HW_.out (by kernel_rfl)) (fun _ _ _ h => h) (Or.inl ⟨by rfl, ?_⟩) hHeld ?_ ?_
  rotate_left
  · rintro w' ⟨s0, s1, s2, s3⟩
    go_simp
    with_reducible rfl
  rotate_left
  · simp only [Act.put, pA, pB, pC, i64_w, i32_w]
    rfl
  refine pure_ (i := 11) (N := some 16) (v := ?_) (a' := ?_) #[Y,Y,Y,Y,Y,Y,Y,Y,Y,Y,Y,Y,Z,Z,Z,Z,Z] rfl rfl (any_of HT_.out (by kernel_rfl)) (fun _ _ _ h => h) (Or.inl ⟨by rfl, ?_⟩) ?_ ?_
  rotate_left
  · intro w'
    go_simp
    with_reducible rfl
  rotate_left
  · simp only [Act.put, pA, pB, pC, i64_w, i32_w]
    rfl
  refine pure_ (i := 12) (N := some 17) (v := ?_) (a' := ?_) #[Y,Y,Y,Y,Y,Y,Y,Y,Y,Y,Y,Y,Y,Z,Z,Z,Z] rfl rfl (any_of HT_.out (by kernel_rfl)) (fun _ _ _ h => h) (Or.inl ⟨by rfl, ?_⟩) ?_ ?_
  rotate_left
  · intro w'
    go_simp
    with_reducible rfl
  rotate_left
  · simp only [Act.put, pA, pB, pC, i64_w, i32_w]
    rfl
  refine pure_ (i := 13) (N := some 18) (v := ?_) (a' := ?_) #[Y,Y,Y,Y,Y,Y,Y,Y,Y,Y,Y,Y,Y,Y,Z,Z,Z] rfl rfl (any_of HT_.out (by kernel_rfl)) (fun _ _ _ h => h) (Or.inl ⟨by rfl, ?_⟩) ?_ ?_
  rotate_left
  · intro w'
    go_simp
    with_reducible rfl
  rotate_left
  · simp only [Act.put, pA, pB, pC, i64_w, i32_w]
    rfl
  refine take_ (i := 14) (N := some 19) (v := ?_) (a' := ?_) #[Y,Y,Y,Y,Y,Y,Y,Y,Y,Y,Y,Y,Y,Y,Y,Z,Z] rfl rfl (take_ofW HT_.out HW_.out (by kernel_rfl)) (fun _ _ _ h => h) (Or.inl ⟨by rfl, ?_⟩) hHeld ?_ ?_
  rotate_left
  · rintro w' ⟨s0, s1, s2, s3⟩
    go_simp
    with_reducible rfl
  rotate_left
  · simp only [Act.put, pA, pB, pC, i64_w, i32_w]
    rfl
  refine pure_ (i := 15) (N := some 20) (v := ?_) (a' := ?_) #[Y,Y,Y,Y,Y,Y,Y,Y,Y,Y,Y,Y,Y,Y,Y,Y,Z] rfl rfl (any_of HT_.out (by kernel_rfl)) (fun _ _ _ h => h) (Or.inl ⟨by rfl, ?_⟩) ?_ ?_
  rotate_left
  · intro w'
    go_simp
    with_reducible rfl
  rotate_left
  · simp only [Act.put, pA, pB, pC, i64_w, i32_w]
    rfl
  refine pure_ (i := 16) (N := some 4) (v := ?_) (a' := ?_) #[Y,Y,Y,Y,Y,Y,Y,Y,Y,Y,Y,Y,Y,Y,Y,Y,Y] rfl rfl (any_of HT_.out (by kernel_rfl)) (fun _ _ _ h => h) (Or.inl ⟨by rfl, ?_⟩) ?_ ?_
  rotate_left
  · intro w'
    go_simp
    with_reducible rfl
  rotate_left
  · simp only [Act.put, pA, pB, pC, i64_w, i32_w]
    rfl
  refine done_ (done_of HT_.out (by kernel_rfl)) ?_
  go_wp2
  go_ret
  exact ⟨rfl, 1, rfl⟩
set_option maxHeartbeats 8000000 in
set_option maxRecDepth 100000 in
theorem ends1_2 (w : World) (g1 gt : Nat) (A1 A2 : Option Addr) (c1 c2 c3 : Nat) (b o : Nat) (B0 : Option Addr) (b0 : Nat) (B1 : Option Addr) (b1 : Nat) (ar2 : Addr) (b2 : Nat) (ar3 : Addr) (b3 : Nat) (hn : NC w b o B0 b0 B1 b1 ar2 b2 ar3 b3) (hx : w.heap[g1]? = some (.cells #[.int .i64 2, .slice A1 1 c1, .slice A2 1 c2, .slice (some ⟨b, o, none⟩) 4 c3] 28 (0, 0))) (ht : w.heap[gt]? = some (.cells #[.int .i64 0] 3 (0, 0))) : Calls Tryd.prog 48 #[.int .i64 2, .pointer (some ⟨g1, 0, none⟩), .pointer (some ⟨gt, 0, none⟩)] w fun e w' => e = .returned (.bool true) ∧ Drawn0 w w' := by
  have hu28 := Tryd.underlying28
  have hu53 := Tryd.underlying53
  have HX := Aside0.mk hx
  have HY := Aside0.mk ht
  have HN := Aside0.mk hn
  have HB := Aside0.mk (Below.refl w.heap.size w)
  clear hx ht hn
  go_enter Tryd.func48, Tryd.ntmps48
  go_upto_region 1 with (fail)
  replace HX := Aside0.mk (blk_drew HX.out)
  replace HY := Aside0.mk (blk_drew HY.out)
  replace HB := Aside0.mk (below_drew HB.out)
  refine start_ (n := 17) (S := fun w' => w'.cell? ⟨g1, 3, none⟩ = some (.slice (some ⟨b, o, none⟩) 4 c3) ∧ w'.cell? ⟨gt, 0, none⟩ = some (.int .i64 0) ∧ w'.cell? ⟨b, o + 18, none⟩ = some (.int .i64 0) ∧ w'.cell? ⟨b, o + 25, none⟩ = some (.bool true)) (ds := []) #[Z,Z,Z,Z,Z,Z,Z,Z,Z,Z,Z,Z,Z,Z,Z,Z,Z] (by kernel_rfl) rfl rfl ⟨(blk_celln HX.out 3 _ rfl), (blk_celln HY.out 0 _ rfl), (cell_below HN.out.n18 HB.out), (cell_below HN.out.n25 HB.out)⟩ (fun hHeld => ?_)
  refine with_tabW ends1.tab1 ends1.bits1 (fun HT_ HW_ => ?_)
  refine pure_ (i := 0) (N := some 5) (v := ?_) (a' := ?_) #[Y,Z,Z,Z,Z,Z,Z,Z,Z,Z,Z,Z,Z,Z,Z,Z,Z] rfl rfl (any_of HT_.out (by kernel_rfl)) (fun _ _ _ h => h) (Or.inl ⟨by rfl, ?_⟩) ?_ ?_
  rotate_left
  · intro w'
    go_simp
    with_reducible rfl
  rotate_left
  · simp only [Act.put, pA, pB, pC, i64_w, i32_w]
    rfl
  refine take_ (i := 1) (N := some 6) (v := ?_) (a' := ?_) #[Y,Y,Z,Z,Z,Z,Z,Z,Z,Z,Z,Z,Z,Z,Z,Z,Z] rfl rfl (take_ofW HT_.out HW_.out (by kernel_rfl)) (fun _ _ _ h => h) (Or.inl ⟨by rfl, ?_⟩) hHeld ?_ ?_
  rotate_left
  · rintro w' ⟨s0, s1, s2, s3⟩
    go_simp
    with_reducible rfl
  rotate_left
  · simp only [Act.put, pA, pB, pC, i64_w, i32_w]
    rfl
  refine pure_ (i := 2) (N := some 7) (v := ?_) (a' := ?_) #[Y,Y,Y,Z,Z,Z,Z,Z,Z,Z,Z,Z,Z,Z,Z,Z,Z] rfl rfl (any_of HT_.out (by kernel_rfl)) (fun _ _ _ h => h) (Or.inl ⟨by rfl, ?_⟩) ?_ ?_
  rotate_left
  · intro w'
    go_simp
    with_reducible rfl
  rotate_left
  · simp only [Act.put, pA, pB, pC, i64_w, i32_w]
    rfl
  refine pure_ (i := 3) (N := some 8) (v := ?_) (a' := ?_) #[Y,Y,Y,Y,Z,Z,Z,Z,Z,Z,Z,Z,Z,Z,Z,Z,Z] rfl rfl (any_of HT_.out (by kernel_rfl)) (fun _ _ _ h => h) (Or.inl ⟨by rfl, ?_⟩) ?_ ?_
  rotate_left
  · intro w'
    go_simp
    with_reducible rfl
  rotate_left
  · simp only [Act.put, pA, pB, pC, i64_w, i32_w]
    rfl
  refine pure_ (i := 4) (N := some 9) (v := ?_) (a' := ?_) #[Y,Y,Y,Y,Y,Z,Z,Z,Z,Z,Z,Z,Z,Z,Z,Z,Z] rfl rfl (any_of HT_.out (by kernel_rfl)) (fun _ _ _ h => h) (Or.inl ⟨by rfl, ?_⟩) ?_ ?_
  rotate_left
  · intro w'
    go_simp
    with_reducible rfl
  rotate_left
  · simp only [Act.put, pA, pB, pC, i64_w, i32_w]
    rfl
  refine take_ (i := 5) (N := some 10) (v := ?_) (a' := ?_) #[Y,Y,Y,Y,Y,Y,Z,Z,Z,Z,Z,Z,Z,Z,Z,Z,Z] rfl rfl (take_ofW HT_.out HW_.out (by kernel_rfl)) (fun _ _ _ h => h) (Or.inl ⟨by rfl, ?_⟩) hHeld ?_ ?_
  rotate_left
  · rintro w' ⟨s0, s1, s2, s3⟩
    go_simp
    with_reducible rfl
  rotate_left
  · simp only [Act.put, pA, pB, pC, i64_w, i32_w]
    rfl
  refine take_ (i := 6) (N := some 11) (v := ?_) (a' := ?_) #[Y,Y,Y,Y,Y,Y,Y,Z,Z,Z,Z,Z,Z,Z,Z,Z,Z] rfl rfl (take_ofW HT_.out HW_.out (by kernel_rfl)) (fun _ _ _ h => h) (Or.inl ⟨by rfl, ?_⟩) hHeld ?_ ?_
  rotate_left
  · rintro w' ⟨s0, s1, s2, s3⟩
    go_simp
    with_reducible rfl
  rotate_left
  · simp only [Act.put, pA, pB, pC, i64_w, i32_w]
    rfl
  refine pure_ (i := 7) (N := some 12) (v := ?_) (a' := ?_) #[Y,Y,Y,Y,Y,Y,Y,Y,Z,Z,Z,Z,Z,Z,Z,Z,Z] rfl rfl (any_of HT_.out (by kernel_rfl)) (fun _ _ _ h => h) (Or.inl ⟨by rfl, ?_⟩) ?_ ?_
  rotate_left
  · intro w'
    go_simp
    with_reducible rfl
  rotate_left
  · simp only [Act.put, pA, pB, pC, i64_w, i32_w]
    rfl
  refine pure_ (i := 8) (N := some 13) (v := ?_) (a' := ?_) #[Y,Y,Y,Y,Y,Y,Y,Y,Y,Z,Z,Z,Z,Z,Z,Z,Z] rfl rfl (any_of HT_.out (by kernel_rfl)) (fun _ _ _ h => h) (Or.inl ⟨by rfl, ?_⟩) ?_ ?_
  rotate_left
  · intro w'
    go_simp
    with_reducible rfl
  rotate_left
  · simp only [Act.put, pA, pB, pC, i64_w, i32_w]
    rfl
  refine pure_ (i := 9) (N := some 14) (v := ?_) (a' := ?_) #[Y,Y,Y,Y,Y,Y,Y,Y,Y,Y,Z,Z,Z,Z,Z,Z,Z] rfl rfl (any_of HT_.out (by kernel_rfl)) (fun _ _ _ h => h) (Or.inl ⟨by rfl, ?_⟩) ?_ ?_
  rotate_left
  · intro w'
    go_simp
    with_reducible rfl
  rotate_left
  · simp only [Act.put, pA, pB, pC, i64_w, i32_w]
    rfl
  refine take_ (i := 10) (N := some 15) (v := ?_) (a' := ?_) #[Y,Y,Y,Y,Y,Y,Y,Y,Y,Y,Y,Z,Z,Z,Z,Z,Z] rfl rfl (take_ofW HT_.out HW_.out (by kernel_rfl)) (fun _ _ _ h => h) (Or.inl ⟨by rfl, ?_⟩) hHeld ?_ ?_
  rotate_left
  · rintro w' ⟨s0, s1, s2, s3⟩
    go_simp
    with_reducible rfl
  rotate_left
  · simp only [Act.put, pA, pB, pC, i64_w, i32_w]
    rfl
  refine pure_ (i := 11) (N := some 16) (v := ?_) (a' := ?_) #[Y,Y,Y,Y,Y,Y,Y,Y,Y,Y,Y,Y,Z,Z,Z,Z,Z] rfl rfl (any_of HT_.out (by kernel_rfl)) (fun _ _ _ h => h) (Or.inl ⟨by rfl, ?_⟩) ?_ ?_
  rotate_left
  · intro w'
    go_simp
    with_reducible rfl
  rotate_left
  · simp only [Act.put, pA, pB, pC, i64_w, i32_w]
    rfl
  refine pure_ (i := 12) (N := some 17) (v := ?_) (a' := ?_) #[Y,Y,Y,Y,Y,Y,Y,Y,Y,Y,Y,Y,Y,Z,Z,Z,Z] rfl rfl (any_of HT_.out (by kernel_rfl)) (fun _ _ _ h => h) (Or.inl ⟨by rfl, ?_⟩) ?_ ?_
  rotate_left
  · intro w'
    go_simp
    with_reducible rfl
  rotate_left
  · simp only [Act.put, pA, pB, pC, i64_w, i32_w]
    rfl
  refine pure_ (i := 13) (N := some 18) (v := ?_) (a' := ?_) #[Y,Y,Y,Y,Y,Y,Y,Y,Y,Y,Y,Y,Y,Y,Z,Z,Z] rfl rfl (any_of HT_.out (by kernel_rfl)) (fun _ _ _ h => h) (Or.inl ⟨by rfl, ?_⟩) ?_ ?_
  rotate_left
  · intro w'
    go_simp
    with_reducible rfl
  rotate_left
  · simp only [Act.put, pA, pB, pC, i64_w, i32_w]
    rfl
  refine take_ (i := 14) (N := some 19) (v := ?_) (a' := ?_) #[Y,Y,Y,Y,Y,Y,Y,Y,Y,Y,Y,Y,Y,Y,Y,Z,Z] rfl rfl (take_ofW HT_.out HW_.out (by kernel_rfl)) (fun _ _ _ h => h) (Or.inl ⟨by rfl, ?_⟩) hHeld ?_ ?_
  rotate_left
  · rintro w' ⟨s0, s1, s2, s3⟩
    go_simp
    with_reducible rfl
  rotate_left
  · simp only [Act.put, pA, pB, pC, i64_w, i32_w]
    rfl
  refine pure_ (i := 15) (N := some 20) (v := ?_) (a' := ?_) #[Y,Y,Y,Y,Y,Y,Y,Y,Y,Y,Y,Y,Y,Y,Y,Y,Z] rfl rfl (any_of HT_.out (by kernel_rfl)) (fun _ _ _ h => h) (Or.inl ⟨by rfl, ?_⟩) ?_ ?_
  rotate_left
  · intro w'
    go_simp
    with_reducible rfl
  rotate_left
  · simp only [Act.put, pA, pB, pC, i64_w, i32_w]
    rfl
  refine pure_ (i := 16) (N := some 4) (v := ?_) (a' := ?_) #[Y,Y,Y,Y,Y,Y,Y,Y,Y,Y,Y,Y,Y,Y,Y,Y,Y] rfl rfl (any_of HT_.out (by kernel_rfl)) (fun _ _ _ h => h) (Or.inl ⟨by rfl, ?_⟩) ?_ ?_
  rotate_left
  · intro w'
    go_simp
    with_reducible rfl
  rotate_left
  · simp only [Act.put, pA, pB, pC, i64_w, i32_w]
    rfl
  refine done_ (done_of HT_.out (by kernel_rfl)) ?_
  go_wp2
  go_ret
  exact ⟨rfl, 1, rfl⟩
set_option maxHeartbeats 8000000 in
set_option maxRecDepth 100000 in
theorem ends1_3 (w : World) (g1 gt : Nat) (A1 A2 : Option Addr) (c1 c2 c3 : Nat) (b o : Nat) (B0 : Option Addr) (b0 : Nat) (B1 : Option Addr) (b1 : Nat) (ar2 : Addr) (b2 : Nat) (ar3 : Addr) (b3 : Nat) (hn : NC w b o B0 b0 B1 b1 ar2 b2 ar3 b3) (hx : w.heap[g1]? = some (.cells #[.int .i64 2, .slice A1 1 c1, .slice A2 1 c2, .slice (some ⟨b, o, none⟩) 4 c3] 28 (0, 0))) (ht : w.heap[gt]? = some (.cells #[.int .i64 0] 3 (0, 0))) : Calls Tryd.prog 48 #[.int .i64 3, .pointer (some ⟨g1, 0, none⟩), .pointer (some ⟨gt, 0, none⟩)] w fun e w' => e = .returned (.bool true) ∧ Drawn0 w w' := by
  have hu28 := Tryd.underlying28
  have hu53 := Tryd.underlying53
  have HX := Aside0.mk hx
  have HY := Aside0.mk ht
  have HN := Aside0.mk hn
  have HB := Aside0.mk (Below.refl w.heap.size w)
  clear hx ht hn
  go_enter Tryd.func48, Tryd.ntmps48
  go_upto_region 1 with (fail)
  replace HX := Aside0.mk (blk_drew HX.out)
  replace HY := Aside0.mk (blk_drew HY.out)
  replace HB := Aside0.mk (below_drew HB.out)
  refine start_ (n := 17) (S := fun w' => w'.cell? ⟨g1, 3, none⟩ = some (.slice (some ⟨b, o, none⟩) 4 c3) ∧ w'.cell? ⟨gt, 0, none⟩ = some (.int .i64 0) ∧ w'.cell? ⟨b, o + 27, none⟩ = some (.int .i64 0) ∧ w'.cell? ⟨b, o + 34, none⟩ = some (.bool true)) (ds := []) #[Z,Z,Z,Z,Z,Z,Z,Z,Z,Z,Z,Z,Z,Z,Z,Z,Z] (by kernel_rfl) rfl rfl ⟨(blk_celln HX.out 3 _ rfl), (blk_celln HY.out 0 _ rfl), (cell_below HN.out.n27 HB.out), (cell_below HN.out.n34 HB.out)⟩ (fun hHeld => ?_)
  refine with_tabW ends1.tab1 ends1.bits1 (fun HT_ HW_ => ?_)
  refine pure_ (i := 0) (N := some 5) (v := ?_) (a' := ?_) #[Y,Z,Z,Z,Z,Z,Z,Z,Z,Z,Z,Z,Z,Z,Z,Z,Z] rfl rfl (any_of HT_.out (by kernel_rfl)) (fun _ _ _ h => h) (Or.inl ⟨by rfl, ?_⟩) ?_ ?_
  rotate_left
  · intro w'
    go_simp
    with_reducible rfl
  rotate_left
  · simp only [Act.put, pA, pB, pC, i64_w, i32_w]
    rfl
  refine take_ (i := 1) (N := some 6) (v := ?_) (a' := ?_) #[Y,Y,Z,Z,Z,Z,Z,Z,Z,Z,Z,Z,Z,Z,Z,Z,Z] rfl rfl (take_ofW HT_.out HW_.out (by kernel_rfl)) (fun _ _ _ h => h) (Or.inl ⟨by rfl, ?_⟩) hHeld ?_ ?_
  rotate_left
  · rintro w' ⟨s0, s1, s2, s3⟩
    go_simp
    with_reducible rfl
  rotate_left
  · simp only [Act.put, pA, pB, pC, i64_w, i32_w]
    rfl
  refine pure_ (i := 2) (N := some 7) (v := ?_) (a' := ?_) #[Y,Y,Y,Z,Z,Z,Z,Z,Z,Z,Z,Z,Z,Z,Z,Z,Z] rfl rfl (any_of HT_.out (by kernel_rfl)) (fun _ _ _ h => h) (Or.inl ⟨by rfl, ?_⟩) ?_ ?_
  rotate_left
  · intro w'
    go_simp
    with_reducible rfl
  rotate_left
  · simp only [Act.put, pA, pB, pC, i64_w, i32_w]
    rfl
  refine pure_ (i := 3) (N := some 8) (v := ?_) (a' := ?_) #[Y,Y,Y,Y,Z,Z,Z,Z,Z,Z,Z,Z,Z,Z,Z,Z,Z] rfl rfl (any_of HT_.out (by kernel_rfl)) (fun _ _ _ h => h) (Or.inl ⟨by rfl, ?_⟩) ?_ ?_
  rotate_left
  · intro w'
    go_simp
    with_reducible rfl
  rotate_left
  · simp only [Act.put, pA, pB, pC, i64_w, i32_w]
    rfl
  refine pure_ (i := 4) (N := some 9) (v := ?_) (a' := ?_) #[Y,Y,Y,Y,Y,Z,Z,Z,Z,Z,Z,Z,Z,Z,Z,Z,Z] rfl rfl (any_of HT_.out (by kernel_rfl)) (fun _ _ _ h => h) (Or.inl ⟨by rfl, ?_⟩) ?_ ?_
  rotate_left
  · intro w'
    go_simp
    with_reducible rfl
  rotate_left
  · simp only [Act.put, pA, pB, pC, i64_w, i32_w]
    rfl
  refine take_ (i := 5) (N := some 10) (v := ?_) (a' := ?_) #[Y,Y,Y,Y,Y,Y,Z,Z,Z,Z,Z,Z,Z,Z,Z,Z,Z] rfl rfl (take_ofW HT_.out HW_.out (by kernel_rfl)) (fun _ _ _ h => h) (Or.inl ⟨by rfl, ?_⟩) hHeld ?_ ?_
  rotate_left
  · rintro w' ⟨s0, s1, s2, s3⟩
    go_simp
    with_reducible rfl
  rotate_left
  · simp only [Act.put, pA, pB, pC, i64_w, i32_w]
    rfl
  refine take_ (i := 6) (N := some 11) (v := ?_) (a' := ?_) #[Y,Y,Y,Y,Y,Y,Y,Z,Z,Z,Z,Z,Z,Z,Z,Z,Z] rfl rfl (take_ofW HT_.out HW_.out (by kernel_rfl)) (fun _ _ _ h => h) (Or.inl ⟨by rfl, ?_⟩) hHeld ?_ ?_
  rotate_left
  · rintro w' ⟨s0, s1, s2, s3⟩
    go_simp
    with_reducible rfl
  rotate_left
  · simp only [Act.put, pA, pB, pC, i64_w, i32_w]
    rfl
  refine pure_ (i := 7) (N := some 12) (v := ?_) (a' := ?_) #[Y,Y,Y,Y,Y,Y,Y,Y,Z,Z,Z,Z,Z,Z,Z,Z,Z] rfl rfl (any_of HT_.out (by kernel_rfl)) (fun _ _ _ h => h) (Or.inl ⟨by rfl, ?_⟩) ?_ ?_
  rotate_left
  · intro w'
    go_simp
    with_reducible rfl
  rotate_left
  · simp only [Act.put, pA, pB, pC, i64_w, i32_w]
    rfl
  refine pure_ (i := 8) (N := some 13) (v := ?_) (a' := ?_) #[Y,Y,Y,Y,Y,Y,Y,Y,Y,Z,Z,Z,Z,Z,Z,Z,Z] rfl rfl (any_of HT_.out (by kernel_rfl)) (fun _ _ _ h => h) (Or.inl ⟨by rfl, ?_⟩) ?_ ?_
  rotate_left
  · intro w'
    go_simp
    with_reducible rfl
  rotate_left
  · simp only [Act.put, pA, pB, pC, i64_w, i32_w]
    rfl
  refine pure_ (i := 9) (N := some 14) (v := ?_) (a' := ?_) #[Y,Y,Y,Y,Y,Y,Y,Y,Y,Y,Z,Z,Z,Z,Z,Z,Z] rfl rfl (any_of HT_.out (by kernel_rfl)) (fun _ _ _ h => h) (Or.inl ⟨by rfl, ?_⟩) ?_ ?_
  rotate_left
  · intro w'
    go_simp
    with_reducible rfl
  rotate_left
  · simp only [Act.put, pA, pB, pC, i64_w, i32_w]
    rfl
  refine take_ (i := 10) (N := some 15) (v := ?_) (a' := ?_) #[Y,Y,Y,Y,Y,Y,Y,Y,Y,Y,Y,Z,Z,Z,Z,Z,Z] rfl rfl (take_ofW HT_.out HW_.out (by kernel_rfl)) (fun _ _ _ h => h) (Or.inl ⟨by rfl, ?_⟩) hHeld ?_ ?_
  rotate_left
  · rintro w' ⟨s0, s1, s2, s3⟩
    go_simp
    with_reducible rfl
  rotate_left
  · simp only [Act.put, pA, pB, pC, i64_w, i32_w]
    rfl
  refine pure_ (i := 11) (N := some 16) (v := ?_) (a' := ?_) #[Y,Y,Y,Y,Y,Y,Y,Y,Y,Y,Y,Y,Z,Z,Z,Z,Z] rfl rfl (any_of HT_.out (by kernel_rfl)) (fun _ _ _ h => h) (Or.inl ⟨by rfl, ?_⟩) ?_ ?_
  rotate_left
  · intro w'
    go_simp
    with_reducible rfl
  rotate_left
  · simp only [Act.put, pA, pB, pC, i64_w, i32_w]
    rfl
  refine pure_ (i := 12) (N := some 17) (v := ?_) (a' := ?_) #[Y,Y,Y,Y,Y,Y,Y,Y,Y,Y,Y,Y,Y,Z,Z,Z,Z] rfl rfl (any_of HT_.out (by kernel_rfl)) (fun _ _ _ h => h) (Or.inl ⟨by rfl, ?_⟩) ?_ ?_
  rotate_left
  · intro w'
    go_simp
    with_reducible rfl
  rotate_left
  · simp only [Act.put, pA, pB, pC, i64_w, i32_w]
    rfl
  refine pure_ (i := 13) (N := some 18) (v := ?_) (a' := ?_) #[Y,Y,Y,Y,Y,Y,Y,Y,Y,Y,Y,Y,Y,Y,Z,Z,Z] rfl rfl (any_of HT_.out (by kernel_rfl)) (fun _ _ _ h => h) (Or.inl ⟨by rfl, ?_⟩) ?_ ?_
  rotate_left
  · intro w'
    go_simp
    with_reducible rfl
  rotate_left
  · simp only [Act.put, pA, pB, pC, i64_w, i32_w]
    rfl
  refine take_ (i := 14) (N := some 19) (v := ?_) (a' := ?_) #[Y,Y,Y,Y,Y,Y,Y,Y,Y,Y,Y,Y,Y,Y,Y,Z,Z] rfl rfl (take_ofW HT_.out HW_.out (by kernel_rfl)) (fun _ _ _ h => h) (Or.inl ⟨by rfl, ?_⟩) hHeld ?_ ?_
  rotate_left
  · rintro w' ⟨s0, s1, s2, s3⟩
    go_simp
    with_reducible rfl
  rotate_left
  · simp only [Act.put, pA, pB, pC, i64_w, i32_w]
    rfl
  refine pure_ (i := 15) (N := some 20) (v := ?_) (a' := ?_) #[Y,Y,Y,Y,Y,Y,Y,Y,Y,Y,Y,Y,Y,Y,Y,Y,Z] rfl rfl (any_of HT_.out (by kernel_rfl)) (fun _ _ _ h => h) (Or.inl ⟨by rfl, ?_⟩) ?_ ?_
  rotate_left
  · intro w'
    go_simp
    with_reducible rfl
  rotate_left
  · simp only [Act.put, pA, pB, pC, i64_w, i32_w]
    rfl
  refine pure_ (i := 16) (N := some 4) (v := ?_) (a' := ?_) #[Y,Y,Y,Y,Y,Y,Y,Y,Y,Y,Y,Y,Y,Y,Y,Y,Y] rfl rfl (any_of HT_.out (by kernel_rfl)) (fun _ _ _ h => h) (Or.inl ⟨by rfl, ?_⟩) ?_ ?_
  rotate_left
  · intro w'
    go_simp
    with_reducible rfl
  rotate_left
  · simp only [Act.put, pA, pB, pC, i64_w, i32_w]
    rfl
  refine done_ (done_of HT_.out (by kernel_rfl)) ?_
  go_wp2
  go_ret
  exact ⟨rfl, 1, rfl⟩
set_option maxHeartbeats 8000000 in
set_option maxRecDepth 100000 in
theorem set_ends (w : World) (gd go : Nat) (g1 gt : Nat) (A1 A2 : Option Addr) (c1 c2 c3 : Nat) (b o : Nat) (B0 : Option Addr) (b0 : Nat) (B1 : Option Addr) (b1 : Nat) (ar2 : Addr) (b2 : Nat) (ar3 : Addr) (b3 : Nat) (hn : NC w b o B0 b0 B1 b1 ar2 b2 ar3 b3) (hx : w.heap[g1]? = some (.cells #[.int .i64 2, .slice A1 1 c1, .slice A2 1 c2, .slice (some ⟨b, o, none⟩) 4 c3] 28 (0, 0))) (ht : w.heap[gt]? = some (.cells #[.int .i64 0] 3 (0, 0))) : Calls Tryd.prog 43 #[.agg #[.int .i64 2, .slice A1 1 c1, .slice A2 1 c2, .slice (some ⟨b, o, none⟩) 4 c3, .slice (some ⟨gd, 0, none⟩) 4 4, .slice (some ⟨go, 0, none⟩) 4 4], .func (.func 48) #[] #[.pointer (some ⟨g1, 0, none⟩), .pointer (some ⟨gt, 0, none⟩)]] w fun e w' => e = .returned (.int .u64 12) ∧ Below w.heap.size w w' := by
  have hu28 := Tryd.underlying28
  have hu72 := Tryd.underlying72
  have HX := Aside0.mk hx
  have HY := Aside0.mk ht
  have HN := Aside0.mk hn
  clear hx ht hn
  go_enter Tryd.func43, Tryd.ntmps43
  go_wp2_with ((with_reducible refine gate_dst (N := 2) rfl ?_); refine box_event ?hg (N := 2) ?hd (cs := #[.int .i64 2, .slice A1 1 c1, .slice A2 1 c2, .slice (some ⟨b, o, none⟩) 4 c3, .slice (some ⟨gd, 0, none⟩) 4 4, .slice (some ⟨go, 0, none⟩) 4 4]) (t := 72) ?hr ?_; (case hd => rfl); (case hg => rfl); (case hr => first | (go_simp; done) | (go_simp; rfl)); intro g2 hg1 w1 hbox hb1; have HT := Aside0.mk hbox; replace HX := Aside0.mk (blk_below HX.out hb1); replace HY := Aside0.mk (blk_below HY.out hb1); replace HN := Aside0.mk (HN.out.below hb1); have HB := Aside0.mk hb1; have hx3 := blk_celln (HT.out) 3 _ rfl; clear hg1 hb1 hbox)
  clear hx3 HT
  refine wp_loop_rounds 5 ?_
  rw [rounds_succ]
  go_wp2_with (fail)
  refine (ends1_0 _ g1 gt A1 A2 c1 c2 c3 b o B0 b0 B1 b1 ar2 b2 ar3 b3 HN.out HX.out HY.out).mono ?_
  rintro e wx0 ⟨rfl, m0, rfl⟩
  replace HX := Aside0.mk (blk_drewN HX.out m0)
  replace HY := Aside0.mk (blk_drewN HY.out m0)
  replace HN := Aside0.mk (HN.out.below (pw_below_drewN (Below.refl _ _) m0))
  replace HB := Aside0.mk (pw_below_drewN HB.out m0)
  generalize World.drewN _ m0 = wy0 at HX HY HN HB ⊢
  go_wp2
  rw [rounds_succ]
  go_wp2_with (fail)
  refine (ends1_1 _ g1 gt A1 A2 c1 c2 c3 b o B0 b0 B1 b1 ar2 b2 ar3 b3 HN.out HX.out HY.out).mono ?_
  rintro e wx1 ⟨rfl, m1, rfl⟩
  replace HX := Aside0.mk (blk_drewN HX.out m1)
  replace HY := Aside0.mk (blk_drewN HY.out m1)
  replace HN := Aside0.mk (HN.out.below (pw_below_drewN (Below.refl _ _) m1))
  replace HB := Aside0.mk (pw_below_drewN HB.out m1)
  generalize World.drewN _ m1 = wy1 at HX HY HN HB ⊢
  go_wp2
  rw [rounds_succ]
  go_wp2_with (fail)
  refine (ends1_2 _ g1 gt A1 A2 c1 c2 c3 b o B0 b0 B1 b1 ar2 b2 ar3 b3 HN.out HX.out HY.out).mono ?_
  rintro e wx2 ⟨rfl, m2, rfl⟩
  replace HX := Aside0.mk (blk_drewN HX.out m2)
  replace HY := Aside0.mk (blk_drewN HY.out m2)
  replace HN := Aside0.mk (HN.out.below (pw_below_drewN (Below.refl _ _) m2))
  replace HB := Aside0.mk (pw_below_drewN HB.out m2)
  generalize World.drewN _ m2 = wy2 at HX HY HN HB ⊢
  go_wp2_with (fail)
  refine (bits_Put.calls 0 2 4 _ (by kernel_rfl)).mono ?_
  rintro e wz2 ⟨rfl, k2, rfl⟩
  replace HX := Aside0.mk (blk_drewN HX.out k2)
  replace HY := Aside0.mk (blk_drewN HY.out k2)
  replace HN := Aside0.mk (HN.out.below (pw_below_drewN (Below.refl _ _) k2))
  replace HB := Aside0.mk (pw_below_drewN HB.out k2)
  generalize World.drewN _ k2 = wv2 at HX HY HN HB ⊢
  go_wp2
  rw [rounds_succ]
  go_wp2_with (fail)
  refine (ends1_3 _ g1 gt A1 A2 c1 c2 c3 b o B0 b0 B1 b1 ar2 b2 ar3 b3 HN.out HX.out HY.out).mono ?_
  rintro e wx3 ⟨rfl, m3, rfl⟩
  replace HX := Aside0.mk (blk_drewN HX.out m3)
  replace HY := Aside0.mk (blk_drewN HY.out m3)
  replace HN := Aside0.mk (HN.out.below (pw_below_drewN (Below.refl _ _) m3))
  replace HB := Aside0.mk (pw_below_drewN HB.out m3)
  generalize World.drewN _ m3 = wy3 at HX HY HN HB ⊢
  go_wp2_with (fail)
  refine (bits_Put.calls 4 3 12 _ (by kernel_rfl)).mono ?_
  rintro e wz3 ⟨rfl, k3, rfl⟩
  replace HX := Aside0.mk (blk_drewN HX.out k3)
  replace HY := Aside0.mk (blk_drewN HY.out k3)
  replace HN := Aside0.mk (HN.out.below (pw_below_drewN (Below.refl _ _) k3))
  replace HB := Aside0.mk (pw_below_drewN HB.out k3)
  generalize World.drewN _ k3 = wv3 at HX HY HN HB ⊢
  go_wp2
  rw [rounds_succ]
  go_wp2
  go_ret
  exact ⟨rfl, HB.out⟩
set_option maxHeartbeats 8000000 in
set_option maxRecDepth 100000 in
theorem ends_c (w : World) (A1 A2 A3 : Option Addr) (c1 c2 c3 : Nat) (h1 : Kd.C Kd.string w A1 1 [⟨#[120]⟩]) (hc1 : 1 ≤ c1) (h2 : Kd.C (Kd.slice 9 Kd.string) w A2 1 [[⟨#[114]⟩]]) (hc2 : 1 ≤ c2) (h3 : Kd.C k53 w A3 4 nodes0) (hc3 : 4 ≤ c3) (hG : GOk w) :
    Calls Tryd.prog 18 #[.agg #[.int .i64 2, .slice A1 1 c1, .slice A2 1 c2, .slice A3 4 c3], .int .i64 0] w fun e w' => ∃ v0_ : Value, e = .returned v0_ ∧ Kd.R (Kd.int .i64) 3 w' w.heap.size (fun _ => True) v0_ [2, 3] ∧ Below w.heap.size w w' := by
  have HG := Aside0.mk hG
  clear hG
  have H1 := Aside0.mk h1
  have H2 := Aside0.mk h2
  have H3 := Aside0.mk h3
  clear h1 h2 h3
  have hu28 := Tryd.underlying28
  have hu72 := Tryd.underlying72
  go_enter Tryd.func18, Tryd.ntmps18
  go_wp2_with (first | ((with_reducible refine gate_dst (N := 2) rfl ?_); refine box_event ?hg (N := 2) ?hd (cs := #[.int .i64 2, .slice A1 1 c1, .slice A2 1 c2, .slice A3 4 c3]) (t := 28) ?hr ?_; (case hd => rfl); (case hg => rfl); (case hr => first | (go_simp; done) | (go_simp; rfl)); intro g1 hg1 w1 hbox hb1; have HX := Aside0.mk hbox; have HB := Aside0.mk hb1; have hx0 := blk_celln (HX.out) 0 _ rfl; have hx1 := blk_celln (HX.out) 1 _ rfl; have hx2 := blk_celln (HX.out) 2 _ rfl; have hx3 := blk_celln (HX.out) 3 _ rfl; clear hg1 hb1 hbox) | ((with_reducible refine gate_dst (N := 3) rfl ?_); refine box_event ?hg (N := 3) ?hd (cs := #[.int .i64 0]) (t := 3) ?hr ?_; (case hd => rfl); (case hg => rfl); (case hr => first | (go_simp; done) | (go_simp; rfl)); intro gt hg2 w2 hbox2 hb2; have HY := Aside0.mk hbox2; replace HX := Aside0.mk (blk_below HX.out hb2); replace HB := Aside0.mk (below_step HB.out hb2); replace hx0 := blk_celln (HX.out) 0 _ rfl; replace hx1 := blk_celln (HX.out) 1 _ rfl; replace hx2 := blk_celln (HX.out) 2 _ rfl; replace hx3 := blk_celln (HX.out) 3 _ rfl; clear hg2 hb2 hbox2))
  refine (of_c _ A1 A2 A3 c1 c2 c3 (Kd.C_below H1.out HB.out) hc1 (Kd.C_below H2.out HB.out) hc2 (Kd.C_below H3.out HB.out) hc3).mono ?_
  rintro e w3 ⟨gd, go, rfl, q1_, q2_, q3_⟩
  replace HB := Aside0.mk (below_step HB.out q3_)
  replace HX := Aside0.mk (blk_below HX.out q3_)
  replace HY := Aside0.mk (blk_below HY.out q3_)
  have HD := Aside0.mk (show DC w3 A1 A2 A3 c1 c2 c3 gd go from ⟨Kd.C_below H1.out HB.out, hc1, Kd.C_below H2.out HB.out, hc2, Kd.C_below H3.out HB.out, hc3, C_of_blk (by decide) q1_, C_of_blk (by decide) q2_⟩)
  have HGO := Aside0.mk q2_
  clear q1_ q2_ q3_ hx0 hx1 hx2 hx3
  go_upto_region 2 with ((with_reducible refine gate_dst (N := 5) rfl ?_); refine box_event ?hg (N := 5) ?hd (cs := #[.int .i64 0, .slice none 0 0, .slice none 0 0, .slice none 0 0, .slice none 0 0, .slice none 0 0]) (t := 72) ?hr ?_; (case hd => rfl); (case hg => rfl); (case hr => first | (go_simp; done) | (go_simp; rfl)); intro g7 hg__ w4 hbox_ hq_; have hg_ := Aside0.mk hg__; clear hg__; have z0_ := blk_celln hbox_ 0 _ rfl; have z1_ := blk_celln hbox_ 1 _ rfl; have z2_ := blk_celln hbox_ 2 _ rfl; have z3_ := blk_celln hbox_ 3 _ rfl; have z4_ := blk_celln hbox_ 4 _ rfl; have z5_ := blk_celln hbox_ 5 _ rfl; have f0_ := blk_frozen hbox_ 0; have f1_ := blk_frozen hbox_ 1; have f2_ := blk_frozen hbox_ 2; have f3_ := blk_frozen hbox_ 3; have f4_ := blk_frozen hbox_ 4; have f5_ := blk_frozen hbox_ 5)
  obtain ⟨F1_, F2_, F3_⟩ := fill72 hbox_ (.int .i64 2) (.slice A1 1 c1) (.slice A2 1 c2) (.slice A3 4 c3) (.slice (some ⟨gd, 0, none⟩) 4 4) (.slice (some ⟨go, 0, none⟩) 4 4) _ rfl
  replace hq_ := hq_.trans (F2_ w3.heap.size (Nat.le_of_eq hg_.out.symm))
  clear hg_ hbox_ F2_ F3_ z0_ f0_ z1_ f1_ z2_ f2_ z3_ f3_ z4_ f4_ z5_ f5_
  generalize (((((w4.setCell ⟨g7, 0, none⟩ (.int .i64 2)).setCell ⟨g7, 1, none⟩ (.slice A1 1 c1)).setCell ⟨g7, 2, none⟩ (.slice A2 1 c2)).setCell ⟨g7, 3, none⟩ (.slice A3 4 c3)).setCell ⟨g7, 4, none⟩ (.slice (some ⟨gd, 0, none⟩) 4 4)).setCell ⟨g7, 5, none⟩ (.slice (some ⟨go, 0, none⟩) 4 4) = w5 at F1_ hq_ ⊢
  have HT := Aside0.mk F1_
  replace HX := Aside0.mk (blk_below HX.out hq_)
  replace HGO := Aside0.mk (blk_below HGO.out hq_)
  replace HY := Aside0.mk (blk_below HY.out hq_)
  replace HD := Aside0.mk (HD.out.below hq_)
  replace HB := Aside0.mk (below_step HB.out hq_)
  clear F1_ hq_
  have hy0 := blk_celln (HY.out) 0 _ rfl
  go_upto_region 4 with (fail)
  have ht0 := blk_celln (HT.out) 0 _ rfl; have ht1 := blk_celln (HT.out) 1 _ rfl; have ht2 := blk_celln (HT.out) 2 _ rfl; have ht3 := blk_celln (HT.out) 3 _ rfl; have ht4 := blk_celln (HT.out) 4 _ rfl; have ht5 := blk_celln (HT.out) 5 _ rfl
  obtain ⟨b, o, B0, b0, B1, b1, ar2, b2, ar3, b3, rfl, hn⟩ := NC.of HD.out.C3
  have HN := Aside0.mk hn
  clear hn
  go_wp2_with (fail)
  refine (set_ends _ gd go g1 gt A1 A2 c1 c2 c3 b o B0 b0 B1 b1 ar2 b2 ar3 b3 HN.out HX.out HY.out).mono ?_
  rintro e w6 ⟨rfl, qb⟩
  replace HB := Aside0.mk (below_step HB.out qb)
  clear qb ht0 ht1 ht2 ht3 ht4 ht5 hy0
  go_wp2_with (fail)
  refine (bits_List.calls 12 [2, 3] _ (by kernel_rfl) (GOk.le HG.out HB.out)).mono ?_
  rintro e w7 ⟨v0, rfl, qr, qb⟩
  have QR := Aside0.mk (Kd.R_lower qr (below_size HB.out))
  replace HB := Aside0.mk (below_step HB.out qb)
  clear qr qb
  obtain ⟨A, c, rfl⟩ := Kd.R_slice QR.out
  go_wp2
  go_ret
  exact ⟨_, rfl, QR.out, HB.out⟩
set_option maxHeartbeats 8000000 in
set_option maxRecDepth 100000 in
theorem tree_c (w : World) (A2 A3 A9 : Option Addr) (c2 c3 c9 : Nat) (hr2 : Kd.C k57 w A2 1 [ce0]) (hc2 : 1 ≤ c2) (hr3 : Kd.C (Kd.slice 61 k61) w A3 1 [[st0]]) (hc3 : 1 ≤ c3) (hr9 : Kd.C k35 w A9 0 []) :
    Calls Tryd.prog 7 #[.agg #[.string ⟨#[97]⟩, .int .i64 2, .slice A2 1 c2, .slice A3 1 c3, .int .i64 1, .int .i64 1, .int .i64 0, .string ⟨#[120]⟩, .int .i64 0, .slice A9 0 c9]] w fun e w' => ∃ B1 d1 B2 d2 B3 d3, e = .returned (.tuple #[.agg #[.int .i64 2, .slice B1 1 d1, .slice B2 1 d2, .slice B3 4 d3], .bool true]) ∧ Kd.C Kd.string w' B1 1 [⟨#[120]⟩] ∧ 1 ≤ d1 ∧ Kd.C (Kd.slice 9 Kd.string) w' B2 1 [[⟨#[114]⟩]] ∧ 1 ≤ d2 ∧ Kd.C k53 w' B3 4 nodes0 ∧ 4 ≤ d3 ∧ Below w.heap.size w w' := by
  have hu37 := Tryd.underlying37
  have hu28 := Tryd.underlying28
  have R2 := Aside0.mk hr2
  have R3 := Aside0.mk hr3
  have R9 := Aside0.mk hr9
  clear hr2 hr3 hr9
  go_enter Tryd.func7, Tryd.ntmps7
  go_wp2_with (first | ((with_reducible refine gate_dst (N := 1) rfl ?_); refine box_event ?hg (N := 1) ?hd (cs := #[.string ⟨#[97]⟩, .int .i64 2, .slice A2 1 c2, .slice A3 1 c3, .int .i64 1, .int .i64 1, .int .i64 0, .string ⟨#[120]⟩, .int .i64 0, .slice A9 0 c9]) (t := 37) ?hr ?_; (case hd => rfl); (case hg => rfl); (case hr => first | (go_simp; done) | (go_simp; rfl)); intro g1 hg1 w1 hbox hb1; have HX := Aside0.mk hbox; have HB := Aside0.mk hb1; have hx0 := blk_celln (HX.out) 0 _ rfl; have hx1 := blk_celln (HX.out) 1 _ rfl; have hx2 := blk_celln (HX.out) 2 _ rfl; have hx3 := blk_celln (HX.out) 3 _ rfl; have hx4 := blk_celln (HX.out) 4 _ rfl; have hx5 := blk_celln (HX.out) 5 _ rfl; have hx6 := blk_celln (HX.out) 6 _ rfl; have hx7 := blk_celln (HX.out) 7 _ rfl; have hx8 := blk_celln (HX.out) 8 _ rfl; have hx9 := blk_celln (HX.out) 9 _ rfl; clear hg1 hb1 hbox) | ((with_reducible refine gate_dst (N := 2) rfl ?_); refine box_event ?hg (N := 2) ?hd (cs := #[.int .i64 0, .slice none 0 0, .slice none 0 0, .slice none 0 0]) (t := 28) ?hr ?_; (case hd => rfl); (case hg => rfl); (case hr => first | (go_simp; done) | (go_simp; rfl)); intro g2 hg2 w2 hbox2 hb2; have HC := Aside0.mk hbox2; have Gg2 := Aside0.mk (show w.heap.size ≤ g2 from hg2 ▸ HB.out.size); replace HX := Aside0.mk (blk_below HX.out hb2); replace HB := Aside0.mk (below_step HB.out hb2); replace hx0 := blk_celln (HX.out) 0 _ rfl; replace hx1 := blk_celln (HX.out) 1 _ rfl; replace hx2 := blk_celln (HX.out) 2 _ rfl; replace hx3 := blk_celln (HX.out) 3 _ rfl; replace hx4 := blk_celln (HX.out) 4 _ rfl; replace hx5 := blk_celln (HX.out) 5 _ rfl; replace hx6 := blk_celln (HX.out) 6 _ rfl; replace hx7 := blk_celln (HX.out) 7 _ rfl; replace hx8 := blk_celln (HX.out) 8 _ rfl; replace hx9 := blk_celln (HX.out) 9 _ rfl; clear hg2 hb2 hbox2))
  refine (build_one _ A2 A3 A9 c2 c3 c9 (Kd.C_below R2.out HB.out) hc2 (Kd.C_below R3.out HB.out) hc3 (Kd.C_below R9.out HB.out)).mono ?_
  rintro e w3 ⟨v1, v2, v3, rfl, q1, q2, q3, q4⟩
  obtain ⟨B1, d1, rfl⟩ := Kd.R_slice q1
  obtain ⟨B2, d2, rfl⟩ := Kd.S_slice q2
  obtain ⟨B3, d3, e3_⟩ := Kd.S_slice q3
  replace e3_ : v3 = .slice B3 4 d3 := e3_
  subst e3_
  have H1 := Aside0.mk q1
  have H2 := Aside0.mk q2
  have H3 := Aside0.mk q3
  replace HC := Aside0.mk (blk_below HC.out q4)
  replace HB := Aside0.mk (below_step HB.out q4)
  clear q1 q2 q3 q4 HX hx0 hx1 hx2 hx3 hx4 hx5 hx6 hx7 hx8 hx9
  go_upto_region 2 with ((with_reducible refine gate_dst (N := 4) rfl ?_); refine box_event ?hg (N := 4) ?hd (cs := #[.int .i64 0, .slice none 0 0, .slice none 0 0, .slice none 0 0]) (t := 28) ?hr ?_; (case hd => rfl); (case hg => rfl); (case hr => first | (go_simp; done) | (go_simp; rfl)); intro g4 hg__ w4 hbox_ hq_; have hg_ := Aside0.mk hg__; clear hg__; have z0_ := blk_celln hbox_ 0 _ rfl; have z1_ := blk_celln hbox_ 1 _ rfl; have z2_ := blk_celln hbox_ 2 _ rfl; have z3_ := blk_celln hbox_ 3 _ rfl; have f0_ := blk_frozen hbox_ 0; have f1_ := blk_frozen hbox_ 1; have f2_ := blk_frozen hbox_ 2; have f3_ := blk_frozen hbox_ 3)
  obtain ⟨F1_, F2_, F3_⟩ := fill28 hbox_ (.int .i64 2) (.slice B1 1 d1) (.slice B2 1 d2) (.slice B3 4 d3) _ rfl
  replace hq_ := hq_.trans (F2_ w3.heap.size (Nat.le_of_eq hg_.out.symm))
  clear hg_ hbox_ F2_ F3_ z0_ f0_ z1_ f1_ z2_ f2_ z3_ f3_
  generalize (((w4.setCell ⟨g4, 0, none⟩ (.int .i64 2)).setCell ⟨g4, 1, none⟩ (.slice B1 1 d1)).setCell ⟨g4, 2, none⟩ (.slice B2 1 d2)).setCell ⟨g4, 3, none⟩ (.slice B3 4 d3) = w5 at F1_ hq_ ⊢
  have HT := Aside0.mk F1_
  replace HC := Aside0.mk (blk_below HC.out hq_)
  replace HB := Aside0.mk (below_step HB.out hq_)
  replace H1 := Aside0.mk (Kd.R_below H1.out hq_)
  replace H2 := Aside0.mk (Kd.S_below H2.out hq_)
  replace H3 := Aside0.mk (Kd.S_below H3.out hq_)
  clear F1_ hq_
  have ht0 := blk_celln (HT.out) 0 _ rfl; have ht1 := blk_celln (HT.out) 1 _ rfl; have ht2 := blk_celln (HT.out) 2 _ rfl; have ht3 := blk_celln (HT.out) 3 _ rfl
  have z0_ := blk_celln HC.out 0 _ rfl; have z1_ := blk_celln HC.out 1 _ rfl; have z2_ := blk_celln HC.out 2 _ rfl; have z3_ := blk_celln HC.out 3 _ rfl; have f0_ := blk_frozen HC.out 0; have f1_ := blk_frozen HC.out 1; have f2_ := blk_frozen HC.out 2; have f3_ := blk_frozen HC.out 3
  go_wp2
  obtain ⟨F1_, F2_, F3_⟩ := fill28 HC.out (.int .i64 2) (.slice B1 1 d1) (.slice B2 1 d2) (.slice B3 4 d3) _ rfl
  refine bodyPost_ret (results_ct rfl _ _ g2 28 _ (0, 0) _ rfl F1_ Tryd.underlying28 rfl (by kernel_rfl)) rfl ?_
  obtain ⟨r1, r2, r3⟩ := res28 HC.out H1.out H2.out H3.out (.int .i64 2) (.slice B1 1 d1) (.slice B2 1 d2) (.slice B3 4 d3) _ rfl
  exact ⟨B1, d1, B2, d2, B3, d3, rfl, (Kd.R_reads' r1).2.2, (Kd.R_reads' r1).2.1, (Kd.S_reads' r2).2.2, (Kd.S_reads' r2).2.1, (Kd.S_reads' r3).2.2, (Kd.S_reads' r3).2.1, HB.out.trans (F2_ w.heap.size Gg2.out)⟩
end Go.Proofs.YtlpdcdkjmcpfdaaDoor.PT
