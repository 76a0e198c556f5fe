/- The builder's walk (witheref12) over one load, two values: walked by hand. -/
import Derived.Test.YtlpdcdkjmcpfdaaDoorTE
namespace Go.Proofs.YtlpdcdkjmcpfdaaDoor.PT
open Go.RowKit Go.Proofs.YtlpdcdkjmcpfdaaDoorW.PrintWords Go.Proofs.YtlpdcdkjmcpfdaaDoorW.PrintLast Go.Proofs.YtlpdcdkjmcpfdaaDoorW.PrintMore
set_option linter.unusedVariables false
set_option linter.unusedSimpArgs false
attribute [local go_sem] cell_set_some
variable {w0 w w' : World} {c0 c2 c3 c4 c5 c6 c7 c8 c9 : Value} {g : Nat} {vals : Int} {locs : List ByteArray} {regs : List (List ByteArray)} {nodes : List S53} {th : Int} {lg : Bool} {v1 v2 v3 : Value}
theorem TK.blk (k : TK w w') {i : Nat} {cs : Array Value} {t : TypeId} (h : w.heap[i]? = some (.cells cs t (0, 0))) (h1 : t ≠ 88) (h2 : t ≠ 53) : w'.heap[i]? = some (.cells cs t (0, 0)) := k.2 i cs t h h1 h2
theorem BS.nd (h : BS w0 c0 (.int .i64 2) c2 c3 c4 c5 c6 c7 c8 c9 w g vals locs regs nodes th lg v1 v2 v3) (n : Nat) : BS w0 c0 (.int .i64 2) c2 c3 c4 c5 c6 c7 c8 c9 (w.drewN n) g vals locs regs nodes th lg v1 v2 v3 := h.below (pw_below_drewN (Below.refl _ _) n)
theorem set_last (xs : List S53) (x y : S53) : (xs ++ [x]).set ((xs.length : Int)).toNat y = xs ++ [y] := by
  rw [show ((xs.length : Int)).toNat = xs.length by omega, List.set_append_right _ _ (Nat.le_refl _)]
  simp
theorem rd_last (xs : List S53) (x : S53) : rd_T53 (xs ++ [x]) (xs.length : Int) = x := by
  unfold rd_T53
  rw [show ((xs.length : Int)).toNat = xs.length by omega]
  simp [List.getD]
def walk.T6 : Bool × List (List Nat × List Nat) := (true, [([], []), ([0], [0]), ([1], [1]), ([2], [2]), ([3], [3]), ([], []), ([5], [5]), ([6], [6]), ([7], [7]), ([4, 8], [4, 8]), ([9], [9]), ([10, 0, 1, 2, 3, 4, 5, 6, 7, 8, 9, 10], [10])])
def walk.B6 : List Nat := [0, 1, 3, 7, 15, 0, 32, 96, 224, 511, 1023, 2047]
theorem walk.tab6 : rtab .any (opsOf Tryd.f56 6) = walk.T6 := by kernel_rfl
theorem walk.bits6 : waitsOk walk.T6.2 walk.B6 = true := by kernel_rfl
def walk.T7 : Bool × List (List Nat × List Nat) := (true, [([], []), ([0], [0]), ([1], [1]), ([2], [2]), ([3], [3]), ([], []), ([5], [5]), ([4, 6], [4, 6]), ([7, 7, 0, 1, 2, 3, 4, 5, 6, 7], [7])])
def walk.B7 : List Nat := [0, 1, 3, 7, 15, 0, 32, 127, 255]
theorem walk.tab7 : rtab .any (opsOf Tryd.f56 7) = walk.T7 := by kernel_rfl
theorem walk.bits7 : waitsOk walk.T7.2 walk.B7 = true := by kernel_rfl
def walk.T12 : Bool × List (List Nat × List Nat) := (true, [([], []), ([], []), ([1], [1]), ([2], [2]), ([3], [3]), ([], []), ([], []), ([], []), ([7], [7]), ([], []), ([4, 5, 6, 8, 9], [4, 5, 6, 8, 9]), ([0, 10], [0, 10]), ([11, 11, 0, 1, 2, 3, 4, 5, 6, 7, 8, 9, 10, 11], [11])])
def walk.B12 : List Nat := [0, 0, 2, 6, 14, 0, 0, 0, 128, 0, 1022, 2047, 4095]
theorem walk.tab12 : rtab .any (opsOf Tryd.f56 12) = walk.T12 := by kernel_rfl
theorem walk.bits12 : waitsOk walk.T12.2 walk.B12 = true := by kernel_rfl
set_option maxHeartbeats 8000000 in
set_option maxRecDepth 100000 in
theorem walk_load (k : Nat) (gf : Nat) (ad : Addr) (cf : Nat) (hcf : 1 ≤ cf) (m : Int) (reg loc : ByteArray) (A4 A5 A6 : Option Addr) (d4 d5 d6 : Nat) (hb : w.heap[gf]? = some (.cells #[.slice (some ad) 1 cf, .pointer none] 94 (0, 0)))
    (q0 : w0.cell? ad = some (.int .i64 2)) (q1 : w0.cell? ⟨ad.block, ad.off + 1, none⟩ = some (.int .i64 m)) (q2 : w0.cell? ⟨ad.block, ad.off + 2, none⟩ = some (.string reg)) (q3 : w0.cell? ⟨ad.block, ad.off + 3, none⟩ = some (.string loc))
    (q4 : w0.cell? ⟨ad.block, ad.off + 4, none⟩ = some (.slice A4 0 d4)) (q5 : w0.cell? ⟨ad.block, ad.off + 5, none⟩ = some (.slice A5 0 d5)) (q6 : w0.cell? ⟨ad.block, ad.off + 6, none⟩ = some (.slice A6 0 d6))
    (A : Option Addr) (c : Nat) (rs : List Int) (hr : Kd.R (Kd.int .i64) 3 w w0.heap.size (fun _ => True) (.slice A rs.length c) rs) (hl : rs.length ≤ 64) (i : Int) (hi0 : 0 ≤ i) (hi1 : i < (nodes.length : Int)) (hn : nodes.length + 2 ≤ 64)
    (ht0 : 0 ≤ th) (ht1 : th < (regs.length : Int)) (lc : Int) (hpl : witheref9_Place.f k locs loc = some lc) (j : Int) (hpr : witheref9_Place.f k (rd_L8 regs th) reg = some j) (hj0 : 0 ≤ j) (hj1 : j < (rs.length : Int))
    (h : BS w0 c0 (.int .i64 2) c2 c3 c4 c5 c6 c7 c8 c9 w g vals locs regs nodes th false v1 v2 v3) :
    Calls Tryd.prog 56 #[.pointer (some ⟨g, 0, none⟩), .pointer (some ⟨gf, 0, none⟩), .int .i64 i, .slice A rs.length c] w fun e w' => ∃ v3' : Value, e = .returned (.tuple #[]) ∧
      BS w0 c0 (.int .i64 2) c2 c3 c4 c5 c6 c7 c8 c9 w' g vals locs regs (nodes ++ [⟨th, i, 2, lc, m, 0, false, true, rs.set j.toNat 0⟩, ⟨th, i, 2, lc, m, 1, false, true, rs.set j.toNat 1⟩]) th false v1 v2 v3' ∧ TK w w' := by
  obtain ⟨AL, cL, rfl⟩ := Kd.R_slice h.h1
  have hu88 := Tryd.underlying88
  have hu94 := Tryd.underlying94
  have hu61 := Tryd.underlying61
  have hu53 := Tryd.underlying53
  have hu28 := Tryd.underlying28
  have hu37 := Tryd.underlying37
  have hz15 : w.cell? ⟨g, 15, none⟩ = some (.bool false) := (blk_cell h.blk 15).trans rfl
  have hf0 : w.cell? ⟨gf, 0, none⟩ = some (.slice (some ad) 1 cf) := (blk_cell hb 0).trans rfl
  have hf1 : w.cell? ⟨gf, 1, none⟩ = some (.pointer none) := (blk_cell hb 1).trans rfl
  have s0 := (h.hB.cell (World.block_lt_of_cell? w0 _ q0)).trans q0
  have s1 := (h.hB.cell (World.block_lt_of_cell? w0 _ q1)).trans q1
  have s2 := (h.hB.cell (World.block_lt_of_cell? w0 _ q2)).trans q2
  have s3 := (h.hB.cell (World.block_lt_of_cell? w0 _ q3)).trans q3
  have s4 := (h.hB.cell (World.block_lt_of_cell? w0 _ q4)).trans q4
  have s5 := (h.hB.cell (World.block_lt_of_cell? w0 _ q5)).trans q5
  have s6 := (h.hB.cell (World.block_lt_of_cell? w0 _ q6)).trans q6
  have HS := Aside0.mk h
  have HR := Aside0.mk hr
  have HF := Aside0.mk hb
  have HT := Aside0.mk (TK.refl w)
  clear h hr hb q0 q1 q2 q3 q4 q5 q6
  go_enter Tryd.func56, Tryd.ntmps56
  go_wp2
  refine wp_loop_rounds 1 ?_
  rw [rounds_succ]
  go_upto_region 6 with (fail)
  have hbn := blk_new w (.cells #[.int .i64 2, .int .i64 m, .string reg, .string loc, .slice A4 0 d4, .slice A5 0 d5, .slice A6 0 d6] 61)
  have hbb := below_alloc (Below.refl w.heap.size w) (.cells #[.int .i64 2, .int .i64 m, .string reg, .string loc, .slice A4 0 d4, .slice A5 0 d5, .slice A6 0 d6] 61)
  clear s0 s1 s2 s3 s4 s5 s6 hz15 hf0 hf1
  generalize w.heap.size = g8 at hbn ⊢
  generalize w.alloc (.cells #[.int .i64 2, .int .i64 m, .string reg, .string loc, .slice A4 0 d4, .slice A5 0 d5, .slice A6 0 d6] 61) = wA at hbn hbb ⊢
  have hbb' := Aside0.mk hbb
  clear hbb
  replace HS := Aside0.mk (HS.out.below hbb'.out).drew
  replace HT := Aside0.mk (TK.drew (TK.of_below hbb'.out))
  replace HR := Aside0.mk (Kd.R_drew (Kd.R_below HR.out hbb'.out))
  replace HF := Aside0.mk (blk_drew (blk_below HF.out hbb'.out))
  have H8 := Aside0.mk (blk_drew hbn)
  clear hbn hbb'
  have hf0 : wA.drew.cell? ⟨gf, 0, none⟩ = some (.slice (some ad) 1 cf) := (blk_cell HF.out 0).trans rfl
  have hf1 : wA.drew.cell? ⟨gf, 1, none⟩ = some (.pointer none) := (blk_cell HF.out 1).trans rfl
  refine start_ (n := 12) (S := fun w' => w'.cell? ⟨gf, 0, none⟩ = some (.slice (some ad) 1 cf) ∧ w'.cell? ⟨gf, 1, none⟩ = some (.pointer none)) (ds := []) #[Z,Z,Z,Z,Z,Z,Z,Z,Z,Z,Z,Z] (by kernel_rfl) rfl rfl ⟨hf0, hf1⟩ (fun hHeld => ?_)
  refine with_tabW walk.tab6 walk.bits6 (fun HT_ HW_ => ?_)
  generalize World.drew _ = wB at HS HT HR HF H8 hHeld ⊢
  refine pure_ (i := 0) (N := some 46) (v := ?_) (a' := ?_) #[Y,Z,Z,Z,Z,Z,Z,Z,Z,Z,Z,Z] rfl rfl (any_of HT_.out (by kernel_rfl)) (fun _ _ _ h => h) (Or.inl ⟨by rfl, ?_⟩) ?_ ?_
  rotate_left
  · intro w'
    go_simp
    with_reducible rfl
  rotate_left
  · simp only [Act.put, pA, pB, pC, i64_w, i32_w]
    rfl
  refine pure_ (i := 1) (N := some 47) (v := ?_) (a' := ?_) #[Y,Y,Z,Z,Z,Z,Z,Z,Z,Z,Z,Z] rfl rfl (any_of HT_.out (by kernel_rfl)) (fun _ _ _ h => h) (Or.inl ⟨by rfl, ?_⟩) ?_ ?_
  rotate_left
  · intro w'
    go_simp
    with_reducible rfl
  rotate_left
  · simp only [Act.put, pA, pB, pC, i64_w, i32_w]
    rfl
  refine pure_ (i := 2) (N := some 48) (v := ?_) (a' := ?_) #[Y,Y,Y,Z,Z,Z,Z,Z,Z,Z,Z,Z] rfl rfl (any_of HT_.out (by kernel_rfl)) (fun _ _ _ h => h) (Or.inl ⟨by rfl, ?_⟩) ?_ ?_
  rotate_left
  · intro w'
    go_simp
    with_reducible rfl
  rotate_left
  · simp only [Act.put, pA, pB, pC, i64_w, i32_w]
    rfl
  refine take_ (i := 3) (N := some 49) (v := ?_) (a' := ?_) #[Y,Y,Y,Y,Z,Z,Z,Z,Z,Z,Z,Z] rfl rfl (take_ofW HT_.out HW_.out (by kernel_rfl)) (fun _ _ _ h => h) (Or.inl ⟨by rfl, ?_⟩) hHeld ?_ ?_
  rotate_left
  · rintro w' ⟨s0, s1⟩
    go_simp
    with_reducible rfl
  rotate_left
  · simp only [Act.put, pA, pB, pC, i64_w, i32_w]
    rfl
  refine pure_ (i := 4) (N := some 50) (v := ?_) (a' := ?_) #[Y,Y,Y,Y,Y,Z,Z,Z,Z,Z,Z,Z] rfl rfl (any_of HT_.out (by kernel_rfl)) (fun _ _ _ h => h) (Or.inl ⟨by rfl, ?_⟩) ?_ ?_
  rotate_left
  · intro w'
    go_simp
    with_reducible rfl
  rotate_left
  · simp only [Act.put, pA, pB, pC, i64_w, i32_w]
    rfl
  refine pure_ (i := 5) (N := some 51) (v := ?_) (a' := ?_) #[Y,Y,Y,Y,Y,Y,Z,Z,Z,Z,Z,Z] rfl rfl (any_of HT_.out (by kernel_rfl)) (fun _ _ _ h => h) (Or.inl ⟨by rfl, ?_⟩) ?_ ?_
  rotate_left
  · intro w'
    go_simp
    with_reducible rfl
  rotate_left
  · simp only [Act.put, pA, pB, pC, i64_w, i32_w]
    rfl
  refine pure_ (i := 6) (N := some 52) (v := ?_) (a' := ?_) #[Y,Y,Y,Y,Y,Y,Y,Z,Z,Z,Z,Z] rfl rfl (any_of HT_.out (by kernel_rfl)) (fun _ _ _ h => h) (Or.inl ⟨by rfl, ?_⟩) ?_ ?_
  rotate_left
  · intro w'
    go_simp
    with_reducible rfl
  rotate_left
  · simp only [Act.put, pA, pB, pC, i64_w, i32_w]
    rfl
  refine pure_ (i := 7) (N := some 53) (v := ?_) (a' := ?_) #[Y,Y,Y,Y,Y,Y,Y,Y,Z,Z,Z,Z] rfl rfl (any_of HT_.out (by kernel_rfl)) (fun _ _ _ h => h) (Or.inl ⟨by rfl, ?_⟩) ?_ ?_
  rotate_left
  · intro w'
    go_simp
    with_reducible rfl
  rotate_left
  · simp only [Act.put, pA, pB, pC, i64_w, i32_w]
    rfl
  refine take_ (i := 8) (N := some 54) (v := ?_) (a' := ?_) #[Y,Y,Y,Y,Y,Y,Y,Y,Y,Z,Z,Z] rfl rfl (take_ofW HT_.out HW_.out (by kernel_rfl)) (fun _ _ _ h => h) (Or.inl ⟨by rfl, ?_⟩) hHeld ?_ ?_
  rotate_left
  · rintro w' ⟨s0, s1⟩
    go_simp
    with_reducible rfl
  rotate_left
  · simp only [Act.put, pA, pB, pC, i64_w, i32_w]
    rfl
  refine pure_ (i := 9) (N := some 55) (v := ?_) (a' := ?_) #[Y,Y,Y,Y,Y,Y,Y,Y,Y,Y,Z,Z] rfl rfl (any_of HT_.out (by kernel_rfl)) (fun _ _ _ h => h) (Or.inl ⟨by rfl, ?_⟩) ?_ ?_
  rotate_left
  · intro w'
    go_simp
    with_reducible rfl
  rotate_left
  · simp only [Act.put, pA, pB, pC, i64_w, i32_w]
    rfl
  refine one_ (i := 10) (N := some 56) #[Y,Y,Y,Y,Y,Y,Y,Y,Y,Y,Y,Z] rfl rfl (one_of HT_.out (by kernel_rfl)) (by decide) (fun K hK => ?_)
  refine box_step ?hg (N := 56) ?hd (cs := #[.slice (if cf = 1 then some ad else some ⟨ad.block, ad.off + 7, none⟩) 0 (cf - 1), .pointer none]) (t := 94) ?hr ?_; (case hd => rfl); (case hg => rfl); (case hr => first | (go_simp; done) | (go_simp; rfl))
  intro g9 hg9 w3 hbox9 hb9
  have H9 := Aside0.mk hbox9
  replace HS := Aside0.mk (HS.out.below hb9)
  replace HT := Aside0.mk (HT.out.trans (TK.of_below hb9))
  replace HR := Aside0.mk (Kd.R_below HR.out hb9)
  replace H8 := Aside0.mk (blk_below H8.out hb9)
  refine hK.out _ _ ⟨(hb9.cell (World.block_lt_of_cell? _ _ hHeld.1)).trans hHeld.1, (hb9.cell (World.block_lt_of_cell? _ _ hHeld.2)).trans hHeld.2⟩ (fun hHeld => ?_)
  clear hK K hg9 hbox9 hb9
  refine norm_ (a' := ?_) ?_ ?_
  rotate_left
  · show Act.put _ (some 56) _ = _
    simp only [Act.put, pA, pB, pC, i64_w, i32_w]
    rfl
  refine pure_ (i := 11) (N := some 9) (v := ?_) (a' := ?_) #[Y,Y,Y,Y,Y,Y,Y,Y,Y,Y,Y,Y] rfl rfl (any_of HT_.out (by kernel_rfl)) (fun _ _ _ h => h) (Or.inl ⟨by rfl, ?_⟩) ?_ ?_
  rotate_left
  · intro w'
    go_simp
    with_reducible rfl
  rotate_left
  · simp only [Act.put, pA, pB, pC, i64_w, i32_w]
    rfl
  refine done_ (done_of HT_.out (by kernel_rfl)) ?_
  obtain ⟨Af, hAf⟩ : ∃ Af : Option Addr, Af = (if cf = 1 then some ad else some ⟨ad.block, ad.off + 7, none⟩) := ⟨_, rfl⟩
  rw [← hAf] at H9 ⊢
  clear hAf hf0 hf1
  go_upto_region 7 with (fail)
  replace HS := Aside0.mk HS.out.drew
  replace HT := Aside0.mk (TK.drew HT.out)
  replace HR := Aside0.mk (Kd.R_drew HR.out)
  replace H8 := Aside0.mk (blk_drew H8.out)
  replace H9 := Aside0.mk (blk_drew H9.out)
  have hz11 : w3.drew.cell? ⟨g, 11, none⟩ = some (.slice AL locs.length cL) := (blk_cell HS.out.blk 11).trans rfl
  have h83 : w3.drew.cell? ⟨g8, 3, none⟩ = some (.string loc) := (blk_cell H8.out 3).trans rfl
  refine start_ (n := 9) (S := fun w' => w'.cell? ⟨g, 11, none⟩ = some (.slice AL locs.length cL) ∧ w'.cell? ⟨g8, 3, none⟩ = some (.string loc)) (ds := []) #[Z,Z,Z,Z,Z,Z,Z,Z,Z] (by kernel_rfl) rfl rfl ⟨hz11, h83⟩ (fun hHeld => ?_)
  refine with_tabW walk.tab7 walk.bits7 (fun HT_ HW_ => ?_)
  generalize World.drew _ = wC at HS HT HR H8 H9 hHeld ⊢
  refine pure_ (i := 0) (N := some 57) (v := ?_) (a' := ?_) #[Y,Z,Z,Z,Z,Z,Z,Z,Z] rfl rfl (any_of HT_.out (by kernel_rfl)) (fun _ _ _ h => h) (Or.inl ⟨by rfl, ?_⟩) ?_ ?_
  rotate_left
  · intro w'
    go_simp
    with_reducible rfl
  rotate_left
  · simp only [Act.put, pA, pB, pC, i64_w, i32_w]
    rfl
  refine pure_ (i := 1) (N := some 58) (v := ?_) (a' := ?_) #[Y,Y,Z,Z,Z,Z,Z,Z,Z] rfl rfl (any_of HT_.out (by kernel_rfl)) (fun _ _ _ h => h) (Or.inl ⟨by rfl, ?_⟩) ?_ ?_
  rotate_left
  · intro w'
    go_simp
    with_reducible rfl
  rotate_left
  · simp only [Act.put, pA, pB, pC, i64_w, i32_w]
    rfl
  refine pure_ (i := 2) (N := some 59) (v := ?_) (a' := ?_) #[Y,Y,Y,Z,Z,Z,Z,Z,Z] rfl rfl (any_of HT_.out (by kernel_rfl)) (fun _ _ _ h => h) (Or.inl ⟨by rfl, ?_⟩) ?_ ?_
  rotate_left
  · intro w'
    go_simp
    with_reducible rfl
  rotate_left
  · simp only [Act.put, pA, pB, pC, i64_w, i32_w]
    rfl
  refine pure_ (i := 3) (N := some 60) (v := ?_) (a' := ?_) #[Y,Y,Y,Y,Z,Z,Z,Z,Z] rfl rfl (any_of HT_.out (by kernel_rfl)) (fun _ _ _ h => h) (Or.inl ⟨by rfl, ?_⟩) ?_ ?_
  rotate_left
  · intro w'
    go_simp
    with_reducible rfl
  rotate_left
  · simp only [Act.put, pA, pB, pC, i64_w, i32_w]
    rfl
  refine take_ (i := 4) (N := some 61) (v := ?_) (a' := ?_) #[Y,Y,Y,Y,Y,Z,Z,Z,Z] rfl rfl (take_ofW HT_.out HW_.out (by kernel_rfl)) (fun _ _ _ h => h) (Or.inl ⟨by rfl, ?_⟩) hHeld ?_ ?_
  rotate_left
  · rintro w' ⟨s0, s1⟩
    go_simp
    with_reducible rfl
  rotate_left
  · simp only [Act.put, pA, pB, pC, i64_w, i32_w]
    rfl
  refine pure_ (i := 5) (N := some 62) (v := ?_) (a' := ?_) #[Y,Y,Y,Y,Y,Y,Z,Z,Z] rfl rfl (any_of HT_.out (by kernel_rfl)) (fun _ _ _ h => h) (Or.inl ⟨by rfl, ?_⟩) ?_ ?_
  rotate_left
  · intro w'
    go_simp
    with_reducible rfl
  rotate_left
  · simp only [Act.put, pA, pB, pC, i64_w, i32_w]
    rfl
  refine take_ (i := 6) (N := some 63) (v := ?_) (a' := ?_) #[Y,Y,Y,Y,Y,Y,Y,Z,Z] rfl rfl (take_ofW HT_.out HW_.out (by kernel_rfl)) (fun _ _ _ h => h) (Or.inl ⟨by rfl, ?_⟩) hHeld ?_ ?_
  rotate_left
  · rintro w' ⟨s0, s1⟩
    go_simp
    with_reducible rfl
  rotate_left
  · simp only [Act.put, pA, pB, pC, i64_w, i32_w]
    rfl
  refine one_ (i := 7) (N := some 64) #[Y,Y,Y,Y,Y,Y,Y,Y,Z] rfl rfl (one_of HT_.out (by kernel_rfl)) (by decide) (fun K hK => ?_)
  refine goes_ Tryd.func80 (by kernel_rfl) rfl #[.slice AL locs.length cL, .string loc] (by rfl) rfl rfl (by (try simp only [List.map_toArray, List.map_cons, List.map_nil]); first | done | rfl) ?_
  with_reducible refine (witheref9_Place.calls k _ _ locs loc lc _ (Kd.R_reads' HS.out.h1).2.2 (Kd.R_reads' HS.out.h1).2.1 hpl).mono ?_
  rintro e w4 ⟨rfl, ⟨nd, rfl⟩⟩
  refine ⟨_, rfl, ?_⟩
  refine hK.out _ _ hHeld (fun hHeld => ?_)
  clear hK K
  refine norm_ (a' := ?_) ?_ ?_
  rotate_left
  · show Act.put _ (some 64) _ = _
    simp only [Act.put, pA, pB, pC, i64_w, i32_w]
    rfl
  refine pure_ (i := 8) (N := some 10) (v := ?_) (a' := ?_) #[Y,Y,Y,Y,Y,Y,Y,Y,Y] rfl rfl (any_of HT_.out (by kernel_rfl)) (fun _ _ _ h => h) (Or.inl ⟨by rfl, ?_⟩) ?_ ?_
  rotate_left
  · intro w'
    go_simp
    with_reducible rfl
  rotate_left
  · simp only [Act.put, pA, pB, pC, i64_w, i32_w]
    rfl
  refine done_ (done_of HT_.out (by kernel_rfl)) ?_
  clear hz11 h83
  replace HS := Aside0.mk (HS.out.nd nd)
  replace HT := Aside0.mk (show TK w (wC.drewN nd) from HT.out)
  replace HR := Aside0.mk (Kd.R_drewN HR.out nd)
  replace H8 := Aside0.mk (blk_drewN H8.out nd)
  replace H9 := Aside0.mk (blk_drewN H9.out nd)
  generalize wC.drewN nd = wD at HS HT HR H8 H9 ⊢
  have hz1 : wD.cell? ⟨g, 1, none⟩ = some (.int .i64 2) := (blk_cell HS.out.blk 1).trans rfl
  have hz15 : wD.cell? ⟨g, 15, none⟩ = some (.bool false) := (blk_cell HS.out.blk 15).trans rfl
  have h80 : wD.cell? ⟨g8, 0, none⟩ = some (.int .i64 2) := (blk_cell H8.out 0).trans rfl
  have h82 : wD.cell? ⟨g8, 2, none⟩ = some (.string reg) := (blk_cell H8.out 2).trans rfl
  go_wp2
  refine wp_loop_rounds 3 ?_
  rw [rounds_succ]
  go_upto_region 12 with (fail)
  clear hz1 hz15 h80 h82
  replace HS := Aside0.mk HS.out.drew
  replace HT := Aside0.mk (TK.drew HT.out)
  replace HR := Aside0.mk (Kd.R_drew HR.out)
  replace H8 := Aside0.mk (blk_drew H8.out)
  replace H9 := Aside0.mk (blk_drew H9.out)
  have hz14 : wD.drew.cell? ⟨g, 14, none⟩ = some (.int .i64 th) := (blk_cell HS.out.blk 14).trans rfl
  have h81 : wD.drew.cell? ⟨g8, 1, none⟩ = some (.int .i64 m) := (blk_cell H8.out 1).trans rfl
  refine start_ (n := 13) (S := fun w' => w'.cell? ⟨g, 14, none⟩ = some (.int .i64 th) ∧ w'.cell? ⟨g8, 1, none⟩ = some (.int .i64 m)) (ds := []) #[Z,Z,Z,Z,Z,Z,Z,Z,Z,Z,Z,Z,Z] (by kernel_rfl) rfl rfl ⟨hz14, h81⟩ (fun hHeld => ?_)
  refine with_tabW walk.tab12 walk.bits12 (fun HT_ HW_ => ?_)
  generalize World.drew _ = wE0 at HS HT HR H8 H9 hHeld ⊢
  refine pure_ (i := 0) (N := some 83) (v := ?_) (a' := ?_) #[Y,Z,Z,Z,Z,Z,Z,Z,Z,Z,Z,Z,Z] rfl rfl (any_of HT_.out (by kernel_rfl)) (fun _ _ _ h => h) (Or.inl ⟨by rfl, ?_⟩) ?_ ?_
  rotate_left
  · intro w'
    go_simp
    with_reducible rfl
  rotate_left
  · simp only [Act.put, pA, pB, pC, i64_w, i32_w]
    rfl
  refine pure_ (i := 1) (N := some 84) (v := ?_) (a' := ?_) #[Y,Y,Z,Z,Z,Z,Z,Z,Z,Z,Z,Z,Z] rfl rfl (any_of HT_.out (by kernel_rfl)) (fun _ _ _ h => h) (Or.inl ⟨by rfl, ?_⟩) ?_ ?_
  rotate_left
  · intro w'
    go_simp
    with_reducible rfl
  rotate_left
  · simp only [Act.put, pA, pB, pC, i64_w, i32_w]
    rfl
  refine pure_ (i := 2) (N := some 85) (v := ?_) (a' := ?_) #[Y,Y,Y,Z,Z,Z,Z,Z,Z,Z,Z,Z,Z] rfl rfl (any_of HT_.out (by kernel_rfl)) (fun _ _ _ h => h) (Or.inl ⟨by rfl, ?_⟩) ?_ ?_
  rotate_left
  · intro w'
    go_simp
    with_reducible rfl
  rotate_left
  · simp only [Act.put, pA, pB, pC, i64_w, i32_w]
    rfl
  refine pure_ (i := 3) (N := some 86) (v := ?_) (a' := ?_) #[Y,Y,Y,Y,Z,Z,Z,Z,Z,Z,Z,Z,Z] rfl rfl (any_of HT_.out (by kernel_rfl)) (fun _ _ _ h => h) (Or.inl ⟨by rfl, ?_⟩) ?_ ?_
  rotate_left
  · intro w'
    go_simp
    with_reducible rfl
  rotate_left
  · simp only [Act.put, pA, pB, pC, i64_w, i32_w]
    rfl
  refine take_ (i := 4) (N := some 87) (v := ?_) (a' := ?_) #[Y,Y,Y,Y,Y,Z,Z,Z,Z,Z,Z,Z,Z] rfl rfl (take_ofW HT_.out HW_.out (by kernel_rfl)) (fun _ _ _ h => h) (Or.inl ⟨by rfl, ?_⟩) hHeld ?_ ?_
  rotate_left
  · rintro w' ⟨s0, s1⟩
    go_simp
    with_reducible rfl
  rotate_left
  · simp only [Act.put, pA, pB, pC, i64_w, i32_w]
    rfl
  refine pure_ (i := 5) (N := some 88) (v := ?_) (a' := ?_) #[Y,Y,Y,Y,Y,Y,Z,Z,Z,Z,Z,Z,Z] rfl rfl (any_of HT_.out (by kernel_rfl)) (fun _ _ _ h => h) (Or.inl ⟨by rfl, ?_⟩) ?_ ?_
  rotate_left
  · intro w'
    go_simp
    with_reducible rfl
  rotate_left
  · simp only [Act.put, pA, pB, pC, i64_w, i32_w]
    rfl
  refine pure_ (i := 6) (N := some 89) (v := ?_) (a' := ?_) #[Y,Y,Y,Y,Y,Y,Y,Z,Z,Z,Z,Z,Z] rfl rfl (any_of HT_.out (by kernel_rfl)) (fun _ _ _ h => h) (Or.inl ⟨by rfl, ?_⟩) ?_ ?_
  rotate_left
  · intro w'
    go_simp
    with_reducible rfl
  rotate_left
  · simp only [Act.put, pA, pB, pC, i64_w, i32_w]
    rfl
  refine pure_ (i := 7) (N := some 90) (v := ?_) (a' := ?_) #[Y,Y,Y,Y,Y,Y,Y,Y,Z,Z,Z,Z,Z] rfl rfl (any_of HT_.out (by kernel_rfl)) (fun _ _ _ h => h) (Or.inl ⟨by rfl, ?_⟩) ?_ ?_
  rotate_left
  · intro w'
    go_simp
    with_reducible rfl
  rotate_left
  · simp only [Act.put, pA, pB, pC, i64_w, i32_w]
    rfl
  refine take_ (i := 8) (N := some 91) (v := ?_) (a' := ?_) #[Y,Y,Y,Y,Y,Y,Y,Y,Y,Z,Z,Z,Z] rfl rfl (take_ofW HT_.out HW_.out (by kernel_rfl)) (fun _ _ _ h => h) (Or.inl ⟨by rfl, ?_⟩) hHeld ?_ ?_
  rotate_left
  · rintro w' ⟨s0, s1⟩
    go_simp
    with_reducible rfl
  rotate_left
  · simp only [Act.put, pA, pB, pC, i64_w, i32_w]
    rfl
  refine pure_ (i := 9) (N := some 92) (v := ?_) (a' := ?_) #[Y,Y,Y,Y,Y,Y,Y,Y,Y,Y,Z,Z,Z] rfl rfl (any_of HT_.out (by kernel_rfl)) (fun _ _ _ h => h) (Or.inl ⟨by rfl, ?_⟩) ?_ ?_
  rotate_left
  · intro w'
    go_simp
    with_reducible rfl
  rotate_left
  · simp only [Act.put, pA, pB, pC, i64_w, i32_w]
    rfl
  refine pure_ (i := 10) (N := some 93) (v := ?_) (a' := ?_) #[Y,Y,Y,Y,Y,Y,Y,Y,Y,Y,Y,Z,Z] rfl rfl (any_of HT_.out (by kernel_rfl)) (fun _ _ _ h => h) (Or.inl ⟨by rfl, ?_⟩) ?_ ?_
  rotate_left
  · intro w'
    go_simp
    with_reducible rfl
  rotate_left
  · simp only [Act.put, pA, pB, pC, i64_w, i32_w]
    rfl
  refine one_ (i := 11) (N := some 94) #[Y,Y,Y,Y,Y,Y,Y,Y,Y,Y,Y,Y,Z] rfl rfl (one_of HT_.out (by kernel_rfl)) (by decide) (fun K hK => ?_)
  refine goes_ Tryd.func55 (by kernel_rfl) rfl #[.pointer (some ⟨g, 0, none⟩), nodeV (⟨th, i, 2, lc, m, 0, false, false, []⟩ : S53)] (by rfl) rfl rfl (by (try simp only [List.map_toArray, List.map_cons, List.map_nil]); first | done | rfl) ?_
  with_reducible refine (put_ok (⟨th, i, 2, lc, m, 0, false, false, []⟩ : S53) rfl (by omega) HS.out).mono ?_
  rintro e w10 ⟨u0, rfl, hh, kk⟩
  refine ⟨_, rfl, ?_⟩
  replace HS := Aside0.mk hh
  replace HT := Aside0.mk (HT.out.trans kk)
  replace HR := Aside0.mk (R_tk HR.out kk)
  replace H8 := Aside0.mk (kk.blk H8.out (by decide) (by decide))
  replace H9 := Aside0.mk (kk.blk H9.out (by decide) (by decide))
  clear hh kk
  refine hK.out _ _ ⟨(blk_cell HS.out.blk 14).trans rfl, (blk_cell H8.out 1).trans rfl⟩ (fun hHeld => ?_)
  clear hK K
  refine norm_ (a' := ?_) ?_ ?_
  rotate_left
  · show Act.put _ (some 94) _ = _
    simp only [Act.put, pA, pB, pC, i64_w, i32_w]
    rfl
  refine pure_ (i := 12) (N := some 14) (v := ?_) (a' := ?_) #[Y,Y,Y,Y,Y,Y,Y,Y,Y,Y,Y,Y,Y] rfl rfl (any_of HT_.out (by kernel_rfl)) (fun _ _ _ h => h) (Or.inl ⟨by rfl, ?_⟩) ?_ ?_
  rotate_left
  · intro w'
    go_simp
    with_reducible rfl
  rotate_left
  · simp only [Act.put, pA, pB, pC, i64_w, i32_w]
    rfl
  refine done_ (done_of HT_.out (by kernel_rfl)) ?_
  clear hz14 h81
  have hz1 : w10.cell? ⟨g, 1, none⟩ = some (.int .i64 2) := (blk_cell HS.out.blk 1).trans rfl
  have hz15 : w10.cell? ⟨g, 15, none⟩ = some (.bool false) := (blk_cell HS.out.blk 15).trans rfl
  have h80 : w10.cell? ⟨g8, 0, none⟩ = some (.int .i64 2) := (blk_cell H8.out 0).trans rfl
  have h82 : w10.cell? ⟨g8, 2, none⟩ = some (.string reg) := (blk_cell H8.out 2).trans rfl
  go_wp2_with (fail)
  (with_reducible refine (set_calls k A c rs (Kd.R_reads' HR.out).2.2 (Kd.R_reads' HR.out).2.1 hl reg 0 j ht0 ht1 hpr hj0 hj1 HS.out).mono ?_)
  rintro e w20 ⟨x0, rfl, hh, bb⟩
  obtain ⟨r0, hr0⟩ : ∃ l : List Int, l = rs.set j.toNat 0 := ⟨_, rfl⟩
  rw [← hr0] at hh
  obtain ⟨B0, d0, rfl⟩ := Kd.R_slice hh
  have hlen0 : r0.length ≤ 64 := Nat.le_trans (Nat.le_of_eq ((congrArg List.length hr0).trans (List.length_set ..))) hl
  have Hr0 := Aside0.mk hr0
  clear hr0
  have HV := Aside0.mk (Kd.R_lower hh (below_size HS.out.hB)) 
  replace HS := Aside0.mk (HS.out.below bb)
  replace HT := Aside0.mk (HT.out.trans (TK.of_below bb))
  replace HR := Aside0.mk (Kd.R_below HR.out bb)
  replace H8 := Aside0.mk (blk_below H8.out bb)
  replace H9 := Aside0.mk (blk_below H9.out bb)
  clear hh bb hz1 hz15 h80 h82
  go_wp2_with (fail)
  (with_reducible refine (walk_end g9 Af (cf - 1) H9.out B0 d0 r0 HV.out hlen0 (nodes.length : Int) (by omega) (by simp; omega) HS.out).mono ?_)
  rintro e w40 ⟨rfl, hh, kk⟩
  rw [rd_last, set_last] at hh
  replace HS := Aside0.mk hh
  replace HT := Aside0.mk (HT.out.trans kk)
  replace HR := Aside0.mk (R_tk HR.out kk)
  replace H8 := Aside0.mk (kk.blk H8.out (by decide) (by decide))
  replace H9 := Aside0.mk (kk.blk H9.out (by decide) (by decide))
  clear hh kk HV
  have hz1 : w40.cell? ⟨g, 1, none⟩ = some (.int .i64 2) := (blk_cell HS.out.blk 1).trans rfl
  have hz15 : w40.cell? ⟨g, 15, none⟩ = some (.bool false) := (blk_cell HS.out.blk 15).trans rfl
  have h80 : w40.cell? ⟨g8, 0, none⟩ = some (.int .i64 2) := (blk_cell H8.out 0).trans rfl
  have h82 : w40.cell? ⟨g8, 2, none⟩ = some (.string reg) := (blk_cell H8.out 2).trans rfl
  go_wp2
  rw [rounds_succ]
  obtain ⟨ns1, hns1⟩ : ∃ l : List S53, l = nodes ++ [⟨th, i, 2, lc, m, 0, false, true, r0⟩] := ⟨_, rfl⟩
  have hnl0 : ns1.length = nodes.length + 1 := by rw [hns1]; simp
  have hnl : ns1.length + 1 ≤ 64 := by omega
  clear hnl0
  have HS9 := HS.out
  rw [← hns1] at HS9
  replace HS := Aside0.mk HS9
  clear HS9
  have Hns1 := Aside0.mk hns1
  clear hns1
  go_upto_region 12 with (fail)
  clear hz1 hz15 h80 h82
  replace HS := Aside0.mk HS.out.drew
  replace HT := Aside0.mk (TK.drew HT.out)
  replace HR := Aside0.mk (Kd.R_drew HR.out)
  replace H8 := Aside0.mk (blk_drew H8.out)
  replace H9 := Aside0.mk (blk_drew H9.out)
  have hz14 : w40.drew.cell? ⟨g, 14, none⟩ = some (.int .i64 th) := (blk_cell HS.out.blk 14).trans rfl
  have h81 : w40.drew.cell? ⟨g8, 1, none⟩ = some (.int .i64 m) := (blk_cell H8.out 1).trans rfl
  refine start_ (n := 13) (S := fun w' => w'.cell? ⟨g, 14, none⟩ = some (.int .i64 th) ∧ w'.cell? ⟨g8, 1, none⟩ = some (.int .i64 m)) (ds := []) #[Z,Z,Z,Z,Z,Z,Z,Z,Z,Z,Z,Z,Z] (by kernel_rfl) rfl rfl ⟨hz14, h81⟩ (fun hHeld => ?_)
  refine with_tabW walk.tab12 walk.bits12 (fun HT_ HW_ => ?_)
  generalize World.drew _ = wE1 at HS HT HR H8 H9 hHeld ⊢
  refine pure_ (i := 0) (N := some 83) (v := ?_) (a' := ?_) #[Y,Z,Z,Z,Z,Z,Z,Z,Z,Z,Z,Z,Z] rfl rfl (any_of HT_.out (by kernel_rfl)) (fun _ _ _ h => h) (Or.inl ⟨by rfl, ?_⟩) ?_ ?_
  rotate_left
  · intro w'
    go_simp
    with_reducible rfl
  rotate_left
  · simp only [Act.put, pA, pB, pC, i64_w, i32_w]
    rfl
  refine pure_ (i := 1) (N := some 84) (v := ?_) (a' := ?_) #[Y,Y,Z,Z,Z,Z,Z,Z,Z,Z,Z,Z,Z] rfl rfl (any_of HT_.out (by kernel_rfl)) (fun _ _ _ h => h) (Or.inl ⟨by rfl, ?_⟩) ?_ ?_
  rotate_left
  · intro w'
    go_simp
    with_reducible rfl
  rotate_left
  · simp only [Act.put, pA, pB, pC, i64_w, i32_w]
    rfl
  refine pure_ (i := 2) (N := some 85) (v := ?_) (a' := ?_) #[Y,Y,Y,Z,Z,Z,Z,Z,Z,Z,Z,Z,Z] rfl rfl (any_of HT_.out (by kernel_rfl)) (fun _ _ _ h => h) (Or.inl ⟨by rfl, ?_⟩) ?_ ?_
  rotate_left
  · intro w'
    go_simp
    with_reducible rfl
  rotate_left
  · simp only [Act.put, pA, pB, pC, i64_w, i32_w]
    rfl
  refine pure_ (i := 3) (N := some 86) (v := ?_) (a' := ?_) #[Y,Y,Y,Y,Z,Z,Z,Z,Z,Z,Z,Z,Z] rfl rfl (any_of HT_.out (by kernel_rfl)) (fun _ _ _ h => h) (Or.inl ⟨by rfl, ?_⟩) ?_ ?_
  rotate_left
  · intro w'
    go_simp
    with_reducible rfl
  rotate_left
  · simp only [Act.put, pA, pB, pC, i64_w, i32_w]
    rfl
  refine take_ (i := 4) (N := some 87) (v := ?_) (a' := ?_) #[Y,Y,Y,Y,Y,Z,Z,Z,Z,Z,Z,Z,Z] rfl rfl (take_ofW HT_.out HW_.out (by kernel_rfl)) (fun _ _ _ h => h) (Or.inl ⟨by rfl, ?_⟩) hHeld ?_ ?_
  rotate_left
  · rintro w' ⟨s0, s1⟩
    go_simp
    with_reducible rfl
  rotate_left
  · simp only [Act.put, pA, pB, pC, i64_w, i32_w]
    rfl
  refine pure_ (i := 5) (N := some 88) (v := ?_) (a' := ?_) #[Y,Y,Y,Y,Y,Y,Z,Z,Z,Z,Z,Z,Z] rfl rfl (any_of HT_.out (by kernel_rfl)) (fun _ _ _ h => h) (Or.inl ⟨by rfl, ?_⟩) ?_ ?_
  rotate_left
  · intro w'
    go_simp
    with_reducible rfl
  rotate_left
  · simp only [Act.put, pA, pB, pC, i64_w, i32_w]
    rfl
  refine pure_ (i := 6) (N := some 89) (v := ?_) (a' := ?_) #[Y,Y,Y,Y,Y,Y,Y,Z,Z,Z,Z,Z,Z] rfl rfl (any_of HT_.out (by kernel_rfl)) (fun _ _ _ h => h) (Or.inl ⟨by rfl, ?_⟩) ?_ ?_
  rotate_left
  · intro w'
    go_simp
    with_reducible rfl
  rotate_left
  · simp only [Act.put, pA, pB, pC, i64_w, i32_w]
    rfl
  refine pure_ (i := 7) (N := some 90) (v := ?_) (a' := ?_) #[Y,Y,Y,Y,Y,Y,Y,Y,Z,Z,Z,Z,Z] rfl rfl (any_of HT_.out (by kernel_rfl)) (fun _ _ _ h => h) (Or.inl ⟨by rfl, ?_⟩) ?_ ?_
  rotate_left
  · intro w'
    go_simp
    with_reducible rfl
  rotate_left
  · simp only [Act.put, pA, pB, pC, i64_w, i32_w]
    rfl
  refine take_ (i := 8) (N := some 91) (v := ?_) (a' := ?_) #[Y,Y,Y,Y,Y,Y,Y,Y,Y,Z,Z,Z,Z] rfl rfl (take_ofW HT_.out HW_.out (by kernel_rfl)) (fun _ _ _ h => h) (Or.inl ⟨by rfl, ?_⟩) hHeld ?_ ?_
  rotate_left
  · rintro w' ⟨s0, s1⟩
    go_simp
    with_reducible rfl
  rotate_left
  · simp only [Act.put, pA, pB, pC, i64_w, i32_w]
    rfl
  refine pure_ (i := 9) (N := some 92) (v := ?_) (a' := ?_) #[Y,Y,Y,Y,Y,Y,Y,Y,Y,Y,Z,Z,Z] rfl rfl (any_of HT_.out (by kernel_rfl)) (fun _ _ _ h => h) (Or.inl ⟨by rfl, ?_⟩) ?_ ?_
  rotate_left
  · intro w'
    go_simp
    with_reducible rfl
  rotate_left
  · simp only [Act.put, pA, pB, pC, i64_w, i32_w]
    rfl
  refine pure_ (i := 10) (N := some 93) (v := ?_) (a' := ?_) #[Y,Y,Y,Y,Y,Y,Y,Y,Y,Y,Y,Z,Z] rfl rfl (any_of HT_.out (by kernel_rfl)) (fun _ _ _ h => h) (Or.inl ⟨by rfl, ?_⟩) ?_ ?_
  rotate_left
  · intro w'
    go_simp
    with_reducible rfl
  rotate_left
  · simp only [Act.put, pA, pB, pC, i64_w, i32_w]
    rfl
  refine one_ (i := 11) (N := some 94) #[Y,Y,Y,Y,Y,Y,Y,Y,Y,Y,Y,Y,Z] rfl rfl (one_of HT_.out (by kernel_rfl)) (by decide) (fun K hK => ?_)
  refine goes_ Tryd.func55 (by kernel_rfl) rfl #[.pointer (some ⟨g, 0, none⟩), nodeV (⟨th, i, 2, lc, m, 1, false, false, []⟩ : S53)] (by rfl) rfl rfl (by (try simp only [List.map_toArray, List.map_cons, List.map_nil]); first | done | rfl) ?_
  with_reducible refine (put_ok (⟨th, i, 2, lc, m, 1, false, false, []⟩ : S53) rfl (by omega) HS.out).mono ?_
  rintro e w11 ⟨u1, rfl, hh, kk⟩
  refine ⟨_, rfl, ?_⟩
  replace HS := Aside0.mk hh
  replace HT := Aside0.mk (HT.out.trans kk)
  replace HR := Aside0.mk (R_tk HR.out kk)
  replace H8 := Aside0.mk (kk.blk H8.out (by decide) (by decide))
  replace H9 := Aside0.mk (kk.blk H9.out (by decide) (by decide))
  clear hh kk
  refine hK.out _ _ ⟨(blk_cell HS.out.blk 14).trans rfl, (blk_cell H8.out 1).trans rfl⟩ (fun hHeld => ?_)
  clear hK K
  refine norm_ (a' := ?_) ?_ ?_
  rotate_left
  · show Act.put _ (some 94) _ = _
    simp only [Act.put, pA, pB, pC, i64_w, i32_w]
    rfl
  refine pure_ (i := 12) (N := some 14) (v := ?_) (a' := ?_) #[Y,Y,Y,Y,Y,Y,Y,Y,Y,Y,Y,Y,Y] rfl rfl (any_of HT_.out (by kernel_rfl)) (fun _ _ _ h => h) (Or.inl ⟨by rfl, ?_⟩) ?_ ?_
  rotate_left
  · intro w'
    go_simp
    with_reducible rfl
  rotate_left
  · simp only [Act.put, pA, pB, pC, i64_w, i32_w]
    rfl
  refine done_ (done_of HT_.out (by kernel_rfl)) ?_
  clear hz14 h81
  have hz1 : w11.cell? ⟨g, 1, none⟩ = some (.int .i64 2) := (blk_cell HS.out.blk 1).trans rfl
  have hz15 : w11.cell? ⟨g, 15, none⟩ = some (.bool false) := (blk_cell HS.out.blk 15).trans rfl
  have h80 : w11.cell? ⟨g8, 0, none⟩ = some (.int .i64 2) := (blk_cell H8.out 0).trans rfl
  have h82 : w11.cell? ⟨g8, 2, none⟩ = some (.string reg) := (blk_cell H8.out 2).trans rfl
  go_wp2_with (fail)
  (with_reducible refine (set_calls k A c rs (Kd.R_reads' HR.out).2.2 (Kd.R_reads' HR.out).2.1 hl reg 1 j ht0 ht1 hpr hj0 hj1 HS.out).mono ?_)
  rintro e w21 ⟨x1, rfl, hh, bb⟩
  obtain ⟨r1, hr1⟩ : ∃ l : List Int, l = rs.set j.toNat 1 := ⟨_, rfl⟩
  rw [← hr1] at hh
  obtain ⟨B1, d1, rfl⟩ := Kd.R_slice hh
  have hlen1 : r1.length ≤ 64 := Nat.le_trans (Nat.le_of_eq ((congrArg List.length hr1).trans (List.length_set ..))) hl
  have Hr1 := Aside0.mk hr1
  clear hr1
  have HV := Aside0.mk (Kd.R_lower hh (below_size HS.out.hB)) 
  replace HS := Aside0.mk (HS.out.below bb)
  replace HT := Aside0.mk (HT.out.trans (TK.of_below bb))
  replace HR := Aside0.mk (Kd.R_below HR.out bb)
  replace H8 := Aside0.mk (blk_below H8.out bb)
  replace H9 := Aside0.mk (blk_below H9.out bb)
  clear hh bb hz1 hz15 h80 h82
  go_wp2_with (fail)
  (with_reducible refine (walk_end g9 Af (cf - 1) H9.out B1 d1 r1 HV.out hlen1 (ns1.length : Int) (by omega) (by simp; omega) HS.out).mono ?_)
  rintro e w41 ⟨rfl, hh, kk⟩
  rw [rd_last, set_last] at hh
  replace HS := Aside0.mk hh
  replace HT := Aside0.mk (HT.out.trans kk)
  replace HR := Aside0.mk (R_tk HR.out kk)
  replace H8 := Aside0.mk (kk.blk H8.out (by decide) (by decide))
  replace H9 := Aside0.mk (kk.blk H9.out (by decide) (by decide))
  clear hh kk HV
  have hz1 : w41.cell? ⟨g, 1, none⟩ = some (.int .i64 2) := (blk_cell HS.out.blk 1).trans rfl
  have hz15 : w41.cell? ⟨g, 15, none⟩ = some (.bool false) := (blk_cell HS.out.blk 15).trans rfl
  have h80 : w41.cell? ⟨g8, 0, none⟩ = some (.int .i64 2) := (blk_cell H8.out 0).trans rfl
  have h82 : w41.cell? ⟨g8, 2, none⟩ = some (.string reg) := (blk_cell H8.out 2).trans rfl
  go_wp2
  rw [rounds_succ]
  go_wp2
  first | go_end0 | ((try simp only [Exit.inBlock, Exit.then]); refine bodyPost_ret (results_none rfl _ _ _) rfl ?_)
  have H := HS.out
  rw [Hr1.out, Hns1.out, Hr0.out, List.append_assoc] at H
  exact ⟨_, rfl, H, HT.out⟩
end Go.Proofs.YtlpdcdkjmcpfdaaDoor.PT
