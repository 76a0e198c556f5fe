/- The builder's end (witheref12), walked by hand. -/
import Derived.Test.YtlpdcdkjmcpfdaaDoorTC
namespace Go.Proofs.YtlpdcdkjmcpfdaaDoor.PT
open Go.RowKit Go.Proofs.YtlpdcdkjmcpfdaaDoorW.PrintWords Go.Proofs.YtlpdcdkjmcpfdaaDoorW.PrintLast Go.Proofs.YtlpdcdkjmcpfdaaDoorW.PrintMore
set_option linter.unusedVariables false
set_option linter.unusedSimpArgs false
attribute [local go_sem] cell_set_some
variable {w0 w w' : World} {c0 c1 c2 c3 c4 c5 c6 c7 c8 c9 : Value} {g : Nat} {vals : Int} {locs : List ByteArray} {regs : List (List ByteArray)} {nodes : List S53} {th : Int} {lg : Bool} {v1 v2 v3 : Value}
def end_.T1 : Bool × List (List Nat × List Nat) := (true, [([], []), ([0], [0]), ([1], [1]), ([2], [2]), ([3], [3]), ([], []), ([], []), ([], []), ([6, 7], [6, 7]), ([4, 5, 0, 1, 2, 3, 4, 5, 6, 7, 8], [4, 5]), ([9, 0, 1, 2, 3, 4, 5, 6, 7, 8], [9]), ([10, 8, 8, 0, 1, 2, 3, 4, 5, 6, 7, 8], [8, 10])])
def end_.B1 : List Nat := [0, 1, 3, 7, 15, 0, 0, 0, 192, 511, 1023, 2047]
theorem end_.tab1 : rtab .any (opsOf Tryd.f79 1) = end_.T1 := by kernel_rfl
theorem end_.bits1 : waitsOk end_.T1.2 end_.B1 = true := by kernel_rfl
theorem BS.node (h : BS w0 c0 c1 c2 c3 c4 c5 c6 c7 c8 c9 w g vals locs regs nodes th lg v1 v2 v3) {gn j : Nat} {cs : Array Value} {u : Value} {nodes' : List S53} (hbn : w.heap[gn]? = some (.cells cs 53 (0, 0)))
    (hge : w0.heap.size ≤ gn) (hS : Kd.S k53 53 (w.setCell ⟨gn, j, none⟩ u) w0.heap.size (fun _ => True) v3 nodes') : BS w0 c0 c1 c2 c3 c4 c5 c6 c7 c8 c9 (w.setCell ⟨gn, j, none⟩ u) g vals locs regs nodes' th lg v1 v2 v3 where
  blk := by
    rw [Below.heap_setCell w ⟨gn, j, none⟩ u g (blk_ne h.blk hbn (by decide))]
    exact h.blk
  h1 := Kd.R_set h.h1 hbn (by decide) j u
  h2 := Kd.S_set h.h2 hbn (by decide) j u
  h3 := hS
  hB := below_set h.hB hge
  hg := h.hg
theorem R_tk {base : Nat} {v : Value} {xs : List Int} (h : Kd.R (Kd.int .i64) 3 w base (fun _ => True) v xs) (k : TK w w') : Kd.R (Kd.int .i64) 3 w' base (fun _ => True) v xs :=
  Kd.R_mono (Kd.R_step (Kd.R_tight rfl h) (fun k1 e _ => by
    obtain ⟨cs, a⟩ := Kd.R_typed h k1 e.symm
    rw [a]
    exact k.2 k1 cs 3 a (by decide) (by decide))) (fun _ _ => trivial)
theorem sz53 : k53.sz = 9 := rfl
set_option maxHeartbeats 8000000 in
set_option maxRecDepth 100000 in
theorem end_calls (A : Option Addr) (c : Nat) (rs : List Int) (hr : Kd.R (Kd.int .i64) 3 w w0.heap.size (fun _ => True) (.slice A rs.length c) rs) (hl : rs.length ≤ 64) (i : Int) (hi0 : 0 ≤ i) (hi1 : i < (nodes.length : Int)) (h : BS w0 c0 c1 c2 c3 c4 c5 c6 c7 c8 c9 w g vals locs regs nodes th lg v1 v2 v3) :
    Calls Tryd.prog 79 #[.pointer (some ⟨g, 0, none⟩), .int .i64 i, .slice A rs.length c] w fun e w' => e = .returned (.tuple #[]) ∧
      BS w0 c0 c1 c2 c3 c4 c5 c6 c7 c8 c9 w' g vals locs regs (nodes.set i.toNat { rd_T53 nodes i with f7 := true, f8 := rs }) th lg v1 v2 v3 ∧ TK w w' := by
  obtain ⟨gn, capn, rfl, hgn, hgl, cells, hbn⟩ := Kd.S_form h.h3 (by omega)
  obtain ⟨oki, cs, hcl, hM, hcc, hfr, hoki, hH⟩ := Kd.S_elem h.h3 z53 i hi0 hi1
  obtain ⟨v8, rfl, hv8⟩ := k53_openM hM
  have hu88 := Tryd.underlying88
  have hu28 := Tryd.underlying28
  have hu53 := Tryd.underlying53
  have HS := Aside0.mk h
  have HR := Aside0.mk hr
  have hz13 : w.cell? ⟨g, 13, none⟩ = some (.slice (some ⟨gn, 0, none⟩) nodes.length capn) := (blk_cell h.blk 13).trans rfl
  have p0 := eq_true hi0
  have p1 : (i < (nodes.length : Int)) = True := eq_true hi1
  have hs7 := hcc 7 _ rfl
  have hf7 := hfr 7
  rw [sz53] at hs7 hf7
  have hS1 := (Kd.S_seg0 hH hi0 hi1 (seg := [.bool true]) (j := 7) (by decide) (x' := { rd_T53 nodes i with f7 := true }) (okp := oki) (k53_mkM w w0.heap.size oki { rd_T53 nodes i with f7 := true } hv8) (fun _ hk => hk)).1
  rw [sz53] at hS1
  have HS1 := Aside0.mk (BS.node (j := i.toNat * 9 + 7) (u := .bool true) HS.out hbn hgn hS1)
  have HT := Aside0.mk ((TK.refl w).set (j := i.toNat * 9 + 7) hbn (Or.inr rfl) (.bool true))
  have HR1 := Aside0.mk (R_tk HR.out HT.out)
  clear hH hcc hfr h hr hS1
  have eg : (nodes.set i.toNat { rd_T53 nodes i with f7 := true }).getD i.toNat z53 = { rd_T53 nodes i with f7 := true } := by
    have : i.toNat < nodes.length := by omega
    simp [List.getD, this]
  go_enter Tryd.func79, Tryd.ntmps79
  go_upto_region 1 with (fail)
  clear HS HR hs7 hf7 hz13
  generalize w.setCell ⟨gn, i.toNat * 9 + 7, none⟩ (.bool true) = wA at HS1 HT HR1 ⊢
  replace HS1 := Aside0.mk HS1.out.drew
  replace HT := Aside0.mk (TK.drew HT.out)
  replace HR1 := Aside0.mk (Kd.R_drew HR1.out)
  have hz13 : wA.drew.cell? ⟨g, 13, none⟩ = some (.slice (some ⟨gn, 0, none⟩) nodes.length capn) := (blk_cell HS1.out.blk 13).trans rfl
  refine start_ (n := 12) (S := fun w' => w'.cell? ⟨g, 13, none⟩ = some (.slice (some ⟨gn, 0, none⟩) nodes.length capn)) (ds := [11]) #[Z,Z,Z,Z,Z,Z,Z,Z,Z,Z,Z,Z] (by kernel_rfl) rfl rfl hz13 (fun hHeld => ?_)
  refine with_tabW end_.tab1 end_.bits1 (fun HT_ HW_ => ?_)
  generalize World.drew _ = wd at HS1 HT HR1 hz13 hHeld ⊢
  refine pure_ (i := 0) (N := some 14) (v := ?_) (a' := ?_) #[Y,Z,Z,Z,Z,Z,Z,Z,Z,Z,Z,Z] rfl rfl (any_of HT_.out (by kernel_rfl)) (fun _ _ _ h => h) (Or.inl ⟨by rfl, ?_⟩) ?_ ?_
  rotate_left
  · intro w'
    go_simp
    with_reducible rfl
  rotate_left
  · simp only [Act.put, pA, pB, pC, i64_w, i32_w]
    rfl
  refine pure_ (i := 1) (N := some 15) (v := ?_) (a' := ?_) #[Y,Y,Z,Z,Z,Z,Z,Z,Z,Z,Z,Z] rfl rfl (any_of HT_.out (by kernel_rfl)) (fun _ _ _ h => h) (Or.inl ⟨by rfl, ?_⟩) ?_ ?_
  rotate_left
  · intro w'
    go_simp
    with_reducible rfl
  rotate_left
  · simp only [Act.put, pA, pB, pC, i64_w, i32_w]
    rfl
  refine pure_ (i := 2) (N := some 16) (v := ?_) (a' := ?_) #[Y,Y,Y,Z,Z,Z,Z,Z,Z,Z,Z,Z] rfl rfl (any_of HT_.out (by kernel_rfl)) (fun _ _ _ h => h) (Or.inl ⟨by rfl, ?_⟩) ?_ ?_
  rotate_left
  · intro w'
    go_simp
    with_reducible rfl
  rotate_left
  · simp only [Act.put, pA, pB, pC, i64_w, i32_w]
    rfl
  refine pure_ (i := 3) (N := some 17) (v := ?_) (a' := ?_) #[Y,Y,Y,Y,Z,Z,Z,Z,Z,Z,Z,Z] rfl rfl (any_of HT_.out (by kernel_rfl)) (fun _ _ _ h => h) (Or.inl ⟨by rfl, ?_⟩) ?_ ?_
  rotate_left
  · intro w'
    go_simp
    with_reducible rfl
  rotate_left
  · simp only [Act.put, pA, pB, pC, i64_w, i32_w]
    rfl
  refine take_ (i := 4) (N := some 18) (v := ?_) (a' := ?_) #[Y,Y,Y,Y,Y,Z,Z,Z,Z,Z,Z,Z] rfl rfl (take_ofW HT_.out HW_.out (by kernel_rfl)) (fun _ _ _ h => h) (Or.inl ⟨by rfl, ?_⟩) hHeld ?_ ?_
  rotate_left
  · rintro w' s0
    go_simp
    with_reducible rfl
  rotate_left
  · simp only [Act.put, pA, pB, pC, i64_w, i32_w]
    rfl
  refine pure_ (i := 5) (N := some 19) (v := ?_) (a' := ?_) #[Y,Y,Y,Y,Y,Y,Z,Z,Z,Z,Z,Z] rfl rfl (any_of HT_.out (by kernel_rfl)) (fun _ _ _ h => h) (Or.inl ⟨by rfl, ?_⟩) ?_ ?_
  rotate_left
  · intro w'
    go_simp
    with_reducible rfl
  rotate_left
  · simp only [Act.put, pA, pB, pC, i64_w, i32_w]
    rfl
  refine pure_ (i := 7) (N := some 21) (v := ?_) (a' := ?_) #[Y,Y,Y,Y,Y,Y,Z,Y,Z,Z,Z,Z] rfl rfl (any_of HT_.out (by kernel_rfl)) (fun _ _ _ h => h) (Or.inl ⟨by rfl, ?_⟩) ?_ ?_
  rotate_left
  · intro w'
    go_simp
    with_reducible rfl
  rotate_left
  · simp only [Act.put, pA, pB, pC, i64_w, i32_w]
    rfl
  refine one_ (i := 6) (N := some 20) #[Y,Y,Y,Y,Y,Y,Y,Y,Z,Z,Z,Z] rfl rfl (one_of HT_.out (by kernel_rfl)) (by decide) (fun K hK => ?_)
  refine Kd.R_lit_step (Kd.int .i64) (w0 := wd) wd.heap.size 3 (by rfl) (N := 20) rfl (xs := ([] : List Int)) (inner := []) (ok := fun _ => True) (okp := fun _ => True) ?hr (Reps.none _ _) (fun _ hk => hk) trivial (Below.refl _ _) (Nat.le_refl _) (by decide) ?_
  (case hr => first | (go_simp; done) | (go_simp; rfl))
  intro vl w1 q1 q2 q3 _
  refine hK.out _ _ ((q2.cell (World.block_lt_of_cell? _ _ hHeld)).trans hHeld) (fun hHeld => ?_)
  clear hK K
  refine norm_ (a' := ?_) ?_ ?_
  rotate_left
  · show Act.put _ (some 20) _ = _
    simp only [Act.put, pA, pB, pC, i64_w, i32_w]
    rfl
  refine one_ (i := 8) (N := some 22) #[Y,Y,Y,Y,Y,Y,Y,Y,Y,Z,Z,Z] rfl rfl (one_of HT_.out (by kernel_rfl)) (by decide) (fun K hK => ?_)
  refine Kd.R_append_rows_step (Kd.int .i64) (w0 := wd) wd.heap.size (by rfl) (.tmp 20) (.tmp 21) 41 3 (.int .i64 0) 8 rfl Tryd.underlying41 info3 rfl (by decide) (by decide) vl [] rs A rs.length c (fun _ => True) (fun _ => False) rfl rfl q1 (Kd.C_below (Kd.R_reads' HR1.out).2.2 q2) (fun _ _ h => h) (fun _ h => h.elim) (fun _ _ => trivial) q2 q2.size (by simp; omega) ?_
  intro va w2 q4 q5 q6 _
  obtain ⟨Aa, ca, rfl⟩ := Kd.R_slice q4
  refine hK.out _ _ ((q5.cell (World.block_lt_of_cell? _ _ hz13)).trans hz13) (fun hHeld => ?_)
  clear hK K
  refine norm_ (a' := ?_) ?_ ?_
  rotate_left
  · show Act.put _ (some 22) _ = _
    simp only [Act.put, pA, pB, pC, i64_w, i32_w]
    rfl
  have HS2 := Aside0.mk (HS1.out.below q5)
  have HT2 := Aside0.mk (HT.out.trans (TK.of_below q5))
  refine pure_ (i := 9) (N := some 23) (v := ?_) (a' := ?_) #[Y,Y,Y,Y,Y,Y,Y,Y,Y,Y,Z,Z] rfl rfl (any_of HT_.out (by kernel_rfl)) (fun _ _ _ h => h) (Or.inl ⟨by rfl, ?_⟩) ?_ ?_
  rotate_left
  · intro w'
    go_simp
    with_reducible rfl
  rotate_left
  · simp only [Act.put, pA, pB, pC, i64_w, i32_w]
    rfl
  refine pure_ (i := 10) (N := some 24) (v := ?_) (a' := ?_) #[Y,Y,Y,Y,Y,Y,Y,Y,Y,Y,Y,Z] rfl rfl (any_of HT_.out (by kernel_rfl)) (fun _ _ _ h => h) (Or.inl ⟨by rfl, ?_⟩) ?_ ?_
  rotate_left
  · intro w'
    go_simp
    with_reducible rfl
  rotate_left
  · simp only [Act.put, pA, pB, pC, i64_w, i32_w]
    rfl
  refine last_ (i := 11) (N := none) #[Y,Y,Y,Y,Y,Y,Y,Y,Y,Y,Y,Y] rfl rfl (one_of HT_.out (by kernel_rfl)) (by decide) (fun K hK => ?_)
  obtain ⟨oki2, cs2, hcl2, hM2, hcc2, hfr2, hoki2, hH2⟩ := Kd.S_elem (Kd.S_mono (ok' := fun k => True ∧ ¬ wd.heap.size ≤ k) (Kd.S_old HS1.out.h3 q5) (fun k hk => ⟨trivial, Nat.not_le.2 hk.2⟩)) z53 i hi0 hi1
  rw [eg] at hM2
  obtain ⟨v9, rfl, hv9⟩ := k53_openM hM2
  have hs8 := hcc2 8 _ rfl
  have hf8 := hfr2 8
  rw [sz53] at hs8 hf8
  refine skip_ (w1 := ?_) (by rfl) rfl ?_ ?_
  rotate_left
  · go_simp
    rfl
  refine hK.out _ _ ?_
  clear hK K
  refine done_ (done_of HT_.out (by kernel_rfl)) ?_
  have ht9 := k53_mkM w2 w0.heap.size (fun k => wd.heap.size ≤ k) { rd_T53 nodes i with f7 := true, f8 := [] ++ rs } (Kd.R_lower (Kd.R_mono (Kd.R_bound q4) (fun _ hk => hk.2.1)) (below_size HS1.out.hB))
  have hlt := Kd.S_lt HS1.out.h3 gn (by simp [Value.ownBlock])
  have hS2 := (Kd.S_seg (okg := fun k => wd.heap.size ≤ k) hH2 hi0 hi1 (seg := [.slice Aa ([] ++ rs).length ca]) (j := 8) (by rw [sz53]; simp) (okp := fun k => wd.heap.size ≤ k) ht9 (fun k hk => Or.inr hk) (fun k hk => ⟨trivial, fun e => by subst e; exact absurd hlt (Nat.not_lt.2 hk)⟩)).1
  rw [sz53, List.set_set] at hS2
  obtain ⟨cs3, hbn2⟩ := Kd.S_typed HS2.out.h3 gn (by simp [Value.ownBlock])
  have hS3 : Kd.S k53 53 (w2.setCell ⟨gn, i.toNat * 9 + 8, none⟩ (.slice Aa rs.length ca)) w0.heap.size (fun _ => True) (.slice (some ⟨gn, 0, none⟩) nodes.length capn) (nodes.set i.toNat { rd_T53 nodes i with f7 := true, f8 := rs }) := hS2
  clear hS2
  have HS3 := BS.node (j := i.toNat * 9 + 8) (u := .slice Aa rs.length ca) HS2.out hbn2 hgn hS3
  have HT3 := HT2.out.set (j := i.toNat * 9 + 8) hbn2 (Or.inr rfl) (.slice Aa rs.length ca)
  go_wp2
  first | go_end0 | ((try simp only [Exit.inBlock, Exit.then]); refine bodyPost_ret (results_none rfl _ _ _) rfl ?_)
  exact ⟨rfl, HS3, HT3⟩
end Go.Proofs.YtlpdcdkjmcpfdaaDoor.PT
