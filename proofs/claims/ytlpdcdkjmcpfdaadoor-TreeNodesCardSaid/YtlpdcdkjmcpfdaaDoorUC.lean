/- begun: whether the tree package does anything yet; walked by hand. -/
import Derived.Test.YtlpdcdkjmcpfdaaDoorUB
import Derived.Test.YtlpdcdkjmcpfdaaDoorTZ
namespace Go.Proofs.YtlpdcdkjmcpfdaaDoor.PT
open Go.RowKit Go.Proofs.YtlpdcdkjmcpfdaaDoorW.PrintWords Go.Proofs.YtlpdcdkjmcpfdaaDoorW.PrintLast Go.Proofs.YtlpdcdkjmcpfdaaDoorW.PrintMore
set_option linter.unusedVariables false
set_option linter.unusedSimpArgs false
attribute [local go_sem] cell_set_some
section
variable {P : Program} {ops : Array Oper} {rest : List Oper} {o : Oper} {a : Act} {Q : Exit → Act → World → Prop}
theorem lit_event {W : World} (hgd : o.guard = none) {N : Tmp} (_hd : o.dst = some N) {cs : Array Value} {t : TypeId}
    (hrun : (execOp a.eval o).run P W = .ok (.value (.slice (some ⟨W.heap.size, 0, none⟩) 1 1)) (W.alloc (.cells cs t (0, 0))))
    (h : ∀ g, g = W.heap.size → ∀ w1, w1.heap[g]? = some (.cells cs t (0, 0)) → Below W.heap.size W w1 → wpList P ops Q rest (a.put o.dst (.slice (some ⟨g, 0, none⟩) 1 1)) w1) : wpList P ops Q (o :: rest) a W :=
  Kd.event_run hgd hrun (h _ rfl _ (blk_new W _) (below_alloc (Below.refl _ _) _))
end
theorem C_nil {α : Type} (d : Kd α) (w : World) (A : Option Addr) : Kd.C d w A 0 [] := ⟨rfl, by decide, fun h => absurd h (Nat.lt_irrefl _)⟩
/-- A row of one element, its own block. -/
theorem C_one {α : Type} {d : Kd α} {w : World} {g : Nat} {x : α} {cs : List Value} {t : TypeId} (h : w.heap[g]? = some (.cells ⟨cs⟩ t (0, 0))) (hK : d.K w x cs) : Kd.C d w (some ⟨g, 0, none⟩) 1 [x] := by
  refine ⟨rfl, by decide, fun _ => ⟨_, rfl, fun j p hj => ?_⟩⟩
  have h0 : j = 0 := by
    have := (List.getElem?_eq_some_iff.1 hj).1
    simp at this
    omega
  subst h0
  have hp : x = p := by simpa using hj
  subst hp
  refine ⟨cs, d.K_len hK, hK, fun i u hu => ?_⟩
  have e : (⟨g, 0, none⟩ : Addr).add (0 * d.sz + i) = ⟨g, i, none⟩ := by
    simp [Addr.add]
    intro h0
    exact h0.symm
  rw [e, blk_cell h i]
  simpa using hu
/-- The cells of a row of whole numbers. -/
theorem C_cells {k : IntKind} {w : World} {A : Option Addr} {n : Nat} {xs : List Int} (h : Kd.C (Kd.int k) w A n xs) (h0 : 0 < n) : ∃ b o, A = some ⟨b, o, none⟩ ∧ ∀ i x, xs[i]? = some x → w.cell? ⟨b, o + i, none⟩ = some (.int k x) := by
  obtain ⟨ad, e, hc⟩ := h.2.2 h0
  have hall : ∀ i x, xs[i]? = some x → w.cell? (ad.add i) = some (.int k x) := fun i x hx => by
    obtain ⟨c, _, hk, hcell⟩ := hc i x hx
    have hk' : c = [.int k x] := hk
    subst hk'
    have := hcell 0 _ rfl
    simpa [Kd.int, Kd.scalar] using this
  have hl : 0 < xs.length := by rw [h.1]; exact h0
  have hz := hall 0 _ (List.getElem?_eq_getElem hl)
  have hs : ad.spot = none := spot_of (by simpa [Addr.add] using hz)
  refine ⟨ad.block, ad.off, by rw [e, ← hs], fun i x hx => ?_⟩
  have hi := hall i x hx
  by_cases h00 : i = 0
  · subst h00
    have e2 : (⟨ad.block, ad.off + 0, none⟩ : Addr) = ad.add 0 := by simp [Addr.add, ← hs]
    rw [e2]
    exact hi
  · have e2 : (⟨ad.block, ad.off + i, none⟩ : Addr) = ad.add i := by simp [Addr.add, h00]
    rw [e2]
    exact hi
theorem fill37 {w : World} {g : Nat} {e0 e1 e2 e3 e4 e5 e6 e7 e8 e9 : Value} (h : w.heap[g]? = some (.cells #[e0, e1, e2, e3, e4, e5, e6, e7, e8, e9] 37 (0, 0))) (v0 v1 v2 v3 v4 v5 v6 v7 v8 v9 : Value) (W : World) (hW : W = (((((((((w.setCell ⟨g, 0, none⟩ v0).setCell ⟨g, 1, none⟩ v1).setCell ⟨g, 2, none⟩ v2).setCell ⟨g, 3, none⟩ v3).setCell ⟨g, 4, none⟩ v4).setCell ⟨g, 5, none⟩ v5).setCell ⟨g, 6, none⟩ v6).setCell ⟨g, 7, none⟩ v7).setCell ⟨g, 8, none⟩ v8).setCell ⟨g, 9, none⟩ v9) :
    W.heap[g]? = some (.cells #[v0, v1, v2, v3, v4, v5, v6, v7, v8, v9] 37 (0, 0)) ∧ ∀ B, B ≤ g → Below B w W := by
  subst hW
  have b0 := blk_put (cs' := #[v0, e1, e2, e3, e4, e5, e6, e7, e8, e9]) h 0 v0 (by simp)
  have b1 := blk_put (cs' := #[v0, v1, e2, e3, e4, e5, e6, e7, e8, e9]) b0 1 v1 (by simp)
  have b2 := blk_put (cs' := #[v0, v1, v2, e3, e4, e5, e6, e7, e8, e9]) b1 2 v2 (by simp)
  have b3 := blk_put (cs' := #[v0, v1, v2, v3, e4, e5, e6, e7, e8, e9]) b2 3 v3 (by simp)
  have b4 := blk_put (cs' := #[v0, v1, v2, v3, v4, e5, e6, e7, e8, e9]) b3 4 v4 (by simp)
  have b5 := blk_put (cs' := #[v0, v1, v2, v3, v4, v5, e6, e7, e8, e9]) b4 5 v5 (by simp)
  have b6 := blk_put (cs' := #[v0, v1, v2, v3, v4, v5, v6, e7, e8, e9]) b5 6 v6 (by simp)
  have b7 := blk_put (cs' := #[v0, v1, v2, v3, v4, v5, v6, v7, e8, e9]) b6 7 v7 (by simp)
  have b8 := blk_put (cs' := #[v0, v1, v2, v3, v4, v5, v6, v7, v8, e9]) b7 8 v8 (by simp)
  have b9 := blk_put (cs' := #[v0, v1, v2, v3, v4, v5, v6, v7, v8, v9]) b8 9 v9 (by simp)
  exact ⟨b9, fun B hB => ((((((((((Below.refl B w).setCell hB _).setCell hB _).setCell hB _).setCell hB _).setCell hB _).setCell hB _).setCell hB _).setCell hB _).setCell hB _).setCell hB _⟩
def begun.T4 : Bool × List (List Nat × List Nat) := (true, [([], []), ([0], [0]), ([], []), ([2, 1], [2]), ([1, 3, 0, 1], [1]), ([3, 4, 0, 1, 2, 3, 4], [3])])
def begun.B4 : List Nat := [0, 1, 0, 7, 15, 31]
theorem begun.tab4 : rtab .any (opsOf Tryd.f6 4) = begun.T4 := by kernel_rfl
theorem begun.bits4 : waitsOk begun.T4.2 begun.B4 = true := by kernel_rfl
set_option maxHeartbeats 8000000 in
set_option maxRecDepth 100000 in
theorem begun_c (w : World) (hG : GOk w) : Calls Tryd.prog 6 #[] w fun e w' => e = .returned (.bool true) ∧ Below w.heap.size w w' := by
  have hu37 := Tryd.underlying37
  have hu28 := Tryd.underlying28
  have hu53 := Tryd.underlying53
  have HG := Aside0.mk hG
  clear hG
  go_enter Tryd.func6, Tryd.ntmps6
  go_upto_region 2 with (first | ((with_reducible refine gate_dst (N := 8) rfl ?_); refine lit_event ?hg (N := 8) ?hd (cs := #[.string ⟨#[120]⟩, .int .i64 0]) (t := 57) ?hr ?_; (case hd => rfl); (case hg => rfl); (case hr => first | (go_simp; done) | (go_simp; rfl)); intro ga hg_ wa hbox hb1; have H8 := Aside0.mk hbox; have HB := Aside0.mk hb1; clear hg_ hbox hb1) | ((with_reducible refine gate_dst (N := 10) rfl ?_); refine lit_event ?hg (N := 10) ?hd (cs := #[.int .i64 2, .int .i64 4, .string ⟨#[114]⟩, .string ⟨#[120]⟩, .slice none 0 0, .slice none 0 0, .slice none 0 0]) (t := 61) ?hr ?_; (case hd => rfl); (case hg => rfl); (case hr => first | (go_simp; done) | (go_simp; rfl)); intro gb hg_ wb hbox hb1; have H10 := Aside0.mk hbox; replace H8 := Aside0.mk (blk_below H8.out hb1); replace HB := Aside0.mk (below_step HB.out hb1); clear hg_ hbox hb1) | ((with_reducible refine gate_dst (N := 11) rfl ?_); refine lit_event ?hg (N := 11) ?hd (cs := #[.slice (some ⟨gb, 0, none⟩) 1 1]) (t := 59) ?hr ?_; (case hd => rfl); (case hg => rfl); (case hr => first | (go_simp; done) | (go_simp; rfl)); intro gc hg_ wc hbox hb1; have H11 := Aside0.mk hbox; replace H8 := Aside0.mk (blk_below H8.out hb1); replace H10 := Aside0.mk (blk_below H10.out hb1); replace HB := Aside0.mk (below_step HB.out hb1); clear hg_ hbox hb1) | ((with_reducible refine gate_dst (N := 1) rfl ?_); refine box_event ?hg (N := 1) ?hd (cs := #[.string ⟨#[]⟩, .int .i64 0, .slice none 0 0, .slice none 0 0, .int .i64 0, .int .i64 0, .int .i64 0, .string ⟨#[]⟩, .int .i64 0, .slice none 0 0]) (t := 37) ?hr ?_; (case hd => rfl); (case hg => rfl); (case hr => first | (go_simp; done) | (go_simp; rfl)); intro g1 hg__ wd hbox_ hq_; have hg_ := Aside0.mk hg__; clear hg__; have z0_ := blk_celln hbox_ 0 _ rfl; have z1_ := blk_celln hbox_ 1 _ rfl; have z2_ := blk_celln hbox_ 2 _ rfl; have z3_ := blk_celln hbox_ 3 _ rfl; have z4_ := blk_celln hbox_ 4 _ rfl; have z5_ := blk_celln hbox_ 5 _ rfl; have z6_ := blk_celln hbox_ 6 _ rfl; have z7_ := blk_celln hbox_ 7 _ rfl; have z8_ := blk_celln hbox_ 8 _ rfl; have z9_ := blk_celln hbox_ 9 _ rfl; have f0_ := blk_frozen hbox_ 0; have f1_ := blk_frozen hbox_ 1; have f2_ := blk_frozen hbox_ 2; have f3_ := blk_frozen hbox_ 3; have f4_ := blk_frozen hbox_ 4; have f5_ := blk_frozen hbox_ 5; have f6_ := blk_frozen hbox_ 6; have f7_ := blk_frozen hbox_ 7; have f8_ := blk_frozen hbox_ 8; have f9_ := blk_frozen hbox_ 9))
  obtain ⟨F1_, F2_⟩ := fill37 hbox_ (.string ⟨#[97]⟩) (.int .i64 2) (.slice (some ⟨ga, 0, none⟩) 1 1) (.slice (some ⟨gc, 0, none⟩) 1 1) (.int .i64 1) (.int .i64 1) (.int .i64 0) (.string ⟨#[120]⟩) (.int .i64 0) (.slice none 0 0) _ rfl
  replace hq_ := hq_.trans (F2_ wc.heap.size (Nat.le_of_eq hg_.out.symm))
  clear hg_ hbox_ F2_ z0_ f0_ z1_ f1_ z2_ f2_ z3_ f3_ z4_ f4_ z5_ f5_ z6_ f6_ z7_ f7_ z8_ f8_ z9_ f9_
  generalize (((((((((wd.setCell ⟨g1, 0, none⟩ (.string ⟨#[97]⟩)).setCell ⟨g1, 1, none⟩ (.int .i64 2)).setCell ⟨g1, 2, none⟩ (.slice (some ⟨ga, 0, none⟩) 1 1)).setCell ⟨g1, 3, none⟩ (.slice (some ⟨gc, 0, none⟩) 1 1)).setCell ⟨g1, 4, none⟩ (.int .i64 1)).setCell ⟨g1, 5, none⟩ (.int .i64 1)).setCell ⟨g1, 6, none⟩ (.int .i64 0)).setCell ⟨g1, 7, none⟩ (.string ⟨#[120]⟩)).setCell ⟨g1, 8, none⟩ (.int .i64 0)).setCell ⟨g1, 9, none⟩ (.slice none 0 0) = we at F1_ hq_ ⊢
  have HP := Aside0.mk F1_
  replace H8 := Aside0.mk (blk_below H8.out hq_)
  replace H10 := Aside0.mk (blk_below H10.out hq_)
  replace H11 := Aside0.mk (blk_below H11.out hq_)
  replace HB := Aside0.mk (below_step HB.out hq_)
  clear F1_ hq_
  have HC2 := Aside0.mk (show Kd.C k57 we (some ⟨ga, 0, none⟩) 1 [ce0] from C_one H8.out (k57_mk we ce0))
  have HCs := Aside0.mk (show Kd.C k61 we (some ⟨gb, 0, none⟩) 1 [st0] from C_one H10.out (k61_mk we st0 (A4 := none) (c4 := 0) (by decide) (C_nil _ _ _) (A5 := none) (c5 := 0) (by decide) (C_nil _ _ _) (A6 := none) (c6 := 0) (by decide) (C_nil _ _ _)))
  have HC3 := Aside0.mk (show Kd.C (Kd.slice 61 k61) we (some ⟨gc, 0, none⟩) 1 [[st0]] from C_one H11.out ⟨_, _, rfl, by decide, HCs.out⟩)
  clear H8 H10 H11 HCs
  have hp0 := blk_celln (HP.out) 0 _ rfl; have hp1 := blk_celln (HP.out) 1 _ rfl; have hp2 := blk_celln (HP.out) 2 _ rfl; have hp3 := blk_celln (HP.out) 3 _ rfl; have hp4 := blk_celln (HP.out) 4 _ rfl; have hp5 := blk_celln (HP.out) 5 _ rfl; have hp6 := blk_celln (HP.out) 6 _ rfl; have hp7 := blk_celln (HP.out) 7 _ rfl; have hp8 := blk_celln (HP.out) 8 _ rfl; have hp9 := blk_celln (HP.out) 9 _ rfl
  go_wp2_with (fail)
  refine (tree_c _ (some ⟨ga, 0, none⟩) (some ⟨gc, 0, none⟩) none 1 1 0 HC2.out (by decide) HC3.out (by decide) (C_nil _ _ _)).mono ?_
  rintro e wf ⟨A1, c1, A2, c2, A3, c3, rfl, q1, l1, q2, l2, q3, l3, q4⟩
  have H1 := Aside0.mk q1
  have H2 := Aside0.mk q2
  have H3 := Aside0.mk q3
  replace HB := Aside0.mk (below_step HB.out q4)
  clear q1 q2 q3 q4 HP HC2 HC3 hp0 hp1 hp2 hp3 hp4 hp5 hp6 hp7 hp8 hp9
  go_upto_region 3 with ((with_reducible refine gate_dst (N := 2) rfl ?_); refine box_event ?hg (N := 2) ?hd (cs := #[.int .i64 0, .slice none 0 0, .slice none 0 0, .slice none 0 0]) (t := 28) ?hr ?_; (case hd => rfl); (case hg => rfl); (case hr => first | (go_simp; done) | (go_simp; rfl)); intro g2 hg__ wg hbox_ hq_; have hg_ := Aside0.mk hg__; clear hg__; have z0_ := blk_celln hbox_ 0 _ rfl; have z1_ := blk_celln hbox_ 1 _ rfl; have z2_ := blk_celln hbox_ 2 _ rfl; have z3_ := blk_celln hbox_ 3 _ rfl; have f0_ := blk_frozen hbox_ 0; have f1_ := blk_frozen hbox_ 1; have f2_ := blk_frozen hbox_ 2; have f3_ := blk_frozen hbox_ 3)
  obtain ⟨F1_, F2_, F3_⟩ := fill28 hbox_ (.int .i64 2) (.slice A1 1 c1) (.slice A2 1 c2) (.slice A3 4 c3) _ rfl
  replace hq_ := hq_.trans (F2_ wf.heap.size (Nat.le_of_eq hg_.out.symm))
  clear hg_ hbox_ F2_ F3_ z0_ f0_ z1_ f1_ z2_ f2_ z3_ f3_
  generalize (((wg.setCell ⟨g2, 0, none⟩ (.int .i64 2)).setCell ⟨g2, 1, none⟩ (.slice A1 1 c1)).setCell ⟨g2, 2, none⟩ (.slice A2 1 c2)).setCell ⟨g2, 3, none⟩ (.slice A3 4 c3) = wh at F1_ hq_ ⊢
  have HT := Aside0.mk F1_
  replace H1 := Aside0.mk (Kd.C_below H1.out hq_)
  replace H2 := Aside0.mk (Kd.C_below H2.out hq_)
  replace H3 := Aside0.mk (Kd.C_below H3.out hq_)
  replace HB := Aside0.mk (below_step HB.out hq_)
  clear F1_ hq_
  have ht0 := blk_celln (HT.out) 0 _ rfl; have ht1 := blk_celln (HT.out) 1 _ rfl; have ht2 := blk_celln (HT.out) 2 _ rfl; have ht3 := blk_celln (HT.out) 3 _ rfl
  go_wp2_with (fail)
  refine (ends_c _ A1 A2 A3 c1 c2 c3 H1.out l1 H2.out l2 H3.out l3 (GOk.le HG.out HB.out)).mono ?_
  rintro e wi ⟨vE, rfl, qr, qb⟩
  obtain ⟨AE, cE, rfl⟩ := Kd.R_slice qr
  have HE := Aside0.mk (Kd.R_reads' qr).2.2
  replace HT := Aside0.mk (blk_below HT.out qb)
  replace H1 := Aside0.mk (Kd.C_below H1.out qb)
  replace H2 := Aside0.mk (Kd.C_below H2.out qb)
  replace H3 := Aside0.mk (Kd.C_below H3.out qb)
  replace HB := Aside0.mk (below_step HB.out qb)
  clear qr qb ht0 ht1 ht2 ht3
  go_upto_region 4 with (fail)
  replace HT := Aside0.mk (blk_drew HT.out)
  replace H1 := Aside0.mk (Kd.C_below H1.out (below_drew (Below.refl _ _)))
  replace H2 := Aside0.mk (Kd.C_below H2.out (below_drew (Below.refl _ _)))
  replace H3 := Aside0.mk (Kd.C_below H3.out (below_drew (Below.refl _ _)))
  replace HE := Aside0.mk (Kd.C_below HE.out (below_drew (Below.refl _ _)))
  replace HB := Aside0.mk (below_drew HB.out)
  refine start_ (n := 6) (S := fun w' => w'.cell? ⟨g2, 0, none⟩ = some (.int .i64 2) ∧ w'.cell? ⟨g2, 1, none⟩ = some (.slice A1 1 c1) ∧ w'.cell? ⟨g2, 2, none⟩ = some (.slice A2 1 c2) ∧ w'.cell? ⟨g2, 3, none⟩ = some (.slice A3 4 c3)) (ds := []) #[Z,Z,Z,Z,Z,Z] (by kernel_rfl) rfl rfl ⟨(blk_celln HT.out 0 _ rfl), (blk_celln HT.out 1 _ rfl), (blk_celln HT.out 2 _ rfl), (blk_celln HT.out 3 _ rfl)⟩ (fun hHeld => ?_)
  refine with_tabW begun.tab4 begun.bits4 (fun HT_ HW_ => ?_)
  generalize World.drew _ = wj at HT H1 H2 H3 HE HB hHeld ⊢
  refine take_ (i := 0) (N := some 21) (v := ?_) (a' := ?_) #[Y,Z,Z,Z,Z,Z] rfl rfl (take_ofW HT_.out HW_.out (by kernel_rfl)) (fun _ _ _ h => h) (Or.inl ⟨by rfl, ?_⟩) hHeld ?_ ?_
  rotate_left
  · rintro w' ⟨s0, s1, s2, s3⟩
    go_simp
    with_reducible rfl
  rotate_left
  · simp only [Act.put, pA, pB, pC, i64_w, i32_w]
    rfl
  refine take_ (i := 2) (N := some 23) (v := ?_) (a' := ?_) #[Y,Z,Y,Z,Z,Z] rfl rfl (take_ofW HT_.out HW_.out (by kernel_rfl)) (fun _ _ _ h => h) (Or.inl ⟨by rfl, ?_⟩) hHeld ?_ ?_
  rotate_left
  · rintro w' ⟨s0, s1, s2, s3⟩
    go_simp
    with_reducible rfl
  rotate_left
  · simp only [Act.put, pA, pB, pC, i64_w, i32_w]
    rfl
  refine one_ (i := 1) (N := some 22) #[Y,Y,Y,Z,Z,Z] rfl rfl (one_of HT_.out (by kernel_rfl)) (by decide) (fun K hK => ?_)
  refine goes_ Tryd.func20 (by kernel_rfl) rfl #[.agg #[.int .i64 2, .slice A1 1 c1, .slice A2 1 c2, .slice A3 4 c3]] (by rfl) rfl rfl (by (try simp only [List.map_toArray, List.map_cons, List.map_nil]); first | done | rfl) ?_
  refine (po_c _ A1 A2 A3 c1 c2 c3 H1.out l1 H2.out l2 H3.out l3).mono ?_
  rintro e wx22 ⟨v22, rfl, qr, qb⟩
  obtain ⟨AP, cP, rfl⟩ := Kd.R_slice qr
  have HPO := Aside0.mk (Kd.R_reads' qr).2.2
  refine ⟨_, rfl, ?_⟩
  replace HT := Aside0.mk (blk_below HT.out qb)
  replace H1 := Aside0.mk (Kd.C_below H1.out qb)
  replace H2 := Aside0.mk (Kd.C_below H2.out qb)
  replace H3 := Aside0.mk (Kd.C_below H3.out qb)
  replace HE := Aside0.mk (Kd.C_below HE.out qb)
  replace HB := Aside0.mk (below_step HB.out qb)
  clear qr qb
  refine hK.out _ _ ⟨(blk_celln HT.out 0 _ rfl), (blk_celln HT.out 1 _ rfl), (blk_celln HT.out 2 _ rfl), (blk_celln HT.out 3 _ rfl)⟩ (fun hHeld => ?_)
  clear hK K
  refine norm_ (a' := ?_) ?_ ?_
  rotate_left
  · show Act.put _ (some 22) _ = _
    simp only [Act.put, pA, pB, pC, i64_w, i32_w]
    rfl
  refine one_ (i := 3) (N := some 24) #[Y,Y,Y,Y,Z,Z] rfl rfl (one_of HT_.out (by kernel_rfl)) (by decide) (fun K hK => ?_)
  refine goes_ Tryd.func22 (by kernel_rfl) rfl #[.agg #[.int .i64 2, .slice A1 1 c1, .slice A2 1 c2, .slice A3 4 c3]] (by rfl) rfl rfl (by (try simp only [List.map_toArray, List.map_cons, List.map_nil]); first | done | rfl) ?_
  refine (conflict_c _ A1 A2 A3 c1 c2 c3 H1.out l1 H2.out l2 H3.out l3).mono ?_
  rintro e wx24 ⟨v24, rfl, qr, qb⟩
  obtain ⟨AC, cC, rfl⟩ := Kd.R_slice qr
  have HCF := Aside0.mk (Kd.R_reads' qr).2.2
  refine ⟨_, rfl, ?_⟩
  replace HT := Aside0.mk (blk_below HT.out qb)
  replace H1 := Aside0.mk (Kd.C_below H1.out qb)
  replace H2 := Aside0.mk (Kd.C_below H2.out qb)
  replace H3 := Aside0.mk (Kd.C_below H3.out qb)
  replace HE := Aside0.mk (Kd.C_below HE.out qb)
  replace HPO := Aside0.mk (Kd.C_below HPO.out qb)
  replace HB := Aside0.mk (below_step HB.out qb)
  clear qr qb
  refine hK.out _ _ ⟨(blk_celln HT.out 0 _ rfl), (blk_celln HT.out 1 _ rfl), (blk_celln HT.out 2 _ rfl), (blk_celln HT.out 3 _ rfl)⟩ (fun hHeld => ?_)
  clear hK K
  refine norm_ (a' := ?_) ?_ ?_
  rotate_left
  · show Act.put _ (some 24) _ = _
    simp only [Act.put, pA, pB, pC, i64_w, i32_w]
    rfl
  refine pure_ (i := 4) (N := some 5) (v := ?_) (a' := ?_) #[Y,Y,Y,Y,Y,Z] rfl rfl (any_of HT_.out (by kernel_rfl)) (fun _ _ _ h => h) (Or.inl ⟨by rfl, ?_⟩) ?_ ?_
  rotate_left
  · intro w'
    go_simp
    with_reducible rfl
  rotate_left
  · simp only [Act.put, pA, pB, pC, i64_w, i32_w]
    rfl
  refine pure_ (i := 5) (N := some 6) (v := ?_) (a' := ?_) #[Y,Y,Y,Y,Y,Y] rfl rfl (any_of HT_.out (by kernel_rfl)) (fun _ _ _ h => h) (Or.inl ⟨by rfl, ?_⟩) ?_ ?_
  rotate_left
  · intro w'
    go_simp
    with_reducible rfl
  rotate_left
  · simp only [Act.put, pA, pB, pC, i64_w, i32_w]
    rfl
  refine done_ (done_of HT_.out (by kernel_rfl)) ?_
  clear hHeld
  have ht0 := blk_celln (HT.out) 0 _ rfl; have ht1 := blk_celln (HT.out) 1 _ rfl; have ht2 := blk_celln (HT.out) 2 _ rfl; have ht3 := blk_celln (HT.out) 3 _ rfl
  go_wp2_with (fail)
  refine (before_c _ A1 A2 A3 c1 c2 c3 H1.out l1 H2.out l2 H3.out l3 0 3 true (by kernel_rfl) (by kernel_rfl) (by kernel_rfl)).mono ?_
  rintro e wl ⟨rfl, qb⟩
  replace HT := Aside0.mk (blk_below HT.out qb)
  replace H1 := Aside0.mk (Kd.C_below H1.out qb)
  replace H2 := Aside0.mk (Kd.C_below H2.out qb)
  replace H3 := Aside0.mk (Kd.C_below H3.out qb)
  replace HE := Aside0.mk (Kd.C_below HE.out qb)
  replace HPO := Aside0.mk (Kd.C_below HPO.out qb)
  replace HCF := Aside0.mk (Kd.C_below HCF.out qb)
  replace HB := Aside0.mk (below_step HB.out qb)
  clear qb
  replace ht0 := blk_celln (HT.out) 0 _ rfl; replace ht1 := blk_celln (HT.out) 1 _ rfl; replace ht2 := blk_celln (HT.out) 2 _ rfl; replace ht3 := blk_celln (HT.out) 3 _ rfl
  go_wp2_with (fail)
  refine (before_c _ A1 A2 A3 c1 c2 c3 H1.out l1 H2.out l2 H3.out l3 1 2 true (by kernel_rfl) (by kernel_rfl) (by kernel_rfl)).mono ?_
  rintro e wl ⟨rfl, qb⟩
  replace HT := Aside0.mk (blk_below HT.out qb)
  replace H1 := Aside0.mk (Kd.C_below H1.out qb)
  replace H2 := Aside0.mk (Kd.C_below H2.out qb)
  replace H3 := Aside0.mk (Kd.C_below H3.out qb)
  replace HE := Aside0.mk (Kd.C_below HE.out qb)
  replace HPO := Aside0.mk (Kd.C_below HPO.out qb)
  replace HCF := Aside0.mk (Kd.C_below HCF.out qb)
  replace HB := Aside0.mk (below_step HB.out qb)
  clear qb
  replace ht0 := blk_celln (HT.out) 0 _ rfl; replace ht1 := blk_celln (HT.out) 1 _ rfl; replace ht2 := blk_celln (HT.out) 2 _ rfl; replace ht3 := blk_celln (HT.out) 3 _ rfl
  go_wp2_with (fail)
  refine (before_c _ A1 A2 A3 c1 c2 c3 H1.out l1 H2.out l2 H3.out l3 2 3 false (by kernel_rfl) (by kernel_rfl) (by kernel_rfl)).mono ?_
  rintro e wl ⟨rfl, qb⟩
  replace HT := Aside0.mk (blk_below HT.out qb)
  replace H1 := Aside0.mk (Kd.C_below H1.out qb)
  replace H2 := Aside0.mk (Kd.C_below H2.out qb)
  replace H3 := Aside0.mk (Kd.C_below H3.out qb)
  replace HE := Aside0.mk (Kd.C_below HE.out qb)
  replace HPO := Aside0.mk (Kd.C_below HPO.out qb)
  replace HCF := Aside0.mk (Kd.C_below HCF.out qb)
  replace HB := Aside0.mk (below_step HB.out qb)
  clear qb
  replace ht0 := blk_celln (HT.out) 0 _ rfl; replace ht1 := blk_celln (HT.out) 1 _ rfl; replace ht2 := blk_celln (HT.out) 2 _ rfl; replace ht3 := blk_celln (HT.out) 3 _ rfl
  go_wp2_with (fail)
  refine (against_c _ A1 A2 A3 c1 c2 c3 H1.out l1 H2.out l2 H3.out l3 2 3 true (by kernel_rfl) (by kernel_rfl) (by kernel_rfl)).mono ?_
  rintro e wl ⟨rfl, qb⟩
  replace HT := Aside0.mk (blk_below HT.out qb)
  replace H1 := Aside0.mk (Kd.C_below H1.out qb)
  replace H2 := Aside0.mk (Kd.C_below H2.out qb)
  replace H3 := Aside0.mk (Kd.C_below H3.out qb)
  replace HE := Aside0.mk (Kd.C_below HE.out qb)
  replace HPO := Aside0.mk (Kd.C_below HPO.out qb)
  replace HCF := Aside0.mk (Kd.C_below HCF.out qb)
  replace HB := Aside0.mk (below_step HB.out qb)
  clear qb
  replace ht0 := blk_celln (HT.out) 0 _ rfl; replace ht1 := blk_celln (HT.out) 1 _ rfl; replace ht2 := blk_celln (HT.out) 2 _ rfl; replace ht3 := blk_celln (HT.out) 3 _ rfl
  go_wp2_with (fail)
  refine (way_c _ A1 A2 A3 c1 c2 c3 H1.out l1 H2.out l2 H3.out l3).mono ?_
  rintro e wm ⟨rfl, qb⟩
  replace HT := Aside0.mk (blk_below HT.out qb)
  replace H1 := Aside0.mk (Kd.C_below H1.out qb)
  replace H2 := Aside0.mk (Kd.C_below H2.out qb)
  replace H3 := Aside0.mk (Kd.C_below H3.out qb)
  replace HE := Aside0.mk (Kd.C_below HE.out qb)
  replace HPO := Aside0.mk (Kd.C_below HPO.out qb)
  replace HCF := Aside0.mk (Kd.C_below HCF.out qb)
  replace HB := Aside0.mk (below_step HB.out qb)
  clear qb
  replace ht0 := blk_celln (HT.out) 0 _ rfl; replace ht1 := blk_celln (HT.out) 1 _ rfl; replace ht2 := blk_celln (HT.out) 2 _ rfl; replace ht3 := blk_celln (HT.out) 3 _ rfl
  obtain ⟨bE, oE, eE, rE⟩ := C_cells HE.out (by decide)
  obtain ⟨bP, oP, eP, rP⟩ := C_cells HPO.out (by decide)
  obtain ⟨bC, oC, eC, rC⟩ := C_cells HCF.out (by decide)
  subst eE
  subst eP
  subst eC
  have rE0 := rE 0 _ rfl
  have rP1 := rP 1 _ rfl
  have rC2 := rC 2 _ rfl
  rw [Nat.add_zero] at rE0
  clear rE rP rC
  go_wp2_with (fail)
  refine (inits_c _ A1 A2 A3 c1 c2 c3 H1.out l1 H2.out l2 H3.out l3).mono ?_
  rintro e wn ⟨rfl, qb⟩
  clear rE0 rP1 rC2 HE HPO HCF
  replace HT := Aside0.mk (blk_below HT.out qb)
  replace H1 := Aside0.mk (Kd.C_below H1.out qb)
  replace H2 := Aside0.mk (Kd.C_below H2.out qb)
  replace H3 := Aside0.mk (Kd.C_below H3.out qb)
  replace HB := Aside0.mk (below_step HB.out qb)
  clear qb
  replace ht0 := blk_celln (HT.out) 0 _ rfl; replace ht1 := blk_celln (HT.out) 1 _ rfl; replace ht2 := blk_celln (HT.out) 2 _ rfl; replace ht3 := blk_celln (HT.out) 3 _ rfl
  obtain ⟨b, o, B0, b0, B1, b1, ar2, b2, ar3, b3, rfl, hn⟩ := NC.of H3.out
  have HN := Aside0.mk hn
  clear hn
  have n18_26 := HN.out.n18
  have n19_26 := HN.out.n19
  have n20_26 := HN.out.n20
  have n21_26 := HN.out.n21
  have n22_26 := HN.out.n22
  have n23_26 := HN.out.n23
  have n24_26 := HN.out.n24
  have n25_26 := HN.out.n25
  have n26_26 := HN.out.n26
  go_wp2_with (fail)
  refine (acq_t _ _ _ _ _ _ _ _ _ _ _ _ true (by decide)).mono ?_
  rintro e wo26 ⟨rfl, qb⟩
  clear n18_26 n19_26 n20_26 n21_26 n22_26 n23_26 n24_26 n25_26 n26_26
  replace HN := Aside0.mk (HN.out.below qb)
  replace HT := Aside0.mk (blk_below HT.out qb)
  replace HB := Aside0.mk (below_step HB.out qb)
  clear qb
  replace ht0 := blk_celln (HT.out) 0 _ rfl; replace ht1 := blk_celln (HT.out) 1 _ rfl; replace ht2 := blk_celln (HT.out) 2 _ rfl; replace ht3 := blk_celln (HT.out) 3 _ rfl
  have n18_28 := HN.out.n18
  have n19_28 := HN.out.n19
  have n20_28 := HN.out.n20
  have n21_28 := HN.out.n21
  have n22_28 := HN.out.n22
  have n23_28 := HN.out.n23
  have n24_28 := HN.out.n24
  have n25_28 := HN.out.n25
  have n26_28 := HN.out.n26
  go_wp2_with (fail)
  refine (rel_t _ _ _ _ _ _ _ _ _ _ _ _ false (by decide)).mono ?_
  rintro e wo28 ⟨rfl, qb⟩
  clear n18_28 n19_28 n20_28 n21_28 n22_28 n23_28 n24_28 n25_28 n26_28
  replace HN := Aside0.mk (HN.out.below qb)
  replace HT := Aside0.mk (blk_below HT.out qb)
  replace HB := Aside0.mk (below_step HB.out qb)
  clear qb
  replace ht0 := blk_celln (HT.out) 0 _ rfl; replace ht1 := blk_celln (HT.out) 1 _ rfl; replace ht2 := blk_celln (HT.out) 2 _ rfl; replace ht3 := blk_celln (HT.out) 3 _ rfl
  have n0_30 := HN.out.n0
  have n1_30 := HN.out.n1
  have n2_30 := HN.out.n2
  have n3_30 := HN.out.n3
  have n4_30 := HN.out.n4
  have n5_30 := HN.out.n5
  have n6_30 := HN.out.n6
  have n7_30 := HN.out.n7
  have n8_30 := HN.out.n8
  go_wp2_with (fail)
  refine (plain_t _ _ _ _ _ _ _ _ _ _ _ _ false (by decide)).mono ?_
  rintro e wo30 ⟨rfl, qb⟩
  clear n0_30 n1_30 n2_30 n3_30 n4_30 n5_30 n6_30 n7_30 n8_30
  replace HN := Aside0.mk (HN.out.below qb)
  replace HT := Aside0.mk (blk_below HT.out qb)
  replace HB := Aside0.mk (below_step HB.out qb)
  clear qb
  replace ht0 := blk_celln (HT.out) 0 _ rfl; replace ht1 := blk_celln (HT.out) 1 _ rfl; replace ht2 := blk_celln (HT.out) 2 _ rfl; replace ht3 := blk_celln (HT.out) 3 _ rfl
  go_wp2
  go_ret
  exact ⟨rfl, HB.out⟩
end Go.Proofs.YtlpdcdkjmcpfdaaDoor.PT
