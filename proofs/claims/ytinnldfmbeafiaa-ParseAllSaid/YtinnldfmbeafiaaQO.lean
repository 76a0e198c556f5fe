/- Parse and Places; walked by hand. -/
import Derived.Test.YtinnldfmbeafiaaQN
namespace Go.Proofs.Ytinnldfmbeafiaa.PA
open Go.RowKit Go.Proofs.YtinnldfmbeafiaaW.PrintWords Go.Proofs.YtinnldfmbeafiaaW.PrintLast Go.Proofs.YtinnldfmbeafiaaW.PrintMore
set_option linter.unusedVariables false
set_option linter.unusedSimpArgs false
attribute [local go_sem] cell_set_some fld53_0 fld53_1 fld53_2 fld53_3
theorem zQOq1 {p : Prop} (h : p := by rw [hg_.out]; exact HB.out.size) : p := h
theorem zQOq2 {p : Prop} (h : p := by rw [hg_.out]; exact QB.out.size) : p := h
def PF (w : World) (e2 p : Int) (e : Ending) (w' : World) : Prop := e = .returned (.tuple #[noProg, .agg #[.int .i64 e2, .int .i64 p]]) ∧ Below w.heap.size w w'
def PO (w : World) (x : PR) (e : Ending) (w' : World) : Prop := ∃ v, e = .returned (.tuple #[v, .agg #[.int .i64 0, .int .i64 0]]) ∧ VQ w.heap.size w' x v ∧ Below w.heap.size w w'
def LF (w : World) (e2 p : Int) (e : Ending) (w' : World) : Prop := e = .returned (.tuple #[.slice none 0 0, .agg #[.int .i64 e2, .int .i64 p]]) ∧ Below w.heap.size w w'
def LO (w : World) (q : List Int) (e : Ending) (w' : World) : Prop := ∃ A c, e = .returned (.tuple #[.slice A q.length c, .agg #[.int .i64 0, .int .i64 0]]) ∧ Kd.R (Kd.int .i64) 3 w' w.heap.size (fun _ => True) (.slice A q.length c) q ∧ Below w.heap.size w w'
theorem VQ.to {b : Nat} {w w1 : World} {x : PR} {v : Value} (h : VQ b w x v) (hm : ∀ k, b ≤ k → k < w.heap.size → w1.heap[k]? = w.heap[k]?) : VQ b w1 x v := by
 obtain ⟨AI, cI, AT, cT, AC, cC, h0, h1, h2, h3, h4, h5, h6⟩ := h
 exact ⟨AI, cI, AT, cT, AC, cC, h0, h1, Kd.F_step h2 hm, h3, Kd.F_step h4 hm, h5, Kd.F_step h6 hm⟩
theorem ints_to {b : Nat} {w w1 : World} {v : Value} {xs : List Int} (h : Kd.R (Kd.int .i64) 3 w b (fun _ => True) v xs) (hm : ∀ k, b ≤ k → k < w.heap.size → w1.heap[k]? = w.heap[k]?) : Kd.R (Kd.int .i64) 3 w1 b (fun _ => True) v xs :=
 ints_move h (fun k hk => hm k (Kd.R_base h k hk) (by obtain ⟨c, hc⟩ := Kd.R_typed h k hk; exact blk_lt hc))
set_option maxHeartbeats 8000000 in
set_option maxRecDepth 100000 in
theorem parse_ok (a0 : ByteArray) (x : PR) (q : List Int) (w : World) (hC : ∀ w, Calls Try.prog 18 #[.string a0] w (RO w x q)) : Calls Try.prog 8 #[.string a0] w (PO w x) := by
 have HC := Aside0.mk hC
 have hu32 := Try.underlying32
 have hu29 := Try.underlying29
 clear hC
 have HB := Aside0.mk (Below.refl w.heap.size w)
 go_enter Try.func8, Try.ntmps8
 go_wp2_with (first | ((with_reducible refine gate_dst (N := 2) rfl ?_); refine bbX (N := 2) z29v 29 ?hr ?_; (case hr => first | (go_simp; done) | (go_simp; rfl)); intro g2 hg_ w2 hbox_ hq_; have G2 := Aside0.mk (show w.heap.size ≤ g2 from zQOq1); have H2 := Aside0.mk hbox_; replace HB := Aside0.mk (below_step HB.out hq_); clear hg_ hbox_ hq_) | ((with_reducible refine gate_dst (N := 3) rfl ?_); refine bbX (N := 3) #[.int .i64 0, .int .i64 0] 32 ?hr ?_; (case hr => first | (go_simp; done) | (go_simp; rfl)); intro g3 hg_ w3 hbox_ hq_; have G3 := Aside0.mk (show w.heap.size ≤ g3 from zQOq1); have N2_3 := Aside0.mk (ne_new H2.out hg_.out); have LT2_3 := Aside0.mk (lt_new H2.out hg_.out); have H3 := Aside0.mk hbox_; replace H2 := mvB hq_ H2; replace HB := Aside0.mk (below_step HB.out hq_); clear hg_ hbox_ hq_))
 have hW := HC.out w3
 refine hW.mono ?_
 clear hW
 rintro e wa ⟨v, A3, c3, rfl, hv, hR, qb⟩
 have VX := Aside0.mk hv
 have KX := Aside0.mk hR
 obtain ⟨AI, cI, AT, cT, AC, cC, hv0, -⟩ := VX.out
 subst hv0
 clear hv hR
 have BL2 := Aside0.mk (blk_lt H2.out)
 have BL3 := Aside0.mk (blk_lt H3.out)
 have BW := Aside0.mk HB.out.size
 replace H2 := mvB qb H2
 replace H3 := mvB qb H3
 replace HB := Aside0.mk (below_step HB.out qb)
 have QB := Aside0.mk (Below.refl wa.heap.size wa)
 clear qb HC
 go_upto_region 2 with (first | ((with_reducible refine gate_dst (N := 4) rfl ?_); refine bbX (N := 4) z29v 29 ?hr ?_; (case hr => first | (go_simp; done) | (go_simp; rfl)); intro g4 hg_ w4 hbox_ hq_; have G4 := Aside0.mk (show w.heap.size ≤ g4 from zQOq1); have N2_4 := Aside0.mk (ne_new H2.out hg_.out); have LT2_4 := Aside0.mk (lt_new H2.out hg_.out); have N3_4 := Aside0.mk (ne_new H3.out hg_.out); have LT3_4 := Aside0.mk (lt_new H3.out hg_.out); have GA4 := Aside0.mk (show wa.heap.size ≤ g4 from zQOq2); have H4 := Aside0.mk hbox_; replace H2 := mvB hq_ H2; replace H3 := mvB hq_ H3; replace HB := Aside0.mk (below_step HB.out hq_); replace QB := Aside0.mk (below_step QB.out hq_); clear hg_ hbox_ hq_) | ((with_reducible refine gate_dst (N := 6) rfl ?_); refine bbX (N := 6) #[.int .i64 0, .int .i64 0] 32 ?hr ?_; (case hr => first | (go_simp; done) | (go_simp; rfl)); intro g6 hg_ w6 hbox_ hq_; have G6 := Aside0.mk (show w.heap.size ≤ g6 from zQOq1); have N2_6 := Aside0.mk (ne_new H2.out hg_.out); have LT2_6 := Aside0.mk (lt_new H2.out hg_.out); have N3_6 := Aside0.mk (ne_new H3.out hg_.out); have LT3_6 := Aside0.mk (lt_new H3.out hg_.out); have N4_6 := Aside0.mk (ne_new H4.out hg_.out); have LT4_6 := Aside0.mk (lt_new H4.out hg_.out); have GA6 := Aside0.mk (show wa.heap.size ≤ g6 from zQOq2); have H6 := Aside0.mk hbox_; replace H2 := mvB hq_ H2; replace H3 := mvB hq_ H3; replace H4 := mvB hq_ H4; replace HB := Aside0.mk (below_step HB.out hq_); replace QB := Aside0.mk (below_step QB.out hq_); clear hg_ hbox_ hq_; obtain ⟨z4_0, f4_0, z4_1, f4_1, z4_2, f4_2, z4_3, f4_3, z4_4, f4_4, z4_5, f4_5, z4_6, f4_6, z4_7, f4_7, z4_8, f4_8, z4_9, f4_9⟩ := cf10 H4.out; obtain ⟨z6_0, f6_0, z6_1, f6_1⟩ := cf2 H6.out; have x46 := eq_false N4_6.out; have x64 := eq_false N4_6.out.symm))
 obtain ⟨F1a, F2a⟩ := fill29 H4.out (.string x.nm) (.int .i64 x.vals) (.slice AI x.init.length cI) (.slice AT x.thr.length cT) (.int .i64 x.ask) (.int .i64 x.cnd.f0) (.int .i64 x.cnd.f1) (.string x.cnd.f2) (.int .i64 x.cnd.f3) (.slice AC x.cnd.f4.length cC) _ rfl
 have h6_ := (F2a.block g6 N4_6.out.symm).trans H6.out
 obtain ⟨F1b, F2b⟩ := fill32 h6_ (.int .i64 0) (.int .i64 0) _ rfl
 clear x46 x64 h6_ z4_0 f4_0 z4_1 f4_1 z4_2 f4_2 z4_3 f4_3 z4_4 f4_4 z4_5 f4_5 z4_6 f4_6 z4_7 f4_7 z4_8 f4_8 z4_9 f4_9 z6_0 f6_0 z6_1 f6_1
 have H4b := Aside0.mk ((F2b.block g4 N4_6.out).trans F1a)
 have H6b := Aside0.mk F1b
 replace HB := Aside0.mk (HB.out.trans ((F2a.below.mono G4.out).trans (F2b.below.mono G6.out)))
 replace QB := Aside0.mk (QB.out.trans ((F2a.below.mono GA4.out).trans (F2b.below.mono GA6.out)))
 replace H2 := Aside0.mk ((F2b.block g2 N2_6.out).trans ((F2a.block g2 N2_4.out).trans H2.out))
 replace H3 := Aside0.mk ((F2b.block g3 N3_6.out).trans ((F2a.block g3 N3_4.out).trans H3.out))
 clear F1a F2a F1b F2b H4 H6
 generalize (((((((((((w6.setCell ⟨g4, 0, none⟩ (.string x.nm)).setCell ⟨g4, 1, none⟩ (.int .i64 x.vals)).setCell ⟨g4, 2, none⟩ (.slice AI x.init.length cI)).setCell ⟨g4, 3, none⟩ (.slice AT x.thr.length cT)).setCell ⟨g4, 4, none⟩ (.int .i64 x.ask)).setCell ⟨g4, 5, none⟩ (.int .i64 x.cnd.f0)).setCell ⟨g4, 6, none⟩ (.int .i64 x.cnd.f1)).setCell ⟨g4, 7, none⟩ (.string x.cnd.f2)).setCell ⟨g4, 8, none⟩ (.int .i64 x.cnd.f3)).setCell ⟨g4, 9, none⟩ (.slice AC x.cnd.f4.length cC)).setCell ⟨g6, 0, none⟩ (.int .i64 0)).setCell ⟨g6, 1, none⟩ (.int .i64 0) = wr at H4b H6b HB QB H2 H3 ⊢
 have H4 := H4b
 have H6 := H6b
 clear H4b H6b
 obtain ⟨z4_0, z4_1, z4_2, z4_3, z4_4, z4_5, z4_6, z4_7, z4_8, z4_9⟩ := cn10 H4.out
 obtain ⟨z6_0, z6_1⟩ := cn2 H6.out
 obtain ⟨z2_0, f2_0, z2_1, f2_1, z2_2, f2_2, z2_3, f2_3, z2_4, f2_4, z2_5, f2_5, z2_6, f2_6, z2_7, f2_7, z2_8, f2_8, z2_9, f2_9⟩ := cf10 H2.out
 obtain ⟨z3_0, f3_0, z3_1, f3_1⟩ := cf2 H3.out
 have x23 := eq_false N2_3.out; have x32 := eq_false N2_3.out.symm
 have x24 := eq_false N2_4.out; have x42 := eq_false N2_4.out.symm
 have x26 := eq_false N2_6.out; have x62 := eq_false N2_6.out.symm
 have x34 := eq_false N3_4.out; have x43 := eq_false N3_4.out.symm
 have x36 := eq_false N3_6.out; have x63 := eq_false N3_6.out.symm
 have x46 := eq_false N4_6.out; have x64 := eq_false N4_6.out.symm
 go_region
 all_goals
  go_wp2
  obtain ⟨F1a, F2a⟩ := fill29 H2.out (.string x.nm) (.int .i64 x.vals) (.slice AI x.init.length cI) (.slice AT x.thr.length cT) (.int .i64 x.ask) (.int .i64 x.cnd.f0) (.int .i64 x.cnd.f1) (.string x.cnd.f2) (.int .i64 x.cnd.f3) (.slice AC x.cnd.f4.length cC) _ rfl
  have h3_ := (F2a.block g3 N2_3.out.symm).trans H3.out
  obtain ⟨F1b, F2b⟩ := fill32 h3_ (.int .i64 0) (.int .i64 0) _ rfl
  have f2_ := (F2b.block g2 N2_3.out).trans F1a
  have FB := HB.out.trans ((F2a.below.mono G2.out).trans (F2b.below.mono G3.out))
  refine bodyPost_ret (results_list (rs := [.cell 2 29, .cell 3 32]) rfl (by simp) (.cell g2 29 #[.string x.nm, .int .i64 x.vals, .slice AI x.init.length cI, .slice AT x.thr.length cT, .int .i64 x.ask, .int .i64 x.cnd.f0, .int .i64 x.cnd.f1, .string x.cnd.f2, .int .i64 x.cnd.f3, .slice AC x.cnd.f4.length cC] (0, 0) _ rfl (blk_drew f2_) hu29 rfl (by kernel_rfl) (.cell g3 32 #[.int .i64 0, .int .i64 0] (0, 0) _ rfl (blk_drew F1b) hu32 rfl (by kernel_rfl) .nil))) rfl ?_
  exact ⟨_, rfl, VQ.below (VQ.lower (VQ.to VX.out (fun k h1 h2 => (F2b.block k (Nat.ne_of_gt (Nat.lt_of_lt_of_le BL3.out h1))).trans ((F2a.block k (Nat.ne_of_gt (Nat.lt_of_lt_of_le BL2.out h1))).trans (QB.out.block k h2)))) BW.out) (below_drew (Below.refl _ _)), below_drew FB⟩
set_option maxHeartbeats 8000000 in
set_option maxRecDepth 100000 in
theorem parse_bad (a0 : ByteArray) (e2 p : Int) (w : World) (hC : ∀ w, Calls Try.prog 18 #[.string a0] w (RF w e2 p)) : Calls Try.prog 8 #[.string a0] w (PF w e2 p) := by
 have HC := Aside0.mk hC
 have hu32 := Try.underlying32
 have hu29 := Try.underlying29
 clear hC
 have HB := Aside0.mk (Below.refl w.heap.size w)
 go_enter Try.func8, Try.ntmps8
 go_wp2_with (first | ((with_reducible refine gate_dst (N := 2) rfl ?_); refine bbX (N := 2) z29v 29 ?hr ?_; (case hr => first | (go_simp; done) | (go_simp; rfl)); intro g2 hg_ w2 hbox_ hq_; have G2 := Aside0.mk (show w.heap.size ≤ g2 from zQOq1); have H2 := Aside0.mk hbox_; replace HB := Aside0.mk (below_step HB.out hq_); clear hg_ hbox_ hq_) | ((with_reducible refine gate_dst (N := 3) rfl ?_); refine bbX (N := 3) #[.int .i64 0, .int .i64 0] 32 ?hr ?_; (case hr => first | (go_simp; done) | (go_simp; rfl)); intro g3 hg_ w3 hbox_ hq_; have G3 := Aside0.mk (show w.heap.size ≤ g3 from zQOq1); have N2_3 := Aside0.mk (ne_new H2.out hg_.out); have LT2_3 := Aside0.mk (lt_new H2.out hg_.out); have H3 := Aside0.mk hbox_; replace H2 := mvB hq_ H2; replace HB := Aside0.mk (below_step HB.out hq_); clear hg_ hbox_ hq_))
 have hW := HC.out w3
 refine hW.mono ?_
 clear hW
 rintro e wa ⟨he, qb⟩
 obtain rfl : e = .returned (.tuple #[.agg z29v, .slice none 0 0, .agg #[.int .i64 e2, .int .i64 p]]) := he
 have BL2 := Aside0.mk (blk_lt H2.out)
 have BL3 := Aside0.mk (blk_lt H3.out)
 have BW := Aside0.mk HB.out.size
 replace H2 := mvB qb H2
 replace H3 := mvB qb H3
 replace HB := Aside0.mk (below_step HB.out qb)
 have QB := Aside0.mk (Below.refl wa.heap.size wa)
 clear qb HC
 go_upto_region 2 with (first | ((with_reducible refine gate_dst (N := 4) rfl ?_); refine bbX (N := 4) z29v 29 ?hr ?_; (case hr => first | (go_simp; done) | (go_simp; rfl)); intro g4 hg_ w4 hbox_ hq_; have G4 := Aside0.mk (show w.heap.size ≤ g4 from zQOq1); have N2_4 := Aside0.mk (ne_new H2.out hg_.out); have LT2_4 := Aside0.mk (lt_new H2.out hg_.out); have N3_4 := Aside0.mk (ne_new H3.out hg_.out); have LT3_4 := Aside0.mk (lt_new H3.out hg_.out); have GA4 := Aside0.mk (show wa.heap.size ≤ g4 from zQOq2); have H4 := Aside0.mk hbox_; replace H2 := mvB hq_ H2; replace H3 := mvB hq_ H3; replace HB := Aside0.mk (below_step HB.out hq_); replace QB := Aside0.mk (below_step QB.out hq_); clear hg_ hbox_ hq_) | ((with_reducible refine gate_dst (N := 6) rfl ?_); refine bbX (N := 6) #[.int .i64 0, .int .i64 0] 32 ?hr ?_; (case hr => first | (go_simp; done) | (go_simp; rfl)); intro g6 hg_ w6 hbox_ hq_; have G6 := Aside0.mk (show w.heap.size ≤ g6 from zQOq1); have N2_6 := Aside0.mk (ne_new H2.out hg_.out); have LT2_6 := Aside0.mk (lt_new H2.out hg_.out); have N3_6 := Aside0.mk (ne_new H3.out hg_.out); have LT3_6 := Aside0.mk (lt_new H3.out hg_.out); have N4_6 := Aside0.mk (ne_new H4.out hg_.out); have LT4_6 := Aside0.mk (lt_new H4.out hg_.out); have GA6 := Aside0.mk (show wa.heap.size ≤ g6 from zQOq2); have H6 := Aside0.mk hbox_; replace H2 := mvB hq_ H2; replace H3 := mvB hq_ H3; replace H4 := mvB hq_ H4; replace HB := Aside0.mk (below_step HB.out hq_); replace QB := Aside0.mk (below_step QB.out hq_); clear hg_ hbox_ hq_; obtain ⟨z4_0, f4_0, z4_1, f4_1, z4_2, f4_2, z4_3, f4_3, z4_4, f4_4, z4_5, f4_5, z4_6, f4_6, z4_7, f4_7, z4_8, f4_8, z4_9, f4_9⟩ := cf10 H4.out; obtain ⟨z6_0, f6_0, z6_1, f6_1⟩ := cf2 H6.out; have x46 := eq_false N4_6.out; have x64 := eq_false N4_6.out.symm))
 obtain ⟨F1a, F2a⟩ := fill29 H4.out (.string ⟨#[]⟩) (.int .i64 0) (.slice none 0 0) (.slice none 0 0) (.int .i64 0) (.int .i64 0) (.int .i64 0) (.string ⟨#[]⟩) (.int .i64 0) (.slice none 0 0) _ rfl
 have h6_ := (F2a.block g6 N4_6.out.symm).trans H6.out
 obtain ⟨F1b, F2b⟩ := fill32 h6_ (.int .i64 e2) (.int .i64 p) _ rfl
 clear x46 x64 h6_ z4_0 f4_0 z4_1 f4_1 z4_2 f4_2 z4_3 f4_3 z4_4 f4_4 z4_5 f4_5 z4_6 f4_6 z4_7 f4_7 z4_8 f4_8 z4_9 f4_9 z6_0 f6_0 z6_1 f6_1
 have H4b := Aside0.mk ((F2b.block g4 N4_6.out).trans F1a)
 have H6b := Aside0.mk F1b
 replace HB := Aside0.mk (HB.out.trans ((F2a.below.mono G4.out).trans (F2b.below.mono G6.out)))
 replace QB := Aside0.mk (QB.out.trans ((F2a.below.mono GA4.out).trans (F2b.below.mono GA6.out)))
 replace H2 := Aside0.mk ((F2b.block g2 N2_6.out).trans ((F2a.block g2 N2_4.out).trans H2.out))
 replace H3 := Aside0.mk ((F2b.block g3 N3_6.out).trans ((F2a.block g3 N3_4.out).trans H3.out))
 clear F1a F2a F1b F2b H4 H6
 generalize (((((((((((w6.setCell ⟨g4, 0, none⟩ (.string ⟨#[]⟩)).setCell ⟨g4, 1, none⟩ (.int .i64 0)).setCell ⟨g4, 2, none⟩ (.slice none 0 0)).setCell ⟨g4, 3, none⟩ (.slice none 0 0)).setCell ⟨g4, 4, none⟩ (.int .i64 0)).setCell ⟨g4, 5, none⟩ (.int .i64 0)).setCell ⟨g4, 6, none⟩ (.int .i64 0)).setCell ⟨g4, 7, none⟩ (.string ⟨#[]⟩)).setCell ⟨g4, 8, none⟩ (.int .i64 0)).setCell ⟨g4, 9, none⟩ (.slice none 0 0)).setCell ⟨g6, 0, none⟩ (.int .i64 e2)).setCell ⟨g6, 1, none⟩ (.int .i64 p) = wr at H4b H6b HB QB H2 H3 ⊢
 have H4 := H4b
 have H6 := H6b
 clear H4b H6b
 obtain ⟨z4_0, z4_1, z4_2, z4_3, z4_4, z4_5, z4_6, z4_7, z4_8, z4_9⟩ := cn10 H4.out
 obtain ⟨z6_0, z6_1⟩ := cn2 H6.out
 obtain ⟨z2_0, f2_0, z2_1, f2_1, z2_2, f2_2, z2_3, f2_3, z2_4, f2_4, z2_5, f2_5, z2_6, f2_6, z2_7, f2_7, z2_8, f2_8, z2_9, f2_9⟩ := cf10 H2.out
 obtain ⟨z3_0, f3_0, z3_1, f3_1⟩ := cf2 H3.out
 have x23 := eq_false N2_3.out; have x32 := eq_false N2_3.out.symm
 have x24 := eq_false N2_4.out; have x42 := eq_false N2_4.out.symm
 have x26 := eq_false N2_6.out; have x62 := eq_false N2_6.out.symm
 have x34 := eq_false N3_4.out; have x43 := eq_false N3_4.out.symm
 have x36 := eq_false N3_6.out; have x63 := eq_false N3_6.out.symm
 have x46 := eq_false N4_6.out; have x64 := eq_false N4_6.out.symm
 go_region
 all_goals
  go_wp2
  obtain ⟨F1a, F2a⟩ := fill29 H2.out (.string ⟨#[]⟩) (.int .i64 0) (.slice none 0 0) (.slice none 0 0) (.int .i64 0) (.int .i64 0) (.int .i64 0) (.string ⟨#[]⟩) (.int .i64 0) (.slice none 0 0) _ rfl
  have h3_ := (F2a.block g3 N2_3.out.symm).trans H3.out
  obtain ⟨F1b, F2b⟩ := fill32 h3_ (.int .i64 e2) (.int .i64 p) _ rfl
  have f2_ := (F2b.block g2 N2_3.out).trans F1a
  have FB := HB.out.trans ((F2a.below.mono G2.out).trans (F2b.below.mono G3.out))
  refine bodyPost_ret (results_list (rs := [.cell 2 29, .cell 3 32]) rfl (by simp) (.cell g2 29 z29v (0, 0) _ rfl (blk_drew f2_) hu29 rfl (by kernel_rfl) (.cell g3 32 #[.int .i64 e2, .int .i64 p] (0, 0) _ rfl (blk_drew F1b) hu32 rfl (by kernel_rfl) .nil))) rfl ?_
  exact ⟨rfl, below_drew FB⟩
set_option maxHeartbeats 8000000 in
set_option maxRecDepth 100000 in
theorem places_ok (a0 : ByteArray) (x : PR) (q : List Int) (w : World) (hC : ∀ w, Calls Try.prog 18 #[.string a0] w (RO w x q)) : Calls Try.prog 9 #[.string a0] w (LO w q) := by
 have HC := Aside0.mk hC
 have hu32 := Try.underlying32
 have hu29 := Try.underlying29
 clear hC
 have HB := Aside0.mk (Below.refl w.heap.size w)
 go_enter Try.func9, Try.ntmps9
 go_wp2_with (first | ((with_reducible refine gate_dst (N := 3) rfl ?_); refine bbX (N := 3) #[.int .i64 0, .int .i64 0] 32 ?hr ?_; (case hr => first | (go_simp; done) | (go_simp; rfl)); intro g3 hg_ w3 hbox_ hq_; have G3 := Aside0.mk (show w.heap.size ≤ g3 from zQOq1); have H3 := Aside0.mk hbox_; replace HB := Aside0.mk (below_step HB.out hq_); clear hg_ hbox_ hq_))
 have hW := HC.out w3
 refine hW.mono ?_
 clear hW
 rintro e wa ⟨v, A3, c3, rfl, hv, hR, qb⟩
 have VX := Aside0.mk hv
 have KX := Aside0.mk hR
 obtain ⟨AI, cI, AT, cT, AC, cC, hv0, -⟩ := VX.out
 subst hv0
 clear hv hR
 have BL3 := Aside0.mk (blk_lt H3.out)
 have BW := Aside0.mk HB.out.size
 replace H3 := mvB qb H3
 replace HB := Aside0.mk (below_step HB.out qb)
 have QB := Aside0.mk (Below.refl wa.heap.size wa)
 clear qb HC
 go_upto_region 2 with (first | ((with_reducible refine gate_dst (N := 4) rfl ?_); refine bbX (N := 4) z29v 29 ?hr ?_; (case hr => first | (go_simp; done) | (go_simp; rfl)); intro g4 hg_ w4 hbox_ hq_; have G4 := Aside0.mk (show w.heap.size ≤ g4 from zQOq1); have N3_4 := Aside0.mk (ne_new H3.out hg_.out); have LT3_4 := Aside0.mk (lt_new H3.out hg_.out); have GA4 := Aside0.mk (show wa.heap.size ≤ g4 from zQOq2); have H4 := Aside0.mk hbox_; replace H3 := mvB hq_ H3; replace HB := Aside0.mk (below_step HB.out hq_); replace QB := Aside0.mk (below_step QB.out hq_); clear hg_ hbox_ hq_) | ((with_reducible refine gate_dst (N := 6) rfl ?_); refine bbX (N := 6) #[.int .i64 0, .int .i64 0] 32 ?hr ?_; (case hr => first | (go_simp; done) | (go_simp; rfl)); intro g6 hg_ w6 hbox_ hq_; have G6 := Aside0.mk (show w.heap.size ≤ g6 from zQOq1); have N3_6 := Aside0.mk (ne_new H3.out hg_.out); have LT3_6 := Aside0.mk (lt_new H3.out hg_.out); have N4_6 := Aside0.mk (ne_new H4.out hg_.out); have LT4_6 := Aside0.mk (lt_new H4.out hg_.out); have GA6 := Aside0.mk (show wa.heap.size ≤ g6 from zQOq2); have H6 := Aside0.mk hbox_; replace H3 := mvB hq_ H3; replace H4 := mvB hq_ H4; replace HB := Aside0.mk (below_step HB.out hq_); replace QB := Aside0.mk (below_step QB.out hq_); clear hg_ hbox_ hq_; obtain ⟨z4_0, f4_0, z4_1, f4_1, z4_2, f4_2, z4_3, f4_3, z4_4, f4_4, z4_5, f4_5, z4_6, f4_6, z4_7, f4_7, z4_8, f4_8, z4_9, f4_9⟩ := cf10 H4.out; obtain ⟨z6_0, f6_0, z6_1, f6_1⟩ := cf2 H6.out; have x46 := eq_false N4_6.out; have x64 := eq_false N4_6.out.symm))
 obtain ⟨F1a, F2a⟩ := fill29 H4.out (.string x.nm) (.int .i64 x.vals) (.slice AI x.init.length cI) (.slice AT x.thr.length cT) (.int .i64 x.ask) (.int .i64 x.cnd.f0) (.int .i64 x.cnd.f1) (.string x.cnd.f2) (.int .i64 x.cnd.f3) (.slice AC x.cnd.f4.length cC) _ rfl
 have h6_ := (F2a.block g6 N4_6.out.symm).trans H6.out
 obtain ⟨F1b, F2b⟩ := fill32 h6_ (.int .i64 0) (.int .i64 0) _ rfl
 clear x46 x64 h6_ z4_0 f4_0 z4_1 f4_1 z4_2 f4_2 z4_3 f4_3 z4_4 f4_4 z4_5 f4_5 z4_6 f4_6 z4_7 f4_7 z4_8 f4_8 z4_9 f4_9 z6_0 f6_0 z6_1 f6_1
 have H4b := Aside0.mk ((F2b.block g4 N4_6.out).trans F1a)
 have H6b := Aside0.mk F1b
 replace HB := Aside0.mk (HB.out.trans ((F2a.below.mono G4.out).trans (F2b.below.mono G6.out)))
 replace QB := Aside0.mk (QB.out.trans ((F2a.below.mono GA4.out).trans (F2b.below.mono GA6.out)))
 replace H3 := Aside0.mk ((F2b.block g3 N3_6.out).trans ((F2a.block g3 N3_4.out).trans H3.out))
 clear F1a F2a F1b F2b H4 H6
 generalize (((((((((((w6.setCell ⟨g4, 0, none⟩ (.string x.nm)).setCell ⟨g4, 1, none⟩ (.int .i64 x.vals)).setCell ⟨g4, 2, none⟩ (.slice AI x.init.length cI)).setCell ⟨g4, 3, none⟩ (.slice AT x.thr.length cT)).setCell ⟨g4, 4, none⟩ (.int .i64 x.ask)).setCell ⟨g4, 5, none⟩ (.int .i64 x.cnd.f0)).setCell ⟨g4, 6, none⟩ (.int .i64 x.cnd.f1)).setCell ⟨g4, 7, none⟩ (.string x.cnd.f2)).setCell ⟨g4, 8, none⟩ (.int .i64 x.cnd.f3)).setCell ⟨g4, 9, none⟩ (.slice AC x.cnd.f4.length cC)).setCell ⟨g6, 0, none⟩ (.int .i64 0)).setCell ⟨g6, 1, none⟩ (.int .i64 0) = wr at H4b H6b HB QB H3 ⊢
 have H4 := H4b
 have H6 := H6b
 clear H4b H6b
 obtain ⟨z6_0, z6_1⟩ := cn2 H6.out
 obtain ⟨z3_0, f3_0, z3_1, f3_1⟩ := cf2 H3.out
 have x34 := eq_false N3_4.out; have x43 := eq_false N3_4.out.symm
 have x36 := eq_false N3_6.out; have x63 := eq_false N3_6.out.symm
 have x46 := eq_false N4_6.out; have x64 := eq_false N4_6.out.symm
 go_region
 all_goals
  go_wp2
  obtain ⟨F1b, F2b⟩ := fill32 H3.out (.int .i64 0) (.int .i64 0) _ rfl
  have FB := HB.out.trans (F2b.below.mono G3.out)
  refine bodyPost_ret (results_list (rs := [.tmp 2, .cell 3 32]) rfl (by simp) (.tmp (.cell g3 32 #[.int .i64 0, .int .i64 0] (0, 0) _ rfl (blk_drew F1b) hu32 rfl (by kernel_rfl) .nil))) rfl ?_
  exact ⟨_, _, rfl, Kd.R_below (Kd.R_lower (ints_to KX.out (fun k h1 h2 => (F2b.block k (Nat.ne_of_gt (Nat.lt_of_lt_of_le BL3.out h1))).trans (QB.out.block k h2))) BW.out) (below_drew (Below.refl _ _)), below_drew FB⟩
set_option maxHeartbeats 8000000 in
set_option maxRecDepth 100000 in
theorem places_bad (a0 : ByteArray) (e2 p : Int) (w : World) (hC : ∀ w, Calls Try.prog 18 #[.string a0] w (RF w e2 p)) : Calls Try.prog 9 #[.string a0] w (LF w e2 p) := by
 have HC := Aside0.mk hC
 have hu32 := Try.underlying32
 have hu29 := Try.underlying29
 clear hC
 have HB := Aside0.mk (Below.refl w.heap.size w)
 go_enter Try.func9, Try.ntmps9
 go_wp2_with (first | ((with_reducible refine gate_dst (N := 3) rfl ?_); refine bbX (N := 3) #[.int .i64 0, .int .i64 0] 32 ?hr ?_; (case hr => first | (go_simp; done) | (go_simp; rfl)); intro g3 hg_ w3 hbox_ hq_; have G3 := Aside0.mk (show w.heap.size ≤ g3 from zQOq1); have H3 := Aside0.mk hbox_; replace HB := Aside0.mk (below_step HB.out hq_); clear hg_ hbox_ hq_))
 have hW := HC.out w3
 refine hW.mono ?_
 clear hW
 rintro e wa ⟨he, qb⟩
 obtain rfl : e = .returned (.tuple #[.agg z29v, .slice none 0 0, .agg #[.int .i64 e2, .int .i64 p]]) := he
 have BL3 := Aside0.mk (blk_lt H3.out)
 have BW := Aside0.mk HB.out.size
 replace H3 := mvB qb H3
 replace HB := Aside0.mk (below_step HB.out qb)
 have QB := Aside0.mk (Below.refl wa.heap.size wa)
 clear qb HC
 go_upto_region 2 with (first | ((with_reducible refine gate_dst (N := 4) rfl ?_); refine bbX (N := 4) z29v 29 ?hr ?_; (case hr => first | (go_simp; done) | (go_simp; rfl)); intro g4 hg_ w4 hbox_ hq_; have G4 := Aside0.mk (show w.heap.size ≤ g4 from zQOq1); have N3_4 := Aside0.mk (ne_new H3.out hg_.out); have LT3_4 := Aside0.mk (lt_new H3.out hg_.out); have GA4 := Aside0.mk (show wa.heap.size ≤ g4 from zQOq2); have H4 := Aside0.mk hbox_; replace H3 := mvB hq_ H3; replace HB := Aside0.mk (below_step HB.out hq_); replace QB := Aside0.mk (below_step QB.out hq_); clear hg_ hbox_ hq_) | ((with_reducible refine gate_dst (N := 6) rfl ?_); refine bbX (N := 6) #[.int .i64 0, .int .i64 0] 32 ?hr ?_; (case hr => first | (go_simp; done) | (go_simp; rfl)); intro g6 hg_ w6 hbox_ hq_; have G6 := Aside0.mk (show w.heap.size ≤ g6 from zQOq1); have N3_6 := Aside0.mk (ne_new H3.out hg_.out); have LT3_6 := Aside0.mk (lt_new H3.out hg_.out); have N4_6 := Aside0.mk (ne_new H4.out hg_.out); have LT4_6 := Aside0.mk (lt_new H4.out hg_.out); have GA6 := Aside0.mk (show wa.heap.size ≤ g6 from zQOq2); have H6 := Aside0.mk hbox_; replace H3 := mvB hq_ H3; replace H4 := mvB hq_ H4; replace HB := Aside0.mk (below_step HB.out hq_); replace QB := Aside0.mk (below_step QB.out hq_); clear hg_ hbox_ hq_; obtain ⟨z4_0, f4_0, z4_1, f4_1, z4_2, f4_2, z4_3, f4_3, z4_4, f4_4, z4_5, f4_5, z4_6, f4_6, z4_7, f4_7, z4_8, f4_8, z4_9, f4_9⟩ := cf10 H4.out; obtain ⟨z6_0, f6_0, z6_1, f6_1⟩ := cf2 H6.out; have x46 := eq_false N4_6.out; have x64 := eq_false N4_6.out.symm))
 obtain ⟨F1a, F2a⟩ := fill29 H4.out (.string ⟨#[]⟩) (.int .i64 0) (.slice none 0 0) (.slice none 0 0) (.int .i64 0) (.int .i64 0) (.int .i64 0) (.string ⟨#[]⟩) (.int .i64 0) (.slice none 0 0) _ rfl
 have h6_ := (F2a.block g6 N4_6.out.symm).trans H6.out
 obtain ⟨F1b, F2b⟩ := fill32 h6_ (.int .i64 e2) (.int .i64 p) _ rfl
 clear x46 x64 h6_ z4_0 f4_0 z4_1 f4_1 z4_2 f4_2 z4_3 f4_3 z4_4 f4_4 z4_5 f4_5 z4_6 f4_6 z4_7 f4_7 z4_8 f4_8 z4_9 f4_9 z6_0 f6_0 z6_1 f6_1
 have H4b := Aside0.mk ((F2b.block g4 N4_6.out).trans F1a)
 have H6b := Aside0.mk F1b
 replace HB := Aside0.mk (HB.out.trans ((F2a.below.mono G4.out).trans (F2b.below.mono G6.out)))
 replace QB := Aside0.mk (QB.out.trans ((F2a.below.mono GA4.out).trans (F2b.below.mono GA6.out)))
 replace H3 := Aside0.mk ((F2b.block g3 N3_6.out).trans ((F2a.block g3 N3_4.out).trans H3.out))
 clear F1a F2a F1b F2b H4 H6
 generalize (((((((((((w6.setCell ⟨g4, 0, none⟩ (.string ⟨#[]⟩)).setCell ⟨g4, 1, none⟩ (.int .i64 0)).setCell ⟨g4, 2, none⟩ (.slice none 0 0)).setCell ⟨g4, 3, none⟩ (.slice none 0 0)).setCell ⟨g4, 4, none⟩ (.int .i64 0)).setCell ⟨g4, 5, none⟩ (.int .i64 0)).setCell ⟨g4, 6, none⟩ (.int .i64 0)).setCell ⟨g4, 7, none⟩ (.string ⟨#[]⟩)).setCell ⟨g4, 8, none⟩ (.int .i64 0)).setCell ⟨g4, 9, none⟩ (.slice none 0 0)).setCell ⟨g6, 0, none⟩ (.int .i64 e2)).setCell ⟨g6, 1, none⟩ (.int .i64 p) = wr at H4b H6b HB QB H3 ⊢
 have H4 := H4b
 have H6 := H6b
 clear H4b H6b
 obtain ⟨z6_0, z6_1⟩ := cn2 H6.out
 obtain ⟨z3_0, f3_0, z3_1, f3_1⟩ := cf2 H3.out
 have x34 := eq_false N3_4.out; have x43 := eq_false N3_4.out.symm
 have x36 := eq_false N3_6.out; have x63 := eq_false N3_6.out.symm
 have x46 := eq_false N4_6.out; have x64 := eq_false N4_6.out.symm
 go_region
 all_goals
  go_wp2
  obtain ⟨F1b, F2b⟩ := fill32 H3.out (.int .i64 e2) (.int .i64 p) _ rfl
  have FB := HB.out.trans (F2b.below.mono G3.out)
  refine bodyPost_ret (results_list (rs := [.tmp 2, .cell 3 32]) rfl (by simp) (.tmp (.cell g3 32 #[.int .i64 e2, .int .i64 p] (0, 0) _ rfl (blk_drew F1b) hu32 rfl (by kernel_rfl) .nil))) rfl ?_
  exact ⟨rfl, below_drew FB⟩
end Go.Proofs.Ytinnldfmbeafiaa.PA
