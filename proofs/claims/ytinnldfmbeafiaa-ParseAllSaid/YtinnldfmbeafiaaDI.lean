/- The document's Parse; walked by hand. -/
import Derived.Test.YtinnldfmbeafiaaDH
import Derived.Test.YtinnldfmbeafiaaPAx8
namespace Go.Proofs.Ytinnldfmbeafiaa.PA.D
open Go.RowKit Go.Proofs.YtinnldfmbeafiaaW.PrintWords Go.Proofs.YtinnldfmbeafiaaW.PrintLast Go.Proofs.YtinnldfmbeafiaaW.PrintMore
set_option linter.unusedVariables false
set_option linter.unusedSimpArgs false
attribute [local go_sem] cell_set_some fld53_0 fld53_1 fld53_2 fld53_3
theorem zDIq1 {p : Prop} (h : p := by rw [hg_.out]; exact HB.out.size) : p := h
set_option maxHeartbeats 8000000 in
set_option maxRecDepth 100000 in
theorem parse_err (k : Nat) (a0 : ByteArray) (r1 : List S53) (r2 r3 : Int) (w : World) (hL : witheref6_Lex.f k a0 = some (r1, r2, r3)) (hr : r2 ≠ 0) : Calls Try.prog 10 #[.string a0] w (RF w r2 r3) := by
 have HL := Aside0.mk hL
 have hu32 := Try.underlying32
 have hu29 := Try.underlying29
 have e1 := eq_false hr
 have e2 := decide_eq_false hr
 have e3 : (r2 == 0) = false := beq_eq_false_iff_ne.mpr hr
 clear hL
 have HB := Aside0.mk (Below.refl w.heap.size w)
 go_enter Try.func10, Try.ntmps10
 go_wp2_with (first | ((with_reducible refine gate_dst (N := 2) rfl ?_); refine bbX (N := 2) z29v 29 ?hr ?_; (case hr => first | (go_simp; done) | (go_simp; rfl)); intro g2 hg_ w2 hbox_ hq_; have G2 := Aside0.mk (show w.heap.size ≤ g2 from zDIq1); have H2 := Aside0.mk hbox_; replace HB := Aside0.mk (below_step HB.out hq_); clear hg_ hbox_ hq_) | ((with_reducible refine gate_dst (N := 4) rfl ?_); refine bbX (N := 4) #[.int .i64 0, .int .i64 0] 32 ?hr ?_; (case hr => first | (go_simp; done) | (go_simp; rfl)); intro g4 hg_ w4 hbox_ hq_; have G4 := Aside0.mk (show w.heap.size ≤ g4 from zDIq1); have N2_4 := Aside0.mk (ne_new H2.out hg_.out); have LT2_4 := Aside0.mk (lt_new H2.out hg_.out); have H4 := Aside0.mk hbox_; replace H2 := mvB hq_ H2; replace HB := Aside0.mk (below_step HB.out hq_); clear hg_ hbox_ hq_))
 have hW := witheref6_Lex.calls k a0 r1 r2 r3 w4 HL.out
 refine hW.mono ?_
 clear hW
 rintro e wa ⟨va, rfl, qr, qb⟩
 obtain ⟨Aa, ca, rfl, hca, hC⟩ := Kd.R_reads qr
 replace H2 := mvB qb H2
 replace H4 := mvB qb H4
 replace HB := Aside0.mk (below_step HB.out qb)
 have CR := Aside0.mk hC
 clear qb qr hC
 go_upto_region 2 with (first | ((with_reducible refine gate_dst (N := 6) rfl ?_); refine bbX (N := 6) #[.int .i64 0, .int .i64 0] 32 ?hr ?_; (case hr => first | (go_simp; done) | (go_simp; rfl)); intro g6 hg_ w6 hbox_ hq_; obtain ⟨z0_, f0_, z1_, f1_⟩ := cf2 hbox_))
 obtain ⟨F1_, F2_⟩ := fill32 hbox_ (.int .i64 r2) (.int .i64 r3) _ rfl
 replace hq_ := hq_.trans (F2_.below.mono (Nat.le_of_eq hg_.out.symm))
 have G6 := Aside0.mk (show w.heap.size ≤ g6 from zDIq1)
 have N2_6 := Aside0.mk (ne_new H2.out hg_.out); have LT2_6 := Aside0.mk (lt_new H2.out hg_.out)
 have N4_6 := Aside0.mk (ne_new H4.out hg_.out); have LT4_6 := Aside0.mk (lt_new H4.out hg_.out)
 clear hg_ hbox_ F2_ z0_ f0_ z1_ f1_
 generalize (w6.setCell ⟨g6, 0, none⟩ (.int .i64 r2)).setCell ⟨g6, 1, none⟩ (.int .i64 r3) = v6 at F1_ hq_ ⊢
 have H6 := Aside0.mk F1_
 replace H2 := mvB hq_ H2
 replace H4 := mvB hq_ H4
 replace CR := Aside0.mk (Kd.C_below CR.out hq_)
 replace HB := Aside0.mk (below_step HB.out hq_)
 clear F1_ hq_
 obtain ⟨z6_0, z6_1⟩ := cn2 H6.out
 obtain ⟨z2_0, f2_0, z2_1, f2_1, z2_2, f2_2, z2_3, f2_3, z2_4, f2_4, z2_5, f2_5, z2_6, f2_6, z2_7, f2_7, z2_8, f2_8, z2_9, f2_9⟩ := cf10 H2.out
 obtain ⟨z4_0, f4_0, z4_1, f4_1⟩ := cf2 H4.out
 go_upto_region 3 with (fail)
 have x24 := eq_false N2_4.out; have x42 := eq_false N2_4.out.symm
 have x26 := eq_false N2_6.out; have x62 := eq_false N2_6.out.symm
 have x46 := eq_false N4_6.out; have x64 := eq_false N4_6.out.symm
 go_region
 all_goals
  go_wp2
  obtain ⟨F1a, F2a⟩ := fill29 H2.out (.string ⟨#[]⟩) (.int .i64 0) (.slice none 0 0) (.slice none 0 0) (.int .i64 0) (.int .i64 0) (.int .i64 0) (.string ⟨#[]⟩) (.int .i64 0) (.slice none 0 0) _ rfl
  have h4_ := (F2a.block g4 N2_4.out.symm).trans H4.out
  obtain ⟨F1b, F2b⟩ := fill32 h4_ (.int .i64 r2) (.int .i64 r3) _ rfl
  have f2_ := (F2b.block g2 N2_4.out).trans F1a
  have FB := HB.out.trans ((F2a.below.mono G2.out).trans (F2b.below.mono G4.out))
  refine bodyPost_ret (results_list (rs := [.cell 2 29, .tmp 3, .cell 4 32]) rfl (by simp) (.cell g2 29 z29v (0, 0) _ rfl (blk_drew f2_) hu29 rfl (by kernel_rfl) (.tmp (.cell g4 32 #[.int .i64 r2, .int .i64 r3] (0, 0) _ rfl (blk_drew F1b) hu32 rfl (by kernel_rfl) .nil)))) rfl ?_
  exact ⟨rfl, below_drew FB⟩
set_option maxHeartbeats 8000000 in
set_option maxRecDepth 100000 in
theorem parse_c (kl : Nat) (a0 : ByteArray) (r1 : List S53) (w : World) (hL : witheref6_Lex.f kl a0 = some (r1, 0, 0)) (ht : TsOk r1) (ht2 : ∀ E : Env, E.ts = r1 → Ok2 E) (kc ke kb : Nat) (R : Res PR) (hP : ∀ E : Env, E.ts = r1 → progP E kc ke kb 0 = R) (hR : R ≠ .out) : Calls Try.prog 10 #[.string a0] w (RS w r1 R) := by
 have HL := Aside0.mk hL
 have HT := Aside0.mk ht; have HT2 := Aside0.mk ht2
 have HP := Aside0.mk hP
 have HR := Aside0.mk hR
 have hu32 := Try.underlying32
 have hu29 := Try.underlying29
 have hu65 := Try.underlying65
 have hu53 := Try.underlying53
 clear hL ht ht2 hP hR
 have HB := Aside0.mk (Below.refl w.heap.size w)
 go_enter Try.func10, Try.ntmps10
 go_wp2_with (first | ((with_reducible refine gate_dst (N := 2) rfl ?_); refine bbX (N := 2) z29v 29 ?hr ?_; (case hr => first | (go_simp; done) | (go_simp; rfl)); intro g2 hg_ w2 hbox_ hq_; have G2 := Aside0.mk (show w.heap.size ≤ g2 from zDIq1); have H2 := Aside0.mk hbox_; replace HB := Aside0.mk (below_step HB.out hq_); clear hg_ hbox_ hq_) | ((with_reducible refine gate_dst (N := 4) rfl ?_); refine bbX (N := 4) #[.int .i64 0, .int .i64 0] 32 ?hr ?_; (case hr => first | (go_simp; done) | (go_simp; rfl)); intro g4 hg_ w4 hbox_ hq_; have G4 := Aside0.mk (show w.heap.size ≤ g4 from zDIq1); have N2_4 := Aside0.mk (ne_new H2.out hg_.out); have LT2_4 := Aside0.mk (lt_new H2.out hg_.out); have H4 := Aside0.mk hbox_; replace H2 := mvB hq_ H2; replace HB := Aside0.mk (below_step HB.out hq_); clear hg_ hbox_ hq_))
 have hW := witheref6_Lex.calls kl a0 r1 0 0 w4 HL.out
 refine hW.mono ?_
 clear hW
 rintro e wa ⟨va, rfl, qr, qb⟩
 obtain ⟨Aa, ca, rfl, hca, hC⟩ := Kd.R_reads qr
 replace H2 := mvB qb H2
 replace H4 := mvB qb H4
 replace HB := Aside0.mk (below_step HB.out qb)
 have CR := Aside0.mk hC
 have HCA := Aside0.mk hca
 clear qb qr hC hca
 go_upto_region 2 with (first | ((with_reducible refine gate_dst (N := 6) rfl ?_); refine bbX (N := 6) #[.int .i64 0, .int .i64 0] 32 ?hr ?_; (case hr => first | (go_simp; done) | (go_simp; rfl)); intro g6 hg_ w6 hbox_ hq_; obtain ⟨z0_, f0_, z1_, f1_⟩ := cf2 hbox_))
 obtain ⟨F1_, F2_⟩ := fill32 hbox_ (.int .i64 0) (.int .i64 0) _ rfl
 replace hq_ := hq_.trans (F2_.below.mono (Nat.le_of_eq hg_.out.symm))
 have G6 := Aside0.mk (show w.heap.size ≤ g6 from zDIq1)
 have N2_6 := Aside0.mk (ne_new H2.out hg_.out); have LT2_6 := Aside0.mk (lt_new H2.out hg_.out)
 have N4_6 := Aside0.mk (ne_new H4.out hg_.out); have LT4_6 := Aside0.mk (lt_new H4.out hg_.out)
 clear hg_ hbox_ F2_ z0_ f0_ z1_ f1_
 generalize (w6.setCell ⟨g6, 0, none⟩ (.int .i64 0)).setCell ⟨g6, 1, none⟩ (.int .i64 0) = v6 at F1_ hq_ ⊢
 have H6 := Aside0.mk F1_
 replace H2 := mvB hq_ H2
 replace H4 := mvB hq_ H4
 replace CR := Aside0.mk (Kd.C_below CR.out hq_)
 replace HB := Aside0.mk (below_step HB.out hq_)
 clear F1_ hq_
 obtain ⟨z6_0, z6_1⟩ := cn2 H6.out
 go_wp2_with ((with_reducible refine gate_dst (N := 21) rfl ?_); refine box_event ?hg (N := 21) ?hd (cs := #[.slice Aa r1.length ca, .int .i64 0, .int .i64 (-1), .slice none 0 0]) (t := 65) ?hr ?_; (case hd => rfl); (case hg => rfl); (case hr => first | (go_simp; done) | (go_simp; rfl)); intro gc hg_ wc hbox_ hq_; have HE := Aside0.mk (show ∃ E : Env, E.w0 = v6 ∧ E.g = gc ∧ E.ts = r1 ∧ ST E ⟨0, false, []⟩ wc from ⟨_, rfl, rfl, rfl, cur_made hg_ hbox_ hq_ CR.out HCA.out HT.out (HT2.out _ rfl)⟩); have LC := Aside0.mk (show g2 < wc.heap.size ∧ g4 < wc.heap.size ∧ w.heap.size ≤ wc.heap.size from ⟨Nat.lt_of_lt_of_le (blk_lt H2.out) hq_.size, Nat.lt_of_lt_of_le (blk_lt H4.out) hq_.size, Nat.le_trans HB.out.size hq_.size⟩); clear hg_ hbox_ hq_)
 obtain ⟨E, hw0, rfl, rfl, hs⟩ := HE.out
 have hW := prog_c E kc ke kb 0 _ hs (fun _ e => HR.out ((HP.out _ rfl).symm.trans e))
 clear z6_0 z6_1
 refine hW.mono ?_
 clear hW hs HE
 rintro e wd ⟨x, v, t, rfl, hv, hs, -, hst⟩
 have QB := Aside0.mk (show Below v6.heap.size v6 wd from hw0 ▸ hs.below)
 rw [HP.out _ rfl] at hst
 have LW := Aside0.mk (show w.heap.size ≤ E.w0.heap.size ∧ g2 < E.w0.heap.size ∧ g4 < E.w0.heap.size from by rw [hw0]; exact ⟨HB.out.size, blk_lt H2.out, blk_lt H4.out⟩)
 replace H2 := mvB QB.out H2
 replace H4 := mvB QB.out H4
 replace HB := Aside0.mk (below_step HB.out QB.out)
 have HS := Aside0.mk hs
 have VX := Aside0.mk (VP.q hv)
 have ST_ := Aside0.mk hst
 obtain ⟨AI, cI, AT, cT, AC, cC, hv0, -⟩ := VX.out
 subst hv0
 clear hs hv hst QB CR HL H6 HCA HT hw0
 go_upto_region 6 with (first | ((with_reducible refine gate_dst (N := 8) rfl ?_); refine bbX (N := 8) z29v 29 ?hr ?_; (case hr => first | (go_simp; done) | (go_simp; rfl)); intro g8 hg_ w8 hbox_ hq_; obtain ⟨z0_, f0_, z1_, f1_, z2_, f2_, z3_, f3_, z4_, f4_, z5_, f5_, z6_, f6_, z7_, f7_, z8_, f8_, z9_, f9_⟩ := cf10 hbox_))
 obtain ⟨F1_, F2_⟩ := fill29 hbox_ (.string x.nm) (.int .i64 x.vals) (.slice AI x.init.length cI) (.slice AT x.thr.length cT) (.int .i64 x.ask) (.int .i64 x.cnd.f0) (.int .i64 x.cnd.f1) (.string x.cnd.f2) (.int .i64 x.cnd.f3) (.slice AC x.cnd.f4.length cC) _ rfl
 replace hq_ := hq_.trans (F2_.below.mono (Nat.le_of_eq hg_.out.symm))
 have G8 := Aside0.mk (show w.heap.size ≤ g8 from zDIq1)
 have N2_8 := Aside0.mk (ne_new H2.out hg_.out); have LT2_8 := Aside0.mk (lt_new H2.out hg_.out)
 have N4_8 := Aside0.mk (ne_new H4.out hg_.out); have LT4_8 := Aside0.mk (lt_new H4.out hg_.out)
 clear hg_ hbox_ F2_ z0_ f0_ z1_ f1_ z2_ f2_ z3_ f3_ z4_ f4_ z5_ f5_ z6_ f6_ z7_ f7_ z8_ f8_ z9_ f9_
 generalize (((((((((w8.setCell ⟨g8, 0, none⟩ (.string x.nm)).setCell ⟨g8, 1, none⟩ (.int .i64 x.vals)).setCell ⟨g8, 2, none⟩ (.slice AI x.init.length cI)).setCell ⟨g8, 3, none⟩ (.slice AT x.thr.length cT)).setCell ⟨g8, 4, none⟩ (.int .i64 x.ask)).setCell ⟨g8, 5, none⟩ (.int .i64 x.cnd.f0)).setCell ⟨g8, 6, none⟩ (.int .i64 x.cnd.f1)).setCell ⟨g8, 7, none⟩ (.string x.cnd.f2)).setCell ⟨g8, 8, none⟩ (.int .i64 x.cnd.f3)).setCell ⟨g8, 9, none⟩ (.slice AC x.cnd.f4.length cC) = v8 at F1_ hq_ ⊢
 have H8 := Aside0.mk F1_
 replace H2 := mvB hq_ H2
 replace H4 := mvB hq_ H4
 replace HS := Aside0.mk (ST.mv HS.out hq_)
 replace VX := Aside0.mk (VQ.below VX.out hq_)
 replace HB := Aside0.mk (below_step HB.out hq_)
 clear F1_ hq_
 have c2 := HS.out.c2
 rcases ST_.out.2 rfl with ⟨p, e1, hb, rfl⟩ | ⟨j, q, e1, rfl⟩
 ·subst e1
  clear ST_ HR HP
  rw [show bdI E t = (E.tk t.i).f3 from by unfold bdI; rw [if_pos hb]] at c2
  have b0 := HS.out.ok2.nn t.i
  have b1 := eq_true b0; have b2 := decide_eq_true b0
  clear b0 hb
  obtain ⟨z2_0, f2_0, z2_1, f2_1, z2_2, f2_2, z2_3, f2_3, z2_4, f2_4, z2_5, f2_5, z2_6, f2_6, z2_7, f2_7, z2_8, f2_8, z2_9, f2_9⟩ := cf10 H2.out
  obtain ⟨z4_0, f4_0, z4_1, f4_1⟩ := cf2 H4.out
  go_upto_region 7 with (fail)
  have x24 := eq_false N2_4.out; have x42 := eq_false N2_4.out.symm
  have y2 := eq_false (HS.out.ne H2.out (by decide)); have y2b := eq_false (HS.out.ne H2.out (by decide)).symm
  have y4 := eq_false (HS.out.ne H4.out (by decide)); have y4b := eq_false (HS.out.ne H4.out (by decide)).symm
  have y8 := eq_false (HS.out.ne H8.out (by decide)); have y8b := eq_false (HS.out.ne H8.out (by decide)).symm
  go_region
  all_goals
   go_wp2
   obtain ⟨F1a, F2a⟩ := fill29 H2.out (.string ⟨#[]⟩) (.int .i64 0) (.slice none 0 0) (.slice none 0 0) (.int .i64 0) (.int .i64 0) (.int .i64 0) (.string ⟨#[]⟩) (.int .i64 0) (.slice none 0 0) _ rfl
   have h4_ := (F2a.block g4 N2_4.out.symm).trans H4.out
   obtain ⟨F1b, F2b⟩ := fill32 h4_ (.int .i64 2) (.int .i64 (E.tk t.i).f3) _ rfl
   have f2_ := (F2b.block g2 N2_4.out).trans F1a
   have FB := HB.out.trans ((F2a.below.mono G2.out).trans (F2b.below.mono G4.out))
   refine bodyPost_ret (results_list (rs := [.cell 2 29, .tmp 3, .cell 4 32]) rfl (by simp) (.cell g2 29 z29v (0, 0) _ rfl (blk_drew f2_) hu29 rfl (by kernel_rfl) (.tmp (.cell g4 32 #[.int .i64 2, .int .i64 (E.tk t.i).f3] (0, 0) _ rfl (blk_drew F1b) hu32 rfl (by kernel_rfl) .nil)))) rfl ?_
   exact ⟨rfl, below_drew FB⟩
 ·subst e1
  clear ST_ HR HP
  rw [bdI_good rfl] at c2
  replace HS : Aside0 (ST E ⟨j, false, q⟩ _) := HS
  obtain ⟨A3, c3, c4, hR3⟩ := HS.out.parts
  have K3 := Aside0.mk hR3
  clear hR3
  obtain ⟨z8_0, z8_1, z8_2, z8_3, z8_4, z8_5, z8_6, z8_7, z8_8, z8_9⟩ := cn10 H8.out
  obtain ⟨z2_0, f2_0, z2_1, f2_1, z2_2, f2_2, z2_3, f2_3, z2_4, f2_4, z2_5, f2_5, z2_6, f2_6, z2_7, f2_7, z2_8, f2_8, z2_9, f2_9⟩ := cf10 H2.out
  obtain ⟨z4_0, f4_0, z4_1, f4_1⟩ := cf2 H4.out
  go_upto_region 8 with (fail)
  have x24 := eq_false N2_4.out; have x42 := eq_false N2_4.out.symm
  have x28 := eq_false N2_8.out; have x82 := eq_false N2_8.out.symm
  have x48 := eq_false N4_8.out; have x84 := eq_false N4_8.out.symm
  have y2 := eq_false (HS.out.ne H2.out (by decide)); have y2b := eq_false (HS.out.ne H2.out (by decide)).symm
  have y4 := eq_false (HS.out.ne H4.out (by decide)); have y4b := eq_false (HS.out.ne H4.out (by decide)).symm
  have y8 := eq_false (HS.out.ne H8.out (by decide)); have y8b := eq_false (HS.out.ne H8.out (by decide)).symm
  go_region
  all_goals
   go_wp2
   obtain ⟨F1a, F2a⟩ := fill29 H2.out (.string x.nm) (.int .i64 x.vals) (.slice AI x.init.length cI) (.slice AT x.thr.length cT) (.int .i64 x.ask) (.int .i64 x.cnd.f0) (.int .i64 x.cnd.f1) (.string x.cnd.f2) (.int .i64 x.cnd.f3) (.slice AC x.cnd.f4.length cC) _ rfl
   have h4_ := (F2a.block g4 N2_4.out.symm).trans H4.out
   obtain ⟨F1b, F2b⟩ := fill32 h4_ (.int .i64 0) (.int .i64 0) _ rfl
   have f2_ := (F2b.block g2 N2_4.out).trans F1a
   have FB := HB.out.trans ((F2a.below.mono G2.out).trans (F2b.below.mono G4.out))
   refine bodyPost_ret (results_list (rs := [.cell 2 29, .tmp 3, .cell 4 32]) rfl (by simp) (.cell g2 29 #[.string x.nm, .int .i64 x.vals, .slice AI x.init.length cI, .slice AT x.thr.length cT, .int .i64 x.ask, .int .i64 x.cnd.f0, .int .i64 x.cnd.f1, .string x.cnd.f2, .int .i64 x.cnd.f3, .slice AC x.cnd.f4.length cC] (0, 0) _ rfl (blk_drew f2_) hu29 rfl (by kernel_rfl) (.tmp (.cell g4 32 #[.int .i64 0, .int .i64 0] (0, 0) _ rfl (blk_drew F1b) hu32 rfl (by kernel_rfl) .nil)))) rfl ?_
   exact ⟨_, _, _, rfl, VQ.below (VQ.lower (VQ.only (VQ.only VX.out F2a LC.out.1) F2b LC.out.2.1) LC.out.2.2) (below_drew (Below.refl _ _)), Kd.R_below (Kd.R_lower (ints_only (ints_only K3.out F2a LW.out.2.1) F2b LW.out.2.2) LW.out.1) (below_drew (Below.refl _ _)), below_drew FB⟩
end Go.Proofs.Ytinnldfmbeafiaa.PA.D
