/- begun: whether parse does anything yet; walked by hand. -/
import Derived.Test.YtinnldfmbeafiaaFC
namespace Go.Proofs.Ytinnldfmbeafiaa.PA
open Go.RowKit Go.Proofs.YtinnldfmbeafiaaW.PrintWords Go.Proofs.YtinnldfmbeafiaaW.PrintLast Go.Proofs.YtinnldfmbeafiaaW.PrintMore
set_option linter.unusedVariables false
set_option linter.unusedSimpArgs false
attribute [local go_sem] cell_set_some fld53_0 fld53_1 fld53_2 fld53_3
def begA : S62 := ⟨3, 4, ⟨#[]⟩, ⟨#[120]⟩, [⟨1, 1, ⟨#[]⟩, []⟩], [], []⟩
def begB : S62 := ⟨2, 4, ⟨#[114]⟩, ⟨#[120]⟩, [], [], []⟩
def begX : PR := ⟨⟨#[97]⟩, 2, [⟨⟨#[120]⟩, 0⟩], [[begA, begB]], 1, ⟨2, 0, ⟨#[114]⟩, 1, []⟩⟩
def begT : ByteArray := ⟨([108, 105, 116, 109, 117, 115, 32, 97, 32, 118, 97, 108, 117, 101, 115, 32, 50, 32, 105, 110, 105, 116, 32, 120, 32, 48, 32, 116, 104, 114, 101, 97, 100, 32, 123, 32, 115, 116, 111, 114, 101].append [32, 115, 99, 32, 120, 32, 49, 59, 32, 114, 32, 61, 32, 108, 111, 97, 100, 32, 115, 99, 32, 120, 59, 32, 125, 32, 101, 120, 105, 115, 116, 115, 32, 48, 58, 114, 32, 61, 61, 32, 49]).toArray⟩
theorem beg1 : ansS begT = ⟨begX, [0, 18, 36, 50, 67], 0, 0⟩ := by kernel_rfl
def begU : ByteArray := ⟨#[108, 105, 116, 109, 117, 115, 32, 97, 32, 118, 97, 108, 117, 101, 115, 32, 120]⟩
theorem beg3 : ansS begU = ⟨noPR, [], 2, 16⟩ := by kernel_rfl
set_option maxHeartbeats 8000000 in
set_option maxRecDepth 100000 in
theorem begun_c (w : World) : Calls Try.prog 7 #[] w fun e w' => e = .returned (.bool true) ∧ Below w.heap.size w w' := by
 have hu32 := Try.underlying32
 have hu29 := Try.underlying29
 have hu62 := Try.underlying62
 have hu27 := Try.underlying27
 have HB := Aside0.mk (Below.refl w.heap.size w)
 go_enter Try.func7, Try.ntmps7
 go_wp2_with (fail)
 refine Calls.mono (parse_u begT _) ?_
 rintro e wa ⟨v, he, hv, qb⟩
 replace HB := Aside0.mk (below_step HB.out qb)
 have QB := Aside0.mk (Below.refl wa.heap.size wa)
 clear qb
 rw [beg1] at he hv
 obtain ⟨AI1, cI1, AT1, cT1, AC1, cC1, hv0, _, _, hT1, hT, _, _⟩ := hv
 obtain rfl : v = .agg #[.string ⟨#[97]⟩, .int .i64 2, .slice AI1 1 cI1, .slice AT1 1 cT1, .int .i64 1, .int .i64 2, .int .i64 0, .string ⟨#[114]⟩, .int .i64 1, .slice AC1 0 cC1] := hv0
 obtain rfl : e = .returned (.tuple #[.agg #[.string ⟨#[97]⟩, .int .i64 2, .slice AI1 1 cI1, .slice AT1 1 cT1, .int .i64 1, .int .i64 2, .int .i64 0, .string ⟨#[114]⟩, .int .i64 1, .slice AC1 0 cC1], .agg #[.int .i64 0, .int .i64 0]]) := he
 have RT := Aside0.mk (show Kd.F (Kd.slice 62 k62) _ _ AT1 1 [[begA, begB]] from hT)
 clear hT1 hT
 go_upto_region 2 with (first | ((with_reducible refine gate_dst (N := 1) rfl ?_); refine bbX (N := 1) z29v 29 ?hr ?_; (case hr => first | (go_simp; done) | (go_simp; rfl)); intro g1 hg_ w1 hbox_ hq_; have G1 := Aside0.mk (show w.heap.size ≤ g1 from by rw [hg_.out]; exact HB.out.size); have GA1 := Aside0.mk (show wa.heap.size ≤ g1 from by rw [hg_.out]; exact QB.out.size); have H1 := Aside0.mk hbox_; replace HB := Aside0.mk (below_step HB.out hq_); replace QB := Aside0.mk (below_step QB.out hq_); clear hg_ hbox_ hq_) | ((with_reducible refine gate_dst (N := 2) rfl ?_); refine bbX (N := 2) #[.int .i64 0, .int .i64 0] 32 ?hr ?_; (case hr => first | (go_simp; done) | (go_simp; rfl)); intro g2 hg_ w2 hbox_ hq_; have G2 := Aside0.mk (show w.heap.size ≤ g2 from by rw [hg_.out]; exact HB.out.size); have N1_2 := Aside0.mk (ne_new H1.out hg_.out); have LT1_2 := Aside0.mk (lt_new H1.out hg_.out); have GA2 := Aside0.mk (show wa.heap.size ≤ g2 from by rw [hg_.out]; exact QB.out.size); have H2 := Aside0.mk hbox_; replace H1 := mvB hq_ H1; replace HB := Aside0.mk (below_step HB.out hq_); replace QB := Aside0.mk (below_step QB.out hq_); clear hg_ hbox_ hq_; obtain ⟨z1_0, f1_0, z1_1, f1_1, z1_2, f1_2, z1_3, f1_3, z1_4, f1_4, z1_5, f1_5, z1_6, f1_6, z1_7, f1_7, z1_8, f1_8, z1_9, f1_9⟩ := cf10 H1.out; obtain ⟨z2_0, f2_0, z2_1, f2_1⟩ := cf2 H2.out; have x12 := eq_false N1_2.out; have x21 := eq_false N1_2.out.symm))
 obtain ⟨F11, F21⟩ := fill29 H1.out (.string ⟨#[97]⟩) (.int .i64 2) (.slice AI1 1 cI1) (.slice AT1 1 cT1) (.int .i64 1) (.int .i64 2) (.int .i64 0) (.string ⟨#[114]⟩) (.int .i64 1) (.slice AC1 0 cC1) _ rfl
 obtain ⟨F12, F22⟩ := fill32 ((F21.block g2 N1_2.out.symm).trans H2.out) (.int .i64 0) (.int .i64 0) _ rfl
 clear x12 x21 z1_0 f1_0 z1_1 f1_1 z1_2 f1_2 z1_3 f1_3 z1_4 f1_4 z1_5 f1_5 z1_6 f1_6 z1_7 f1_7 z1_8 f1_8 z1_9 f1_9 z2_0 f2_0 z2_1 f2_1
 have H1b := Aside0.mk ((F22.block g1 N1_2.out).trans F11)
 have H2b := Aside0.mk F12
 replace HB := Aside0.mk (HB.out.trans ((F21.below.mono G1.out).trans (F22.below.mono G2.out)))
 replace QB := Aside0.mk (QB.out.trans ((F21.below.mono GA1.out).trans (F22.below.mono GA2.out)))
 clear F11 F21 H1 F12 F22 H2
 generalize (((((((((((w2.setCell ⟨g1, 0, none⟩ (.string ⟨#[97]⟩)).setCell ⟨g1, 1, none⟩ (.int .i64 2)).setCell ⟨g1, 2, none⟩ (.slice AI1 1 cI1)).setCell ⟨g1, 3, none⟩ (.slice AT1 1 cT1)).setCell ⟨g1, 4, none⟩ (.int .i64 1)).setCell ⟨g1, 5, none⟩ (.int .i64 2)).setCell ⟨g1, 6, none⟩ (.int .i64 0)).setCell ⟨g1, 7, none⟩ (.string ⟨#[114]⟩)).setCell ⟨g1, 8, none⟩ (.int .i64 1)).setCell ⟨g1, 9, none⟩ (.slice AC1 0 cC1)).setCell ⟨g2, 0, none⟩ (.int .i64 0)).setCell ⟨g2, 1, none⟩ (.int .i64 0) = wb at H1b H2b HB QB  ⊢
 have H1 := H1b
 have H2 := H2b
 clear H1b H2b
 replace RT := Aside0.mk (Kd.F_below RT.out QB.out)
 clear QB
 go_wp2_with (fail)
 refine Calls.mono (places_u begT _) ?_
 rintro e wc ⟨A3, c3, he, hq, qb⟩
 replace H1 := mvB qb H1
 replace H2 := mvB qb H2
 replace HB := Aside0.mk (below_step HB.out qb)
 replace RT := Aside0.mk (Kd.F_below RT.out qb)
 have QB := Aside0.mk (Below.refl wc.heap.size wc)
 clear qb
 rw [beg1] at he hq
 obtain rfl : e = .returned (.tuple #[.slice A3 5 c3, .agg #[.int .i64 0, .int .i64 0]]) := he
 have RQ := Aside0.mk (show Kd.R (Kd.int .i64) 3 _ _ (fun _ => True) (.slice A3 5 c3) [0, 18, 36, 50, 67] from hq)
 clear hq
 go_upto_region 3 with (first | ((with_reducible refine gate_dst (N := 4) rfl ?_); refine bbX (N := 4) #[.int .i64 0, .int .i64 0] 32 ?hr ?_; (case hr => first | (go_simp; done) | (go_simp; rfl)); intro g4 hg_ w4 hbox_ hq_; have G4 := Aside0.mk (show w.heap.size ≤ g4 from by rw [hg_.out]; exact HB.out.size); have N1_4 := Aside0.mk (ne_new H1.out hg_.out); have LT1_4 := Aside0.mk (lt_new H1.out hg_.out); have N2_4 := Aside0.mk (ne_new H2.out hg_.out); have LT2_4 := Aside0.mk (lt_new H2.out hg_.out); have GA4 := Aside0.mk (show wc.heap.size ≤ g4 from by rw [hg_.out]; exact QB.out.size); have H4 := Aside0.mk hbox_; replace H1 := mvB hq_ H1; replace H2 := mvB hq_ H2; replace HB := Aside0.mk (below_step HB.out hq_); replace QB := Aside0.mk (below_step QB.out hq_); clear hg_ hbox_ hq_; obtain ⟨z4_0, f4_0, z4_1, f4_1⟩ := cf2 H4.out))
 obtain ⟨F14, F24⟩ := fill32 H4.out (.int .i64 0) (.int .i64 0) _ rfl
 clear z4_0 f4_0 z4_1 f4_1
 have H4b := Aside0.mk F14
 replace H1 := Aside0.mk ((F24.block g1 N1_4.out).trans H1.out)
 replace H2 := Aside0.mk ((F24.block g2 N2_4.out).trans H2.out)
 replace HB := Aside0.mk (HB.out.trans (F24.below.mono G4.out))
 replace QB := Aside0.mk (QB.out.trans (F24.below.mono GA4.out))
 clear F14 F24 H4
 generalize (w4.setCell ⟨g4, 0, none⟩ (.int .i64 0)).setCell ⟨g4, 1, none⟩ (.int .i64 0) = wd at H4b HB QB H1 H2 ⊢
 have H4 := H4b
 clear H4b
 replace RT := Aside0.mk (Kd.F_below RT.out QB.out)
 replace RQ := Aside0.mk (Kd.R_below RQ.out QB.out)
 clear QB
 go_wp2_with (fail)
 refine Calls.mono (parse_u begU _) ?_
 rintro e we ⟨v, he, hv, qb⟩
 replace H1 := mvB qb H1
 replace H2 := mvB qb H2
 replace H4 := mvB qb H4
 replace HB := Aside0.mk (below_step HB.out qb)
 replace RT := Aside0.mk (Kd.F_below RT.out qb)
 replace RQ := Aside0.mk (Kd.R_below RQ.out qb)
 have QB := Aside0.mk (Below.refl we.heap.size we)
 clear qb
 rw [beg3] at he hv
 obtain ⟨AI3, cI3, AT3, cT3, AC3, cC3, hv0, _, _, _, _, _, _⟩ := hv
 obtain rfl : v = .agg #[.string ⟨#[]⟩, .int .i64 0, .slice AI3 0 cI3, .slice AT3 0 cT3, .int .i64 0, .int .i64 0, .int .i64 0, .string ⟨#[]⟩, .int .i64 0, .slice AC3 0 cC3] := hv0
 obtain rfl : e = .returned (.tuple #[.agg #[.string ⟨#[]⟩, .int .i64 0, .slice AI3 0 cI3, .slice AT3 0 cT3, .int .i64 0, .int .i64 0, .int .i64 0, .string ⟨#[]⟩, .int .i64 0, .slice AC3 0 cC3], .agg #[.int .i64 2, .int .i64 16]]) := he
 go_upto_region 4 with (first | ((with_reducible refine gate_dst (N := 5) rfl ?_); refine bbX (N := 5) z29v 29 ?hr ?_; (case hr => first | (go_simp; done) | (go_simp; rfl)); intro g5 hg_ w5 hbox_ hq_; have G5 := Aside0.mk (show w.heap.size ≤ g5 from by rw [hg_.out]; exact HB.out.size); have N1_5 := Aside0.mk (ne_new H1.out hg_.out); have LT1_5 := Aside0.mk (lt_new H1.out hg_.out); have N2_5 := Aside0.mk (ne_new H2.out hg_.out); have LT2_5 := Aside0.mk (lt_new H2.out hg_.out); have N4_5 := Aside0.mk (ne_new H4.out hg_.out); have LT4_5 := Aside0.mk (lt_new H4.out hg_.out); have GA5 := Aside0.mk (show we.heap.size ≤ g5 from by rw [hg_.out]; exact QB.out.size); have H5 := Aside0.mk hbox_; replace H1 := mvB hq_ H1; replace H2 := mvB hq_ H2; replace H4 := mvB hq_ H4; replace HB := Aside0.mk (below_step HB.out hq_); replace QB := Aside0.mk (below_step QB.out hq_); clear hg_ hbox_ hq_) | ((with_reducible refine gate_dst (N := 6) rfl ?_); refine bbX (N := 6) #[.int .i64 0, .int .i64 0] 32 ?hr ?_; (case hr => first | (go_simp; done) | (go_simp; rfl)); intro g6 hg_ w6 hbox_ hq_; have G6 := Aside0.mk (show w.heap.size ≤ g6 from by rw [hg_.out]; exact HB.out.size); have N1_6 := Aside0.mk (ne_new H1.out hg_.out); have LT1_6 := Aside0.mk (lt_new H1.out hg_.out); have N2_6 := Aside0.mk (ne_new H2.out hg_.out); have LT2_6 := Aside0.mk (lt_new H2.out hg_.out); have N4_6 := Aside0.mk (ne_new H4.out hg_.out); have LT4_6 := Aside0.mk (lt_new H4.out hg_.out); have N5_6 := Aside0.mk (ne_new H5.out hg_.out); have LT5_6 := Aside0.mk (lt_new H5.out hg_.out); have GA6 := Aside0.mk (show we.heap.size ≤ g6 from by rw [hg_.out]; exact QB.out.size); have H6 := Aside0.mk hbox_; replace H1 := mvB hq_ H1; replace H2 := mvB hq_ H2; replace H4 := mvB hq_ H4; replace H5 := mvB hq_ H5; replace HB := Aside0.mk (below_step HB.out hq_); replace QB := Aside0.mk (below_step QB.out hq_); clear hg_ hbox_ hq_; obtain ⟨z5_0, f5_0, z5_1, f5_1, z5_2, f5_2, z5_3, f5_3, z5_4, f5_4, z5_5, f5_5, z5_6, f5_6, z5_7, f5_7, z5_8, f5_8, z5_9, f5_9⟩ := cf10 H5.out; obtain ⟨z6_0, f6_0, z6_1, f6_1⟩ := cf2 H6.out; have x56 := eq_false N5_6.out; have x65 := eq_false N5_6.out.symm))
 obtain ⟨F15, F25⟩ := fill29 H5.out (.string ⟨#[]⟩) (.int .i64 0) (.slice AI3 0 cI3) (.slice AT3 0 cT3) (.int .i64 0) (.int .i64 0) (.int .i64 0) (.string ⟨#[]⟩) (.int .i64 0) (.slice AC3 0 cC3) _ rfl
 obtain ⟨F16, F26⟩ := fill32 ((F25.block g6 N5_6.out.symm).trans H6.out) (.int .i64 2) (.int .i64 16) _ rfl
 clear x56 x65 z5_0 f5_0 z5_1 f5_1 z5_2 f5_2 z5_3 f5_3 z5_4 f5_4 z5_5 f5_5 z5_6 f5_6 z5_7 f5_7 z5_8 f5_8 z5_9 f5_9 z6_0 f6_0 z6_1 f6_1
 have H5b := Aside0.mk ((F26.block g5 N5_6.out).trans F15)
 have H6b := Aside0.mk F16
 replace H1 := Aside0.mk ((F26.block g1 N1_6.out).trans ((F25.block g1 N1_5.out).trans H1.out))
 replace H2 := Aside0.mk ((F26.block g2 N2_6.out).trans ((F25.block g2 N2_5.out).trans H2.out))
 replace H4 := Aside0.mk ((F26.block g4 N4_6.out).trans ((F25.block g4 N4_5.out).trans H4.out))
 replace HB := Aside0.mk (HB.out.trans ((F25.below.mono G5.out).trans (F26.below.mono G6.out)))
 replace QB := Aside0.mk (QB.out.trans ((F25.below.mono GA5.out).trans (F26.below.mono GA6.out)))
 clear F15 F25 H5 F16 F26 H6
 generalize (((((((((((w6.setCell ⟨g5, 0, none⟩ (.string ⟨#[]⟩)).setCell ⟨g5, 1, none⟩ (.int .i64 0)).setCell ⟨g5, 2, none⟩ (.slice AI3 0 cI3)).setCell ⟨g5, 3, none⟩ (.slice AT3 0 cT3)).setCell ⟨g5, 4, none⟩ (.int .i64 0)).setCell ⟨g5, 5, none⟩ (.int .i64 0)).setCell ⟨g5, 6, none⟩ (.int .i64 0)).setCell ⟨g5, 7, none⟩ (.string ⟨#[]⟩)).setCell ⟨g5, 8, none⟩ (.int .i64 0)).setCell ⟨g5, 9, none⟩ (.slice AC3 0 cC3)).setCell ⟨g6, 0, none⟩ (.int .i64 2)).setCell ⟨g6, 1, none⟩ (.int .i64 16) = wf at H5b H6b HB QB H1 H2 H4 ⊢
 have H5 := H5b
 have H6 := H6b
 clear H5b H6b
 replace RT := Aside0.mk (Kd.F_below RT.out QB.out)
 replace RQ := Aside0.mk (Kd.R_below RQ.out QB.out)
 clear QB
 obtain ⟨z1_0, z1_1, z1_2, z1_3, z1_4, z1_5, z1_6, z1_7, z1_8, z1_9⟩ := cn10 H1.out
 obtain ⟨z2_0, z2_1⟩ := cn2 H2.out
 obtain ⟨z4_0, z4_1⟩ := cn2 H4.out
 obtain ⟨z6_0, z6_1⟩ := cn2 H6.out
 obtain ⟨ad1, A10, c10, e1, y1, l1, hC1⟩ := at_L8 (Kd.F_now RT.out) 0 (by decide) (by decide)
 subst e1
 have y1 : wf.cell? ad1 = some (.slice A10 2 c10) := y1
 obtain ⟨ad2, A4, c4, A5, c5, A6, c6, e2, yy⟩ := at_T62 (show Kd.C k62 wf A10 2 [begA, begB] from hC1) 1 (by decide) (by decide)
 obtain rfl : A10 = some ad2 := e2
 have y2 : wf.cell? ⟨ad2.block, ad2.off + 7 + 2, none⟩ = some (.string ⟨#[114]⟩) := yy.2.2.1
 have y2b : wf.cell? ⟨ad2.block, ad2.off + 9, none⟩ = some (.string ⟨#[114]⟩) := y2
 clear yy
 obtain ⟨ad3, e3, y3⟩ := Kd.at_int (xs := [0, 18, 36, 50, 67]) (n := 5) (show (Kd.int .i64).C wf A3 5 [0, 18, 36, 50, 67] from (Kd.R_reads' RQ.out).2.2) 2 (by decide) (by decide)
 subst e3
 have y3 : wf.cell? ⟨ad3.block, ad3.off + 2, none⟩ = some (.int .i64 36) := y3
 go_wp2
 go_ret
 exact ⟨rfl, HB.out⟩
end Go.Proofs.Ytinnldfmbeafiaa.PA
