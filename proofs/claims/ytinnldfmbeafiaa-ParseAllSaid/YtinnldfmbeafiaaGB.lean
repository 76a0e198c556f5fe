/- ParseAll; walked by hand. -/
import Derived.Test.YtinnldfmbeafiaaGA
import Derived.Test.YtinnldfmbeafiaaSI
namespace Go.Proofs.Ytinnldfmbeafiaa.PA
open Go.RowKit Go.Proofs.YtinnldfmbeafiaaW.PrintWords Go.Proofs.YtinnldfmbeafiaaW.PrintLast Go.Proofs.YtinnldfmbeafiaaW.PrintMore
set_option linter.unusedVariables false
set_option linter.unusedSimpArgs false
attribute [local go_sem] cell_set_some fld53_0 fld53_1 fld53_2 fld53_3
set_option maxHeartbeats 8000000 in
set_option maxRecDepth 100000 in
theorem parseAll_c (a0 : ByteArray) (x : PR) (q : List Int) (e2 p : Int) (hA : ansS a0 = ⟨x, q, e2, p⟩) (w : World) : Calls Try.prog 3 #[.string a0] w fun e w' => e = .returned (.bool true) ∧ Below w.heap.size w w' := by
 have HA := Aside0.mk hA
 clear hA
 have hu32 := Try.underlying32
 have hu29 := Try.underlying29
 have HB := Aside0.mk (Below.refl w.heap.size w)
 go_enter Try.func3, Try.ntmps3
 go_wp2_with (fail)
 refine Calls.mono (begun_c _) ?_
 rintro e wa ⟨rfl, qb⟩
 replace HB := Aside0.mk (below_step HB.out qb)
 have QB := Aside0.mk (Below.refl wa.heap.size wa)
 clear qb
 by_cases h5 : (a0.size : Int) > 5000
 ·have a1 := eq_true h5; have a2 := decide_eq_true h5
  clear h5
  go_wp2
  go_ret
  exact ⟨rfl, HB.out⟩
 have a1 := eq_false h5; have a2 := decide_eq_false h5
 clear h5 QB
 go_wp2_with (fail)
 refine Calls.mono (parse_u a0 _) ?_
 rintro e wc ⟨v, he, hv, qb⟩
 replace HB := Aside0.mk (below_step HB.out qb)
 have QB := Aside0.mk (Below.refl wc.heap.size wc)
 clear qb
 clear a1 a2
 rw [HA.out] at he hv
 obtain ⟨AI1, cI1, AT1, cT1, AC1, cC1, hv0, lI1, hI, lT1, hT, lC1, hC⟩ := hv
 subst hv0
 have RI1 := Aside0.mk hI; have RT1 := Aside0.mk hT; have RC1 := Aside0.mk hC; have LI1 := Aside0.mk lI1; have LT_1 := Aside0.mk lT1; have LC1 := Aside0.mk lC1
 clear hI hT hC lI1 lT1 lC1
 subst he
 go_upto_region 6 with (first | ((with_reducible refine gate_dst (N := 3) rfl ?_); refine bbX (N := 3) z29v 29 ?hr ?_; (case hr => first | (go_simp; done) | (go_simp; rfl)); intro g3 hg_ w3 hbox_ hq_; have G3 := Aside0.mk (show w.heap.size ≤ g3 from by rw [hg_.out]; exact HB.out.size); have GA3 := Aside0.mk (show wc.heap.size ≤ g3 from by rw [hg_.out]; exact QB.out.size); have H3 := Aside0.mk hbox_; replace HB := Aside0.mk (below_step HB.out hq_); replace QB := Aside0.mk (below_step QB.out hq_); clear hg_ hbox_ hq_) | ((with_reducible refine gate_dst (N := 4) rfl ?_); refine bbX (N := 4) #[.int .i64 0, .int .i64 0] 32 ?hr ?_; (case hr => first | (go_simp; done) | (go_simp; rfl)); intro g4 hg_ w4 hbox_ hq_; have G4 := Aside0.mk (show w.heap.size ≤ g4 from by rw [hg_.out]; exact HB.out.size); have N3_4 := Aside0.mk (ne_new H3.out hg_.out); have LT3_4 := Aside0.mk (lt_new H3.out hg_.out); have GA4 := Aside0.mk (show wc.heap.size ≤ g4 from by rw [hg_.out]; exact QB.out.size); have H4 := Aside0.mk hbox_; replace H3 := mvB hq_ H3; replace HB := Aside0.mk (below_step HB.out hq_); replace QB := Aside0.mk (below_step QB.out hq_); clear hg_ hbox_ hq_; obtain ⟨z3_0, f3_0, z3_1, f3_1, z3_2, f3_2, z3_3, f3_3, z3_4, f3_4, z3_5, f3_5, z3_6, f3_6, z3_7, f3_7, z3_8, f3_8, z3_9, f3_9⟩ := cf10 H3.out; obtain ⟨z4_0, f4_0, z4_1, f4_1⟩ := cf2 H4.out; have x34 := eq_false N3_4.out; have x43 := eq_false N3_4.out.symm))
 obtain ⟨F13, F23⟩ := fill29 H3.out (.string x.nm) (.int .i64 x.vals) (.slice AI1 x.init.length cI1) (.slice AT1 x.thr.length cT1) (.int .i64 x.ask) (.int .i64 x.cnd.f0) (.int .i64 x.cnd.f1) (.string x.cnd.f2) (.int .i64 x.cnd.f3) (.slice AC1 x.cnd.f4.length cC1) _ rfl
 obtain ⟨F14, F24⟩ := fill32 ((F23.block g4 N3_4.out.symm).trans H4.out) (.int .i64 e2) (.int .i64 p) _ rfl
 clear x34 x43 z3_0 f3_0 z3_1 f3_1 z3_2 f3_2 z3_3 f3_3 z3_4 f3_4 z3_5 f3_5 z3_6 f3_6 z3_7 f3_7 z3_8 f3_8 z3_9 f3_9 z4_0 f4_0 z4_1 f4_1
 have H3b := Aside0.mk ((F24.block g3 N3_4.out).trans F13)
 have H4b := Aside0.mk F14
 replace HB := Aside0.mk (HB.out.trans ((F23.below.mono G3.out).trans (F24.below.mono G4.out)))
 replace QB := Aside0.mk (QB.out.trans ((F23.below.mono GA3.out).trans (F24.below.mono GA4.out)))
 clear F13 F23 H3 F14 F24 H4
 generalize (((((((((((w4.setCell ⟨g3, 0, none⟩ (.string x.nm)).setCell ⟨g3, 1, none⟩ (.int .i64 x.vals)).setCell ⟨g3, 2, none⟩ (.slice AI1 x.init.length cI1)).setCell ⟨g3, 3, none⟩ (.slice AT1 x.thr.length cT1)).setCell ⟨g3, 4, none⟩ (.int .i64 x.ask)).setCell ⟨g3, 5, none⟩ (.int .i64 x.cnd.f0)).setCell ⟨g3, 6, none⟩ (.int .i64 x.cnd.f1)).setCell ⟨g3, 7, none⟩ (.string x.cnd.f2)).setCell ⟨g3, 8, none⟩ (.int .i64 x.cnd.f3)).setCell ⟨g3, 9, none⟩ (.slice AC1 x.cnd.f4.length cC1)).setCell ⟨g4, 0, none⟩ (.int .i64 e2)).setCell ⟨g4, 1, none⟩ (.int .i64 p) = wd at H3b H4b HB QB  ⊢
 have H3 := H3b
 have H4 := H4b
 clear H3b H4b
 replace RI1 := Aside0.mk (Kd.F_below RI1.out QB.out)
 replace RT1 := Aside0.mk (Kd.F_below RT1.out QB.out)
 replace RC1 := Aside0.mk (Kd.F_below RC1.out QB.out)
 clear QB
 go_wp2_with (fail)
 refine Calls.mono (places_u a0 _) ?_
 rintro e we ⟨A5, c5, he, hq, qb⟩
 replace H3 := mvB qb H3
 replace H4 := mvB qb H4
 replace HB := Aside0.mk (below_step HB.out qb)
 replace RI1 := Aside0.mk (Kd.F_below RI1.out qb)
 replace RT1 := Aside0.mk (Kd.F_below RT1.out qb)
 replace RC1 := Aside0.mk (Kd.F_below RC1.out qb)
 have QB := Aside0.mk (Below.refl we.heap.size we)
 clear qb
 rw [HA.out] at he hq
 subst he
 have RQ1 := Aside0.mk hq
 clear hq
 go_upto_region 7 with (first | ((with_reducible refine gate_dst (N := 6) rfl ?_); refine bbX (N := 6) #[.int .i64 0, .int .i64 0] 32 ?hr ?_; (case hr => first | (go_simp; done) | (go_simp; rfl)); intro g6 hg_ w6 hbox_ hq_; have G6 := Aside0.mk (show w.heap.size ≤ g6 from by rw [hg_.out]; exact HB.out.size); have N3_6 := Aside0.mk (ne_new H3.out hg_.out); have LT3_6 := Aside0.mk (lt_new H3.out hg_.out); have N4_6 := Aside0.mk (ne_new H4.out hg_.out); have LT4_6 := Aside0.mk (lt_new H4.out hg_.out); have GA6 := Aside0.mk (show we.heap.size ≤ g6 from by rw [hg_.out]; exact QB.out.size); have H6 := Aside0.mk hbox_; replace H3 := mvB hq_ H3; replace H4 := mvB hq_ H4; replace HB := Aside0.mk (below_step HB.out hq_); replace QB := Aside0.mk (below_step QB.out hq_); clear hg_ hbox_ hq_; obtain ⟨z6_0, f6_0, z6_1, f6_1⟩ := cf2 H6.out))
 obtain ⟨F16, F26⟩ := fill32 H6.out (.int .i64 e2) (.int .i64 p) _ rfl
 clear z6_0 f6_0 z6_1 f6_1
 have H6b := Aside0.mk F16
 replace H3 := Aside0.mk ((F26.block g3 N3_6.out).trans H3.out)
 replace H4 := Aside0.mk ((F26.block g4 N4_6.out).trans H4.out)
 replace HB := Aside0.mk (HB.out.trans (F26.below.mono G6.out))
 replace QB := Aside0.mk (QB.out.trans (F26.below.mono GA6.out))
 clear F16 F26 H6
 generalize (w6.setCell ⟨g6, 0, none⟩ (.int .i64 e2)).setCell ⟨g6, 1, none⟩ (.int .i64 p) = wf at H6b HB QB H3 H4 ⊢
 have H6 := H6b
 clear H6b
 replace RI1 := Aside0.mk (Kd.F_below RI1.out QB.out)
 replace RT1 := Aside0.mk (Kd.F_below RT1.out QB.out)
 replace RC1 := Aside0.mk (Kd.F_below RC1.out QB.out)
 replace RQ1 := Aside0.mk (Kd.R_below RQ1.out QB.out)
 clear QB
 go_wp2_with (fail)
 refine Calls.mono (refparse_u a0 _) ?_
 rintro e wg ⟨v, A8, c8, he, hv, hq, qb⟩
 replace H3 := mvB qb H3
 replace H4 := mvB qb H4
 replace H6 := mvB qb H6
 replace HB := Aside0.mk (below_step HB.out qb)
 replace RI1 := Aside0.mk (Kd.F_below RI1.out qb)
 replace RT1 := Aside0.mk (Kd.F_below RT1.out qb)
 replace RC1 := Aside0.mk (Kd.F_below RC1.out qb)
 replace RQ1 := Aside0.mk (Kd.R_below RQ1.out qb)
 have QB := Aside0.mk (Below.refl wg.heap.size wg)
 clear qb
 rw [HA.out] at he hv hq
 obtain ⟨AI2, cI2, AT2, cT2, AC2, cC2, hv0, lI2, hI, lT2, hT, lC2, hC⟩ := hv
 subst hv0
 have RI2 := Aside0.mk hI; have RT2 := Aside0.mk hT; have RC2 := Aside0.mk hC; have LI2 := Aside0.mk lI2; have LT_2 := Aside0.mk lT2; have LC2 := Aside0.mk lC2
 clear hI hT hC lI2 lT2 lC2
 subst he
 have RQ2 := Aside0.mk hq
 clear hq
 go_upto_region 8 with (first | ((with_reducible refine gate_dst (N := 7) rfl ?_); refine bbX (N := 7) z29v 29 ?hr ?_; (case hr => first | (go_simp; done) | (go_simp; rfl)); intro g7 hg_ w7 hbox_ hq_; have G7 := Aside0.mk (show w.heap.size ≤ g7 from by rw [hg_.out]; exact HB.out.size); have N3_7 := Aside0.mk (ne_new H3.out hg_.out); have LT3_7 := Aside0.mk (lt_new H3.out hg_.out); have N4_7 := Aside0.mk (ne_new H4.out hg_.out); have LT4_7 := Aside0.mk (lt_new H4.out hg_.out); have N6_7 := Aside0.mk (ne_new H6.out hg_.out); have LT6_7 := Aside0.mk (lt_new H6.out hg_.out); have GA7 := Aside0.mk (show wg.heap.size ≤ g7 from by rw [hg_.out]; exact QB.out.size); have H7 := Aside0.mk hbox_; replace H3 := mvB hq_ H3; replace H4 := mvB hq_ H4; replace H6 := mvB hq_ H6; replace HB := Aside0.mk (below_step HB.out hq_); replace QB := Aside0.mk (below_step QB.out hq_); clear hg_ hbox_ hq_) | ((with_reducible refine gate_dst (N := 9) rfl ?_); refine bbX (N := 9) #[.int .i64 0, .int .i64 0] 32 ?hr ?_; (case hr => first | (go_simp; done) | (go_simp; rfl)); intro g9 hg_ w9 hbox_ hq_; have G9 := Aside0.mk (show w.heap.size ≤ g9 from by rw [hg_.out]; exact HB.out.size); have N3_9 := Aside0.mk (ne_new H3.out hg_.out); have LT3_9 := Aside0.mk (lt_new H3.out hg_.out); have N4_9 := Aside0.mk (ne_new H4.out hg_.out); have LT4_9 := Aside0.mk (lt_new H4.out hg_.out); have N6_9 := Aside0.mk (ne_new H6.out hg_.out); have LT6_9 := Aside0.mk (lt_new H6.out hg_.out); have N7_9 := Aside0.mk (ne_new H7.out hg_.out); have LT7_9 := Aside0.mk (lt_new H7.out hg_.out); have GA9 := Aside0.mk (show wg.heap.size ≤ g9 from by rw [hg_.out]; exact QB.out.size); have H9 := Aside0.mk hbox_; replace H3 := mvB hq_ H3; replace H4 := mvB hq_ H4; replace H6 := mvB hq_ H6; replace H7 := mvB hq_ H7; replace HB := Aside0.mk (below_step HB.out hq_); replace QB := Aside0.mk (below_step QB.out hq_); clear hg_ hbox_ hq_; obtain ⟨z7_0, f7_0, z7_1, f7_1, z7_2, f7_2, z7_3, f7_3, z7_4, f7_4, z7_5, f7_5, z7_6, f7_6, z7_7, f7_7, z7_8, f7_8, z7_9, f7_9⟩ := cf10 H7.out; obtain ⟨z9_0, f9_0, z9_1, f9_1⟩ := cf2 H9.out; have x79 := eq_false N7_9.out; have x97 := eq_false N7_9.out.symm))
 obtain ⟨F17, F27⟩ := fill29 H7.out (.string x.nm) (.int .i64 x.vals) (.slice AI2 x.init.length cI2) (.slice AT2 x.thr.length cT2) (.int .i64 x.ask) (.int .i64 x.cnd.f0) (.int .i64 x.cnd.f1) (.string x.cnd.f2) (.int .i64 x.cnd.f3) (.slice AC2 x.cnd.f4.length cC2) _ rfl
 obtain ⟨F19, F29⟩ := fill32 ((F27.block g9 N7_9.out.symm).trans H9.out) (.int .i64 e2) (.int .i64 p) _ rfl
 clear x79 x97 z7_0 f7_0 z7_1 f7_1 z7_2 f7_2 z7_3 f7_3 z7_4 f7_4 z7_5 f7_5 z7_6 f7_6 z7_7 f7_7 z7_8 f7_8 z7_9 f7_9 z9_0 f9_0 z9_1 f9_1
 have H7b := Aside0.mk ((F29.block g7 N7_9.out).trans F17)
 have H9b := Aside0.mk F19
 replace H3 := Aside0.mk ((F29.block g3 N3_9.out).trans ((F27.block g3 N3_7.out).trans H3.out))
 replace H4 := Aside0.mk ((F29.block g4 N4_9.out).trans ((F27.block g4 N4_7.out).trans H4.out))
 replace H6 := Aside0.mk ((F29.block g6 N6_9.out).trans ((F27.block g6 N6_7.out).trans H6.out))
 replace HB := Aside0.mk (HB.out.trans ((F27.below.mono G7.out).trans (F29.below.mono G9.out)))
 replace QB := Aside0.mk (QB.out.trans ((F27.below.mono GA7.out).trans (F29.below.mono GA9.out)))
 clear F17 F27 H7 F19 F29 H9
 generalize (((((((((((w9.setCell ⟨g7, 0, none⟩ (.string x.nm)).setCell ⟨g7, 1, none⟩ (.int .i64 x.vals)).setCell ⟨g7, 2, none⟩ (.slice AI2 x.init.length cI2)).setCell ⟨g7, 3, none⟩ (.slice AT2 x.thr.length cT2)).setCell ⟨g7, 4, none⟩ (.int .i64 x.ask)).setCell ⟨g7, 5, none⟩ (.int .i64 x.cnd.f0)).setCell ⟨g7, 6, none⟩ (.int .i64 x.cnd.f1)).setCell ⟨g7, 7, none⟩ (.string x.cnd.f2)).setCell ⟨g7, 8, none⟩ (.int .i64 x.cnd.f3)).setCell ⟨g7, 9, none⟩ (.slice AC2 x.cnd.f4.length cC2)).setCell ⟨g9, 0, none⟩ (.int .i64 e2)).setCell ⟨g9, 1, none⟩ (.int .i64 p) = wh at H7b H9b HB QB H3 H4 H6 ⊢
 have H7 := H7b
 have H9 := H9b
 clear H7b H9b
 replace RI1 := Aside0.mk (Kd.F_below RI1.out QB.out)
 replace RT1 := Aside0.mk (Kd.F_below RT1.out QB.out)
 replace RC1 := Aside0.mk (Kd.F_below RC1.out QB.out)
 replace RQ1 := Aside0.mk (Kd.R_below RQ1.out QB.out)
 replace RI2 := Aside0.mk (Kd.F_below RI2.out QB.out)
 replace RT2 := Aside0.mk (Kd.F_below RT2.out QB.out)
 replace RC2 := Aside0.mk (Kd.F_below RC2.out QB.out)
 replace RQ2 := Aside0.mk (Kd.R_below RQ2.out QB.out)
 clear QB
 obtain ⟨z3_0, z3_1, z3_2, z3_3, z3_4, z3_5, z3_6, z3_7, z3_8, z3_9⟩ := cn10 H3.out
 obtain ⟨z7_0, z7_1, z7_2, z7_3, z7_4, z7_5, z7_6, z7_7, z7_8, z7_9⟩ := cn10 H7.out
 go_wp2_with (fail)
 refine Calls.mono (sameP_c x _ _ _ _ _ _ _ _ _ _ _ _ _ (Kd.F_now RI1.out) (Kd.F_now RI2.out) (Kd.F_now RT1.out) (Kd.F_now RT2.out) LC1.out (Kd.F_now RC1.out) LC2.out (Kd.F_now RC2.out)) ?_
 rintro e wi ⟨rfl, qb⟩
 replace H3 := mvB qb H3
 replace H4 := mvB qb H4
 replace H6 := mvB qb H6
 replace H7 := mvB qb H7
 replace H9 := mvB qb H9
 replace HB := Aside0.mk (below_step HB.out qb)
 replace RI1 := Aside0.mk (Kd.F_below RI1.out qb)
 replace RT1 := Aside0.mk (Kd.F_below RT1.out qb)
 replace RC1 := Aside0.mk (Kd.F_below RC1.out qb)
 replace RQ1 := Aside0.mk (Kd.R_below RQ1.out qb)
 replace RI2 := Aside0.mk (Kd.F_below RI2.out qb)
 replace RT2 := Aside0.mk (Kd.F_below RT2.out qb)
 replace RC2 := Aside0.mk (Kd.F_below RC2.out qb)
 replace RQ2 := Aside0.mk (Kd.R_below RQ2.out qb)
 have QB := Aside0.mk (Below.refl wi.heap.size wi)
 clear qb
 clear z3_0 z3_1 z3_2 z3_3 z3_4 z3_5 z3_6 z3_7 z3_8 z3_9
 clear z7_0 z7_1 z7_2 z7_3 z7_4 z7_5 z7_6 z7_7 z7_8 z7_9
 obtain ⟨z4_0, z4_1⟩ := cn2 H4.out
 obtain ⟨z6_0, z6_1⟩ := cn2 H6.out
 obtain ⟨z9_0, z9_1⟩ := cn2 H9.out
 go_wp2_with (fail)
 refine Calls.mono (sameI_c q _ _ _ _ _ (Kd.R_reads' RQ1.out).2.2 (Kd.R_reads' RQ2.out).2.2) ?_
 rintro e wj ⟨rfl, qb⟩
 replace H3 := mvB qb H3
 replace H4 := mvB qb H4
 replace H6 := mvB qb H6
 replace H7 := mvB qb H7
 replace H9 := mvB qb H9
 replace HB := Aside0.mk (below_step HB.out qb)
 replace RI1 := Aside0.mk (Kd.F_below RI1.out qb)
 replace RT1 := Aside0.mk (Kd.F_below RT1.out qb)
 replace RC1 := Aside0.mk (Kd.F_below RC1.out qb)
 replace RQ1 := Aside0.mk (Kd.R_below RQ1.out qb)
 replace RI2 := Aside0.mk (Kd.F_below RI2.out qb)
 replace RT2 := Aside0.mk (Kd.F_below RT2.out qb)
 replace RC2 := Aside0.mk (Kd.F_below RC2.out qb)
 replace RQ2 := Aside0.mk (Kd.R_below RQ2.out qb)
 have QB := Aside0.mk (Below.refl wj.heap.size wj)
 clear qb
 go_wp2
 go_ret
 exact ⟨rfl, HB.out⟩
/-- ParseAll answers true, whatever the text. -/
theorem parseAll_any (a : ByteArray) (w : World) : Calls Try.prog 3 #[.string a] w fun e w' => e = .returned (.bool true) ∧ Below w.heap.size w w' := parseAll_c a (ansS a).x (ansS a).q (ansS a).e (ansS a).p rfl w
end Go.Proofs.Ytinnldfmbeafiaa.PA
