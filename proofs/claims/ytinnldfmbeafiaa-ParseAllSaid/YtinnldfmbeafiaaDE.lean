/- The document's cursor: conditions; walked by hand. -/
import Derived.Test.YtinnldfmbeafiaaDD
namespace Go.Proofs.Ytinnldfmbeafiaa.PA.D
open Go.RowKit Go.Proofs.YtinnldfmbeafiaaW.PrintWords Go.Proofs.YtinnldfmbeafiaaW.PrintLast Go.Proofs.YtinnldfmbeafiaaW.PrintMore
set_option linter.unusedVariables false
set_option linter.unusedSimpArgs false
attribute [local go_sem] cell_set_some fld53_0 fld53_1 fld53_2 fld53_3
theorem zDEq1 {p : Prop} (h : p := by rw [hg_.out]; exact HK.out.2) : p := h
def listT65.T4 : Bool × List (List Nat × List Nat) := (true, [([], []), ([], []), ([1], [1]), ([0, 2], [0, 2]), ([3], [3]), ([4, 2, 0, 1, 2, 3, 4], [4])])
def listT65.B4 : List Nat := [0, 0, 2, 7, 15, 31]
theorem listT65.tab4 : rtab .any (opsOf Try.f65 4) = listT65.T4 := by kernel_rfl
theorem listT65.bits4 : waitsOk listT65.T4.2 listT65.B4 = true := by kernel_rfl
set_option maxHeartbeats 8000000 in
set_option maxRecDepth 100000 in
theorem both_c (E : Env) (one : Nat → Res S27) (IH : FullC E 91 one) : FullC E 65 (bothQ E one) := by
 intro s w h hn
 have hu65 := Try.underlying65
 have hu27 := Try.underlying27
 have HN := Aside0.mk (show Ne s (listP E ⟨#[97, 110, 100]⟩ 4 (one) s.i) from hn)
 have HIH := Aside0.mk IH
 clear hn IH
 have HSB := Aside0.mk (show E.w0.heap.size ≤ w.heap.size from h.below.size)
 have HS := Aside0.mk h
 have HK := Aside0.mk (KP.refl E w)
 clear h
 go_enter Try.func65, Try.ntmps65
 go_wp2_with ((with_reducible refine gate_dst (N := 2) rfl ?_); refine bbX (N := 2) z27v 27 ?hr ?_; (case hr => first | (go_simp; done) | (go_simp; rfl)); intro g2 hg_ w2 hbox_ hq_; have G2 := Aside0.mk (show w.heap.size ≤ g2 from zDEq1); have H2 := Aside0.mk hbox_; replace HK := kkB HK hq_; replace HS := ssM HS hq_; clear hg_ hbox_ hq_)
 go_wp2_with (fail)
 have hW := HIH.out s _ HS.out (Ne.first HN.out)
 have Lx := Aside0.mk (And.intro HK.out.2 (blk_lt H2.out))
 refine hW.mono ?_
 clear hW
 rintro e wx ⟨x, vx, tx, rfl, ⟨Ax, cx, rfl, lx, rx⟩, q1, qk, hst, hti, hps⟩
 have Tx := Aside0.mk (And.intro hst (And.intro hti hps))
 clear hst hti hps
 replace H2 := mvK qk HS H2
 replace HK := kkT HK qk
 replace HS := Aside0.mk q1
 clear q1 qk
 have Rx := Aside0.mk rx
 clear rx
 go_wp2_with ((with_reducible refine gate_dst (N := 3) rfl ?_); refine bbX (N := 3) z27v 27 ?hr ?_; (case hr => first | (go_simp; done) | (go_simp; rfl)); intro g3 hg_ w3 hbox_ hq_; obtain ⟨z0_, f0_, z1_, f1_, z2_, f2_, z3_, f3_, z4_, f4_⟩ := cf5 hbox_)
 obtain ⟨F1_, F2_⟩ := fill27 hbox_ (.int .i64 x.f0) (.int .i64 x.f1) (.string x.f2) (.int .i64 x.f3) (.slice Ax x.f4.length cx) _ rfl
 replace hq_ := hq_.trans (F2_.below.mono (Nat.le_of_eq hg_.out.symm))
 have G3 := Aside0.mk (show w.heap.size ≤ g3 from zDEq1)
 have N2_3 := Aside0.mk (ne_new H2.out hg_.out); have LT2_3 := Aside0.mk (lt_new H2.out hg_.out)
 clear F2_ hbox_ z0_ f0_ z1_ f1_ z2_ f2_ z3_ f3_ z4_ f4_
 generalize ((((w3.setCell ⟨g3, 0, none⟩ (.int .i64 x.f0)).setCell ⟨g3, 1, none⟩ (.int .i64 x.f1)).setCell ⟨g3, 2, none⟩ (.string x.f2)).setCell ⟨g3, 3, none⟩ (.int .i64 x.f3)).setCell ⟨g3, 4, none⟩ (.slice Ax x.f4.length cx) = v3 at F1_ hq_ ⊢
 have H3 := Aside0.mk F1_
 replace Rx := Aside0.mk (F.lower (F.skip Rx.out (Nat.le_of_eq hg_.out.symm)) Lx.out.2)
 replace H2 := mvB hq_ H2
 replace Rx := ffB Rx hq_
 replace HK := kkB HK hq_
 replace HS := ssM HS hq_
 clear F1_ hq_ hg_
 go_loopg [] (E.ts.length + 1) (fun kq w' => ∃ (sc : Cs) (x : S27) (A : Option Addr) (c : Nat), Aside0 (ST E sc w') ∧ Aside0 (KP E w w') ∧ Aside0 (w'.heap[g2]? = some (.cells z27v 27 (0, 0))) ∧ Aside0 (w'.heap[g3]? = some (.cells #[.int .i64 x.f0, .int .i64 x.f1, .string x.f2, .int .i64 x.f3, .slice A x.f4.length c] 27 (0, 0))) ∧ x.f4.length ≤ c ∧ Aside0 (Kd.F k27 w' (GD E g3 (g2 + 1) w') A x.f4.length x.f4) ∧ Aside0 (Ne sc (listL E ⟨#[97, 110, 100]⟩ 4 (one) kq x sc.i)) ∧ Aside0 (∀ y u, Step sc (listL E ⟨#[97, 110, 100]⟩ 4 (one) kq x sc.i) y u → Step s (listP E ⟨#[97, 110, 100]⟩ 4 (one) s.i) y u) ∧ Aside0 (s.i ≤ sc.i ∧ sc.ps = s.ps))
 case atStart => exact ⟨tx, x, Ax, cx, HS, HK, H2, H3, lx, Rx, ⟨Ne.next HN.out Tx.out.1⟩, ⟨fun y u q => Tx.out.1.bind q⟩, ⟨Tx.out.2⟩⟩
 case round =>
  clear HS HK H2 H3 Rx Tx Lx lx
  obtain ⟨sc, y, Ay, cy, HS, HK, H2, H3, ly, Ry, HNe, HC, HLE⟩ := hrel
  go_wp2_with (fail)
  have hW := is_d E sc ⟨#[97, 110, 100]⟩ _ HS.out
  refine hW.mono ?_
  clear hW
  rintro e wi ⟨rfl, qb⟩
  replace H2 := mvB qb H2
  replace H3 := mvB qb H3
  replace Ry := ffB Ry qb
  replace HK := kkB HK qb
  replace HS := ssM HS qb
  clear qb
  cases hB : isB E sc ⟨#[97, 110, 100]⟩ with
  | false =>
   have HF := Aside0.mk hB
   clear hB
   obtain ⟨z3_0, z3_1, z3_2, z3_3, z3_4⟩ := cn5 H3.out
   obtain ⟨z2_0, f2_0, z2_1, f2_1, z2_2, f2_2, z2_3, f2_3, z2_4, f2_4⟩ := cf5 H2.out
   go_wp2
   refine fin27 H2.out (fun _ F1_ F2_ => ?_)
   exact ⟨y, _, sc, rfl, ⟨Ay, cy, rfl, ly, F.any (F.lower (F.only Ry.out F2_ (Or.inl (Nat.lt_succ_self _))) (Nat.le_succ_of_le G2.out))⟩, HS.out.only H2.out (by decide) (by decide) (Nat.le_trans HSB.out G2.out) F2_, HK.out.only G2.out F2_, HC.out _ _ (list_stop HNe.out HF.out), HLE.out.1, HLE.out.2⟩
  | true =>
   have HO := Aside0.mk (is_ok hB)
   have HBD := Aside0.mk HO.out.1
   have HG := Aside0.mk (list_go HBD.out HNe.out (isB_good HBD.out _ hB))
   clear hB HNe
   have HI_ := Aside0.mk (HS.out.inc HBD.out HO.out.2)
   have c1 := HS.out.c1; have cf1 := HS.out.fz 1
   go_upto_region 4 with (fail)
   (first | rw [HI_.out.1] | skip)
   obtain ⟨-, q1, qk⟩ := HI_.out
   generalize hW_ : World.setCell _ ⟨E.g, 1, none⟩ _ = wq at q1 qk ⊢
   clear hW_ HI_ c1 cf1
   replace H2 := mvK qk HS H2
   replace H3 := mvK qk HS H3
   replace Ry := ffK Ry qk
   replace HK := kkT HK qk
   replace HS := Aside0.mk q1
   clear q1 qk
   replace H2 := mvB (below_drew (Below.refl wq.heap.size wq)) H2
   replace H3 := mvB (below_drew (Below.refl wq.heap.size wq)) H3
   replace Ry := ffB Ry (below_drew (Below.refl wq.heap.size wq))
   replace HK := kkB HK (below_drew (Below.refl wq.heap.size wq))
   replace HS := ssM HS (below_drew (Below.refl wq.heap.size wq))
   refine start_ (n := 6) (S := fun w' => w'.cell? ⟨g3, 0, none⟩ = some (.int .i64 y.f0) ∧ w'.cell? ⟨g3, 1, none⟩ = some (.int .i64 y.f1) ∧ w'.cell? ⟨g3, 2, none⟩ = some (.string y.f2) ∧ w'.cell? ⟨g3, 3, none⟩ = some (.int .i64 y.f3) ∧ w'.cell? ⟨g3, 4, none⟩ = some (.slice Ay y.f4.length cy)) (ds := [5]) #[Z,Z,Z,Z,Z,Z] (by kernel_rfl) rfl rfl ⟨(blk_celln H3.out 0 _ rfl), (blk_celln H3.out 1 _ rfl), (blk_celln H3.out 2 _ rfl), (blk_celln H3.out 3 _ rfl), (blk_celln H3.out 4 _ rfl)⟩ (fun hHeld => ?_)
   refine with_tabW listT65.tab4 listT65.bits4 (fun HT_ HW_ => ?_)
   generalize World.drew _ = wd at HS HK H2 H3 Ry hHeld ⊢
   refine take_ (i := 0) (N := some 15) (v := ?_) (a' := ?_) #[Y,Z,Z,Z,Z,Z] rfl rfl (take_ofW HT_.out HW_.out (by kernel_rfl)) (fun _ _ _ h => h) (Or.inl ⟨by rfl, ?_⟩) hHeld ?_ ?_
   rotate_left
   ·rintro w' ⟨s0, s1, s2, s3, s4⟩
    go_simp
    with_reducible rfl
   rotate_left
   ·simp only [Act.put, pA, pB, pC, i64_w, i32_w]
    rfl
   refine ppU (i := 1) (N := some 16) #[Y,Y,Z,Z,Z,Z] HT_ ?_
   refine one_ (i := 2) (N := some 17) #[Y,Y,Y,Z,Z,Z] rfl rfl (one_of HT_.out (by kernel_rfl)) (by decide) (fun K hK => ?_)
   refine goes_ Try.func91 (by kernel_rfl) rfl #[.pointer (some ⟨E.g, 0, none⟩)] (by rfl) rfl rfl (by (try simp only [List.map_toArray, List.map_cons, List.map_nil]); first | done | rfl) ?_
   have hW := HIH.out ⟨sc.i + 1, false, sc.ps⟩ _ HS.out (fun _ => HG.out.1)
   refine hW.mono ?_
   clear hW
   rintro e wc ⟨f, vf, t2, rfl, ⟨Af, cf, rfl, lf, rf⟩, q1, qk, hst, hti, hps⟩
   have RF := Aside0.mk (F.lower (F.free rf (show g3 < _ from blk_lt H3.out)) (show g2 + 1 ≤ _ from blk_lt H2.out))
   clear rf
   have TF := Aside0.mk (And.intro hst (And.intro hti hps))
   clear hst hti hps
   replace H2 := mvK qk HS H2
   replace H3 := mvK qk HS H3
   replace Ry := ffK Ry qk
   replace HK := kkT HK qk
   replace HS := Aside0.mk q1
   clear q1 qk
   refine ⟨_, rfl, ?_⟩
   refine hK.out _ _ ⟨(blk_celln H3.out 0 _ rfl), (blk_celln H3.out 1 _ rfl), (blk_celln H3.out 2 _ rfl), (blk_celln H3.out 3 _ rfl), (blk_celln H3.out 4 _ rfl)⟩ (fun hHeld => ?_)
   clear hK K
   refine norm_ (a' := ?_) ?_ ?_
   rotate_left
   ·show Act.put _ (some 17) _ = _
    simp only [Act.put, pA, pB, pC, i64_w, i32_w]
    rfl
   refine one_ (i := 3) (N := some 18) #[Y,Y,Y,Y,Z,Z] rfl rfl (one_of HT_.out (by kernel_rfl)) (by decide) (fun K hK => ?_)
   refine lit_step ?hg (N := 18) ?hd (n := 2) (cs := ⟨[.int .i64 y.f0, .int .i64 y.f1, .string y.f2, .int .i64 y.f3, .slice Ay y.f4.length cy] ++ [.int .i64 f.f0, .int .i64 f.f1, .string f.f2, .int .i64 f.f3, .slice Af f.f4.length cf]⟩) (t := 27) ?hr ?_; (case hd => rfl); (case hg => rfl); (case hr => first | (go_simp; done) | (go_simp; rfl))
   intro gk2 hg_ w9 hbox_ hq_
   have hgk := Aside0.mk (show g3 < gk2 ∧ g2 < gk2 from ⟨by rw [hg_]; exact blk_lt H3.out, by rw [hg_]; exact blk_lt H2.out⟩)
   replace H2 := mvB hq_ H2
   replace H3 := mvB hq_ H3
   replace Ry := ffB Ry hq_
   replace RF := ffB RF hq_
   replace HK := kkB HK hq_
   replace HS := ssM HS hq_
   have RR := Aside0.mk (F.two hbox_ (GD.at hbox_ HS.out hgk.out.2 (Nat.ne_of_gt hgk.out.1) (by decide) (by decide)) (FK27 ly Ry.out) (FK27 lf RF.out))
   clear hg_ hbox_ hq_
   refine hK.out _ _ ⟨(blk_celln H3.out 0 _ rfl), (blk_celln H3.out 1 _ rfl), (blk_celln H3.out 2 _ rfl), (blk_celln H3.out 3 _ rfl), (blk_celln H3.out 4 _ rfl)⟩ (fun hHeld => ?_)
   clear hK K
   refine norm_ (a' := ?_) ?_ ?_
   rotate_left
   ·show Act.put _ (some 18) _ = _
    simp only [Act.put, pA, pB, pC, i64_w, i32_w]
    rfl
   refine ppU (i := 4) (N := some 19) #[Y,Y,Y,Y,Y,Z] HT_ ?_
   refine last_ (i := 5) (N := none) #[Y,Y,Y,Y,Y,Y] rfl rfl (one_of HT_.out (by kernel_rfl)) (by decide) (fun K hK => ?_)
   obtain ⟨se0, sf0, se1, sf1, se2, sf2, se3, sf3, se4, sf4⟩ := cf5 H3.out
   refine skip_ (w1 := ?_) (by rfl) rfl ?_ ?_
   rotate_left
   ·go_simp
    rfl
   refine hK.out _ _ ?_
   clear hK K
   refine done_ (done_of HT_.out (by kernel_rfl)) ?_
   clear hHeld
   go_wp2
   obtain ⟨m, hm, hgo⟩ := HG.out.2
   obtain ⟨j1, j2⟩ := hgo f t2 TF.out.1
   obtain ⟨F1_, F2_⟩ := fill27 H3.out (.int .i64 4) (.int .i64 0) (.string ⟨#[]⟩) (.int .i64 0) (.slice (some ⟨gk2, 0, none⟩) 2 2) _ rfl
   have K1 := Aside0.mk (HS.out.only H3.out (by decide) (by decide) (Nat.le_trans HSB.out G3.out) F2_)
   have K2 := Aside0.mk (HK.out.only G3.out F2_)
   have K3 := Aside0.mk ((F2_.block g2 N2_3.out).trans H2.out)
   have K4 := Aside0.mk F1_
   have K5 := Aside0.mk (F.only RR.out F2_ (Or.inr rfl))
   have K6 := Aside0.mk j1
   have K7 := Aside0.mk (show ∀ z u, _ → Step s (listP E ⟨#[97, 110, 100]⟩ 4 (one) s.i) z u from fun z u q => HC.out z u (j2 z u q))
   have K8 := Aside0.mk (show s.i ≤ t2.i ∧ t2.ps = s.ps from ⟨Nat.le_trans HLE.out.1 (Nat.le_trans (Nat.le_succ _) TF.out.2.1), TF.out.2.2.trans HLE.out.2⟩)
   have HM := Aside0.mk hm
   clear hgo j1 j2 F1_ F2_ HG HC HLE TF RR RF Ry HS HK H2 H3 hm hgk HO HBD
   go_roundg m
   case measure => rw [HM.out]; exact Nat.lt_succ_self _
   case rel => exact ⟨t2, ⟨4, 0, ⟨#[]⟩, 0, [y, f]⟩, some ⟨gk2, 0, none⟩, 2, K1, K2, K3, K4, Nat.le_refl 2, K5, K6, K7, K8⟩
def listT40.T6 : Bool × List (List Nat × List Nat) := (true, [([], []), ([], []), ([1], [1]), ([0, 2], [0, 2]), ([3], [3]), ([4, 2, 0, 1, 2, 3, 4], [4])])
def listT40.B6 : List Nat := [0, 0, 2, 7, 15, 31]
theorem listT40.tab6 : rtab .any (opsOf Try.f40 6) = listT40.T6 := by kernel_rfl
theorem listT40.bits6 : waitsOk listT40.T6.2 listT40.B6 = true := by kernel_rfl
set_option maxHeartbeats 8000000 in
set_option maxRecDepth 100000 in
theorem cond_c (E : Env) (one : Nat → Res S27) (IH : FullC E 65 (bothQ E one)) : FullC E 40 (condQ E one) := by
 intro s w h hn
 have hu65 := Try.underlying65
 have hu27 := Try.underlying27
 have HN := Aside0.mk (show Ne s (listP E ⟨#[111, 114]⟩ 5 (bothQ E one) s.i) from hn)
 have HIH := Aside0.mk IH
 clear hn IH
 have HSB := Aside0.mk (show E.w0.heap.size ≤ w.heap.size from h.below.size)
 have HS := Aside0.mk h
 have HK := Aside0.mk (KP.refl E w)
 clear h
 go_enter Try.func40, Try.ntmps40
 go_upto_region 1 with ((with_reducible refine gate_dst (N := 2) rfl ?_); refine bbX (N := 2) z27v 27 ?hr ?_; (case hr => first | (go_simp; done) | (go_simp; rfl)); intro g2 hg_ w2 hbox_ hq_; have G2 := Aside0.mk (show w.heap.size ≤ g2 from zDEq1); have H2 := Aside0.mk hbox_; replace HK := kkB HK hq_; replace HS := ssM HS hq_; clear hg_ hbox_ hq_)
 have c2 := HS.out.c2
 cases hbd : s.bad with
 | true =>
  have b0 := bdI_bad HS.out.ok2 hbd
  have b1 := eq_true b0; have b2 := decide_eq_true b0; have b3 : (bdI E s < 0) = False := eq_false (by omega); have b4 : decide (bdI E s < 0) = false := decide_eq_false (by omega)
  clear b0
  have HBD := Aside0.mk hbd
  clear hbd
  obtain ⟨z2_0, f2_0, z2_1, f2_1, z2_2, f2_2, z2_3, f2_3, z2_4, f2_4⟩ := cf5 H2.out
  go_wp2
  refine fin27 H2.out (fun _ F1_ F2_ => ?_)
  exact ⟨⟨0, 0, ⟨#[]⟩, 0, []⟩, _, s, rfl, ⟨none, 0, rfl, Nat.le_refl 0, F.nil _ _ _ _ _⟩, HS.out.only H2.out (by decide) (by decide) (Nat.le_trans HSB.out G2.out) F2_, HK.out.only G2.out F2_, Step.bad HBD.out HBD.out rfl, Nat.le_refl _, rfl⟩
 | false =>
  rw [bdI_good hbd] at c2
  have HBD := Aside0.mk hbd
  clear hbd
  go_wp2_with (fail)
  have hW := HIH.out s _ HS.out (Ne.first HN.out)
  have Lx := Aside0.mk (And.intro HK.out.2 (blk_lt H2.out))
  refine hW.mono ?_
  clear hW
  rintro e wx ⟨x, vx, tx, rfl, ⟨Ax, cx, rfl, lx, rx⟩, q1, qk, hst, hti, hps⟩
  have Tx := Aside0.mk (And.intro hst (And.intro hti hps))
  clear hst hti hps
  replace H2 := mvK qk HS H2
  replace HK := kkT HK qk
  replace HS := Aside0.mk q1
  clear q1 qk
  have Rx := Aside0.mk rx
  clear rx
  clear c2
  go_wp2_with ((with_reducible refine gate_dst (N := 3) rfl ?_); refine bbX (N := 3) z27v 27 ?hr ?_; (case hr => first | (go_simp; done) | (go_simp; rfl)); intro g3 hg_ w3 hbox_ hq_; obtain ⟨z0_, f0_, z1_, f1_, z2_, f2_, z3_, f3_, z4_, f4_⟩ := cf5 hbox_)
  obtain ⟨F1_, F2_⟩ := fill27 hbox_ (.int .i64 x.f0) (.int .i64 x.f1) (.string x.f2) (.int .i64 x.f3) (.slice Ax x.f4.length cx) _ rfl
  replace hq_ := hq_.trans (F2_.below.mono (Nat.le_of_eq hg_.out.symm))
  have G3 := Aside0.mk (show w.heap.size ≤ g3 from zDEq1)
  have N2_3 := Aside0.mk (ne_new H2.out hg_.out); have LT2_3 := Aside0.mk (lt_new H2.out hg_.out)
  clear F2_ hbox_ z0_ f0_ z1_ f1_ z2_ f2_ z3_ f3_ z4_ f4_
  generalize ((((w3.setCell ⟨g3, 0, none⟩ (.int .i64 x.f0)).setCell ⟨g3, 1, none⟩ (.int .i64 x.f1)).setCell ⟨g3, 2, none⟩ (.string x.f2)).setCell ⟨g3, 3, none⟩ (.int .i64 x.f3)).setCell ⟨g3, 4, none⟩ (.slice Ax x.f4.length cx) = v3 at F1_ hq_ ⊢
  have H3 := Aside0.mk F1_
  replace Rx := Aside0.mk (F.lower (F.skip Rx.out (Nat.le_of_eq hg_.out.symm)) Lx.out.2)
  replace H2 := mvB hq_ H2
  replace Rx := ffB Rx hq_
  replace HK := kkB HK hq_
  replace HS := ssM HS hq_
  clear F1_ hq_ hg_
  go_loopg [] (E.ts.length + 1) (fun kq w' => ∃ (sc : Cs) (x : S27) (A : Option Addr) (c : Nat), Aside0 (ST E sc w') ∧ Aside0 (KP E w w') ∧ Aside0 (w'.heap[g2]? = some (.cells z27v 27 (0, 0))) ∧ Aside0 (w'.heap[g3]? = some (.cells #[.int .i64 x.f0, .int .i64 x.f1, .string x.f2, .int .i64 x.f3, .slice A x.f4.length c] 27 (0, 0))) ∧ x.f4.length ≤ c ∧ Aside0 (Kd.F k27 w' (GD E g3 (g2 + 1) w') A x.f4.length x.f4) ∧ Aside0 (Ne sc (listL E ⟨#[111, 114]⟩ 5 (bothQ E one) kq x sc.i)) ∧ Aside0 (∀ y u, Step sc (listL E ⟨#[111, 114]⟩ 5 (bothQ E one) kq x sc.i) y u → Step s (listP E ⟨#[111, 114]⟩ 5 (bothQ E one) s.i) y u) ∧ Aside0 (s.i ≤ sc.i ∧ sc.ps = s.ps))
  case atStart => exact ⟨tx, x, Ax, cx, HS, HK, H2, H3, lx, Rx, ⟨Ne.next HN.out Tx.out.1⟩, ⟨fun y u q => Tx.out.1.bind q⟩, ⟨Tx.out.2⟩⟩
  case round =>
   clear HS HK H2 H3 Rx Tx Lx lx
   obtain ⟨sc, y, Ay, cy, HS, HK, H2, H3, ly, Ry, HNe, HC, HLE⟩ := hrel
   go_wp2_with (fail)
   have hW := is_d E sc ⟨#[111, 114]⟩ _ HS.out
   refine hW.mono ?_
   clear hW
   rintro e wi ⟨rfl, qb⟩
   replace H2 := mvB qb H2
   replace H3 := mvB qb H3
   replace Ry := ffB Ry qb
   replace HK := kkB HK qb
   replace HS := ssM HS qb
   clear qb
   cases hB : isB E sc ⟨#[111, 114]⟩ with
   | false =>
    have HF := Aside0.mk hB
    clear hB
    obtain ⟨z3_0, z3_1, z3_2, z3_3, z3_4⟩ := cn5 H3.out
    obtain ⟨z2_0, f2_0, z2_1, f2_1, z2_2, f2_2, z2_3, f2_3, z2_4, f2_4⟩ := cf5 H2.out
    go_wp2
    refine fin27 H2.out (fun _ F1_ F2_ => ?_)
    exact ⟨y, _, sc, rfl, ⟨Ay, cy, rfl, ly, F.any (F.lower (F.only Ry.out F2_ (Or.inl (Nat.lt_succ_self _))) (Nat.le_succ_of_le G2.out))⟩, HS.out.only H2.out (by decide) (by decide) (Nat.le_trans HSB.out G2.out) F2_, HK.out.only G2.out F2_, HC.out _ _ (list_stop HNe.out HF.out), HLE.out.1, HLE.out.2⟩
   | true =>
    have HO := Aside0.mk (is_ok hB)
    have HBD := Aside0.mk HO.out.1
    have HG := Aside0.mk (list_go HBD.out HNe.out (isB_good HBD.out _ hB))
    clear hB HNe
    have HI_ := Aside0.mk (HS.out.inc HBD.out HO.out.2)
    have c1 := HS.out.c1; have cf1 := HS.out.fz 1
    go_upto_region 6 with (fail)
    (first | rw [HI_.out.1] | skip)
    obtain ⟨-, q1, qk⟩ := HI_.out
    generalize hW_ : World.setCell _ ⟨E.g, 1, none⟩ _ = wq at q1 qk ⊢
    clear hW_ HI_ c1 cf1
    replace H2 := mvK qk HS H2
    replace H3 := mvK qk HS H3
    replace Ry := ffK Ry qk
    replace HK := kkT HK qk
    replace HS := Aside0.mk q1
    clear q1 qk
    replace H2 := mvB (below_drew (Below.refl wq.heap.size wq)) H2
    replace H3 := mvB (below_drew (Below.refl wq.heap.size wq)) H3
    replace Ry := ffB Ry (below_drew (Below.refl wq.heap.size wq))
    replace HK := kkB HK (below_drew (Below.refl wq.heap.size wq))
    replace HS := ssM HS (below_drew (Below.refl wq.heap.size wq))
    refine start_ (n := 6) (S := fun w' => w'.cell? ⟨g3, 0, none⟩ = some (.int .i64 y.f0) ∧ w'.cell? ⟨g3, 1, none⟩ = some (.int .i64 y.f1) ∧ w'.cell? ⟨g3, 2, none⟩ = some (.string y.f2) ∧ w'.cell? ⟨g3, 3, none⟩ = some (.int .i64 y.f3) ∧ w'.cell? ⟨g3, 4, none⟩ = some (.slice Ay y.f4.length cy)) (ds := [5]) #[Z,Z,Z,Z,Z,Z] (by kernel_rfl) rfl rfl ⟨(blk_celln H3.out 0 _ rfl), (blk_celln H3.out 1 _ rfl), (blk_celln H3.out 2 _ rfl), (blk_celln H3.out 3 _ rfl), (blk_celln H3.out 4 _ rfl)⟩ (fun hHeld => ?_)
    refine with_tabW listT40.tab6 listT40.bits6 (fun HT_ HW_ => ?_)
    generalize World.drew _ = wd at HS HK H2 H3 Ry hHeld ⊢
    refine take_ (i := 0) (N := some 21) (v := ?_) (a' := ?_) #[Y,Z,Z,Z,Z,Z] rfl rfl (take_ofW HT_.out HW_.out (by kernel_rfl)) (fun _ _ _ h => h) (Or.inl ⟨by rfl, ?_⟩) hHeld ?_ ?_
    rotate_left
    ·rintro w' ⟨s0, s1, s2, s3, s4⟩
     go_simp
     with_reducible rfl
    rotate_left
    ·simp only [Act.put, pA, pB, pC, i64_w, i32_w]
     rfl
    refine ppU (i := 1) (N := some 22) #[Y,Y,Z,Z,Z,Z] HT_ ?_
    refine one_ (i := 2) (N := some 23) #[Y,Y,Y,Z,Z,Z] rfl rfl (one_of HT_.out (by kernel_rfl)) (by decide) (fun K hK => ?_)
    refine goes_ Try.func65 (by kernel_rfl) rfl #[.pointer (some ⟨E.g, 0, none⟩)] (by rfl) rfl rfl (by (try simp only [List.map_toArray, List.map_cons, List.map_nil]); first | done | rfl) ?_
    have hW := HIH.out ⟨sc.i + 1, false, sc.ps⟩ _ HS.out (fun _ => HG.out.1)
    refine hW.mono ?_
    clear hW
    rintro e wc ⟨f, vf, t2, rfl, ⟨Af, cf, rfl, lf, rf⟩, q1, qk, hst, hti, hps⟩
    have RF := Aside0.mk (F.lower (F.free rf (show g3 < _ from blk_lt H3.out)) (show g2 + 1 ≤ _ from blk_lt H2.out))
    clear rf
    have TF := Aside0.mk (And.intro hst (And.intro hti hps))
    clear hst hti hps
    replace H2 := mvK qk HS H2
    replace H3 := mvK qk HS H3
    replace Ry := ffK Ry qk
    replace HK := kkT HK qk
    replace HS := Aside0.mk q1
    clear q1 qk
    refine ⟨_, rfl, ?_⟩
    refine hK.out _ _ ⟨(blk_celln H3.out 0 _ rfl), (blk_celln H3.out 1 _ rfl), (blk_celln H3.out 2 _ rfl), (blk_celln H3.out 3 _ rfl), (blk_celln H3.out 4 _ rfl)⟩ (fun hHeld => ?_)
    clear hK K
    refine norm_ (a' := ?_) ?_ ?_
    rotate_left
    ·show Act.put _ (some 23) _ = _
     simp only [Act.put, pA, pB, pC, i64_w, i32_w]
     rfl
    refine one_ (i := 3) (N := some 24) #[Y,Y,Y,Y,Z,Z] rfl rfl (one_of HT_.out (by kernel_rfl)) (by decide) (fun K hK => ?_)
    refine lit_step ?hg (N := 24) ?hd (n := 2) (cs := ⟨[.int .i64 y.f0, .int .i64 y.f1, .string y.f2, .int .i64 y.f3, .slice Ay y.f4.length cy] ++ [.int .i64 f.f0, .int .i64 f.f1, .string f.f2, .int .i64 f.f3, .slice Af f.f4.length cf]⟩) (t := 27) ?hr ?_; (case hd => rfl); (case hg => rfl); (case hr => first | (go_simp; done) | (go_simp; rfl))
    intro gk2 hg_ w9 hbox_ hq_
    have hgk := Aside0.mk (show g3 < gk2 ∧ g2 < gk2 from ⟨by rw [hg_]; exact blk_lt H3.out, by rw [hg_]; exact blk_lt H2.out⟩)
    replace H2 := mvB hq_ H2
    replace H3 := mvB hq_ H3
    replace Ry := ffB Ry hq_
    replace RF := ffB RF hq_
    replace HK := kkB HK hq_
    replace HS := ssM HS hq_
    have RR := Aside0.mk (F.two hbox_ (GD.at hbox_ HS.out hgk.out.2 (Nat.ne_of_gt hgk.out.1) (by decide) (by decide)) (FK27 ly Ry.out) (FK27 lf RF.out))
    clear hg_ hbox_ hq_
    refine hK.out _ _ ⟨(blk_celln H3.out 0 _ rfl), (blk_celln H3.out 1 _ rfl), (blk_celln H3.out 2 _ rfl), (blk_celln H3.out 3 _ rfl), (blk_celln H3.out 4 _ rfl)⟩ (fun hHeld => ?_)
    clear hK K
    refine norm_ (a' := ?_) ?_ ?_
    rotate_left
    ·show Act.put _ (some 24) _ = _
     simp only [Act.put, pA, pB, pC, i64_w, i32_w]
     rfl
    refine ppU (i := 4) (N := some 25) #[Y,Y,Y,Y,Y,Z] HT_ ?_
    refine last_ (i := 5) (N := none) #[Y,Y,Y,Y,Y,Y] rfl rfl (one_of HT_.out (by kernel_rfl)) (by decide) (fun K hK => ?_)
    obtain ⟨se0, sf0, se1, sf1, se2, sf2, se3, sf3, se4, sf4⟩ := cf5 H3.out
    refine skip_ (w1 := ?_) (by rfl) rfl ?_ ?_
    rotate_left
    ·go_simp
     rfl
    refine hK.out _ _ ?_
    clear hK K
    refine done_ (done_of HT_.out (by kernel_rfl)) ?_
    clear hHeld
    go_wp2
    obtain ⟨m, hm, hgo⟩ := HG.out.2
    obtain ⟨j1, j2⟩ := hgo f t2 TF.out.1
    obtain ⟨F1_, F2_⟩ := fill27 H3.out (.int .i64 5) (.int .i64 0) (.string ⟨#[]⟩) (.int .i64 0) (.slice (some ⟨gk2, 0, none⟩) 2 2) _ rfl
    have K1 := Aside0.mk (HS.out.only H3.out (by decide) (by decide) (Nat.le_trans HSB.out G3.out) F2_)
    have K2 := Aside0.mk (HK.out.only G3.out F2_)
    have K3 := Aside0.mk ((F2_.block g2 N2_3.out).trans H2.out)
    have K4 := Aside0.mk F1_
    have K5 := Aside0.mk (F.only RR.out F2_ (Or.inr rfl))
    have K6 := Aside0.mk j1
    have K7 := Aside0.mk (show ∀ z u, _ → Step s (listP E ⟨#[111, 114]⟩ 5 (bothQ E one) s.i) z u from fun z u q => HC.out z u (j2 z u q))
    have K8 := Aside0.mk (show s.i ≤ t2.i ∧ t2.ps = s.ps from ⟨Nat.le_trans HLE.out.1 (Nat.le_trans (Nat.le_succ _) TF.out.2.1), TF.out.2.2.trans HLE.out.2⟩)
    have HM := Aside0.mk hm
    clear hgo j1 j2 F1_ F2_ HG HC HLE TF RR RF Ry HS HK H2 H3 hm hgk HO HBD
    go_roundg m
    case measure => rw [HM.out]; exact Nat.lt_succ_self _
    case rel => exact ⟨t2, ⟨5, 0, ⟨#[]⟩, 0, [y, f]⟩, some ⟨gk2, 0, none⟩, 2, K1, K2, K3, K4, Nat.le_refl 2, K5, K6, K7, K8⟩
set_option maxHeartbeats 8000000 in
set_option maxRecDepth 100000 in
theorem one_c (E : Env) (one : Nat → Res S27) (IH : GoodC E 91 one) (IH2 : GoodC E 40 (condQ E one)) (s : Cs) (w : World) (h : ST E s w) (hn : Ne s (oneP E one s.i)) : Calls Try.prog 91 #[.pointer (some ⟨E.g, 0, none⟩)] w (Got E s w (oneP E one s.i) (VC E w)) := by
 have hu65 := Try.underlying65
 have hu27 := Try.underlying27
 have HN := Aside0.mk hn
 have HIH := Aside0.mk IH
 have HIH2 := Aside0.mk IH2
 clear hn IH IH2
 have HSB := Aside0.mk (show E.w0.heap.size ≤ w.heap.size from h.below.size)
 have HS := Aside0.mk h
 have HK := Aside0.mk (KP.refl E w)
 clear h
 go_enter Try.func91, Try.ntmps91
 go_wp2_with ((with_reducible refine gate_dst (N := 2) rfl ?_); refine bbX (N := 2) z27v 27 ?hr ?_; (case hr => first | (go_simp; done) | (go_simp; rfl)); intro g2 hg_ w2 hbox_ hq_; have G2 := Aside0.mk (show w.heap.size ≤ g2 from zDEq1); have H2 := Aside0.mk hbox_; replace HK := kkB HK hq_; replace HS := ssM HS hq_; clear hg_ hbox_ hq_)
 go_wp2_with (fail)
 have hW := is_d E s ⟨#[110, 111, 116]⟩ _ HS.out
 refine hW.mono ?_
 clear hW
 rintro e wa ⟨rfl, qb⟩
 replace H2 := mvB qb H2
 replace HK := kkB HK qb
 replace HS := ssM HS qb
 clear qb
 cases hB : isB E s ⟨#[110, 111, 116]⟩ with
 | true =>
  have HO := Aside0.mk (is_ok hB)
  have HBD := Aside0.mk HO.out.1
  have HE := Aside0.mk (isB_good HBD.out _ hB)
  clear hB
  have HQ := Aside0.mk (show oneP E one s.i = (one (s.i + 1)).bind fun x j => .ok ⟨3, 0, ⟨#[]⟩, 0, [x]⟩ j [] from by unfold oneP; rw [if_pos HE.out])
  have HI_ := Aside0.mk (HS.out.inc HBD.out HO.out.2)
  have c1 := HS.out.c1; have cf1 := HS.out.fz 1
  go_upto_region 3 with (fail)
  (first | rw [HI_.out.1] | skip)
  obtain ⟨-, q1, qk⟩ := HI_.out
  generalize hW_ : World.setCell _ ⟨E.g, 1, none⟩ _ = wq at q1 qk ⊢
  clear hW_ HI_ c1 cf1
  replace H2 := mvK qk HS H2
  replace HK := kkT HK qk
  replace HS := Aside0.mk q1
  clear q1 qk
  go_wp2_with (fail)
  have hW := HIH.out ⟨s.i + 1, false, s.ps⟩ _ HS.out rfl (by have := HN.out HBD.out; rw [HQ.out] at this; exact bind_out this)
  have Lx := Aside0.mk (And.intro HK.out.2 (blk_lt H2.out))
  refine hW.mono ?_
  clear hW
  rintro e wx ⟨x, vx, tx, rfl, ⟨Ax, cx, rfl, lx, rx⟩, q1, qk, hst, hti, hps⟩
  have Tx := Aside0.mk (And.intro hst (And.intro hti hps))
  clear hst hti hps
  replace H2 := mvK qk HS H2
  replace HK := kkT HK qk
  replace HS := Aside0.mk q1
  clear q1 qk
  have Rx := Aside0.mk rx
  clear rx
  replace Rx := Aside0.mk (F.lower Rx.out (show g2 + 1 ≤ _ from Lx.out.2))
  go_wp2_with ((with_reducible refine gate_dst (N := 16) rfl ?_); refine lit_event ?hg (N := 16) ?hd (n := 1) (cs := ⟨[.int .i64 x.f0, .int .i64 x.f1, .string x.f2, .int .i64 x.f3, .slice Ax x.f4.length cx]⟩) (t := 27) ?hr ?_; (case hd => rfl); (case hg => rfl); (case hr => first | (go_simp; done) | (go_simp; rfl)); intro gk hg_ w9 hbox_ hq_; have hgk := Aside0.mk (show g2 < gk from by rw [hg_]; exact blk_lt H2.out); replace H2 := mvB hq_ H2; replace Rx := ffB Rx hq_; replace HK := kkB HK hq_; replace HS := ssM HS hq_; have RR := Aside0.mk (F.one hbox_ (GD.at hbox_ HS.out hgk.out (HS.out.ne hbox_ (by decide)) (by decide) (by decide)) (FK27 lx Rx.out)); obtain ⟨z2_0, f2_0, z2_1, f2_1, z2_2, f2_2, z2_3, f2_3, z2_4, f2_4⟩ := cf5 H2.out; clear hg_ hbox_ hq_)
  go_wp2
  refine fin27 H2.out (fun _ F1_ F2_ => ?_)
  exact ⟨⟨3, 0, ⟨#[]⟩, 0, [x]⟩, _, tx, rfl, ⟨some ⟨gk, 0, none⟩, 1, rfl, Nat.le_refl 1, F.lower (F.only RR.out F2_ (Or.inl (Nat.lt_succ_self _))) (Nat.le_succ_of_le G2.out)⟩, HS.out.only H2.out (by decide) (by decide) (Nat.le_trans HSB.out G2.out) F2_, HK.out.only G2.out F2_, (by rw [HQ.out]; exact Step.at HBD.out (Tx.out.1.bind (Step.pure tx _))), Nat.le_trans (Nat.le_succ _) Tx.out.2.1, Tx.out.2.2⟩
 | false =>
  have HF1 := Aside0.mk hB
  clear hB
  go_wp2_with (fail)
  have hW := is_d E s ⟨#[40]⟩ _ HS.out
  refine hW.mono ?_
  clear hW
  rintro e wb ⟨rfl, qb⟩
  replace H2 := mvB qb H2
  replace HK := kkB HK qb
  replace HS := ssM HS qb
  clear qb
  cases hB : isB E s ⟨#[40]⟩ with
  | true =>
   have HO := Aside0.mk (is_ok hB)
   have HBD := Aside0.mk HO.out.1
   have HE := Aside0.mk (isB_good HBD.out _ hB)
   clear hB
   have HQ := Aside0.mk (show oneP E one s.i = (condQ E one (s.i + 1)).bind fun x j => (mustP E ⟨#[41]⟩ j).bind fun _ l => .ok x l [] from by unfold oneP; rw [if_neg (by rw [isB_good HBD.out _ HF1.out]; decide), if_pos HE.out])
   have HI_ := Aside0.mk (HS.out.inc HBD.out HO.out.2)
   have c1 := HS.out.c1; have cf1 := HS.out.fz 1
   go_upto_region 6 with (fail)
   (first | rw [HI_.out.1] | skip)
   obtain ⟨-, q1, qk⟩ := HI_.out
   generalize hW_ : World.setCell _ ⟨E.g, 1, none⟩ _ = wq at q1 qk ⊢
   clear hW_ HI_ c1 cf1
   replace H2 := mvK qk HS H2
   replace HK := kkT HK qk
   replace HS := Aside0.mk q1
   clear q1 qk
   go_wp2_with (fail)
   have hW := HIH2.out ⟨s.i + 1, false, s.ps⟩ _ HS.out rfl (by have := HN.out HBD.out; rw [HQ.out] at this; exact bind_out this)
   have Lx := Aside0.mk (And.intro HK.out.2 (blk_lt H2.out))
   refine hW.mono ?_
   clear hW
   rintro e wx ⟨x, vx, tx, rfl, ⟨Ax, cx, rfl, lx, rx⟩, q1, qk, hst, hti, hps⟩
   have Tx := Aside0.mk (And.intro hst (And.intro hti hps))
   clear hst hti hps
   replace H2 := mvK qk HS H2
   replace HK := kkT HK qk
   replace HS := Aside0.mk q1
   clear q1 qk
   have Rx := Aside0.mk rx
   clear rx
   go_upto_region 7 with (first | ((with_reducible refine gate_dst (N := 3) rfl ?_); refine bbX (N := 3) z27v 27 ?hr ?_; (case hr => first | (go_simp; done) | (go_simp; rfl)); intro g3 hg_ w3 hbox_ hq_; obtain ⟨z0_, f0_, z1_, f1_, z2_, f2_, z3_, f3_, z4_, f4_⟩ := cf5 hbox_))
   obtain ⟨F1_, F2_⟩ := fill27 hbox_ (.int .i64 x.f0) (.int .i64 x.f1) (.string x.f2) (.int .i64 x.f3) (.slice Ax x.f4.length cx) _ rfl
   replace hq_ := hq_.trans (F2_.below.mono (Nat.le_of_eq hg_.out.symm))
   have G3 := Aside0.mk (show w.heap.size ≤ g3 from zDEq1)
   have N2_3 := Aside0.mk (ne_new H2.out hg_.out); have LT2_3 := Aside0.mk (lt_new H2.out hg_.out)
   clear hg_ hbox_ F2_ z0_ f0_ z1_ f1_ z2_ f2_ z3_ f3_ z4_ f4_
   generalize ((((w3.setCell ⟨g3, 0, none⟩ (.int .i64 x.f0)).setCell ⟨g3, 1, none⟩ (.int .i64 x.f1)).setCell ⟨g3, 2, none⟩ (.string x.f2)).setCell ⟨g3, 3, none⟩ (.int .i64 x.f3)).setCell ⟨g3, 4, none⟩ (.slice Ax x.f4.length cx) = v3 at F1_ hq_ ⊢
   have H3 := Aside0.mk F1_
   replace H2 := mvB hq_ H2
   replace Rx := ffB Rx hq_
   replace HK := kkB HK hq_
   replace HS := ssM HS hq_
   clear F1_ hq_
   go_wp2_with (fail)
   have hW := must_c E tx ⟨#[41]⟩ _ HS.out
   refine hW.mono ?_
   clear hW
   rintro e wy ⟨_, vy, ty, rfl, rfl, q1, qk, hst, hti, hps⟩
   have Ty := Aside0.mk (And.intro hst (And.intro hti hps))
   clear hst hti hps
   replace H2 := mvK qk HS H2
   replace H3 := mvK qk HS H3
   replace Rx := ffK Rx qk
   replace HK := kkT HK qk
   replace HS := Aside0.mk q1
   clear q1 qk
   obtain ⟨z3_0, z3_1, z3_2, z3_3, z3_4⟩ := cn5 H3.out
   obtain ⟨z2_0, f2_0, z2_1, f2_1, z2_2, f2_2, z2_3, f2_3, z2_4, f2_4⟩ := cf5 H2.out
   go_wp2
   refine fin27 H2.out (fun _ F1_ F2_ => ?_)
   exact ⟨x, _, ty, rfl, ⟨Ax, cx, rfl, lx, (F.lower (F.only Rx.out F2_ (Or.inl Lx.out.2)) Lx.out.1)⟩, HS.out.only H2.out (by decide) (by decide) (Nat.le_trans HSB.out G2.out) F2_, HK.out.only G2.out F2_, (by rw [HQ.out]; exact Step.at HBD.out (Tx.out.1.bind (Ty.out.1.bind (Step.pure ty x)))), Nat.le_trans (Nat.le_succ _) (Nat.le_trans Tx.out.2.1 Ty.out.2.1), Ty.out.2.2.trans Tx.out.2.2⟩
  | false =>
   have HF2 := Aside0.mk hB
   clear hB
   go_upto_region 10 with (first | ((with_reducible refine gate_dst (N := 4) rfl ?_); refine bbX (N := 4) z27v 27 ?hr ?_; (case hr => first | (go_simp; done) | (go_simp; rfl)); intro g4 hg_ w4 hbox_ hq_; obtain ⟨z0_, f0_, z1_, f1_, z2_, f2_, z3_, f3_, z4_, f4_⟩ := cf5 hbox_))
   obtain ⟨F1_, F2_⟩ := fill27 hbox_ (.int .i64 1) (.int .i64 0) (.string ⟨#[]⟩) (.int .i64 0) (.slice none 0 0) _ rfl
   replace hq_ := hq_.trans (F2_.below.mono (Nat.le_of_eq hg_.out.symm))
   have G4 := Aside0.mk (show w.heap.size ≤ g4 from zDEq1)
   have N2_4 := Aside0.mk (ne_new H2.out hg_.out); have LT2_4 := Aside0.mk (lt_new H2.out hg_.out)
   clear hg_ hbox_ F2_ z0_ f0_ z1_ f1_ z2_ f2_ z3_ f3_ z4_ f4_
   generalize ((((w4.setCell ⟨g4, 0, none⟩ (.int .i64 1)).setCell ⟨g4, 1, none⟩ (.int .i64 0)).setCell ⟨g4, 2, none⟩ (.string ⟨#[]⟩)).setCell ⟨g4, 3, none⟩ (.int .i64 0)).setCell ⟨g4, 4, none⟩ (.slice none 0 0) = v4 at F1_ hq_ ⊢
   have H4 := Aside0.mk F1_
   replace H2 := mvB hq_ H2
   replace HK := kkB HK hq_
   replace HS := ssM HS hq_
   clear F1_ hq_
   go_wp2_with (fail)
   have hW := isNumber_d E s _ HS.out
   refine hW.mono ?_
   clear hW
   rintro e wv ⟨rfl, qb⟩
   replace H2 := mvB qb H2
   replace H4 := mvB qb H4
   replace HK := kkB HK qb
   replace HS := ssM HS qb
   clear qb
   cases hB : nuB E s with
   | true =>
    have HB := Aside0.mk hB
    clear hB
    have zk := blk_celln H4.out 0 _ rfl; have fk := blk_frozen H4.out 0
    go_upto_region 12 with (fail)
    obtain ⟨F1_, F2_⟩ := set1 H4.out 0 (.int .i64 2) (cs' := #[.int .i64 2, .int .i64 0, .string ⟨#[]⟩, .int .i64 0, .slice none 0 0]) rfl
    generalize hW_ : World.setCell _ ⟨g4, 0, none⟩ (.int .i64 2) = wq at F1_ F2_ ⊢
    clear hW_ zk fk
    replace HS := ssO HS H4 HSB G4 F2_
    replace HK := kkO HK G4 F2_
    replace H2 := Aside0.mk ((F2_.block g2 (N2_4.out)).trans H2.out)
    replace H4 := Aside0.mk F1_
    clear F1_ F2_
    go_wp2_with (fail)
    have hW := number_c E s _ HS.out
    refine hW.mono ?_
    clear hW
    rintro e wh ⟨h, vh, th, rfl, rfl, q1, qk, hst, hti, hps⟩
    have Th := Aside0.mk (And.intro hst (And.intro hti hps))
    clear hst hti hps
    replace H2 := mvK qk HS H2
    replace H4 := mvK qk HS H4
    replace HK := kkT HK qk
    replace HS := Aside0.mk q1
    clear q1 qk
    have zk := blk_celln H4.out 1 _ rfl; have fk := blk_frozen H4.out 1
    go_upto_region 13 with (fail)
    obtain ⟨F1_, F2_⟩ := set1 H4.out 1 (.int .i64 h) (cs' := #[.int .i64 2, .int .i64 h, .string ⟨#[]⟩, .int .i64 0, .slice none 0 0]) rfl
    generalize hW_ : World.setCell _ ⟨g4, 1, none⟩ (.int .i64 h) = wq at F1_ F2_ ⊢
    clear hW_ zk fk
    replace HS := ssO HS H4 HSB G4 F2_
    replace HK := kkO HK G4 F2_
    replace H2 := Aside0.mk ((F2_.block g2 (N2_4.out)).trans H2.out)
    replace H4 := Aside0.mk F1_
    clear F1_ F2_
    go_wp2_with (fail)
    have hW := must_c E th ⟨#[58]⟩ _ HS.out
    refine hW.mono ?_
    clear hW
    rintro e wk ⟨_, vk, tk, rfl, rfl, q1, qk, hst, hti, hps⟩
    have Tk := Aside0.mk (And.intro hst (And.intro hti hps))
    clear hst hti hps
    replace H2 := mvK qk HS H2
    replace H4 := mvK qk HS H4
    replace HK := kkT HK qk
    replace HS := Aside0.mk q1
    clear q1 qk
    have HQ := Aside0.mk (show s.bad = false → oneP E one s.i = (numP E s.i).bind fun n j => (mustP E ⟨#[58]⟩ j).bind fun _ l => restP E 2 n l from fun hbad => by have h2 : decide ((E.tk s.i).f0 = 2) = true := (by have := HB.out; simp [nuB] at this; simp [this.2]); unfold oneP; rw [if_neg (by rw [isB_good hbad _ HF1.out]; decide), if_neg (by rw [isB_good hbad _ HF2.out]; decide), if_pos h2])
    have c2 := HS.out.c2
    cases hbd : tk.bad with
    | true =>
     have b0 := bdI_bad HS.out.ok2 hbd
     have b1 := eq_true b0; have b2 := decide_eq_true b0; have b3 : (bdI E tk < 0) = False := eq_false (by omega); have b4 : decide (bdI E tk < 0) = false := decide_eq_false (by omega)
     clear b0
     have HBD := Aside0.mk hbd
     clear hbd
     obtain ⟨z4_0, z4_1, z4_2, z4_3, z4_4⟩ := cn5 H4.out
     obtain ⟨z2_0, f2_0, z2_1, f2_1, z2_2, f2_2, z2_3, f2_3, z2_4, f2_4⟩ := cf5 H2.out
     go_wp2
     refine fin27 H2.out (fun _ F1_ F2_ => ?_)
     exact ⟨⟨2, h, ⟨#[]⟩, 0, []⟩, _, tk, rfl, ⟨none, 0, rfl, Nat.le_refl 0, F.nil _ _ _ _ _⟩, HS.out.only H2.out (by decide) (by decide) (Nat.le_trans HSB.out G2.out) F2_, HK.out.only G2.out F2_, Step.cast (Th.out.1.bind (f := fun n j => (mustP E ⟨#[58]⟩ j).bind fun _ l => restP E 2 n l) (Tk.out.1.bind (f := fun _ l => restP E 2 h l) (Step.bad HBD.out HBD.out rfl))) HQ.out, Nat.le_trans Th.out.2.1 (Nat.le_trans Tk.out.2.1 (Nat.le_refl _)), (rfl).trans (Tk.out.2.2.trans Th.out.2.2)⟩
    | false =>
     rw [bdI_good hbd] at c2
     have HBD := Aside0.mk hbd
     clear hbd
     have HBD2 := HBD
     go_wp2_with (fail)
     have hW := name_c E tk _ HS.out
     refine hW.mono ?_
     clear hW
     rintro e wn ⟨n, vn, tn, rfl, rfl, q1, qk, hst, hti, hps⟩
     have Tn := Aside0.mk (And.intro hst (And.intro hti hps))
     clear hst hti hps
     replace H2 := mvK qk HS H2
     replace H4 := mvK qk HS H4
     replace HK := kkT HK qk
     replace HS := Aside0.mk q1
     clear q1 qk
     clear c2
     have zk := blk_celln H4.out 2 _ rfl; have fk := blk_frozen H4.out 2
     go_upto_region 16 with (fail)
     obtain ⟨F1_, F2_⟩ := set1 H4.out 2 (.string n) (cs' := #[.int .i64 2, .int .i64 h, .string n, .int .i64 0, .slice none 0 0]) rfl
     generalize hW_ : World.setCell _ ⟨g4, 2, none⟩ (.string n) = wq at F1_ F2_ ⊢
     clear hW_ zk fk
     replace HS := ssO HS H4 HSB G4 F2_
     replace HK := kkO HK G4 F2_
     replace H2 := Aside0.mk ((F2_.block g2 (N2_4.out)).trans H2.out)
     replace H4 := Aside0.mk F1_
     clear F1_ F2_
     go_wp2_with (fail)
     have hW := must_c E tn ⟨#[61, 61]⟩ _ HS.out
     refine hW.mono ?_
     clear hW
     rintro e wq ⟨_, vq, tq, rfl, rfl, q1, qk, hst, hti, hps⟩
     have Tq := Aside0.mk (And.intro hst (And.intro hti hps))
     clear hst hti hps
     replace H2 := mvK qk HS H2
     replace H4 := mvK qk HS H4
     replace HK := kkT HK qk
     replace HS := Aside0.mk q1
     clear q1 qk
     clear HBD
     have c2 := HS.out.c2
     cases hbd : tq.bad with
     | true =>
      have b0 := bdI_bad HS.out.ok2 hbd
      have b1 := eq_true b0; have b2 := decide_eq_true b0; have b3 : (bdI E tq < 0) = False := eq_false (by omega); have b4 : decide (bdI E tq < 0) = false := decide_eq_false (by omega)
      clear b0
      have HBD := Aside0.mk hbd
      clear hbd
      obtain ⟨z4_0, z4_1, z4_2, z4_3, z4_4⟩ := cn5 H4.out
      obtain ⟨z2_0, f2_0, z2_1, f2_1, z2_2, f2_2, z2_3, f2_3, z2_4, f2_4⟩ := cf5 H2.out
      go_wp2
      refine fin27 H2.out (fun _ F1_ F2_ => ?_)
      exact ⟨⟨2, h, n, 0, []⟩, _, tq, rfl, ⟨none, 0, rfl, Nat.le_refl 0, F.nil _ _ _ _ _⟩, HS.out.only H2.out (by decide) (by decide) (Nat.le_trans HSB.out G2.out) F2_, HK.out.only G2.out F2_, Step.cast (Th.out.1.bind (f := fun n j => (mustP E ⟨#[58]⟩ j).bind fun _ l => restP E 2 n l) (Tk.out.1.bind (f := fun _ l => restP E 2 h l) (Tn.out.1.bind (stop Tq.out.1 HBD.out _)))) HQ.out, Nat.le_trans Th.out.2.1 (Nat.le_trans Tk.out.2.1 (Nat.le_trans Tn.out.2.1 Tq.out.2.1)), (Tq.out.2.2.trans Tn.out.2.2).trans (Tk.out.2.2.trans Th.out.2.2)⟩
     | false =>
      rw [bdI_good hbd] at c2
      have HBD := Aside0.mk hbd
      clear hbd
      go_wp2_with (fail)
      have hW := number_c E tq _ HS.out
      refine hW.mono ?_
      clear hW
      rintro e wm ⟨m, vm, tm, rfl, rfl, q1, qk, hst, hti, hps⟩
      have Tm := Aside0.mk (And.intro hst (And.intro hti hps))
      clear hst hti hps
      replace H2 := mvK qk HS H2
      replace H4 := mvK qk HS H4
      replace HK := kkT HK qk
      replace HS := Aside0.mk q1
      clear q1 qk
      clear c2
      have zk := blk_celln H4.out 3 _ rfl; have fk := blk_frozen H4.out 3
      go_upto_region 19 with (fail)
      obtain ⟨F1_, F2_⟩ := set1 H4.out 3 (.int .i64 m) (cs' := #[.int .i64 2, .int .i64 h, .string n, .int .i64 m, .slice none 0 0]) rfl
      generalize hW_ : World.setCell _ ⟨g4, 3, none⟩ (.int .i64 m) = wq at F1_ F2_ ⊢
      clear hW_ zk fk
      replace HS := ssO HS H4 HSB G4 F2_
      replace HK := kkO HK G4 F2_
      replace H2 := Aside0.mk ((F2_.block g2 (N2_4.out)).trans H2.out)
      replace H4 := Aside0.mk F1_
      clear F1_ F2_
      obtain ⟨z4_0, z4_1, z4_2, z4_3, z4_4⟩ := cn5 H4.out
      obtain ⟨z2_0, f2_0, z2_1, f2_1, z2_2, f2_2, z2_3, f2_3, z2_4, f2_4⟩ := cf5 H2.out
      go_wp2
      refine fin27 H2.out (fun _ F1_ F2_ => ?_)
      exact ⟨⟨2, h, n, m, []⟩, _, tm, rfl, ⟨none, 0, rfl, Nat.le_refl 0, F.nil _ _ _ _ _⟩, HS.out.only H2.out (by decide) (by decide) (Nat.le_trans HSB.out G2.out) F2_, HK.out.only G2.out F2_, Step.cast (Th.out.1.bind (f := fun n j => (mustP E ⟨#[58]⟩ j).bind fun _ l => restP E 2 n l) (Tk.out.1.bind (f := fun _ l => restP E 2 h l) (Tn.out.1.bind (Tq.out.1.bind (Tm.out.1.bind (Step.pure tm _)))))) HQ.out, Nat.le_trans Th.out.2.1 (Nat.le_trans Tk.out.2.1 (Nat.le_trans Tn.out.2.1 (Nat.le_trans Tq.out.2.1 Tm.out.2.1))), (Tm.out.2.2.trans (Tq.out.2.2.trans Tn.out.2.2)).trans (Tk.out.2.2.trans Th.out.2.2)⟩
   | false =>
    have HQ := Aside0.mk (show s.bad = false → oneP E one s.i = restP E 1 0 s.i from fun hbad => by have h1 := hB; unfold nuB at h1; rw [hbad] at h1; unfold oneP; rw [if_neg (by rw [isB_good hbad _ HF1.out]; decide), if_neg (by rw [isB_good hbad _ HF2.out]; decide), if_neg (by simpa using h1)])
    clear hB
    have c2 := HS.out.c2
    cases hbd : s.bad with
    | true =>
     have b0 := bdI_bad HS.out.ok2 hbd
     have b1 := eq_true b0; have b2 := decide_eq_true b0; have b3 : (bdI E s < 0) = False := eq_false (by omega); have b4 : decide (bdI E s < 0) = false := decide_eq_false (by omega)
     clear b0
     have HBD := Aside0.mk hbd
     clear hbd
     obtain ⟨z4_0, z4_1, z4_2, z4_3, z4_4⟩ := cn5 H4.out
     obtain ⟨z2_0, f2_0, z2_1, f2_1, z2_2, f2_2, z2_3, f2_3, z2_4, f2_4⟩ := cf5 H2.out
     go_wp2
     refine fin27 H2.out (fun _ F1_ F2_ => ?_)
     exact ⟨⟨1, 0, ⟨#[]⟩, 0, []⟩, _, s, rfl, ⟨none, 0, rfl, Nat.le_refl 0, F.nil _ _ _ _ _⟩, HS.out.only H2.out (by decide) (by decide) (Nat.le_trans HSB.out G2.out) F2_, HK.out.only G2.out F2_, Step.cast (r := restP E 1 0 s.i) (Step.bad HBD.out HBD.out rfl) HQ.out, Nat.le_refl _, rfl⟩
    | false =>
     rw [bdI_good hbd] at c2
     have HBD := Aside0.mk hbd
     clear hbd
     have HBD2 := HBD
     go_wp2_with (fail)
     have hW := name_c E s _ HS.out
     refine hW.mono ?_
     clear hW
     rintro e wn ⟨n, vn, tn, rfl, rfl, q1, qk, hst, hti, hps⟩
     have Tn := Aside0.mk (And.intro hst (And.intro hti hps))
     clear hst hti hps
     replace H2 := mvK qk HS H2
     replace H4 := mvK qk HS H4
     replace HK := kkT HK qk
     replace HS := Aside0.mk q1
     clear q1 qk
     clear c2
     have zk := blk_celln H4.out 2 _ rfl; have fk := blk_frozen H4.out 2
     go_upto_region 16 with (fail)
     obtain ⟨F1_, F2_⟩ := set1 H4.out 2 (.string n) (cs' := #[.int .i64 1, .int .i64 0, .string n, .int .i64 0, .slice none 0 0]) rfl
     generalize hW_ : World.setCell _ ⟨g4, 2, none⟩ (.string n) = wq at F1_ F2_ ⊢
     clear hW_ zk fk
     replace HS := ssO HS H4 HSB G4 F2_
     replace HK := kkO HK G4 F2_
     replace H2 := Aside0.mk ((F2_.block g2 (N2_4.out)).trans H2.out)
     replace H4 := Aside0.mk F1_
     clear F1_ F2_
     go_wp2_with (fail)
     have hW := must_c E tn ⟨#[61, 61]⟩ _ HS.out
     refine hW.mono ?_
     clear hW
     rintro e wq ⟨_, vq, tq, rfl, rfl, q1, qk, hst, hti, hps⟩
     have Tq := Aside0.mk (And.intro hst (And.intro hti hps))
     clear hst hti hps
     replace H2 := mvK qk HS H2
     replace H4 := mvK qk HS H4
     replace HK := kkT HK qk
     replace HS := Aside0.mk q1
     clear q1 qk
     clear HBD
     have c2 := HS.out.c2
     cases hbd : tq.bad with
     | true =>
      have b0 := bdI_bad HS.out.ok2 hbd
      have b1 := eq_true b0; have b2 := decide_eq_true b0; have b3 : (bdI E tq < 0) = False := eq_false (by omega); have b4 : decide (bdI E tq < 0) = false := decide_eq_false (by omega)
      clear b0
      have HBD := Aside0.mk hbd
      clear hbd
      obtain ⟨z4_0, z4_1, z4_2, z4_3, z4_4⟩ := cn5 H4.out
      obtain ⟨z2_0, f2_0, z2_1, f2_1, z2_2, f2_2, z2_3, f2_3, z2_4, f2_4⟩ := cf5 H2.out
      go_wp2
      refine fin27 H2.out (fun _ F1_ F2_ => ?_)
      exact ⟨⟨1, 0, n, 0, []⟩, _, tq, rfl, ⟨none, 0, rfl, Nat.le_refl 0, F.nil _ _ _ _ _⟩, HS.out.only H2.out (by decide) (by decide) (Nat.le_trans HSB.out G2.out) F2_, HK.out.only G2.out F2_, Step.cast (r := restP E 1 0 s.i) (Tn.out.1.bind (stop Tq.out.1 HBD.out _)) HQ.out, Nat.le_trans Tn.out.2.1 Tq.out.2.1, Tq.out.2.2.trans Tn.out.2.2⟩
     | false =>
      rw [bdI_good hbd] at c2
      have HBD := Aside0.mk hbd
      clear hbd
      go_wp2_with (fail)
      have hW := number_c E tq _ HS.out
      refine hW.mono ?_
      clear hW
      rintro e wm ⟨m, vm, tm, rfl, rfl, q1, qk, hst, hti, hps⟩
      have Tm := Aside0.mk (And.intro hst (And.intro hti hps))
      clear hst hti hps
      replace H2 := mvK qk HS H2
      replace H4 := mvK qk HS H4
      replace HK := kkT HK qk
      replace HS := Aside0.mk q1
      clear q1 qk
      clear c2
      have zk := blk_celln H4.out 3 _ rfl; have fk := blk_frozen H4.out 3
      go_upto_region 19 with (fail)
      obtain ⟨F1_, F2_⟩ := set1 H4.out 3 (.int .i64 m) (cs' := #[.int .i64 1, .int .i64 0, .string n, .int .i64 m, .slice none 0 0]) rfl
      generalize hW_ : World.setCell _ ⟨g4, 3, none⟩ (.int .i64 m) = wq at F1_ F2_ ⊢
      clear hW_ zk fk
      replace HS := ssO HS H4 HSB G4 F2_
      replace HK := kkO HK G4 F2_
      replace H2 := Aside0.mk ((F2_.block g2 (N2_4.out)).trans H2.out)
      replace H4 := Aside0.mk F1_
      clear F1_ F2_
      obtain ⟨z4_0, z4_1, z4_2, z4_3, z4_4⟩ := cn5 H4.out
      obtain ⟨z2_0, f2_0, z2_1, f2_1, z2_2, f2_2, z2_3, f2_3, z2_4, f2_4⟩ := cf5 H2.out
      go_wp2
      refine fin27 H2.out (fun _ F1_ F2_ => ?_)
      exact ⟨⟨1, 0, n, m, []⟩, _, tm, rfl, ⟨none, 0, rfl, Nat.le_refl 0, F.nil _ _ _ _ _⟩, HS.out.only H2.out (by decide) (by decide) (Nat.le_trans HSB.out G2.out) F2_, HK.out.only G2.out F2_, Step.cast (r := restP E 1 0 s.i) (Tn.out.1.bind (Tq.out.1.bind (Tm.out.1.bind (Step.pure tm _)))) HQ.out, Nat.le_trans Tn.out.2.1 (Nat.le_trans Tq.out.2.1 Tm.out.2.1), Tm.out.2.2.trans (Tq.out.2.2.trans Tn.out.2.2)⟩
theorem one_all (E : Env) : ∀ k, FullC E 91 (oneF E k)
 | 0 => fun s w h hn => by
  have hb : s.bad = true := by
   cases hbad : s.bad with
   | true => rfl
   | false => exact absurd rfl (hn hbad)
  refine (one_c E (fun _ => .out) (fun _ _ _ _ h => absurd rfl h) (fun _ _ _ _ h => absurd rfl h) s w h (fun h => by rw [hb] at h; cases h)).mono ?_
  rintro e w' ⟨x, v, t, h1, h2, h3, h4, h5, h6⟩
  obtain ⟨a, b⟩ := h5.1 hb
  exact ⟨x, v, t, h1, h2, h3, h4, Step.bad hb a b, h6⟩
 | k + 1 => fun s w h hn => by
  have i1 := one_all E k
  exact one_c E (oneF E k) (fun s w h hb hne => i1 s w h (fun _ => hne)) (fun s w h hb hne => cond_c E (oneF E k) (both_c E (oneF E k) i1) s w h (fun _ => hne)) s w h hn
theorem cond_all (E : Env) (k : Nat) : FullC E 40 (condQ E (oneF E k)) := cond_c E (oneF E k) (both_c E (oneF E k) (one_all E k))
end Go.Proofs.Ytinnldfmbeafiaa.PA.D
