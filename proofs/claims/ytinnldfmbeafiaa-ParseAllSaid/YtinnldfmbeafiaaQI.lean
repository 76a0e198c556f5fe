/- Statements of one line: store, fence, set; walked by hand. -/
import Derived.Test.YtinnldfmbeafiaaQH
namespace Go.Proofs.Ytinnldfmbeafiaa.PA
open Go.RowKit Go.Proofs.YtinnldfmbeafiaaW.PrintWords Go.Proofs.YtinnldfmbeafiaaW.PrintLast Go.Proofs.YtinnldfmbeafiaaW.PrintMore
set_option linter.unusedVariables false
set_option linter.unusedSimpArgs false
attribute [local go_sem] cell_set_some fld53_0 fld53_1 fld53_2 fld53_3
theorem zQIq1 {p : Prop} (h : p := by unfold rightP; rw [if_neg (by rw [isB_good hbad _ HF1.out]; decide), if_neg (by rw [isB_good hbad _ HF2.out]; decide), if_neg (by rw [isB_good hbad _ HF3.out]; decide)]) : p := h
section
variable {E : Env} {s : Cs} {w w1 wi : World} {row : Option Nat}
theorem ST.grown (h : ST E s w) (hg : w.grownBy w1 row) (hb : Below E.w0.heap.size E.w0 w1) (hr : ∀ g, row = some g → ∃ cells t, w.heap[g]? = some (.cells cells t (0, 0)) ∧ t ≠ 85 ∧ t ≠ 3) : ST E s w1 := by
 obtain ⟨hB, v, hbk, hown, hne⟩ := h.cu
 refine ⟨h.ok, ⟨hB, v, blk_grown hbk hg (fun e => ?_), ints_move hown (fun k hk => ?_), hne⟩, hb, h.lt⟩
 ·obtain ⟨c, t, hc, h1, _⟩ := hr E.g e.symm
  rw [hbk] at hc
  injection hc with hc
  injection hc with _ hc
  exact h1 hc.symm
 ·obtain ⟨c, hc⟩ := Kd.R_typed hown k hk
  rw [hg.block k (blk_lt hc) (fun e => ?_)]
  obtain ⟨c', t, hc', _, h2⟩ := hr k e.symm
  rw [hc] at hc'
  injection hc' with hc'
  injection hc' with _ hc'
  exact h2 hc'.symm
theorem KP.grown (h : KP E wi w) (hg : w.grownBy w1 row) (hr : ∀ g, row = some g → wi.heap.size ≤ g) : KP E wi w1 :=
 ⟨fun k o hk h1 h3 => by
  have hk' := h.1 k o hk h1 h3
  rw [hg.block k (Array.getElem?_eq_some_iff.1 hk').1 (fun e => by
   have := hr k e.symm
   have := (Array.getElem?_eq_some_iff.1 hk).1
   omega)]
  exact hk', Nat.le_trans h.2 hg.size⟩
end
/-- A statement that is handed back: its rows are new. -/
def VS (E : Env) (w : World) (w' : World) (x : S62) (v : Value) : Prop := ∃ A4 c4 A5 c5 A6 c6, v = .agg #[.int .i64 x.f0, .int .i64 x.f1, .string x.f2, .string x.f3, .slice A4 x.f4.length c4, .slice A5 x.f5.length c5, .slice A6 x.f6.length c6] ∧
 x.f4.length ≤ c4 ∧ Kd.F k94 w' (GD E E.g w.heap.size w') A4 x.f4.length x.f4 ∧ x.f5.length ≤ c5 ∧ Kd.F k62 w' (GD E E.g w.heap.size w') A5 x.f5.length x.f5 ∧ x.f6.length ≤ c6 ∧ Kd.F k62 w' (GD E E.g w.heap.size w') A6 x.f6.length x.f6
def semiP (E : Env) (x : S62) (i : Nat) : Res S62 := (mustP E ⟨#[59]⟩ i).bind fun _ j => .ok x j []
def storeP (E : Env) (ke : Nat) (i : Nat) : Res S62 := (modeP E i).bind fun m j => (nameP E j).bind fun l j => (exprP E ke j).bind fun e j => semiP E ⟨3, m, ⟨#[]⟩, l, [e], [], []⟩ j
def fenceP (E : Env) (i : Nat) : Res S62 := (modeP E i).bind fun m j => semiP E ⟨6, m, ⟨#[]⟩, ⟨#[]⟩, [], [], []⟩ j
def rightP (E : Env) (ke : Nat) (r : ByteArray) (i : Nat) : Res S62 :=
 if isT E i ⟨#[108, 111, 97, 100]⟩ = true then (modeP E (i + 1)).bind fun m j => (nameP E j).bind fun l j => semiP E ⟨2, m, r, l, [], [], []⟩ j
 else if isT E i ⟨#[97, 100, 100]⟩ = true then (modeP E (i + 1)).bind fun m j => (nameP E j).bind fun l j => (exprP E ke j).bind fun e j => semiP E ⟨4, m, r, l, [e], [], []⟩ j
 else if isT E i ⟨#[99, 97, 115]⟩ = true then (modeP E (i + 1)).bind fun m j => (nameP E j).bind fun l j => (exprP E ke j).bind fun e j => (mustP E ⟨#[44]⟩ j).bind fun _ j => (exprP E ke j).bind fun f j => semiP E ⟨5, m, r, l, [e, f], [], []⟩ j
 else (exprP E ke i).bind fun e j => semiP E ⟨1, 0, r, ⟨#[]⟩, [e], [], []⟩ j
def setP (E : Env) (ke : Nat) (i : Nat) : Res S62 := (nameP E i).bind fun r j => (mustP E ⟨#[61]⟩ j).bind fun _ j => rightP E ke r j
set_option maxHeartbeats 8000000 in
set_option maxRecDepth 100000 in
theorem store_c (E : Env) (ke : Nat) (s : Cs) (w : World) (h : ST E s w) (hn : Ne s (storeP E ke s.i)) : Calls Try.prog 95 #[.pointer (some ⟨E.g, 0, none⟩)] w (Got E s w (storeP E ke s.i) (VS E w)) := by
 have HN := Aside0.mk hn
 clear hn
 have HSB := Aside0.mk (show E.w0.heap.size ≤ w.heap.size from h.below.size)
 have HS := Aside0.mk h
 have HK := Aside0.mk (KP.refl E w)
 clear h
 go_enter Try.func95, Try.ntmps95
 go_wp2_with ((with_reducible refine gate_dst (N := 2) rfl ?_); refine bbX (N := 2) z62v 62 ?hr ?_; (case hr => first | (go_simp; done) | (go_simp; rfl)); intro g2 hg_ w2 hbox_ hq_; have G2 := Aside0.mk (show w.heap.size ≤ g2 from by rw [hg_.out]; exact HK.out.2); have H2 := Aside0.mk hbox_; replace HK := kkB HK hq_; replace HS := ssM HS hq_; clear hg_ hbox_ hq_)
 go_wp2_with (fail)
 have hW := mode_c E s _ HS.out
 refine hW.mono ?_
 clear hW
 rintro e wm ⟨m, vm, tm, rfl, rfl, q1, qk, hst, hti, hps⟩
 have Tm := Aside0.mk (And.intro hst (And.intro hti hps))
 clear hst hti hps
 replace H2 := mvK qk HS H2
 replace HK := kkT HK qk
 replace HS := Aside0.mk q1
 clear q1 qk
 go_wp2_with (fail)
 have hW := name_c E tm _ HS.out
 refine hW.mono ?_
 clear hW
 rintro e wl ⟨l, vl, tl, rfl, rfl, q1, qk, hst, hti, hps⟩
 have Tl := Aside0.mk (And.intro hst (And.intro hti hps))
 clear hst hti hps
 replace H2 := mvK qk HS H2
 replace HK := kkT HK qk
 replace HS := Aside0.mk q1
 clear q1 qk
 go_upto_region 2 with (first | ((with_reducible refine gate_dst (N := 3) rfl ?_); refine bbX (N := 3) z62v 62 ?hr ?_; (case hr => first | (go_simp; done) | (go_simp; rfl)); intro g3 hg_ w3 hbox_ hq_; obtain ⟨z0_, f0_, z1_, f1_, z2_, f2_, z3_, f3_, z4_, f4_, z5_, f5_, z6_, f6_⟩ := cf7 hbox_))
 obtain ⟨F1_, F2_⟩ := fill62 hbox_ (.int .i64 3) (.int .i64 m) (.string ⟨#[]⟩) (.string l) (.slice none 0 0) (.slice none 0 0) (.slice none 0 0) _ rfl
 replace hq_ := hq_.trans (F2_.below.mono (Nat.le_of_eq hg_.out.symm))
 have G3 := Aside0.mk (show w.heap.size ≤ g3 from by rw [hg_.out]; exact HK.out.2)
 have N2_3 := Aside0.mk (ne_new H2.out hg_.out); have LT2_3 := Aside0.mk (lt_new H2.out hg_.out)
 clear hg_ hbox_ F2_ z0_ f0_ z1_ f1_ z2_ f2_ z3_ f3_ z4_ f4_ z5_ f5_ z6_ f6_
 generalize ((((((w3.setCell ⟨g3, 0, none⟩ (.int .i64 3)).setCell ⟨g3, 1, none⟩ (.int .i64 m)).setCell ⟨g3, 2, none⟩ (.string ⟨#[]⟩)).setCell ⟨g3, 3, none⟩ (.string l)).setCell ⟨g3, 4, none⟩ (.slice none 0 0)).setCell ⟨g3, 5, none⟩ (.slice none 0 0)).setCell ⟨g3, 6, none⟩ (.slice none 0 0) = v3 at F1_ hq_ ⊢
 have H3 := Aside0.mk F1_
 replace H2 := mvB hq_ H2
 replace HK := kkB HK hq_
 replace HS := ssM HS hq_
 clear F1_ hq_
 go_wp2_with (fail)
 have hW := expr_c E ke tl _ HS.out (Ne.first (Ne.next (Ne.next HN.out Tm.out.1) Tl.out.1))
 have Le := Aside0.mk (And.intro HK.out.2 (blk_lt H3.out))
 refine hW.mono ?_
 clear hW
 rintro e we ⟨e, ve, te, rfl, ⟨Ae, ce, rfl, le, re⟩, q1, qk, hst, hti, hps⟩
 have Te := Aside0.mk (And.intro hst (And.intro hti hps))
 clear hst hti hps
 replace H2 := mvK qk HS H2
 replace H3 := mvK qk HS H3
 replace HK := kkT HK qk
 replace HS := Aside0.mk q1
 clear q1 qk
 have Re := Aside0.mk re
 clear re
 replace Re := Aside0.mk (F.lower Re.out (show g3 + 1 ≤ _ from Le.out.2))
 go_upto_region 3 with ((with_reducible refine gate_dst (N := 11) rfl ?_); refine lit_event ?hg (N := 11) ?hd (n := 1) (cs := ⟨[.int .i64 e.f0, .int .i64 e.f1, .string e.f2, .slice Ae e.f3.length ce]⟩) (t := 94) ?hr ?_; (case hd => rfl); (case hg => rfl); (case hr => first | (go_simp; done) | (go_simp; rfl)); intro gk hg_ w9 hbox_ hq_; have hgk := Aside0.mk (show g3 < gk from by rw [hg_]; exact blk_lt H3.out); have RB := Re; have hsz := Aside0.mk hg_; replace H2 := mvB hq_ H2; replace H3 := mvB hq_ H3; replace HK := kkB HK hq_; replace HS := ssM HS hq_; replace Re := ffB Re hq_; have RR := Aside0.mk (F.one hbox_ (GD.at hbox_ HS.out hgk.out (HS.out.ne hbox_ (by decide)) (by decide) (by decide)) (FK94 le Re.out)); have zk := blk_celln H3.out 4 _ rfl; have fk := blk_frozen H3.out 4; clear hg_ hbox_ hq_ RB hsz)
 clear Re
 skip
 obtain ⟨F1_, F2_⟩ := set1 H3.out 4 (.slice (some ⟨gk, 0, none⟩) 1 1) (cs' := #[.int .i64 3, .int .i64 m, .string ⟨#[]⟩, .string l, .slice (some ⟨gk, 0, none⟩) 1 1, .slice none 0 0, .slice none 0 0]) rfl
 generalize hW_ : World.setCell _ ⟨g3, 4, none⟩ (.slice (some ⟨gk, 0, none⟩) 1 1) = wq at F1_ F2_ ⊢
 clear hW_ zk fk
 replace HS := ssO HS H3 HSB G3 F2_
 replace HK := kkO HK G3 F2_
 replace H2 := Aside0.mk ((F2_.block g2 (N2_3.out)).trans H2.out)
 replace RR := Aside0.mk (F.only RR.out F2_ (Or.inl (Nat.lt_succ_self _)))
 replace H3 := Aside0.mk F1_
 clear F1_ F2_
 go_wp2_with (fail)
 have hW := must_c E te ⟨#[59]⟩ _ HS.out
 refine hW.mono ?_
 clear hW
 rintro e wq ⟨_, vq, tq, rfl, rfl, q1, qk, hst, hti, hps⟩
 have Tq := Aside0.mk (And.intro hst (And.intro hti hps))
 clear hst hti hps
 replace H2 := mvK qk HS H2
 replace H3 := mvK qk HS H3
 replace RR := ffK RR qk
 replace HK := kkT HK qk
 replace HS := Aside0.mk q1
 clear q1 qk
 obtain ⟨z3_0, z3_1, z3_2, z3_3, z3_4, z3_5, z3_6⟩ := cn7 H3.out
 obtain ⟨z2_0, f2_0, z2_1, f2_1, z2_2, f2_2, z2_3, f2_3, z2_4, f2_4, z2_5, f2_5, z2_6, f2_6⟩ := cf7 H2.out
 go_wp2
 refine fin62 H2.out (fun _ F1_ F2_ => ?_)
 exact ⟨⟨3, m, ⟨#[]⟩, l, [e], [], []⟩, _, tq, rfl, ⟨some ⟨gk, 0, none⟩, 1, none, 0, none, 0, rfl, Nat.le_refl 1, F.lower (F.only RR.out F2_ (Or.inl (Nat.lt_succ_of_lt LT2_3.out))) (Nat.le_succ_of_le G3.out), Nat.le_refl 0, F.nil _ _ _ _ _, Nat.le_refl 0, F.nil _ _ _ _ _⟩, HS.out.only H2.out (by decide) (by decide) (Nat.le_trans HSB.out G2.out) F2_, HK.out.only G2.out F2_, Tm.out.1.bind (Tl.out.1.bind (Te.out.1.bind (Tq.out.1.bind (Step.pure tq _)))), Nat.le_trans Tm.out.2.1 (Nat.le_trans Tl.out.2.1 (Nat.le_trans Te.out.2.1 Tq.out.2.1)), Tq.out.2.2.trans (Te.out.2.2.trans (Tl.out.2.2.trans Tm.out.2.2))⟩
set_option maxHeartbeats 8000000 in
set_option maxRecDepth 100000 in
theorem fence_c (E : Env) (s : Cs) (w : World) (h : ST E s w) : Calls Try.prog 96 #[.pointer (some ⟨E.g, 0, none⟩)] w (Got E s w (fenceP E s.i) (VS E w)) := by
 have HSB := Aside0.mk (show E.w0.heap.size ≤ w.heap.size from h.below.size)
 have HS := Aside0.mk h
 have HK := Aside0.mk (KP.refl E w)
 clear h
 go_enter Try.func96, Try.ntmps96
 go_wp2_with ((with_reducible refine gate_dst (N := 2) rfl ?_); refine bbX (N := 2) z62v 62 ?hr ?_; (case hr => first | (go_simp; done) | (go_simp; rfl)); intro g2 hg_ w2 hbox_ hq_; have G2 := Aside0.mk (show w.heap.size ≤ g2 from by rw [hg_.out]; exact HK.out.2); have H2 := Aside0.mk hbox_; replace HK := kkB HK hq_; replace HS := ssM HS hq_; clear hg_ hbox_ hq_)
 go_wp2_with (fail)
 have hW := mode_c E s _ HS.out
 refine hW.mono ?_
 clear hW
 rintro e wm ⟨m, vm, tm, rfl, rfl, q1, qk, hst, hti, hps⟩
 have Tm := Aside0.mk (And.intro hst (And.intro hti hps))
 clear hst hti hps
 replace H2 := mvK qk HS H2
 replace HK := kkT HK qk
 replace HS := Aside0.mk q1
 clear q1 qk
 go_upto_region 2 with (first | ((with_reducible refine gate_dst (N := 3) rfl ?_); refine bbX (N := 3) z62v 62 ?hr ?_; (case hr => first | (go_simp; done) | (go_simp; rfl)); intro g3 hg_ w3 hbox_ hq_; obtain ⟨z0_, f0_, z1_, f1_, z2_, f2_, z3_, f3_, z4_, f4_, z5_, f5_, z6_, f6_⟩ := cf7 hbox_))
 obtain ⟨F1_, F2_⟩ := fill62 hbox_ (.int .i64 6) (.int .i64 m) (.string ⟨#[]⟩) (.string ⟨#[]⟩) (.slice none 0 0) (.slice none 0 0) (.slice none 0 0) _ rfl
 replace hq_ := hq_.trans (F2_.below.mono (Nat.le_of_eq hg_.out.symm))
 have G3 := Aside0.mk (show w.heap.size ≤ g3 from by rw [hg_.out]; exact HK.out.2)
 have N2_3 := Aside0.mk (ne_new H2.out hg_.out); have LT2_3 := Aside0.mk (lt_new H2.out hg_.out)
 clear hg_ hbox_ F2_ z0_ f0_ z1_ f1_ z2_ f2_ z3_ f3_ z4_ f4_ z5_ f5_ z6_ f6_
 generalize ((((((w3.setCell ⟨g3, 0, none⟩ (.int .i64 6)).setCell ⟨g3, 1, none⟩ (.int .i64 m)).setCell ⟨g3, 2, none⟩ (.string ⟨#[]⟩)).setCell ⟨g3, 3, none⟩ (.string ⟨#[]⟩)).setCell ⟨g3, 4, none⟩ (.slice none 0 0)).setCell ⟨g3, 5, none⟩ (.slice none 0 0)).setCell ⟨g3, 6, none⟩ (.slice none 0 0) = v3 at F1_ hq_ ⊢
 have H3 := Aside0.mk F1_
 replace H2 := mvB hq_ H2
 replace HK := kkB HK hq_
 replace HS := ssM HS hq_
 clear F1_ hq_
 go_wp2_with (fail)
 have hW := must_c E tm ⟨#[59]⟩ _ HS.out
 refine hW.mono ?_
 clear hW
 rintro e wq ⟨_, vq, tq, rfl, rfl, q1, qk, hst, hti, hps⟩
 have Tq := Aside0.mk (And.intro hst (And.intro hti hps))
 clear hst hti hps
 replace H2 := mvK qk HS H2
 replace H3 := mvK qk HS H3
 replace HK := kkT HK qk
 replace HS := Aside0.mk q1
 clear q1 qk
 obtain ⟨z3_0, z3_1, z3_2, z3_3, z3_4, z3_5, z3_6⟩ := cn7 H3.out
 obtain ⟨z2_0, f2_0, z2_1, f2_1, z2_2, f2_2, z2_3, f2_3, z2_4, f2_4, z2_5, f2_5, z2_6, f2_6⟩ := cf7 H2.out
 go_wp2
 refine fin62 H2.out (fun _ F1_ F2_ => ?_)
 exact ⟨⟨6, m, ⟨#[]⟩, ⟨#[]⟩, [], [], []⟩, _, tq, rfl, ⟨none, 0, none, 0, none, 0, rfl, Nat.le_refl 0, F.nil _ _ _ _ _, Nat.le_refl 0, F.nil _ _ _ _ _, Nat.le_refl 0, F.nil _ _ _ _ _⟩, HS.out.only H2.out (by decide) (by decide) (Nat.le_trans HSB.out G2.out) F2_, HK.out.only G2.out F2_, Tm.out.1.bind (Tq.out.1.bind (Step.pure tq _)), Nat.le_trans Tm.out.2.1 Tq.out.2.1, Tq.out.2.2.trans Tm.out.2.2⟩
def setT.T14 : Bool × List (List Nat × List Nat) := (true, [([], []), ([0], [0]), ([], []), ([2], [2]), ([3], [3]), ([1, 4, 3], [1, 4]), ([0, 1, 2, 3, 4, 5], []), ([6, 5, 5, 0, 1, 2, 3, 4, 5], [5, 6])])
def setT.B14 : List Nat := [0, 1, 0, 4, 12, 31, 63, 127]
theorem setT.tab14 : rtab .any (opsOf Try.f98 14) = setT.T14 := by kernel_rfl
theorem setT.bits14 : waitsOk setT.T14.2 setT.B14 = true := by kernel_rfl
set_option maxHeartbeats 8000000 in
set_option maxRecDepth 100000 in
theorem set_c (E : Env) (ke : Nat) (s : Cs) (w : World) (h : ST E s w) (hn : Ne s (setP E ke s.i)) : Calls Try.prog 98 #[.pointer (some ⟨E.g, 0, none⟩)] w (Got E s w (setP E ke s.i) (VS E w)) := by
 have HN := Aside0.mk hn
 clear hn
 have HSB := Aside0.mk (show E.w0.heap.size ≤ w.heap.size from h.below.size)
 have HS := Aside0.mk h
 have HK := Aside0.mk (KP.refl E w)
 clear h
 go_enter Try.func98, Try.ntmps98
 go_wp2_with ((with_reducible refine gate_dst (N := 2) rfl ?_); refine bbX (N := 2) z62v 62 ?hr ?_; (case hr => first | (go_simp; done) | (go_simp; rfl)); intro g2 hg_ w2 hbox_ hq_; have G2 := Aside0.mk (show w.heap.size ≤ g2 from by rw [hg_.out]; exact HK.out.2); have H2 := Aside0.mk hbox_; replace HK := kkB HK hq_; replace HS := ssM HS hq_; clear hg_ hbox_ hq_)
 go_wp2_with (fail)
 have hW := name_c E s _ HS.out
 refine hW.mono ?_
 clear hW
 rintro e wr ⟨r, vr, tr, rfl, rfl, q1, qk, hst, hti, hps⟩
 have Tr := Aside0.mk (And.intro hst (And.intro hti hps))
 clear hst hti hps
 replace H2 := mvK qk HS H2
 replace HK := kkT HK qk
 replace HS := Aside0.mk q1
 clear q1 qk
 go_wp2_with (fail)
 have hW := must_c E tr ⟨#[61]⟩ _ HS.out
 refine hW.mono ?_
 clear hW
 rintro e wa ⟨_, va, ta, rfl, rfl, q1, qk, hst, hti, hps⟩
 have Ta := Aside0.mk (And.intro hst (And.intro hti hps))
 clear hst hti hps
 replace H2 := mvK qk HS H2
 replace HK := kkT HK qk
 replace HS := Aside0.mk q1
 clear q1 qk
 have H1_ : Ne tr ((mustP E ⟨#[61]⟩ tr.i).bind fun _ j => rightP E ke r j) := Ne.next (f := fun r j => (mustP E ⟨#[61]⟩ j).bind fun _ j => rightP E ke r j) HN.out Tr.out.1
 have HR := Aside0.mk (show Ne ta (rightP E ke r ta.i) from Ne.next (f := fun _ j => rightP E ke r j) H1_ Ta.out.1)
 clear H1_
 go_upto_region 5 with (first | ((with_reducible refine gate_dst (N := 4) rfl ?_); refine bbX (N := 4) z62v 62 ?hr ?_; (case hr => first | (go_simp; done) | (go_simp; rfl)); intro g4 hg_ w4 hbox_ hq_; obtain ⟨z0_, f0_, z1_, f1_, z2_, f2_, z3_, f3_, z4_, f4_, z5_, f5_, z6_, f6_⟩ := cf7 hbox_))
 obtain ⟨F1_, F2_⟩ := fill62 hbox_ (.int .i64 1) (.int .i64 0) (.string ⟨#[]⟩) (.string ⟨#[]⟩) (.slice none 0 0) (.slice none 0 0) (.slice none 0 0) _ rfl
 replace hq_ := hq_.trans (F2_.below.mono (Nat.le_of_eq hg_.out.symm))
 have G4 := Aside0.mk (show w.heap.size ≤ g4 from by rw [hg_.out]; exact HK.out.2)
 have N2_4 := Aside0.mk (ne_new H2.out hg_.out); have LT2_4 := Aside0.mk (lt_new H2.out hg_.out)
 clear hg_ hbox_ F2_ z0_ f0_ z1_ f1_ z2_ f2_ z3_ f3_ z4_ f4_ z5_ f5_ z6_ f6_
 generalize ((((((w4.setCell ⟨g4, 0, none⟩ (.int .i64 1)).setCell ⟨g4, 1, none⟩ (.int .i64 0)).setCell ⟨g4, 2, none⟩ (.string ⟨#[]⟩)).setCell ⟨g4, 3, none⟩ (.string ⟨#[]⟩)).setCell ⟨g4, 4, none⟩ (.slice none 0 0)).setCell ⟨g4, 5, none⟩ (.slice none 0 0)).setCell ⟨g4, 6, none⟩ (.slice none 0 0) = v4 at F1_ hq_ ⊢
 have H4 := Aside0.mk F1_
 replace H2 := mvB hq_ H2
 replace HK := kkB HK hq_
 replace HS := ssM HS hq_
 clear F1_ hq_
 go_wp2_with (fail)
 cases hB : isB E ta ⟨#[108, 111, 97, 100]⟩ with
 | true =>
  obtain ⟨hbad, _⟩ := is_ok hB
  have HE := Aside0.mk (isB_good hbad _ hB)
  have HBD := Aside0.mk hbad
  have hW := took_c E ta ⟨#[108, 111, 97, 100]⟩ _ HS.out true hB
  refine hW.mono ?_
  clear hW hB hbad
  rintro e wt ⟨rfl, q1, qk⟩
  replace q1 : ST E ⟨ta.i + 1, false, ta.ps⟩ wt := by
   have e : tkS ta true = ⟨ta.i + 1, false, ta.ps⟩ := by
    unfold tkS
    rw [if_pos rfl, HBD.out]
   rw [← e]
   exact q1
  replace H2 := mvK qk HS H2
  replace H4 := mvK qk HS H4
  replace HK := kkT HK qk
  replace HS := Aside0.mk q1
  clear q1 qk
  have HQ := Aside0.mk (show rightP E ke r ta.i = (modeP E (ta.i + 1)).bind fun m j => (nameP E j).bind fun l j => semiP E ⟨2, m, r, l, [], [], []⟩ j from by unfold rightP; rw [if_pos HE.out])
  have HR2 := Aside0.mk (show Ne (⟨ta.i + 1, false, ta.ps⟩ : Cs) _ from fun _ => by have := HR.out HBD.out; rw [HQ.out] at this; exact this)
  go_wp2_with (fail)
  have hW := mode_c E ⟨ta.i + 1, false, ta.ps⟩ _ HS.out
  refine hW.mono ?_
  clear hW
  rintro e wm ⟨m, vm, tm, rfl, rfl, q1, qk, hst, hti, hps⟩
  have Tm := Aside0.mk (And.intro hst (And.intro hti hps))
  clear hst hti hps
  replace H2 := mvK qk HS H2
  replace H4 := mvK qk HS H4
  replace HK := kkT HK qk
  replace HS := Aside0.mk q1
  clear q1 qk
  go_wp2_with (fail)
  have hW := name_c E tm _ HS.out
  refine hW.mono ?_
  clear hW
  rintro e wl ⟨l, vl, tl, rfl, rfl, q1, qk, hst, hti, hps⟩
  have Tl := Aside0.mk (And.intro hst (And.intro hti hps))
  clear hst hti hps
  replace H2 := mvK qk HS H2
  replace H4 := mvK qk HS H4
  replace HK := kkT HK qk
  replace HS := Aside0.mk q1
  clear q1 qk
  obtain ⟨z4_0, f4_0, z4_1, f4_1, z4_2, f4_2, z4_3, f4_3, z4_4, f4_4, z4_5, f4_5, z4_6, f4_6⟩ := cf7 H4.out
  go_upto_region 15 with (fail)
  obtain ⟨F1_, F2_⟩ := fill62 H4.out (.int .i64 2) (.int .i64 m) (.string ⟨#[]⟩) (.string l) (.slice none 0 0) (.slice none 0 0) (.slice none 0 0) _ rfl
  generalize hW_ : World.setCell (World.setCell (World.setCell (World.setCell (World.setCell (World.setCell (World.setCell _ ⟨g4, 0, none⟩ _) ⟨g4, 1, none⟩ _) ⟨g4, 2, none⟩ _) ⟨g4, 3, none⟩ _) ⟨g4, 4, none⟩ _) ⟨g4, 5, none⟩ _) ⟨g4, 6, none⟩ _ = wq at F1_ F2_ ⊢
  clear hW_
  clear z4_0 f4_0 z4_1 f4_1 z4_2 f4_2 z4_3 f4_3 z4_4 f4_4 z4_5 f4_5 z4_6 f4_6
  replace HS := ssO HS H4 HSB G4 F2_
  replace HK := kkO HK G4 F2_
  replace H2 := Aside0.mk ((F2_.block g2 (N2_4.out)).trans H2.out)
  replace H4 := Aside0.mk F1_
  clear F1_ F2_
  have zk := blk_celln H4.out 2 _ rfl; have fk := blk_frozen H4.out 2
  go_upto_region 16 with (fail)
  obtain ⟨F1_, F2_⟩ := set1 H4.out 2 (.string r) (cs' := #[.int .i64 2, .int .i64 m, .string r, .string l, .slice none 0 0, .slice none 0 0, .slice none 0 0]) rfl
  generalize hW_ : World.setCell _ ⟨g4, 2, none⟩ (.string r) = wq at F1_ F2_ ⊢
  clear hW_ zk fk
  replace HS := ssO HS H4 HSB G4 F2_
  replace HK := kkO HK G4 F2_
  replace H2 := Aside0.mk ((F2_.block g2 (N2_4.out)).trans H2.out)
  replace H4 := Aside0.mk F1_
  clear F1_ F2_
  go_wp2_with (fail)
  have hW := must_c E tl ⟨#[59]⟩ _ HS.out
  refine hW.mono ?_
  clear hW
  rintro e wq ⟨_, vq, tq, rfl, rfl, q1, qk, hst, hti, hps⟩
  have Tq := Aside0.mk (And.intro hst (And.intro hti hps))
  clear hst hti hps
  replace H2 := mvK qk HS H2
  replace H4 := mvK qk HS H4
  replace HK := kkT HK qk
  replace HS := Aside0.mk q1
  clear q1 qk
  obtain ⟨z4_0, z4_1, z4_2, z4_3, z4_4, z4_5, z4_6⟩ := cn7 H4.out
  obtain ⟨z2_0, f2_0, z2_1, f2_1, z2_2, f2_2, z2_3, f2_3, z2_4, f2_4, z2_5, f2_5, z2_6, f2_6⟩ := cf7 H2.out
  go_wp2
  refine fin62 H2.out (fun _ F1_ F2_ => ?_)
  exact ⟨⟨2, m, r, l, [], [], []⟩, _, tq, rfl, ⟨none, 0, none, 0, none, 0, rfl, Nat.le_refl 0, F.nil _ _ _ _ _, Nat.le_refl 0, F.nil _ _ _ _ _, Nat.le_refl 0, F.nil _ _ _ _ _⟩, HS.out.only H2.out (by decide) (by decide) (Nat.le_trans HSB.out G2.out) F2_, HK.out.only G2.out F2_, Tr.out.1.bind (Ta.out.1.bind (f := fun _ j => rightP E ke r j) (by rw [HQ.out]; exact Step.at HBD.out (Tm.out.1.bind (Tl.out.1.bind (Tq.out.1.bind (Step.pure tq _)))))), Nat.le_trans Tr.out.2.1 (Nat.le_trans Ta.out.2.1 (Nat.le_trans (Nat.le_succ _) (Nat.le_trans Tm.out.2.1 (Nat.le_trans Tl.out.2.1 Tq.out.2.1)))), (Tq.out.2.2.trans (Tl.out.2.2.trans Tm.out.2.2)).trans (Ta.out.2.2.trans Tr.out.2.2)⟩
 | false =>
  have HF1 := Aside0.mk hB
  have hW := took_c E ta ⟨#[108, 111, 97, 100]⟩ _ HS.out false hB
  refine hW.mono ?_
  clear hW hB
  rintro e wt ⟨rfl, q1, qk⟩
  replace q1 : ST E ta wt := q1
  replace H2 := mvK qk HS H2
  replace H4 := mvK qk HS H4
  replace HK := kkT HK qk
  replace HS := Aside0.mk q1
  clear q1 qk
  go_wp2_with (fail)
  cases hB : isB E ta ⟨#[97, 100, 100]⟩ with
  | true =>
   obtain ⟨hbad, _⟩ := is_ok hB
   have HE := Aside0.mk (isB_good hbad _ hB)
   have HBD := Aside0.mk hbad
   have hW := took_c E ta ⟨#[97, 100, 100]⟩ _ HS.out true hB
   refine hW.mono ?_
   clear hW hB hbad
   rintro e wu ⟨rfl, q1, qk⟩
   replace q1 : ST E ⟨ta.i + 1, false, ta.ps⟩ wu := by
    have e : tkS ta true = ⟨ta.i + 1, false, ta.ps⟩ := by
     unfold tkS
     rw [if_pos rfl, HBD.out]
    rw [← e]
    exact q1
   replace H2 := mvK qk HS H2
   replace H4 := mvK qk HS H4
   replace HK := kkT HK qk
   replace HS := Aside0.mk q1
   clear q1 qk
   have HQ := Aside0.mk (show rightP E ke r ta.i = (modeP E (ta.i + 1)).bind fun m j => (nameP E j).bind fun l j => (exprP E ke j).bind fun e j => semiP E ⟨4, m, r, l, [e], [], []⟩ j from by unfold rightP; rw [if_neg (by rw [isB_good HBD.out _ HF1.out]; decide), if_pos HE.out])
   have HR2 := Aside0.mk (show Ne (⟨ta.i + 1, false, ta.ps⟩ : Cs) _ from fun _ => by have := HR.out HBD.out; rw [HQ.out] at this; exact this)
   go_wp2_with (fail)
   have hW := mode_c E ⟨ta.i + 1, false, ta.ps⟩ _ HS.out
   refine hW.mono ?_
   clear hW
   rintro e wm ⟨m, vm, tm, rfl, rfl, q1, qk, hst, hti, hps⟩
   have Tm := Aside0.mk (And.intro hst (And.intro hti hps))
   clear hst hti hps
   replace H2 := mvK qk HS H2
   replace H4 := mvK qk HS H4
   replace HK := kkT HK qk
   replace HS := Aside0.mk q1
   clear q1 qk
   go_wp2_with (fail)
   have hW := name_c E tm _ HS.out
   refine hW.mono ?_
   clear hW
   rintro e wl ⟨l, vl, tl, rfl, rfl, q1, qk, hst, hti, hps⟩
   have Tl := Aside0.mk (And.intro hst (And.intro hti hps))
   clear hst hti hps
   replace H2 := mvK qk HS H2
   replace H4 := mvK qk HS H4
   replace HK := kkT HK qk
   replace HS := Aside0.mk q1
   clear q1 qk
   obtain ⟨z4_0, f4_0, z4_1, f4_1, z4_2, f4_2, z4_3, f4_3, z4_4, f4_4, z4_5, f4_5, z4_6, f4_6⟩ := cf7 H4.out
   go_upto_region 9 with (fail)
   obtain ⟨F1_, F2_⟩ := fill62 H4.out (.int .i64 4) (.int .i64 m) (.string ⟨#[]⟩) (.string l) (.slice none 0 0) (.slice none 0 0) (.slice none 0 0) _ rfl
   generalize hW_ : World.setCell (World.setCell (World.setCell (World.setCell (World.setCell (World.setCell (World.setCell _ ⟨g4, 0, none⟩ _) ⟨g4, 1, none⟩ _) ⟨g4, 2, none⟩ _) ⟨g4, 3, none⟩ _) ⟨g4, 4, none⟩ _) ⟨g4, 5, none⟩ _) ⟨g4, 6, none⟩ _ = wq at F1_ F2_ ⊢
   clear hW_
   clear z4_0 f4_0 z4_1 f4_1 z4_2 f4_2 z4_3 f4_3 z4_4 f4_4 z4_5 f4_5 z4_6 f4_6
   replace HS := ssO HS H4 HSB G4 F2_
   replace HK := kkO HK G4 F2_
   replace H2 := Aside0.mk ((F2_.block g2 (N2_4.out)).trans H2.out)
   replace H4 := Aside0.mk F1_
   clear F1_ F2_
   go_wp2_with (fail)
   have hW := expr_c E ke tl _ HS.out (Ne.first (Ne.next (Ne.next HR2.out Tm.out.1) Tl.out.1))
   have Le := Aside0.mk (And.intro HK.out.2 (blk_lt H4.out))
   refine hW.mono ?_
   clear hW
   rintro e we ⟨e, ve, te, rfl, ⟨Ae, ce, rfl, le, re⟩, q1, qk, hst, hti, hps⟩
   have Te := Aside0.mk (And.intro hst (And.intro hti hps))
   clear hst hti hps
   replace H2 := mvK qk HS H2
   replace H4 := mvK qk HS H4
   replace HK := kkT HK qk
   replace HS := Aside0.mk q1
   clear q1 qk
   have Re := Aside0.mk re
   clear re
   replace Re := Aside0.mk (F.lower Re.out (show g4 + 1 ≤ _ from Le.out.2))
   go_upto_region 15 with ((with_reducible refine gate_dst (N := 32) rfl ?_); refine lit_event ?hg (N := 32) ?hd (n := 1) (cs := ⟨[.int .i64 e.f0, .int .i64 e.f1, .string e.f2, .slice Ae e.f3.length ce]⟩) (t := 94) ?hr ?_; (case hd => rfl); (case hg => rfl); (case hr => first | (go_simp; done) | (go_simp; rfl)); intro gk hg_ w9 hbox_ hq_; have hgk := Aside0.mk (show g4 < gk from by rw [hg_]; exact blk_lt H4.out); have RB := Re; have hsz := Aside0.mk hg_; replace H2 := mvB hq_ H2; replace H4 := mvB hq_ H4; replace HK := kkB HK hq_; replace HS := ssM HS hq_; replace Re := ffB Re hq_; have RR := Aside0.mk (F.one hbox_ (GD.at hbox_ HS.out hgk.out (HS.out.ne hbox_ (by decide)) (by decide) (by decide)) (FK94 le Re.out)); have zk := blk_celln H4.out 4 _ rfl; have fk := blk_frozen H4.out 4; clear hg_ hbox_ hq_ RB hsz)
   clear Re
   skip
   obtain ⟨F1_, F2_⟩ := set1 H4.out 4 (.slice (some ⟨gk, 0, none⟩) 1 1) (cs' := #[.int .i64 4, .int .i64 m, .string ⟨#[]⟩, .string l, .slice (some ⟨gk, 0, none⟩) 1 1, .slice none 0 0, .slice none 0 0]) rfl
   generalize hW_ : World.setCell _ ⟨g4, 4, none⟩ (.slice (some ⟨gk, 0, none⟩) 1 1) = wq at F1_ F2_ ⊢
   clear hW_ zk fk
   replace HS := ssO HS H4 HSB G4 F2_
   replace HK := kkO HK G4 F2_
   replace H2 := Aside0.mk ((F2_.block g2 (N2_4.out)).trans H2.out)
   replace RR := Aside0.mk (F.only RR.out F2_ (Or.inl (Nat.lt_succ_self _)))
   replace H4 := Aside0.mk F1_
   clear F1_ F2_
   have zk := blk_celln H4.out 2 _ rfl; have fk := blk_frozen H4.out 2
   go_upto_region 16 with (fail)
   obtain ⟨F1_, F2_⟩ := set1 H4.out 2 (.string r) (cs' := #[.int .i64 4, .int .i64 m, .string r, .string l, .slice (some ⟨gk, 0, none⟩) 1 1, .slice none 0 0, .slice none 0 0]) rfl
   generalize hW_ : World.setCell _ ⟨g4, 2, none⟩ (.string r) = wq at F1_ F2_ ⊢
   clear hW_ zk fk
   replace HS := ssO HS H4 HSB G4 F2_
   replace HK := kkO HK G4 F2_
   replace H2 := Aside0.mk ((F2_.block g2 (N2_4.out)).trans H2.out)
   replace RR := Aside0.mk (F.only RR.out F2_ (Or.inl (Nat.lt_succ_self _)))
   replace H4 := Aside0.mk F1_
   clear F1_ F2_
   go_wp2_with (fail)
   have hW := must_c E te ⟨#[59]⟩ _ HS.out
   refine hW.mono ?_
   clear hW
   rintro e wq ⟨_, vq, tq, rfl, rfl, q1, qk, hst, hti, hps⟩
   have Tq := Aside0.mk (And.intro hst (And.intro hti hps))
   clear hst hti hps
   replace H2 := mvK qk HS H2
   replace H4 := mvK qk HS H4
   replace RR := ffK RR qk
   replace HK := kkT HK qk
   replace HS := Aside0.mk q1
   clear q1 qk
   obtain ⟨z4_0, z4_1, z4_2, z4_3, z4_4, z4_5, z4_6⟩ := cn7 H4.out
   obtain ⟨z2_0, f2_0, z2_1, f2_1, z2_2, f2_2, z2_3, f2_3, z2_4, f2_4, z2_5, f2_5, z2_6, f2_6⟩ := cf7 H2.out
   go_wp2
   refine fin62 H2.out (fun _ F1_ F2_ => ?_)
   exact ⟨⟨4, m, r, l, [e], [], []⟩, _, tq, rfl, ⟨some ⟨gk, 0, none⟩, 1, none, 0, none, 0, rfl, Nat.le_refl 1, F.lower (F.only RR.out F2_ (Or.inl (Nat.lt_succ_of_lt LT2_4.out))) (Nat.le_succ_of_le G4.out), Nat.le_refl 0, F.nil _ _ _ _ _, Nat.le_refl 0, F.nil _ _ _ _ _⟩, HS.out.only H2.out (by decide) (by decide) (Nat.le_trans HSB.out G2.out) F2_, HK.out.only G2.out F2_, Tr.out.1.bind (Ta.out.1.bind (f := fun _ j => rightP E ke r j) (by rw [HQ.out]; exact Step.at HBD.out (Tm.out.1.bind (Tl.out.1.bind (Te.out.1.bind (Tq.out.1.bind (Step.pure tq _))))))), Nat.le_trans Tr.out.2.1 (Nat.le_trans Ta.out.2.1 (Nat.le_trans (Nat.le_succ _) (Nat.le_trans Tm.out.2.1 (Nat.le_trans Tl.out.2.1 (Nat.le_trans Te.out.2.1 Tq.out.2.1))))), (Tq.out.2.2.trans (Te.out.2.2.trans (Tl.out.2.2.trans Tm.out.2.2))).trans (Ta.out.2.2.trans Tr.out.2.2)⟩
  | false =>
   have HF2 := Aside0.mk hB
   have hW := took_c E ta ⟨#[97, 100, 100]⟩ _ HS.out false hB
   refine hW.mono ?_
   clear hW hB
   rintro e wu ⟨rfl, q1, qk⟩
   replace q1 : ST E ta wu := q1
   replace H2 := mvK qk HS H2
   replace H4 := mvK qk HS H4
   replace HK := kkT HK qk
   replace HS := Aside0.mk q1
   clear q1 qk
   go_wp2_with (fail)
   cases hB : isB E ta ⟨#[99, 97, 115]⟩ with
   | true =>
    obtain ⟨hbad, _⟩ := is_ok hB
    have HE := Aside0.mk (isB_good hbad _ hB)
    have HBD := Aside0.mk hbad
    have hW := took_c E ta ⟨#[99, 97, 115]⟩ _ HS.out true hB
    refine hW.mono ?_
    clear hW hB hbad
    rintro e wv ⟨rfl, q1, qk⟩
    replace q1 : ST E ⟨ta.i + 1, false, ta.ps⟩ wv := by
     have e : tkS ta true = ⟨ta.i + 1, false, ta.ps⟩ := by
      unfold tkS
      rw [if_pos rfl, HBD.out]
     rw [← e]
     exact q1
    replace H2 := mvK qk HS H2
    replace H4 := mvK qk HS H4
    replace HK := kkT HK qk
    replace HS := Aside0.mk q1
    clear q1 qk
    have HQ := Aside0.mk (show rightP E ke r ta.i = (modeP E (ta.i + 1)).bind fun m j => (nameP E j).bind fun l j => (exprP E ke j).bind fun e j => (mustP E ⟨#[44]⟩ j).bind fun _ j => (exprP E ke j).bind fun f j => semiP E ⟨5, m, r, l, [e, f], [], []⟩ j from by unfold rightP; rw [if_neg (by rw [isB_good HBD.out _ HF1.out]; decide), if_neg (by rw [isB_good HBD.out _ HF2.out]; decide), if_pos HE.out])
    have HR2 := Aside0.mk (show Ne (⟨ta.i + 1, false, ta.ps⟩ : Cs) _ from fun _ => by have := HR.out HBD.out; rw [HQ.out] at this; exact this)
    go_wp2_with (fail)
    have hW := mode_c E ⟨ta.i + 1, false, ta.ps⟩ _ HS.out
    refine hW.mono ?_
    clear hW
    rintro e wm ⟨m, vm, tm, rfl, rfl, q1, qk, hst, hti, hps⟩
    have Tm := Aside0.mk (And.intro hst (And.intro hti hps))
    clear hst hti hps
    replace H2 := mvK qk HS H2
    replace H4 := mvK qk HS H4
    replace HK := kkT HK qk
    replace HS := Aside0.mk q1
    clear q1 qk
    go_wp2_with (fail)
    have hW := name_c E tm _ HS.out
    refine hW.mono ?_
    clear hW
    rintro e wl ⟨l, vl, tl, rfl, rfl, q1, qk, hst, hti, hps⟩
    have Tl := Aside0.mk (And.intro hst (And.intro hti hps))
    clear hst hti hps
    replace H2 := mvK qk HS H2
    replace H4 := mvK qk HS H4
    replace HK := kkT HK qk
    replace HS := Aside0.mk q1
    clear q1 qk
    obtain ⟨z4_0, f4_0, z4_1, f4_1, z4_2, f4_2, z4_3, f4_3, z4_4, f4_4, z4_5, f4_5, z4_6, f4_6⟩ := cf7 H4.out
    go_upto_region 12 with (fail)
    obtain ⟨F1_, F2_⟩ := fill62 H4.out (.int .i64 5) (.int .i64 m) (.string ⟨#[]⟩) (.string l) (.slice none 0 0) (.slice none 0 0) (.slice none 0 0) _ rfl
    generalize hW_ : World.setCell (World.setCell (World.setCell (World.setCell (World.setCell (World.setCell (World.setCell _ ⟨g4, 0, none⟩ _) ⟨g4, 1, none⟩ _) ⟨g4, 2, none⟩ _) ⟨g4, 3, none⟩ _) ⟨g4, 4, none⟩ _) ⟨g4, 5, none⟩ _) ⟨g4, 6, none⟩ _ = wq at F1_ F2_ ⊢
    clear hW_
    clear z4_0 f4_0 z4_1 f4_1 z4_2 f4_2 z4_3 f4_3 z4_4 f4_4 z4_5 f4_5 z4_6 f4_6
    replace HS := ssO HS H4 HSB G4 F2_
    replace HK := kkO HK G4 F2_
    replace H2 := Aside0.mk ((F2_.block g2 (N2_4.out)).trans H2.out)
    replace H4 := Aside0.mk F1_
    clear F1_ F2_
    go_wp2_with (fail)
    have hW := expr_c E ke tl _ HS.out (Ne.first (Ne.next (Ne.next HR2.out Tm.out.1) Tl.out.1))
    have Le := Aside0.mk (And.intro HK.out.2 (blk_lt H4.out))
    refine hW.mono ?_
    clear hW
    rintro e we ⟨e, ve, te, rfl, ⟨Ae, ce, rfl, le, re⟩, q1, qk, hst, hti, hps⟩
    have Te := Aside0.mk (And.intro hst (And.intro hti hps))
    clear hst hti hps
    replace H2 := mvK qk HS H2
    replace H4 := mvK qk HS H4
    replace HK := kkT HK qk
    replace HS := Aside0.mk q1
    clear q1 qk
    have Re := Aside0.mk re
    clear re
    replace Re := Aside0.mk (F.lower Re.out (show g4 + 1 ≤ _ from Le.out.2))
    go_upto_region 13 with ((with_reducible refine gate_dst (N := 44) rfl ?_); refine lit_event ?hg (N := 44) ?hd (n := 1) (cs := ⟨[.int .i64 e.f0, .int .i64 e.f1, .string e.f2, .slice Ae e.f3.length ce]⟩) (t := 94) ?hr ?_; (case hd => rfl); (case hg => rfl); (case hr => first | (go_simp; done) | (go_simp; rfl)); intro gk hg_ w9 hbox_ hq_; have hgk := Aside0.mk (show g4 < gk from by rw [hg_]; exact blk_lt H4.out); have RB := Re; have hsz := Aside0.mk hg_; replace H2 := mvB hq_ H2; replace H4 := mvB hq_ H4; replace HK := kkB HK hq_; replace HS := ssM HS hq_; replace Re := ffB Re hq_; have RN := Aside0.mk (NG.one (d := k94) (z := E.g) (b := g4 + 1) hbox_ (by decide) hgk.out (GD.at hbox_ HS.out hgk.out (HS.out.ne hbox_ (by decide)) (by decide) (by decide)) (FK.cut (FK94 le RB.out) hq_ (by rw [hsz.out]; exact Nat.le_refl _))); have zk := blk_celln H4.out 4 _ rfl; have fk := blk_frozen H4.out 4; clear hg_ hbox_ hq_ RB hsz)
    clear Re
    skip
    obtain ⟨F1_, F2_⟩ := set1 H4.out 4 (.slice (some ⟨gk, 0, none⟩) 1 1) (cs' := #[.int .i64 5, .int .i64 m, .string ⟨#[]⟩, .string l, .slice (some ⟨gk, 0, none⟩) 1 1, .slice none 0 0, .slice none 0 0]) rfl
    generalize hW_ : World.setCell _ ⟨g4, 4, none⟩ (.slice (some ⟨gk, 0, none⟩) 1 1) = wq at F1_ F2_ ⊢
    clear hW_ zk fk
    replace HS := ssO HS H4 HSB G4 F2_
    replace HK := kkO HK G4 F2_
    replace H2 := Aside0.mk ((F2_.block g2 (N2_4.out)).trans H2.out)
    replace RN := Aside0.mk (NG.only RN.out F2_ (Or.inl (Nat.lt_succ_self _)))
    replace H4 := Aside0.mk F1_
    clear F1_ F2_
    go_wp2_with (fail)
    have hW := must_c E te ⟨#[44]⟩ _ HS.out
    refine hW.mono ?_
    clear hW
    rintro e wc ⟨_, vc, tc, rfl, rfl, q1, qk, hst, hti, hps⟩
    have Tc := Aside0.mk (And.intro hst (And.intro hti hps))
    clear hst hti hps
    replace H2 := mvK qk HS H2
    replace H4 := mvK qk HS H4
    replace RN := Aside0.mk (NG.kp RN.out qk)
    replace HK := kkT HK qk
    replace HS := Aside0.mk q1
    clear q1 qk
    go_upto_region 14 with (fail)
    replace H2 := mvB (below_drew (Below.refl wc.heap.size wc)) H2
    replace H4 := mvB (below_drew (Below.refl wc.heap.size wc)) H4
    replace RN := Aside0.mk (NG.kp RN.out (KP.below (below_drew (Below.refl wc.heap.size wc))))
    replace HK := kkB HK (below_drew (Below.refl wc.heap.size wc))
    replace HS := ssM HS (below_drew (Below.refl wc.heap.size wc))
    refine start_ (n := 8) (S := fun w' => w'.cell? ⟨g4, 4, none⟩ = some (.slice (some ⟨gk, 0, none⟩) 1 1)) (ds := [5, 7]) #[Z,Z,Z,Z,Z,Z,Z,Z] (by kernel_rfl) rfl rfl (blk_celln H4.out 4 _ rfl) (fun hHeld => ?_)
    refine with_tabW setT.tab14 setT.bits14 (fun HT_ HW_ => ?_)
    generalize World.drew _ = wd at HS HK H2 H4 RN hHeld ⊢
    refine ppU (i := 0) (N := some 48) #[Y,Z,Z,Z,Z,Z,Z,Z] HT_ ?_
    refine take_ (i := 1) (N := some 49) (v := ?_) (a' := ?_) #[Y,Y,Z,Z,Z,Z,Z,Z] rfl rfl (take_ofW HT_.out HW_.out (by kernel_rfl)) (fun _ _ _ h => h) (Or.inl ⟨by rfl, ?_⟩) hHeld ?_ ?_
    rotate_left
    ·rintro w' s0
     go_simp
     with_reducible rfl
    rotate_left
    ·simp only [Act.put, pA, pB, pC, i64_w, i32_w]
     rfl
    refine ppU (i := 2) (N := some 50) #[Y,Y,Y,Z,Z,Z,Z,Z] HT_ ?_
    refine one_ (i := 3) (N := some 51) #[Y,Y,Y,Y,Z,Z,Z,Z] rfl rfl (one_of HT_.out (by kernel_rfl)) (by decide) (fun K hK => ?_)
    refine goes_ Try.func105 (by kernel_rfl) rfl #[.pointer (some ⟨E.g, 0, none⟩)] (by rfl) rfl rfl (by (try simp only [List.map_toArray, List.map_cons, List.map_nil]); first | done | rfl) ?_
    have hW := expr_c E ke tc _ HS.out (Ne.first (Ne.next (Ne.next (Ne.next (Ne.next HR2.out Tm.out.1) Tl.out.1) Te.out.1) Tc.out.1))
    have Lf := Aside0.mk (And.intro HK.out.2 (blk_lt H4.out))
    have Lv := Aside0.mk (show gk < _ from Kd.N_lt RN.out gk rfl)
    refine hW.mono ?_
    clear hW
    rintro e wf ⟨f, vf, tf, rfl, ⟨Af, cf, rfl, lf, rf⟩, q1, qk, hst, hti, hps⟩
    have Tf := Aside0.mk (And.intro hst (And.intro hti hps))
    clear hst hti hps
    refine ⟨_, rfl, ?_⟩
    replace H2 := mvK qk HS H2
    replace H4 := mvK qk HS H4
    replace RN := Aside0.mk (NG.kp RN.out qk)
    replace HK := kkT HK qk
    replace HS := Aside0.mk q1
    clear q1 qk
    have Rf := Aside0.mk rf
    clear rf
    refine hK.out _ _ (blk_celln H4.out 4 _ rfl) (fun hHeld => ?_)
    clear hK K
    refine norm_ (a' := ?_) ?_ ?_
    rotate_left
    ·show Act.put _ (some 51) _ = _
     simp only [Act.put, pA, pB, pC, i64_w, i32_w]
     rfl
    refine one_ (i := 4) (N := some 52) #[Y,Y,Y,Y,Y,Z,Z,Z] rfl rfl (one_of HT_.out (by kernel_rfl)) (by decide) (fun K hK => ?_)
    refine value_ (w1 := ?_) (v := ?_) (by rfl) rfl ?_ ?_
    rotate_left 2
    ·go_simp
     constructor
     ·rfl
     ·rfl
    refine hK.out _ _ ((World.cell?_alloc_lt _ _ _ (World.block_lt_of_cell? _ _ (blk_celln H4.out 4 _ rfl))).trans (blk_celln H4.out 4 _ rfl)) (fun hHeld => ?_)
    clear hK K
    refine norm_ (a' := ?_) ?_ ?_
    rotate_left
    ·show Act.put _ (some 52) _ = _
     simp only [Act.put, pA, pB, pC, i64_w, i32_w]
     rfl
    refine last_ (i := 5) (N := some 53) #[Y,Y,Y,Y,Y,Y,Z,Z] rfl rfl (one_of HT_.out (by kernel_rfl)) (by decide) (fun K hK => ?_)
    refine NG_append_step (E := E) (s' := tf) (z := E.g) k94 (w0 := wf) (g4 + 1) (by rfl) (.tmp 49) (.tmp 52) 60 94 (.agg z94v) 56 rfl Try.underlying60 info94 rfl (by decide) (by decide) (.slice (some ⟨gk, 0, none⟩) 1 1) [e] f [.int .i64 f.f0, .int .i64 f.f1, .string f.f2, .slice Af f.f3.length cf] rfl rfl (Kd.FK_mono (FK94 lf (F.any Rf.out)) (fun k hk => ⟨GD.lower (show g4 + 1 ≤ _ from Lf.out.2) hk, fun e => by have h1 : k = gk := (Option.some.inj e); have h2 := hk.1; have h3 := Lv.out; omega⟩)) HS.out (by decide) (by decide) rfl RN.out (Below.refl _ _) (show g4 + 1 ≤ _ from blk_lt H4.out) (show (1 + 1) * 56 ≤ _ by decide) ?_
    intro va w2 q1 q2 q3 _
    obtain ⟨Aa, ca, rfl⟩ := Kd.N_slice q1
    have hca := Aside0.mk (Kd.N_reads' q1).2.1
    refine hK.out _ _ ?_
    clear hK K
    refine norm_ (a' := ?_) ?_ ?_
    rotate_left
    ·show Act.put _ (some 53) _ = _
     simp only [Act.put, pA, pB, pC, i64_w, i32_w]
     rfl
    refine ppU (i := 6) (N := some 54) #[Y,Y,Y,Y,Y,Y,Y,Z] HT_ ?_
    refine last_ (i := 7) (N := none) #[Y,Y,Y,Y,Y,Y,Y,Y] rfl rfl (one_of HT_.out (by kernel_rfl)) (by decide) (fun K hK => ?_)
    have hb4 := blk_grown H4.out q3 (fun e => absurd (Option.some.inj e) (Nat.ne_of_lt hgk.out))
    have hs4 := blk_celln hb4 4 _ rfl
    have hf4 := blk_frozen hb4 4
    refine skip_ (w1 := ?_) (by rfl) rfl ?_ ?_
    rotate_left
    ·go_simp
     rfl
    refine hK.out _ _ ?_
    clear hK K
    refine done_ (done_of HT_.out (by kernel_rfl)) ?_
    have typ := Kd.N_typed RN.out
    replace HS := Aside0.mk (ST.grown HS.out q3 (HS.out.below.trans (q2.mono (Nat.le_succ_of_le (Nat.le_trans HSB.out G4.out)))) (fun g hg => by obtain ⟨c, hc⟩ := typ g hg; exact ⟨c, 94, hc, by decide, by decide⟩))
    replace HK := Aside0.mk (KP.grown HK.out q3 (fun g hg => by have h1 := Kd.N_base RN.out g hg; have h2 := G4.out; omega))
    replace H2 := Aside0.mk (blk_grown H2.out q3 (fun e => absurd (Option.some.inj e) (Nat.ne_of_lt (Nat.lt_trans LT2_4.out hgk.out))))
    replace H4 := Aside0.mk hb4
    have RR := Aside0.mk (Kd.N_F q1)
    clear q1 q2 q3 RN typ hb4 hs4 hf4 hHeld
    go_upto_region 15 with (fail)
    obtain ⟨F1_, F2_⟩ := set1 H4.out 4 (.slice Aa 2 ca) (cs' := #[.int .i64 5, .int .i64 m, .string ⟨#[]⟩, .string l, .slice Aa 2 ca, .slice none 0 0, .slice none 0 0]) rfl
    generalize hW_ : World.setCell _ ⟨g4, 4, none⟩ (.slice Aa 2 ca) = wq at F1_ F2_ ⊢
    clear hW_
    replace HS := ssO HS H4 HSB G4 F2_
    replace HK := kkO HK G4 F2_
    replace H2 := Aside0.mk ((F2_.block g2 (N2_4.out)).trans H2.out)
    replace RR := Aside0.mk (F.only RR.out F2_ (Or.inl (Nat.lt_succ_self _)))
    replace H4 := Aside0.mk F1_
    clear F1_ F2_
    have zk := blk_celln H4.out 2 _ rfl; have fk := blk_frozen H4.out 2
    go_upto_region 16 with (fail)
    obtain ⟨F1_, F2_⟩ := set1 H4.out 2 (.string r) (cs' := #[.int .i64 5, .int .i64 m, .string r, .string l, .slice Aa 2 ca, .slice none 0 0, .slice none 0 0]) rfl
    generalize hW_ : World.setCell _ ⟨g4, 2, none⟩ (.string r) = wq at F1_ F2_ ⊢
    clear hW_ zk fk
    replace HS := ssO HS H4 HSB G4 F2_
    replace HK := kkO HK G4 F2_
    replace H2 := Aside0.mk ((F2_.block g2 (N2_4.out)).trans H2.out)
    replace RR := Aside0.mk (F.only RR.out F2_ (Or.inl (Nat.lt_succ_self _)))
    replace H4 := Aside0.mk F1_
    clear F1_ F2_
    go_wp2_with (fail)
    have hW := must_c E tf ⟨#[59]⟩ _ HS.out
    refine hW.mono ?_
    clear hW
    rintro e wq ⟨_, vq, tq, rfl, rfl, q1, qk, hst, hti, hps⟩
    have Tq := Aside0.mk (And.intro hst (And.intro hti hps))
    clear hst hti hps
    replace H2 := mvK qk HS H2
    replace H4 := mvK qk HS H4
    replace RR := ffK RR qk
    replace HK := kkT HK qk
    replace HS := Aside0.mk q1
    clear q1 qk
    obtain ⟨z4_0, z4_1, z4_2, z4_3, z4_4, z4_5, z4_6⟩ := cn7 H4.out
    obtain ⟨z2_0, f2_0, z2_1, f2_1, z2_2, f2_2, z2_3, f2_3, z2_4, f2_4, z2_5, f2_5, z2_6, f2_6⟩ := cf7 H2.out
    go_wp2
    refine fin62 H2.out (fun _ F1_ F2_ => ?_)
    exact ⟨⟨5, m, r, l, [e, f], [], []⟩, _, tq, rfl, ⟨Aa, ca, none, 0, none, 0, rfl, hca.out, F.lower (F.only RR.out F2_ (Or.inl (Nat.lt_succ_of_lt LT2_4.out))) (Nat.le_succ_of_le G4.out), Nat.le_refl 0, F.nil _ _ _ _ _, Nat.le_refl 0, F.nil _ _ _ _ _⟩, HS.out.only H2.out (by decide) (by decide) (Nat.le_trans HSB.out G2.out) F2_, HK.out.only G2.out F2_, Tr.out.1.bind (Ta.out.1.bind (f := fun _ j => rightP E ke r j) (by rw [HQ.out]; exact Step.at HBD.out (Tm.out.1.bind (Tl.out.1.bind (Te.out.1.bind (Tc.out.1.bind (Tf.out.1.bind (Tq.out.1.bind (Step.pure tq _))))))))), Nat.le_trans Tr.out.2.1 (Nat.le_trans Ta.out.2.1 (Nat.le_trans (Nat.le_succ _) (Nat.le_trans Tm.out.2.1 (Nat.le_trans Tl.out.2.1 (Nat.le_trans Te.out.2.1 (Nat.le_trans Tc.out.2.1 (Nat.le_trans Tf.out.2.1 Tq.out.2.1))))))), (Tq.out.2.2.trans (Tf.out.2.2.trans (Tc.out.2.2.trans (Te.out.2.2.trans (Tl.out.2.2.trans Tm.out.2.2))))).trans (Ta.out.2.2.trans Tr.out.2.2)⟩
   | false =>
    have HF3 := Aside0.mk hB
    have hW := took_c E ta ⟨#[99, 97, 115]⟩ _ HS.out false hB
    refine hW.mono ?_
    clear hW hB
    rintro e wv ⟨rfl, q1, qk⟩
    replace q1 : ST E ta wv := q1
    replace H2 := mvK qk HS H2
    replace H4 := mvK qk HS H4
    replace HK := kkT HK qk
    replace HS := Aside0.mk q1
    clear q1 qk
    have HR2 := Aside0.mk (show Ne ta ((exprP E ke ta.i).bind fun e j => semiP E ⟨1, 0, r, ⟨#[]⟩, [e], [], []⟩ j) from Ne.cast HR.out (fun hbad => zQIq1))
    go_wp2_with (fail)
    have hW := expr_c E ke ta _ HS.out (Ne.first HR2.out)
    have Le := Aside0.mk (And.intro HK.out.2 (blk_lt H4.out))
    refine hW.mono ?_
    clear hW
    rintro e we ⟨e, ve, te, rfl, ⟨Ae, ce, rfl, le, re⟩, q1, qk, hst, hti, hps⟩
    have Te := Aside0.mk (And.intro hst (And.intro hti hps))
    clear hst hti hps
    replace H2 := mvK qk HS H2
    replace H4 := mvK qk HS H4
    replace HK := kkT HK qk
    replace HS := Aside0.mk q1
    clear q1 qk
    have Re := Aside0.mk re
    clear re
    replace Re := Aside0.mk (F.lower Re.out (show g4 + 1 ≤ _ from Le.out.2))
    go_upto_region 15 with ((with_reducible refine gate_dst (N := 12) rfl ?_); refine lit_event ?hg (N := 12) ?hd (n := 1) (cs := ⟨[.int .i64 e.f0, .int .i64 e.f1, .string e.f2, .slice Ae e.f3.length ce]⟩) (t := 94) ?hr ?_; (case hd => rfl); (case hg => rfl); (case hr => first | (go_simp; done) | (go_simp; rfl)); intro gk hg_ w9 hbox_ hq_; have hgk := Aside0.mk (show g4 < gk from by rw [hg_]; exact blk_lt H4.out); have RB := Re; have hsz := Aside0.mk hg_; replace H2 := mvB hq_ H2; replace H4 := mvB hq_ H4; replace HK := kkB HK hq_; replace HS := ssM HS hq_; replace Re := ffB Re hq_; have RR := Aside0.mk (F.one hbox_ (GD.at hbox_ HS.out hgk.out (HS.out.ne hbox_ (by decide)) (by decide) (by decide)) (FK94 le Re.out)); have zk := blk_celln H4.out 4 _ rfl; have fk := blk_frozen H4.out 4; clear hg_ hbox_ hq_ RB hsz)
    clear Re
    skip
    obtain ⟨F1_, F2_⟩ := set1 H4.out 4 (.slice (some ⟨gk, 0, none⟩) 1 1) (cs' := #[.int .i64 1, .int .i64 0, .string ⟨#[]⟩, .string ⟨#[]⟩, .slice (some ⟨gk, 0, none⟩) 1 1, .slice none 0 0, .slice none 0 0]) rfl
    generalize hW_ : World.setCell _ ⟨g4, 4, none⟩ (.slice (some ⟨gk, 0, none⟩) 1 1) = wq at F1_ F2_ ⊢
    clear hW_ zk fk
    replace HS := ssO HS H4 HSB G4 F2_
    replace HK := kkO HK G4 F2_
    replace H2 := Aside0.mk ((F2_.block g2 (N2_4.out)).trans H2.out)
    replace RR := Aside0.mk (F.only RR.out F2_ (Or.inl (Nat.lt_succ_self _)))
    replace H4 := Aside0.mk F1_
    clear F1_ F2_
    have zk := blk_celln H4.out 2 _ rfl; have fk := blk_frozen H4.out 2
    go_upto_region 16 with (fail)
    obtain ⟨F1_, F2_⟩ := set1 H4.out 2 (.string r) (cs' := #[.int .i64 1, .int .i64 0, .string r, .string ⟨#[]⟩, .slice (some ⟨gk, 0, none⟩) 1 1, .slice none 0 0, .slice none 0 0]) rfl
    generalize hW_ : World.setCell _ ⟨g4, 2, none⟩ (.string r) = wq at F1_ F2_ ⊢
    clear hW_ zk fk
    replace HS := ssO HS H4 HSB G4 F2_
    replace HK := kkO HK G4 F2_
    replace H2 := Aside0.mk ((F2_.block g2 (N2_4.out)).trans H2.out)
    replace RR := Aside0.mk (F.only RR.out F2_ (Or.inl (Nat.lt_succ_self _)))
    replace H4 := Aside0.mk F1_
    clear F1_ F2_
    go_wp2_with (fail)
    have hW := must_c E te ⟨#[59]⟩ _ HS.out
    refine hW.mono ?_
    clear hW
    rintro e wq ⟨_, vq, tq, rfl, rfl, q1, qk, hst, hti, hps⟩
    have Tq := Aside0.mk (And.intro hst (And.intro hti hps))
    clear hst hti hps
    replace H2 := mvK qk HS H2
    replace H4 := mvK qk HS H4
    replace RR := ffK RR qk
    replace HK := kkT HK qk
    replace HS := Aside0.mk q1
    clear q1 qk
    obtain ⟨z4_0, z4_1, z4_2, z4_3, z4_4, z4_5, z4_6⟩ := cn7 H4.out
    obtain ⟨z2_0, f2_0, z2_1, f2_1, z2_2, f2_2, z2_3, f2_3, z2_4, f2_4, z2_5, f2_5, z2_6, f2_6⟩ := cf7 H2.out
    go_wp2
    refine fin62 H2.out (fun _ F1_ F2_ => ?_)
    exact ⟨⟨1, 0, r, ⟨#[]⟩, [e], [], []⟩, _, tq, rfl, ⟨some ⟨gk, 0, none⟩, 1, none, 0, none, 0, rfl, Nat.le_refl 1, F.lower (F.only RR.out F2_ (Or.inl (Nat.lt_succ_of_lt LT2_4.out))) (Nat.le_succ_of_le G4.out), Nat.le_refl 0, F.nil _ _ _ _ _, Nat.le_refl 0, F.nil _ _ _ _ _⟩, HS.out.only H2.out (by decide) (by decide) (Nat.le_trans HSB.out G2.out) F2_, HK.out.only G2.out F2_, Tr.out.1.bind (Ta.out.1.bind (f := fun _ j => rightP E ke r j) (Step.cast (Te.out.1.bind (f := fun e j => semiP E ⟨1, 0, r, ⟨#[]⟩, [e], [], []⟩ j) (Tq.out.1.bind (Step.pure tq _))) (fun hbad => zQIq1))), Nat.le_trans Tr.out.2.1 (Nat.le_trans Ta.out.2.1 (Nat.le_trans Te.out.2.1 Tq.out.2.1)), (Tq.out.2.2.trans Te.out.2.2).trans (Ta.out.2.2.trans Tr.out.2.2)⟩
end Go.Proofs.Ytinnldfmbeafiaa.PA
