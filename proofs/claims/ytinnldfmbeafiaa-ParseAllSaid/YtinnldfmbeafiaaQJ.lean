/- Statements with blocks: branch, stmt, block; walked by hand. -/
import Derived.Test.YtinnldfmbeafiaaQP
import Derived.Laws.EntriesVeiled
namespace Go.Proofs.Ytinnldfmbeafiaa.PA
open Go.RowKit Go.Proofs.YtinnldfmbeafiaaW.PrintWords Go.Proofs.YtinnldfmbeafiaaW.PrintLast Go.Proofs.YtinnldfmbeafiaaW.PrintMore
set_option linter.unusedVariables false
set_option linter.unusedSimpArgs false
attribute [local go_sem] cell_set_some fld53_0 fld53_1 fld53_2 fld53_3
theorem zQJq1 {p : Prop} (h : p := by unfold stmtR; rw [if_neg (by rw [HBF.out.1 (by omega)]; decide), if_neg (by rw [HBF.out.2.1 (by omega)]; decide), if_neg (by rw [HBF.out.2.2 (by omega)]; decide)]) : p := h
theorem info62 : (Try.prog.info? 62).map (fun i => (i.zero, i.size, i.bytes)) = some (some (.agg z62v), 7, 120) := by kernel_rfl
def FullB (E : Env) (blk : Nat → Res (List S62)) : Prop := ∀ s w, ST E s w → Pl s → Ne s (blk s.i) → Calls Try.prog 59 #[.pointer (some ⟨E.g, 0, none⟩)] w (GotB E s w (blk s.i) (VB E w))
def StAt (E : Env) (st : Nat → Res S62) : Prop := ∀ s w, ST E s w → s.bad = false → Pl s → st s.i ≠ .out → Calls Try.prog 84 #[.pointer (some ⟨E.g, 0, none⟩)] w (GotB E s w (st s.i) (VS E w))
theorem Pl.step {s : Cs} (h : Pl s) (hb : s.bad = false) : Pl ⟨s.i + 1, false, s.ps⟩ := by
 unfold Pl at *
 rw [hb] at h
 simp only [Bool.toNat_false] at *
 omega
theorem Step.part {α : Type} {i : Nat} {ps : List Int} {x : Int} {f : Nat → Res α} {y : α} {t : Cs} (h : Step ⟨i, false, ps ++ [x]⟩ (f i) y t) : Step ⟨i, false, ps⟩ ((Res.ok () i [x]).bind fun _ j => f j) y t :=
 Step.bind (t := ⟨i, false, ps ++ [x]⟩) (x := ()) (Step.good rfl rfl rfl) h
theorem Pl.part {i : Nat} {ps : List Int} {x : Int} (h : Pl ⟨i, false, ps⟩) : Pl ⟨i + 1, false, ps ++ [x]⟩ := by
 unfold Pl at *
 simp only [Bool.toNat_false, List.length_append, List.length_cons, List.length_nil] at *
 omega
theorem Pl.set {E : Env} {ke i : Nat} {ps : List Int} {x : Int} {y : S62} {t : Cs} (h : Pl ⟨i, false, ps⟩) (hs : Step ⟨i, false, ps ++ [x]⟩ (setP E ke i) y t) (hi : i ≤ t.i) (hp : t.ps = ps ++ [x]) : Pl t := by
 unfold Pl at *
 simp only [Bool.toNat_false] at h
 rw [hp, List.length_append, List.length_cons, List.length_nil]
 rcases hs.2 rfl with ⟨p, _, hb, _⟩ | ⟨j, q, hj, rfl⟩
 ·rw [hb]
  simp only [Bool.toNat_true]
  omega
 ·have := set_adv hj
  simp only [Bool.toNat_false]
  omega
theorem fill118 {w : World} {g : Nat} {e0 e1 : Value} (h : w.heap[g]? = some (.cells #[e0, e1] 118 (0, 0))) (v0 v1 : Value) (W : World) (hW : W = (w.setCell ⟨g, 0, none⟩ v0).setCell ⟨g, 1, none⟩ v1) :
 W.heap[g]? = some (.cells #[v0, v1] 118 (0, 0)) ∧ Only g w W := by
 subst hW
 have b0 := blk_put (cs' := #[v0, e1]) h 0 v0 (by simp)
 have b1 := blk_put (cs' := #[v0, v1]) b0 1 v1 (by simp)
 exact ⟨b1, ((Only.refl g w).set 0 _).set 1 _⟩
set_option maxHeartbeats 8000000 in
set_option maxRecDepth 100000 in
theorem branch_c (E : Env) (ke : Nat) (blk : Nat → Res (List S62)) (FB : FullB E blk) (s : Cs) (w : World) (h : ST E s w) (hp : Pl s) (hn : Ne s (branchP E ke blk s.i)) : Calls Try.prog 97 #[.pointer (some ⟨E.g, 0, none⟩)] w (GotB E s w (branchP E ke blk s.i) (VS E w)) := by
 have HN := Aside0.mk hn
 have HFB := Aside0.mk FB
 have HP := Aside0.mk hp
 clear hn FB hp
 have HSB := Aside0.mk (show E.w0.heap.size ≤ w.heap.size from h.below.size)
 have HS := Aside0.mk h
 have HK := Aside0.mk (KP.refl E w)
 clear h
 go_enter Try.func97, Try.ntmps97
 go_wp2_with ((with_reducible refine gate_dst (N := 2) rfl ?_); refine bbX (N := 2) z62v 62 ?hr ?_; (case hr => first | (go_simp; done) | (go_simp; rfl)); intro g2 hg_ w2 hbox_ hq_; have G2 := Aside0.mk (show w.heap.size ≤ g2 from by rw [hg_.out]; exact HK.out.2); have H2 := Aside0.mk hbox_; replace HK := kkB HK hq_; replace HS := ssM HS hq_; clear hg_ hbox_ hq_)
 go_wp2_with (fail)
 have hW := expr_c E ke s _ HS.out (Ne.first HN.out)
 have Le := Aside0.mk (And.intro HK.out.2 (blk_lt H2.out))
 refine hW.mono ?_
 clear hW
 rintro e we ⟨e, ve, te, rfl, ⟨Ae, ce, rfl, le, re⟩, q1, qk, hst, hti, hps⟩
 have Te := Aside0.mk (And.intro hst (And.intro hti hps))
 clear hst hti hps
 replace H2 := mvK qk HS H2
 replace HK := kkT HK qk
 replace HS := Aside0.mk q1
 clear q1 qk
 have Re := Aside0.mk re
 clear re
 have N1 := Aside0.mk (show Ne te ((blk te.i).bind fun a j => elseP E blk e a j) from Ne.next (f := fun e j => (blk j).bind fun a j => elseP E blk e a j) HN.out Te.out.1)
 have Pe := Aside0.mk (Pl.got HP.out Te.out.1 Te.out.2.1 Te.out.2.2)
 replace Re := Aside0.mk (F.lower Re.out (show g2 + 1 ≤ _ from Le.out.2))
 go_upto_region 2 with (first | ((with_reducible refine gate_dst (N := 6) rfl ?_); refine lit_event ?hg (N := 6) ?hd (n := 1) (cs := ⟨[.int .i64 e.f0, .int .i64 e.f1, .string e.f2, .slice Ae e.f3.length ce]⟩) (t := 94) ?hr ?_; (case hd => rfl); (case hg => rfl); (case hr => first | (go_simp; done) | (go_simp; rfl)); intro gk hg_ w9 hbox_ hq_; have hgk := Aside0.mk (show g2 < gk from by rw [hg_]; exact blk_lt H2.out); replace H2 := mvB hq_ H2; replace HK := kkB HK hq_; replace HS := ssM HS hq_; replace Re := ffB Re hq_; have RR := Aside0.mk (F.one hbox_ (GD.at hbox_ HS.out hgk.out (HS.out.ne hbox_ (by decide)) (by decide) (by decide)) (FK94 le Re.out)); clear hg_ hbox_ hq_) | ((with_reducible refine gate_dst (N := 3) rfl ?_); refine bbX (N := 3) z62v 62 ?hr ?_; (case hr => first | (go_simp; done) | (go_simp; rfl)); intro g3 hg_ w3 hbox_ hq_; obtain ⟨z0_, f0_, z1_, f1_, z2_, f2_, z3_, f3_, z4_, f4_, z5_, f5_, z6_, f6_⟩ := cf7 hbox_))
 obtain ⟨F1_, F2_⟩ := fill62 hbox_ (.int .i64 7) (.int .i64 0) (.string ⟨#[]⟩) (.string ⟨#[]⟩) (.slice (some ⟨gk, 0, none⟩) 1 1) (.slice none 0 0) (.slice none 0 0) _ rfl
 replace hq_ := hq_.trans (F2_.below.mono (Nat.le_of_eq hg_.out.symm))
 have G3 := Aside0.mk (show w.heap.size ≤ g3 from by rw [hg_.out]; exact HK.out.2)
 have N2_3 := Aside0.mk (ne_new H2.out hg_.out); have LT2_3 := Aside0.mk (lt_new H2.out hg_.out)
 replace RR := Aside0.mk (F.skip RR.out (Nat.le_of_eq hg_.out.symm)); clear hg_ hbox_ F2_ z0_ f0_ z1_ f1_ z2_ f2_ z3_ f3_ z4_ f4_ z5_ f5_ z6_ f6_
 generalize ((((((w3.setCell ⟨g3, 0, none⟩ (.int .i64 7)).setCell ⟨g3, 1, none⟩ (.int .i64 0)).setCell ⟨g3, 2, none⟩ (.string ⟨#[]⟩)).setCell ⟨g3, 3, none⟩ (.string ⟨#[]⟩)).setCell ⟨g3, 4, none⟩ (.slice (some ⟨gk, 0, none⟩) 1 1)).setCell ⟨g3, 5, none⟩ (.slice none 0 0)).setCell ⟨g3, 6, none⟩ (.slice none 0 0) = v3 at F1_ hq_ ⊢
 have H3 := Aside0.mk F1_
 replace H2 := mvB hq_ H2
 replace RR := ffB RR hq_
 replace HK := kkB HK hq_
 replace HS := ssM HS hq_
 clear F1_ hq_
 go_wp2_with (fail)
 have hW := HFB.out te _ HS.out Pe.out (Ne.first N1.out)
 have La := Aside0.mk (And.intro HK.out.2 (blk_lt H3.out))
 refine hW.mono ?_
 clear hW
 rintro e wa ⟨a, va, ta, rfl, ⟨Aa, ca, rfl, la, ra⟩, q1, qk, hst, hti, hpl⟩
 have Ta := Aside0.mk (And.intro hst (And.intro hti hpl))
 clear hst hti hpl
 replace H2 := mvK qk HS H2
 replace H3 := mvK qk HS H3
 replace RR := ffK RR qk
 replace HK := kkT HK qk
 replace HS := Aside0.mk q1
 clear q1 qk
 have Ra := Aside0.mk ra
 clear ra
 have N2 := Aside0.mk (show Ne ta (elseP E blk e a ta.i) from Ne.next (f := fun a j => elseP E blk e a j) N1.out Ta.out.1)
 have zk := blk_celln H3.out 5 _ rfl; have fk := blk_frozen H3.out 5
 go_upto_region 3 with (fail)
 obtain ⟨F1_, F2_⟩ := set1 H3.out 5 (.slice Aa a.length ca) (cs' := #[.int .i64 7, .int .i64 0, .string ⟨#[]⟩, .string ⟨#[]⟩, .slice (some ⟨gk, 0, none⟩) 1 1, .slice Aa a.length ca, .slice none 0 0]) rfl
 generalize hW_ : World.setCell _ ⟨g3, 5, none⟩ (.slice Aa a.length ca) = wq at F1_ F2_ ⊢
 clear hW_ zk fk
 replace HS := ssO HS H3 HSB G3 F2_
 replace HK := kkO HK G3 F2_
 replace H2 := Aside0.mk ((F2_.block g2 (N2_3.out)).trans H2.out)
 replace RR := Aside0.mk (F.only RR.out F2_ (Or.inr rfl))
 replace Ra := Aside0.mk (F.only Ra.out F2_ (Or.inl La.out.2))
 replace H3 := Aside0.mk F1_
 clear F1_ F2_
 go_wp2_with (fail)
 cases hB : isB E ta ⟨#[101, 108, 115, 101]⟩ with
 | true =>
  obtain ⟨hbad, _⟩ := is_ok hB
  have HE := Aside0.mk (isB_good hbad _ hB)
  have HBD := Aside0.mk hbad
  have hW := took_c E ta ⟨#[101, 108, 115, 101]⟩ _ HS.out true hB
  refine hW.mono ?_
  clear hW hB hbad
  rintro e wt ⟨rfl, q1, qk⟩
  replace q1 : ST E ⟨ta.i + 1, false, ta.ps⟩ wt := by
   have e : tkS ta true = ⟨ta.i + 1, false, ta.ps⟩ := by
    unfold tkS
    rw [if_pos rfl, HBD.out]
   rw [← e]
   exact q1
  replace H2 := mvK qk HS H2
  replace H3 := mvK qk HS H3
  replace RR := ffK RR qk
  replace Ra := ffK Ra qk
  replace HK := kkT HK qk
  replace HS := Aside0.mk q1
  clear q1 qk
  go_wp2_with (fail)
  have hW := HFB.out ⟨ta.i + 1, false, ta.ps⟩ _ HS.out (Pl.step Ta.out.2.2 HBD.out) (fun _ => by have h1 := N2.out HBD.out; unfold elseP at h1; rw [if_pos HE.out] at h1; exact bind_out h1)
  have Lb := Aside0.mk (And.intro HK.out.2 (blk_lt H3.out))
  refine hW.mono ?_
  clear hW
  rintro e wb ⟨b, vb, tb, rfl, ⟨Ab, cb, rfl, lb, rb⟩, q1, qk, hst, hti, hpl⟩
  have Tb := Aside0.mk (And.intro hst (And.intro hti hpl))
  clear hst hti hpl
  replace H2 := mvK qk HS H2
  replace H3 := mvK qk HS H3
  replace RR := ffK RR qk
  replace Ra := ffK Ra qk
  replace HK := kkT HK qk
  replace HS := Aside0.mk q1
  clear q1 qk
  have Rb := Aside0.mk rb
  clear rb
  have zk := blk_celln H3.out 6 _ rfl; have fk := blk_frozen H3.out 6
  go_upto_region 5 with (fail)
  obtain ⟨F1_, F2_⟩ := set1 H3.out 6 (.slice Ab b.length cb) (cs' := #[.int .i64 7, .int .i64 0, .string ⟨#[]⟩, .string ⟨#[]⟩, .slice (some ⟨gk, 0, none⟩) 1 1, .slice Aa a.length ca, .slice Ab b.length cb]) rfl
  generalize hW_ : World.setCell _ ⟨g3, 6, none⟩ (.slice Ab b.length cb) = wq at F1_ F2_ ⊢
  clear hW_ zk fk
  replace HS := ssO HS H3 HSB G3 F2_
  replace HK := kkO HK G3 F2_
  replace H2 := Aside0.mk ((F2_.block g2 (N2_3.out)).trans H2.out)
  replace RR := Aside0.mk (F.only RR.out F2_ (Or.inr rfl))
  replace Ra := Aside0.mk (F.only Ra.out F2_ (Or.inl La.out.2))
  replace Rb := Aside0.mk (F.only Rb.out F2_ (Or.inl Lb.out.2))
  replace H3 := Aside0.mk F1_
  clear F1_ F2_
  obtain ⟨z3_0, z3_1, z3_2, z3_3, z3_4, z3_5, z3_6⟩ := cn7 H3.out
  obtain ⟨z2_0, f2_0, z2_1, f2_1, z2_2, f2_2, z2_3, f2_3, z2_4, f2_4, z2_5, f2_5, z2_6, f2_6⟩ := cf7 H2.out
  go_wp2
  refine fin62 H2.out (fun _ F1_ F2_ => ?_)
  exact ⟨⟨7, 0, ⟨#[]⟩, ⟨#[]⟩, [e], a, b⟩, _, tb, rfl, ⟨some ⟨gk, 0, none⟩, 1, Aa, ca, Ab, cb, rfl, Nat.le_refl 1, F.lower (F.any (F.only RR.out F2_ (Or.inl (Nat.lt_succ_self _)))) (Nat.le_succ_of_le G2.out), la, F.lower (F.only Ra.out F2_ (Or.inl (Nat.lt_trans LT2_3.out La.out.2))) La.out.1, lb, F.lower (F.only Rb.out F2_ (Or.inl (Nat.lt_trans LT2_3.out Lb.out.2))) Lb.out.1⟩, HS.out.only H2.out (by decide) (by decide) (Nat.le_trans HSB.out G2.out) F2_, HK.out.only G2.out F2_, Te.out.1.bind (f := fun e j => (blk j).bind fun a j => elseP E blk e a j) (Ta.out.1.bind (f := fun a j => elseP E blk e a j) (by unfold elseP; rw [if_pos HE.out]; exact Step.at HBD.out (Tb.out.1.bind (Step.pure tb _)))), Nat.le_trans Te.out.2.1 (Nat.le_trans Ta.out.2.1 (Nat.le_trans (Nat.le_succ _) Tb.out.2.1)), Tb.out.2.2⟩
 | false =>
  have HF1 := Aside0.mk hB
  have hW := took_c E ta ⟨#[101, 108, 115, 101]⟩ _ HS.out false hB
  refine hW.mono ?_
  clear hW hB
  rintro e wt ⟨rfl, q1, qk⟩
  replace q1 : ST E ta wt := q1
  replace H2 := mvK qk HS H2
  replace H3 := mvK qk HS H3
  replace RR := ffK RR qk
  replace Ra := ffK Ra qk
  replace HK := kkT HK qk
  replace HS := Aside0.mk q1
  clear q1 qk
  obtain ⟨z3_0, z3_1, z3_2, z3_3, z3_4, z3_5, z3_6⟩ := cn7 H3.out
  obtain ⟨z2_0, f2_0, z2_1, f2_1, z2_2, f2_2, z2_3, f2_3, z2_4, f2_4, z2_5, f2_5, z2_6, f2_6⟩ := cf7 H2.out
  go_wp2
  refine fin62 H2.out (fun _ F1_ F2_ => ?_)
  exact ⟨⟨7, 0, ⟨#[]⟩, ⟨#[]⟩, [e], a, []⟩, _, ta, rfl, ⟨some ⟨gk, 0, none⟩, 1, Aa, ca, none, 0, rfl, Nat.le_refl 1, F.lower (F.any (F.only RR.out F2_ (Or.inl (Nat.lt_succ_self _)))) (Nat.le_succ_of_le G2.out), la, F.lower (F.only Ra.out F2_ (Or.inl (Nat.lt_trans LT2_3.out La.out.2))) La.out.1, Nat.le_refl 0, F.nil _ _ _ _ _⟩, HS.out.only H2.out (by decide) (by decide) (Nat.le_trans HSB.out G2.out) F2_, HK.out.only G2.out F2_, Te.out.1.bind (f := fun e j => (blk j).bind fun a j => elseP E blk e a j) (Ta.out.1.bind (f := fun a j => elseP E blk e a j) (Step.cast (Step.pure ta _) (fun hbad => by unfold elseP; rw [if_neg (by rw [isB_good hbad _ HF1.out]; decide)]))), Nat.le_trans Te.out.2.1 Ta.out.2.1, Ta.out.2.2⟩
set_option maxHeartbeats 8000000 in
set_option maxRecDepth 100000 in
theorem stmt_c (E : Env) (ke : Nat) (blk : Nat → Res (List S62)) (FB : FullB E blk) : StAt E (stmtQ E ke blk) := by
 intro s w h hb hp hn
 obtain ⟨i, bad, ps⟩ := s
 simp only at hb
 subst hb
 have hps : ps.length ≤ 1000000 := by
  have h1 := hp
  have h2 := h.lt
  have h3 := h.ok.few
  unfold Pl at h1
  simp only [Bool.toNat_false] at h1 h2
  omega
 have HN := Aside0.mk (show stmtR E ke blk i ≠ .out from fun e => hn (by unfold stmtQ; simp only [Res.bind]; rw [e]))
 have HFB := Aside0.mk FB
 have HP := Aside0.mk hp
 have HPS := Aside0.mk hps
 clear hn FB hp hps
 have hu118 := Try.underlying118
 have HSB := Aside0.mk (show E.w0.heap.size ≤ w.heap.size from h.below.size)
 have HS := Aside0.mk h
 have HK := Aside0.mk (KP.refl E w)
 clear h
 go_enter Try.func84, Try.ntmps84
 go_wp2_with ((with_reducible refine gate_dst (N := 2) rfl ?_); refine bbX (N := 2) z62v 62 ?hr ?_; (case hr => first | (go_simp; done) | (go_simp; rfl)); intro g2 hg_ w2 hbox_ hq_; have G2 := Aside0.mk (show w.heap.size ≤ g2 from by rw [hg_.out]; exact HK.out.2); have H2 := Aside0.mk hbox_; replace HK := kkB HK hq_; replace HS := ssM HS hq_; clear hg_ hbox_ hq_)
 go_wp2_with (fail)
 have hW := part_c E ⟨i, false, ps⟩ _ HS.out HPS.out
 refine hW.mono ?_
 clear hW
 rintro e wa ⟨rfl, q1, qk⟩
 replace H2 := mvK qk HS H2
 replace HK := kkT HK qk
 replace HS := Aside0.mk q1
 clear q1 qk
 obtain ⟨p0, hp0⟩ : ∃ p0, (E.tk i).f3 = p0 := ⟨_, rfl⟩
 have HP0 := Aside0.mk hp0
 replace HS : Aside0 (ST E ⟨i, false, ps ++ [p0]⟩ wa) := ⟨hp0 ▸ HS.out⟩
 clear hp0
 go_wp2_with ((with_reducible refine gate_dst (N := 16) rfl ?_); refine lit_event ?hg (N := 16) ?hd (n := 3) (cs := #[.string ⟨#[115, 116, 111, 114, 101]⟩, .func (.func 95) #[.pointer (some ⟨E.g, 0, none⟩)] #[], .string ⟨#[102, 101, 110, 99, 101]⟩, .func (.func 96) #[.pointer (some ⟨E.g, 0, none⟩)] #[], .string ⟨#[105, 102]⟩, .func (.func 97) #[.pointer (some ⟨E.g, 0, none⟩)] #[]]) (t := 118) ?hr ?_; (case hd => rfl); (case hg => rfl); (case hr => first | (go_simp; done) | (go_simp; rfl)); intro gc hg_ w9 hbox_ hq_; have N2_c := Aside0.mk (ne_new H2.out hg_); have Hc := Aside0.mk hbox_; replace H2 := mvB hq_ H2; replace HK := kkB HK hq_; replace HS := ssM HS hq_; clear hg_ hbox_ hq_)
 go_loopg [18] 3 (fun kq v18 w' => ∃ n : Nat, v18 = .int .i64 (n : Int) ∧ Aside0 (n + kq = 3) ∧ Aside0 (ST E ⟨i, false, ps ++ [p0]⟩ w') ∧ Aside0 (KP E w w') ∧ Aside0 (w'.heap[g2]? = some (.cells z62v 62 (0, 0))) ∧ Aside0 (w'.heap[gc]? = some (.cells #[.string ⟨#[115, 116, 111, 114, 101]⟩, .func (.func 95) #[.pointer (some ⟨E.g, 0, none⟩)] #[], .string ⟨#[102, 101, 110, 99, 101]⟩, .func (.func 96) #[.pointer (some ⟨E.g, 0, none⟩)] #[], .string ⟨#[105, 102]⟩, .func (.func 97) #[.pointer (some ⟨E.g, 0, none⟩)] #[]] 118 (0, 0))) ∧ Aside0 ((1 ≤ n → isT E i ⟨#[115, 116, 111, 114, 101]⟩ = false) ∧ (2 ≤ n → isT E i ⟨#[102, 101, 110, 99, 101]⟩ = false) ∧ (3 ≤ n → isT E i ⟨#[105, 102]⟩ = false)))
 case atStart => exact ⟨0, rfl, ⟨rfl⟩, HS, HK, H2, Hc, ⟨by omega, by omega, by omega⟩⟩
 case round =>
  clear HS HK H2 Hc
  obtain ⟨n, rfl, HI, HS, HK, H2, Hc, HBF⟩ := hrel
  have hi0 := HI.out
  cases gk with
  | zero =>
   obtain rfl : n = 3 := by omega
   go_wp2_with (fail)
   have hW := set_c E ke ⟨i, false, ps ++ [p0]⟩ _ HS.out (fun _ e => HN.out (((show stmtR E ke blk i = setP E ke i from zQJq1)).trans e))
   have Ly := Aside0.mk (And.intro HK.out.2 (blk_lt H2.out))
   refine hW.mono ?_
   clear hW
   rintro e wy ⟨y, vy, ty, rfl, ⟨A4, c4, A5, c5, A6, c6, rfl, l4, r4, l5, r5, l6, r6⟩, q1, qk, hst, hti, hps⟩
   have Ty := Aside0.mk (And.intro hst (And.intro hti hps))
   clear hst hti hps
   replace H2 := mvK qk HS H2
   replace HK := kkT HK qk
   replace HS := Aside0.mk q1
   clear q1 qk
   have R4 := Aside0.mk r4
   have R5 := Aside0.mk r5
   have R6 := Aside0.mk r6
   clear r4 r5 r6
   obtain ⟨z2_0, f2_0, z2_1, f2_1, z2_2, f2_2, z2_3, f2_3, z2_4, f2_4, z2_5, f2_5, z2_6, f2_6⟩ := cf7 H2.out
   go_wp2
   refine fin62 H2.out (fun _ F1_ F2_ => ?_)
   exact ⟨y, _, ty, rfl, ⟨A4, c4, A5, c5, A6, c6, rfl, l4, F.lower (F.only R4.out F2_ (Or.inl Ly.out.2)) Ly.out.1, l5, F.lower (F.only R5.out F2_ (Or.inl Ly.out.2)) Ly.out.1, l6, F.lower (F.only R6.out F2_ (Or.inl Ly.out.2)) Ly.out.1⟩, HS.out.only H2.out (by decide) (by decide) (Nat.le_trans HSB.out G2.out) F2_, HK.out.only G2.out F2_, Step.part (f := stmtR E ke blk) (HP0.out ▸ (Step.cast Ty.out.1 (fun _ => (show stmtR E ke blk i = setP E ke i from zQJq1)))), Ty.out.2.1, Pl.set HP.out Ty.out.1 Ty.out.2.1 Ty.out.2.2⟩
  | succ k1 =>
   rcases (by omega : n = 0 ∨ n = 1 ∨ n = 2) with rfl | rfl | rfl
   ·skip
    obtain rfl : k1 = 2 := by omega
    clear hi0
    have y0 := blk_celln Hc.out 0 _ rfl; have y1 := blk_celln Hc.out 1 _ rfl; have y2 := blk_celln Hc.out 2 _ rfl; have y3 := blk_celln Hc.out 3 _ rfl; have y4 := blk_celln Hc.out 4 _ rfl; have y5 := blk_celln Hc.out 5 _ rfl
    go_upto_region 5 with (first | ((with_reducible refine gate_dst (N := 4) rfl ?_); refine bbX (N := 4) #[.string ⟨#[]⟩, .nilFunc] 118 ?hr ?_; (case hr => first | (go_simp; done) | (go_simp; rfl)); intro gx hg_ wx hbox_ hq_; obtain ⟨z0_, f0_, z1_, f1_⟩ := cf2 hbox_))
    obtain ⟨F1_, F2_⟩ := fill118 hbox_ (.string ⟨#[115, 116, 111, 114, 101]⟩) (.func (.func 95) #[.pointer (some ⟨E.g, 0, none⟩)] #[]) _ rfl
    replace hq_ := hq_.trans (F2_.below.mono (Nat.le_of_eq hg_.out.symm))
    have Gx := Aside0.mk (show w.heap.size ≤ gx from by rw [hg_.out]; exact HK.out.2)
    have N2_x := Aside0.mk (ne_new H2.out hg_.out); have LT2_x := Aside0.mk (lt_new H2.out hg_.out)
    have Nc_x := Aside0.mk (ne_new Hc.out hg_.out); have LTc_x := Aside0.mk (lt_new Hc.out hg_.out)
    clear hg_ hbox_ F2_ z0_ f0_ z1_ f1_
    generalize (wx.setCell ⟨gx, 0, none⟩ (.string ⟨#[115, 116, 111, 114, 101]⟩)).setCell ⟨gx, 1, none⟩ (.func (.func 95) #[.pointer (some ⟨E.g, 0, none⟩)] #[]) = vx at F1_ hq_ ⊢
    have Hx := Aside0.mk F1_
    replace H2 := mvB hq_ H2
    replace Hc := mvB hq_ Hc
    replace HK := kkB HK hq_
    replace HS := ssM HS hq_
    clear F1_ hq_
    clear y0 y1 y2 y3 y4 y5
    have zx_0 := blk_celln Hx.out 0 _ rfl
    go_wp2_with (fail)
    cases hB : isB E ⟨i, false, ps ++ [p0]⟩ ⟨#[115, 116, 111, 114, 101]⟩ with
    | false =>
     have HE := Aside0.mk (isB_good rfl _ hB)
     have hW := took_c E ⟨i, false, ps ++ [p0]⟩ ⟨#[115, 116, 111, 114, 101]⟩ _ HS.out false hB
     refine hW.mono ?_
     clear hW hB
     rintro e wb ⟨rfl, q1, qk⟩
     replace q1 : ST E ⟨i, false, ps ++ [p0]⟩ wb := q1
     replace H2 := mvK qk HS H2
     replace Hc := mvK qk HS Hc
     replace Hx := mvK qk HS Hx
     replace HK := kkT HK qk
     replace HS := Aside0.mk q1
     clear q1 qk
     clear zx_0
     go_wp2
     clear HN HFB HP HPS HI Hx Gx Nc_x N2_x LTc_x LT2_x
     go_roundg 2
     case measure => exact Nat.lt_succ_self _
     case rel => exact ⟨1, (by first | rfl | (simp; done)), ⟨rfl⟩, HS, HK, H2, Hc, ⟨fun _ => HE.out, by omega, by omega⟩⟩
    | true =>
     have HE := Aside0.mk (isB_good (s := ⟨i, false, ps ++ [p0]⟩) rfl _ hB)
     have hW := took_c E ⟨i, false, ps ++ [p0]⟩ ⟨#[115, 116, 111, 114, 101]⟩ _ HS.out true hB
     refine hW.mono ?_
     clear hW hB
     rintro e wb ⟨rfl, q1, qk⟩
     replace q1 : ST E ⟨i + 1, false, ps ++ [p0]⟩ wb := q1
     replace H2 := mvK qk HS H2
     replace Hc := mvK qk HS Hc
     replace Hx := mvK qk HS Hx
     replace HK := kkT HK qk
     replace HS := Aside0.mk q1
     clear q1 qk
     clear zx_0
     have zx_1 := blk_celln Hx.out 1 _ rfl
     go_wp2_with (fail)
     have hW := store_c E ke ⟨i + 1, false, ps ++ [p0]⟩ _ HS.out (fun _ e => HN.out (((show stmtR E ke blk i = storeP E ke (i + 1) from by unfold stmtR; rw [if_pos HE.out])).trans e))
     have Ly := Aside0.mk (And.intro HK.out.2 (blk_lt H2.out))
     refine hW.mono ?_
     clear hW
     rintro e wy ⟨y, vy, ty, rfl, ⟨A4, c4, A5, c5, A6, c6, rfl, l4, r4, l5, r5, l6, r6⟩, q1, qk, hst, hti, hps⟩
     have Ty := Aside0.mk (And.intro hst (And.intro hti hps))
     clear hst hti hps
     replace H2 := mvK qk HS H2
     replace Hc := mvK qk HS Hc
     replace Hx := mvK qk HS Hx
     replace HK := kkT HK qk
     replace HS := Aside0.mk q1
     clear q1 qk
     have R4 := Aside0.mk r4
     have R5 := Aside0.mk r5
     have R6 := Aside0.mk r6
     clear r4 r5 r6
     clear zx_1
     obtain ⟨z2_0, f2_0, z2_1, f2_1, z2_2, f2_2, z2_3, f2_3, z2_4, f2_4, z2_5, f2_5, z2_6, f2_6⟩ := cf7 H2.out
     go_wp2
     refine fin62 H2.out (fun _ F1_ F2_ => ?_)
     exact ⟨y, _, ty, rfl, ⟨A4, c4, A5, c5, A6, c6, rfl, l4, F.lower (F.only R4.out F2_ (Or.inl Ly.out.2)) Ly.out.1, l5, F.lower (F.only R5.out F2_ (Or.inl Ly.out.2)) Ly.out.1, l6, F.lower (F.only R6.out F2_ (Or.inl Ly.out.2)) Ly.out.1⟩, HS.out.only H2.out (by decide) (by decide) (Nat.le_trans HSB.out G2.out) F2_, HK.out.only G2.out F2_, Step.part (f := stmtR E ke blk) (HP0.out ▸ (Step.at (s := ⟨i, false, ps ++ [p0]⟩) (j := i + 1) rfl (Step.cast Ty.out.1 (fun _ => (show stmtR E ke blk i = storeP E ke (i + 1) from by unfold stmtR; rw [if_pos HE.out]))))), Nat.le_trans (Nat.le_succ _) Ty.out.2.1, Pl.got (Pl.part HP.out) Ty.out.1 Ty.out.2.1 Ty.out.2.2⟩
   ·skip
    obtain rfl : k1 = 1 := by omega
    clear hi0
    have y0 := blk_celln Hc.out 0 _ rfl; have y1 := blk_celln Hc.out 1 _ rfl; have y2 := blk_celln Hc.out 2 _ rfl; have y3 := blk_celln Hc.out 3 _ rfl; have y4 := blk_celln Hc.out 4 _ rfl; have y5 := blk_celln Hc.out 5 _ rfl
    go_upto_region 5 with (first | ((with_reducible refine gate_dst (N := 4) rfl ?_); refine bbX (N := 4) #[.string ⟨#[]⟩, .nilFunc] 118 ?hr ?_; (case hr => first | (go_simp; done) | (go_simp; rfl)); intro gx hg_ wx hbox_ hq_; obtain ⟨z0_, f0_, z1_, f1_⟩ := cf2 hbox_))
    obtain ⟨F1_, F2_⟩ := fill118 hbox_ (.string ⟨#[102, 101, 110, 99, 101]⟩) (.func (.func 96) #[.pointer (some ⟨E.g, 0, none⟩)] #[]) _ rfl
    replace hq_ := hq_.trans (F2_.below.mono (Nat.le_of_eq hg_.out.symm))
    have Gx := Aside0.mk (show w.heap.size ≤ gx from by rw [hg_.out]; exact HK.out.2)
    have N2_x := Aside0.mk (ne_new H2.out hg_.out); have LT2_x := Aside0.mk (lt_new H2.out hg_.out)
    have Nc_x := Aside0.mk (ne_new Hc.out hg_.out); have LTc_x := Aside0.mk (lt_new Hc.out hg_.out)
    clear hg_ hbox_ F2_ z0_ f0_ z1_ f1_
    generalize (wx.setCell ⟨gx, 0, none⟩ (.string ⟨#[102, 101, 110, 99, 101]⟩)).setCell ⟨gx, 1, none⟩ (.func (.func 96) #[.pointer (some ⟨E.g, 0, none⟩)] #[]) = vx at F1_ hq_ ⊢
    have Hx := Aside0.mk F1_
    replace H2 := mvB hq_ H2
    replace Hc := mvB hq_ Hc
    replace HK := kkB HK hq_
    replace HS := ssM HS hq_
    clear F1_ hq_
    clear y0 y1 y2 y3 y4 y5
    have zx_0 := blk_celln Hx.out 0 _ rfl
    go_wp2_with (fail)
    cases hB : isB E ⟨i, false, ps ++ [p0]⟩ ⟨#[102, 101, 110, 99, 101]⟩ with
    | false =>
     have HE := Aside0.mk (isB_good rfl _ hB)
     have hW := took_c E ⟨i, false, ps ++ [p0]⟩ ⟨#[102, 101, 110, 99, 101]⟩ _ HS.out false hB
     refine hW.mono ?_
     clear hW hB
     rintro e wb ⟨rfl, q1, qk⟩
     replace q1 : ST E ⟨i, false, ps ++ [p0]⟩ wb := q1
     replace H2 := mvK qk HS H2
     replace Hc := mvK qk HS Hc
     replace Hx := mvK qk HS Hx
     replace HK := kkT HK qk
     replace HS := Aside0.mk q1
     clear q1 qk
     clear zx_0
     go_wp2
     clear HN HFB HP HPS HI Hx Gx Nc_x N2_x LTc_x LT2_x
     go_roundg 1
     case measure => exact Nat.lt_succ_self _
     case rel => exact ⟨2, (by first | rfl | (simp; done)), ⟨rfl⟩, HS, HK, H2, Hc, ⟨fun _ => HBF.out.1 (by omega), fun _ => HE.out, by omega⟩⟩
    | true =>
     have HE := Aside0.mk (isB_good (s := ⟨i, false, ps ++ [p0]⟩) rfl _ hB)
     have hW := took_c E ⟨i, false, ps ++ [p0]⟩ ⟨#[102, 101, 110, 99, 101]⟩ _ HS.out true hB
     refine hW.mono ?_
     clear hW hB
     rintro e wb ⟨rfl, q1, qk⟩
     replace q1 : ST E ⟨i + 1, false, ps ++ [p0]⟩ wb := q1
     replace H2 := mvK qk HS H2
     replace Hc := mvK qk HS Hc
     replace Hx := mvK qk HS Hx
     replace HK := kkT HK qk
     replace HS := Aside0.mk q1
     clear q1 qk
     clear zx_0
     have zx_1 := blk_celln Hx.out 1 _ rfl
     go_wp2_with (fail)
     have hW := fence_c E ⟨i + 1, false, ps ++ [p0]⟩ _ HS.out
     have Ly := Aside0.mk (And.intro HK.out.2 (blk_lt H2.out))
     refine hW.mono ?_
     clear hW
     rintro e wy ⟨y, vy, ty, rfl, ⟨A4, c4, A5, c5, A6, c6, rfl, l4, r4, l5, r5, l6, r6⟩, q1, qk, hst, hti, hps⟩
     have Ty := Aside0.mk (And.intro hst (And.intro hti hps))
     clear hst hti hps
     replace H2 := mvK qk HS H2
     replace Hc := mvK qk HS Hc
     replace Hx := mvK qk HS Hx
     replace HK := kkT HK qk
     replace HS := Aside0.mk q1
     clear q1 qk
     have R4 := Aside0.mk r4
     have R5 := Aside0.mk r5
     have R6 := Aside0.mk r6
     clear r4 r5 r6
     clear zx_1
     obtain ⟨z2_0, f2_0, z2_1, f2_1, z2_2, f2_2, z2_3, f2_3, z2_4, f2_4, z2_5, f2_5, z2_6, f2_6⟩ := cf7 H2.out
     go_wp2
     refine fin62 H2.out (fun _ F1_ F2_ => ?_)
     exact ⟨y, _, ty, rfl, ⟨A4, c4, A5, c5, A6, c6, rfl, l4, F.lower (F.only R4.out F2_ (Or.inl Ly.out.2)) Ly.out.1, l5, F.lower (F.only R5.out F2_ (Or.inl Ly.out.2)) Ly.out.1, l6, F.lower (F.only R6.out F2_ (Or.inl Ly.out.2)) Ly.out.1⟩, HS.out.only H2.out (by decide) (by decide) (Nat.le_trans HSB.out G2.out) F2_, HK.out.only G2.out F2_, Step.part (f := stmtR E ke blk) (HP0.out ▸ (Step.at (s := ⟨i, false, ps ++ [p0]⟩) (j := i + 1) rfl (Step.cast Ty.out.1 (fun _ => (show stmtR E ke blk i = fenceP E (i + 1) from by unfold stmtR; rw [if_neg (by rw [HBF.out.1 (by omega)]; decide), if_pos HE.out]))))), Nat.le_trans (Nat.le_succ _) Ty.out.2.1, Pl.got (Pl.part HP.out) Ty.out.1 Ty.out.2.1 Ty.out.2.2⟩
   ·skip
    obtain rfl : k1 = 0 := by omega
    clear hi0
    have y0 := blk_celln Hc.out 0 _ rfl; have y1 := blk_celln Hc.out 1 _ rfl; have y2 := blk_celln Hc.out 2 _ rfl; have y3 := blk_celln Hc.out 3 _ rfl; have y4 := blk_celln Hc.out 4 _ rfl; have y5 := blk_celln Hc.out 5 _ rfl
    go_upto_region 5 with (first | ((with_reducible refine gate_dst (N := 4) rfl ?_); refine bbX (N := 4) #[.string ⟨#[]⟩, .nilFunc] 118 ?hr ?_; (case hr => first | (go_simp; done) | (go_simp; rfl)); intro gx hg_ wx hbox_ hq_; obtain ⟨z0_, f0_, z1_, f1_⟩ := cf2 hbox_))
    obtain ⟨F1_, F2_⟩ := fill118 hbox_ (.string ⟨#[105, 102]⟩) (.func (.func 97) #[.pointer (some ⟨E.g, 0, none⟩)] #[]) _ rfl
    replace hq_ := hq_.trans (F2_.below.mono (Nat.le_of_eq hg_.out.symm))
    have Gx := Aside0.mk (show w.heap.size ≤ gx from by rw [hg_.out]; exact HK.out.2)
    have N2_x := Aside0.mk (ne_new H2.out hg_.out); have LT2_x := Aside0.mk (lt_new H2.out hg_.out)
    have Nc_x := Aside0.mk (ne_new Hc.out hg_.out); have LTc_x := Aside0.mk (lt_new Hc.out hg_.out)
    clear hg_ hbox_ F2_ z0_ f0_ z1_ f1_
    generalize (wx.setCell ⟨gx, 0, none⟩ (.string ⟨#[105, 102]⟩)).setCell ⟨gx, 1, none⟩ (.func (.func 97) #[.pointer (some ⟨E.g, 0, none⟩)] #[]) = vx at F1_ hq_ ⊢
    have Hx := Aside0.mk F1_
    replace H2 := mvB hq_ H2
    replace Hc := mvB hq_ Hc
    replace HK := kkB HK hq_
    replace HS := ssM HS hq_
    clear F1_ hq_
    clear y0 y1 y2 y3 y4 y5
    have zx_0 := blk_celln Hx.out 0 _ rfl
    go_wp2_with (fail)
    cases hB : isB E ⟨i, false, ps ++ [p0]⟩ ⟨#[105, 102]⟩ with
    | false =>
     have HE := Aside0.mk (isB_good rfl _ hB)
     have hW := took_c E ⟨i, false, ps ++ [p0]⟩ ⟨#[105, 102]⟩ _ HS.out false hB
     refine hW.mono ?_
     clear hW hB
     rintro e wb ⟨rfl, q1, qk⟩
     replace q1 : ST E ⟨i, false, ps ++ [p0]⟩ wb := q1
     replace H2 := mvK qk HS H2
     replace Hc := mvK qk HS Hc
     replace Hx := mvK qk HS Hx
     replace HK := kkT HK qk
     replace HS := Aside0.mk q1
     clear q1 qk
     clear zx_0
     go_wp2
     clear HN HFB HP HPS HI Hx Gx Nc_x N2_x LTc_x LT2_x
     go_roundg 0
     case measure => exact Nat.lt_succ_self _
     case rel => exact ⟨3, (by first | rfl | (simp; done)), ⟨rfl⟩, HS, HK, H2, Hc, ⟨fun _ => HBF.out.1 (by omega), fun _ => HBF.out.2.1 (by omega), fun _ => HE.out⟩⟩
    | true =>
     have HE := Aside0.mk (isB_good (s := ⟨i, false, ps ++ [p0]⟩) rfl _ hB)
     have hW := took_c E ⟨i, false, ps ++ [p0]⟩ ⟨#[105, 102]⟩ _ HS.out true hB
     refine hW.mono ?_
     clear hW hB
     rintro e wb ⟨rfl, q1, qk⟩
     replace q1 : ST E ⟨i + 1, false, ps ++ [p0]⟩ wb := q1
     replace H2 := mvK qk HS H2
     replace Hc := mvK qk HS Hc
     replace Hx := mvK qk HS Hx
     replace HK := kkT HK qk
     replace HS := Aside0.mk q1
     clear q1 qk
     clear zx_0
     have zx_1 := blk_celln Hx.out 1 _ rfl
     go_wp2_with (fail)
     have hW := branch_c E ke blk HFB.out ⟨i + 1, false, ps ++ [p0]⟩ _ HS.out (Pl.part HP.out) (fun _ e => HN.out (((show stmtR E ke blk i = branchP E ke blk (i + 1) from by unfold stmtR; rw [if_neg (by rw [HBF.out.1 (by omega)]; decide), if_neg (by rw [HBF.out.2.1 (by omega)]; decide), if_pos HE.out])).trans e))
     have Ly := Aside0.mk (And.intro HK.out.2 (blk_lt H2.out))
     refine hW.mono ?_
     clear hW
     rintro e wy ⟨y, vy, ty, rfl, ⟨A4, c4, A5, c5, A6, c6, rfl, l4, r4, l5, r5, l6, r6⟩, q1, qk, hst, hti, hps⟩
     have Ty := Aside0.mk (And.intro hst (And.intro hti hps))
     clear hst hti hps
     replace H2 := mvK qk HS H2
     replace Hc := mvK qk HS Hc
     replace Hx := mvK qk HS Hx
     replace HK := kkT HK qk
     replace HS := Aside0.mk q1
     clear q1 qk
     have R4 := Aside0.mk r4
     have R5 := Aside0.mk r5
     have R6 := Aside0.mk r6
     clear r4 r5 r6
     clear zx_1
     obtain ⟨z2_0, f2_0, z2_1, f2_1, z2_2, f2_2, z2_3, f2_3, z2_4, f2_4, z2_5, f2_5, z2_6, f2_6⟩ := cf7 H2.out
     go_wp2
     refine fin62 H2.out (fun _ F1_ F2_ => ?_)
     exact ⟨y, _, ty, rfl, ⟨A4, c4, A5, c5, A6, c6, rfl, l4, F.lower (F.only R4.out F2_ (Or.inl Ly.out.2)) Ly.out.1, l5, F.lower (F.only R5.out F2_ (Or.inl Ly.out.2)) Ly.out.1, l6, F.lower (F.only R6.out F2_ (Or.inl Ly.out.2)) Ly.out.1⟩, HS.out.only H2.out (by decide) (by decide) (Nat.le_trans HSB.out G2.out) F2_, HK.out.only G2.out F2_, Step.part (f := stmtR E ke blk) (HP0.out ▸ (Step.at (s := ⟨i, false, ps ++ [p0]⟩) (j := i + 1) rfl (Step.cast Ty.out.1 (fun _ => (show stmtR E ke blk i = branchP E ke blk (i + 1) from by unfold stmtR; rw [if_neg (by rw [HBF.out.1 (by omega)]; decide), if_neg (by rw [HBF.out.2.1 (by omega)]; decide), if_pos HE.out]))))), Nat.le_trans (Nat.le_succ _) Ty.out.2.1, Ty.out.2.2⟩
end Go.Proofs.Ytinnldfmbeafiaa.PA
