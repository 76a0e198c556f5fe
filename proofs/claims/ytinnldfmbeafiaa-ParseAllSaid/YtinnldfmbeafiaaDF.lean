/- The document's cursor: what stands behind = ; walked by hand. -/
import Derived.Test.YtinnldfmbeafiaaDE
namespace Go.Proofs.Ytinnldfmbeafiaa.PA.D
open Go.RowKit Go.Proofs.YtinnldfmbeafiaaW.PrintWords Go.Proofs.YtinnldfmbeafiaaW.PrintLast Go.Proofs.YtinnldfmbeafiaaW.PrintMore
set_option linter.unusedVariables false
set_option linter.unusedSimpArgs false
attribute [local go_sem] cell_set_some fld53_0 fld53_1 fld53_2 fld53_3
theorem zDFq1 {p : Prop} (h : p := by unfold rightR; rw [if_neg (by rw [isB_good hbad _ HF1.out]; decide), if_neg (by rw [isB_good hbad _ HF2.out]; decide), if_neg (by rw [isB_good hbad _ HF3.out]; decide)]) : p := h
theorem bind_assoc {α β γ : Type} (r : Res α) (f : α → Nat → Res β) (g : β → Nat → Res γ) : (r.bind f).bind g = r.bind fun x j => (f x j).bind g := by
 cases r with
 | out => rfl
 | fail p => rfl
 | ok x i q =>
  simp only [Res.bind]
  cases hf : f x i with
  | out => rfl
  | fail p => rfl
  | ok y j q2 =>
   simp only
   cases hg : g y j with
   | out => rfl
   | fail p => rfl
   | ok z l q3 => simp
def loadR (E : Env) (r : ByteArray) (i : Nat) : Res S62 := (modeP E i).bind fun m j => (nameP E j).bind fun l j => .ok ⟨2, m, r, l, [], [], []⟩ j []
def addR (E : Env) (ke : Nat) (r : ByteArray) (i : Nat) : Res S62 := (modeP E i).bind fun m j => (nameP E j).bind fun l j => (exprP E ke j).bind fun e j => .ok ⟨4, m, r, l, [e], [], []⟩ j []
def casR (E : Env) (ke : Nat) (r : ByteArray) (i : Nat) : Res S62 := (modeP E i).bind fun m j => (nameP E j).bind fun l j => (exprP E ke j).bind fun e j => (mustP E ⟨#[44]⟩ j).bind fun _ j => (exprP E ke j).bind fun f j => .ok ⟨5, m, r, l, [e, f], [], []⟩ j []
def putR (E : Env) (ke : Nat) (r : ByteArray) (i : Nat) : Res S62 := (exprP E ke i).bind fun e j => .ok ⟨1, 0, r, ⟨#[]⟩, [e], [], []⟩ j []
def rightR (E : Env) (ke : Nat) (r : ByteArray) (i : Nat) : Res S62 :=
 if isT E i ⟨#[108, 111, 97, 100]⟩ = true then loadR E r (i + 1) else if isT E i ⟨#[97, 100, 100]⟩ = true then addR E ke r (i + 1) else if isT E i ⟨#[99, 97, 115]⟩ = true then casR E ke r (i + 1) else putR E ke r i
def storeR (E : Env) (ke : Nat) (i : Nat) : Res S62 := (modeP E i).bind fun m j => (nameP E j).bind fun l j => (exprP E ke j).bind fun e j => .ok ⟨3, m, ⟨#[]⟩, l, [e], [], []⟩ j []
def fenceR (E : Env) (i : Nat) : Res S62 := (modeP E i).bind fun m j => .ok ⟨6, m, ⟨#[]⟩, ⟨#[]⟩, [], [], []⟩ j []
theorem right_eq (E : Env) (ke : Nat) (r : ByteArray) (i : Nat) : rightP E ke r i = (rightR E ke r i).bind fun x j => semiP E x j := by
 unfold rightP rightR loadR addR casR putR
 split
 ·simp only [bind_assoc, bind_nil]
 ·split
  ·simp only [bind_assoc, bind_nil]
  ·split
   ·simp only [bind_assoc, bind_nil]
   ·simp only [bind_assoc, bind_nil]
def rightT.T22 : Bool × List (List Nat × List Nat) := (true, [([], []), ([], []), ([1], [1]), ([0, 2], [0, 2]), ([0, 1, 2, 3], []), ([4, 3, 2, 0, 1, 2, 3], [3, 4])])
def rightT.B22 : List Nat := [0, 0, 2, 7, 15, 31]
theorem rightT.tab22 : rtab .any (opsOf Try.f90 22) = rightT.T22 := by kernel_rfl
theorem rightT.bits22 : waitsOk rightT.T22.2 rightT.B22 = true := by kernel_rfl
set_option maxHeartbeats 8000000 in
set_option maxRecDepth 100000 in
theorem right_c (E : Env) (ke : Nat) (r : ByteArray) (s : Cs) (w : World) (h : ST E s w) (hn : Ne s (rightR E ke r s.i)) : Calls Try.prog 90 #[.pointer (some ⟨E.g, 0, none⟩), .agg #[.int .i64 0, .int .i64 0, .string r, .string ⟨#[]⟩, .slice none 0 0, .slice none 0 0, .slice none 0 0]] w (Got E s w (rightR E ke r s.i) (VS E w)) := by
 have hu65 := Try.underlying65
 have hu62 := Try.underlying62
 have hu94 := Try.underlying94
 have HN := Aside0.mk hn
 clear hn
 have HSB := Aside0.mk (show E.w0.heap.size ≤ w.heap.size from h.below.size)
 have HS := Aside0.mk h
 have HK := Aside0.mk (KP.refl E w)
 clear h
 go_enter Try.func90, Try.ntmps90
 go_wp2_with (first | ((with_reducible refine gate_dst (N := 3) rfl ?_); refine bbX (N := 3) #[.int .i64 0, .int .i64 0, .string r, .string ⟨#[]⟩, .slice none 0 0, .slice none 0 0, .slice none 0 0] 62 ?hr ?_; (case hr => first | (go_simp; done) | (go_simp; rfl)); intro g3 hg_ w3 hbox_ hq_; have G3 := Aside0.mk (show w.heap.size ≤ g3 from by rw [hg_.out]; exact HK.out.2); have H3 := Aside0.mk hbox_; replace HK := kkB HK hq_; replace HS := ssM HS hq_; clear hg_ hbox_ hq_) | ((with_reducible refine gate_dst (N := 4) rfl ?_); refine bbX (N := 4) z62v 62 ?hr ?_; (case hr => first | (go_simp; done) | (go_simp; rfl)); intro g4 hg_ w4 hbox_ hq_; have G4 := Aside0.mk (show w.heap.size ≤ g4 from by rw [hg_.out]; exact HK.out.2); have N3_4 := Aside0.mk (ne_new H3.out hg_.out); have LT3_4 := Aside0.mk (lt_new H3.out hg_.out); have H4 := Aside0.mk hbox_; replace H3 := mvB hq_ H3; replace HK := kkB HK hq_; replace HS := ssM HS hq_; clear hg_ hbox_ hq_))
 go_wp2_with (fail)
 have hW := is_d E s ⟨#[108, 111, 97, 100]⟩ _ HS.out
 refine hW.mono ?_
 clear hW
 rintro e wi ⟨rfl, qb⟩
 replace H3 := mvB qb H3
 replace H4 := mvB qb H4
 replace HK := kkB HK qb
 replace HS := ssM HS qb
 clear qb
 cases hB : isB E s ⟨#[108, 111, 97, 100]⟩ with
 | true =>
  have HO := Aside0.mk (is_ok hB)
  have HBD := Aside0.mk HO.out.1
  have HE := Aside0.mk (isB_good HBD.out _ hB)
  clear hB
  have HI_ := Aside0.mk (HS.out.inc HBD.out HO.out.2)
  have c1 := HS.out.c1; have cf1 := HS.out.fz 1
  go_upto_region 5 with (fail)
  (first | rw [HI_.out.1] | skip)
  obtain ⟨-, q1, qk⟩ := HI_.out
  generalize hW_ : World.setCell _ ⟨E.g, 1, none⟩ _ = wq at q1 qk ⊢
  clear hW_ HI_ c1 cf1
  replace H3 := mvK qk HS H3
  replace H4 := mvK qk HS H4
  replace HK := kkT HK qk
  replace HS := Aside0.mk q1
  clear q1 qk
  have zk := blk_celln H3.out 0 _ rfl; have fk := blk_frozen H3.out 0
  go_upto_region 6 with (fail)
  obtain ⟨F1_, F2_⟩ := set1 H3.out 0 (.int .i64 2) (cs' := #[.int .i64 2, .int .i64 0, .string r, .string ⟨#[]⟩, .slice none 0 0, .slice none 0 0, .slice none 0 0]) rfl
  generalize hW_ : World.setCell _ ⟨g3, 0, none⟩ (.int .i64 2) = wq at F1_ F2_ ⊢
  clear hW_ zk fk
  replace HS := ssO HS H3 HSB G3 F2_
  replace HK := kkO HK G3 F2_
  replace H4 := Aside0.mk ((F2_.block g4 (N3_4.out.symm)).trans H4.out)
  replace H3 := Aside0.mk F1_
  clear F1_ F2_
  go_wp2_with (fail)
  have hW := mode_c E ⟨s.i + 1, false, s.ps⟩ _ HS.out
  refine hW.mono ?_
  clear hW
  rintro e wm ⟨m, vm, tm, rfl, rfl, q1, qk, hst, hti, hps⟩
  have Tm := Aside0.mk (And.intro hst (And.intro hti hps))
  clear hst hti hps
  replace H3 := mvK qk HS H3
  replace H4 := mvK qk HS H4
  replace HK := kkT HK qk
  replace HS := Aside0.mk q1
  clear q1 qk
  have zk := blk_celln H3.out 1 _ rfl; have fk := blk_frozen H3.out 1
  go_upto_region 7 with (fail)
  obtain ⟨F1_, F2_⟩ := set1 H3.out 1 (.int .i64 m) (cs' := #[.int .i64 2, .int .i64 m, .string r, .string ⟨#[]⟩, .slice none 0 0, .slice none 0 0, .slice none 0 0]) rfl
  generalize hW_ : World.setCell _ ⟨g3, 1, none⟩ (.int .i64 m) = wq at F1_ F2_ ⊢
  clear hW_ zk fk
  replace HS := ssO HS H3 HSB G3 F2_
  replace HK := kkO HK G3 F2_
  replace H4 := Aside0.mk ((F2_.block g4 (N3_4.out.symm)).trans H4.out)
  replace H3 := Aside0.mk F1_
  clear F1_ F2_
  go_wp2_with (fail)
  have hW := name_c E tm _ HS.out
  refine hW.mono ?_
  clear hW
  rintro e wl ⟨l, vl, tl, rfl, rfl, q1, qk, hst, hti, hps⟩
  have Tl := Aside0.mk (And.intro hst (And.intro hti hps))
  clear hst hti hps
  replace H3 := mvK qk HS H3
  replace H4 := mvK qk HS H4
  replace HK := kkT HK qk
  replace HS := Aside0.mk q1
  clear q1 qk
  have zk := blk_celln H3.out 3 _ rfl; have fk := blk_frozen H3.out 3
  go_upto_region 23 with (fail)
  obtain ⟨F1_, F2_⟩ := set1 H3.out 3 (.string l) (cs' := #[.int .i64 2, .int .i64 m, .string r, .string l, .slice none 0 0, .slice none 0 0, .slice none 0 0]) rfl
  generalize hW_ : World.setCell _ ⟨g3, 3, none⟩ (.string l) = wq at F1_ F2_ ⊢
  clear hW_ zk fk
  replace HS := ssO HS H3 HSB G3 F2_
  replace HK := kkO HK G3 F2_
  replace H4 := Aside0.mk ((F2_.block g4 (N3_4.out.symm)).trans H4.out)
  replace H3 := Aside0.mk F1_
  clear F1_ F2_
  obtain ⟨z3_0, z3_1, z3_2, z3_3, z3_4, z3_5, z3_6⟩ := cn7 H3.out
  obtain ⟨z4_0, f4_0, z4_1, f4_1, z4_2, f4_2, z4_3, f4_3, z4_4, f4_4, z4_5, f4_5, z4_6, f4_6⟩ := cf7 H4.out
  go_wp2
  refine fin62 H4.out (fun _ F1_ F2_ => ?_)
  exact ⟨⟨2, m, r, l, [], [], []⟩, _, tl, rfl, ⟨none, 0, none, 0, none, 0, rfl, Nat.le_refl 0, F.nil _ _ _ _ _, Nat.le_refl 0, F.nil _ _ _ _ _, Nat.le_refl 0, F.nil _ _ _ _ _⟩, HS.out.only H4.out (by decide) (by decide) (Nat.le_trans HSB.out G4.out) F2_, HK.out.only G4.out F2_, Step.at HBD.out (Step.cast (Tm.out.1.bind (f := fun m j => (nameP E j).bind fun l j => .ok ⟨2, m, r, l, [], [], []⟩ j []) (Tl.out.1.bind (Step.pure tl _))) (fun _ => by unfold rightR; rw [if_pos HE.out]; rfl)), Nat.le_trans (Nat.le_succ _) (Nat.le_trans Tm.out.2.1 Tl.out.2.1), Tl.out.2.2.trans Tm.out.2.2⟩
 | false =>
  have HF1 := Aside0.mk hB
  clear hB
  go_wp2_with (fail)
  have hW := is_d E s ⟨#[97, 100, 100]⟩ _ HS.out
  refine hW.mono ?_
  clear hW
  rintro e wi ⟨rfl, qb⟩
  replace H3 := mvB qb H3
  replace H4 := mvB qb H4
  replace HK := kkB HK qb
  replace HS := ssM HS qb
  clear qb
  cases hB : isB E s ⟨#[97, 100, 100]⟩ with
  | true =>
   have HO := Aside0.mk (is_ok hB)
   have HBD := Aside0.mk HO.out.1
   have HE := Aside0.mk (isB_good HBD.out _ hB)
   clear hB
   have HI_ := Aside0.mk (HS.out.inc HBD.out HO.out.2)
   have c1 := HS.out.c1; have cf1 := HS.out.fz 1
   go_upto_region 10 with (fail)
   (first | rw [HI_.out.1] | skip)
   obtain ⟨-, q1, qk⟩ := HI_.out
   generalize hW_ : World.setCell _ ⟨E.g, 1, none⟩ _ = wq at q1 qk ⊢
   clear hW_ HI_ c1 cf1
   replace H3 := mvK qk HS H3
   replace H4 := mvK qk HS H4
   replace HK := kkT HK qk
   replace HS := Aside0.mk q1
   clear q1 qk
   have zk := blk_celln H3.out 0 _ rfl; have fk := blk_frozen H3.out 0
   go_upto_region 11 with (fail)
   obtain ⟨F1_, F2_⟩ := set1 H3.out 0 (.int .i64 4) (cs' := #[.int .i64 4, .int .i64 0, .string r, .string ⟨#[]⟩, .slice none 0 0, .slice none 0 0, .slice none 0 0]) rfl
   generalize hW_ : World.setCell _ ⟨g3, 0, none⟩ (.int .i64 4) = wq at F1_ F2_ ⊢
   clear hW_ zk fk
   replace HS := ssO HS H3 HSB G3 F2_
   replace HK := kkO HK G3 F2_
   replace H4 := Aside0.mk ((F2_.block g4 (N3_4.out.symm)).trans H4.out)
   replace H3 := Aside0.mk F1_
   clear F1_ F2_
   go_wp2_with (fail)
   have hW := mode_c E ⟨s.i + 1, false, s.ps⟩ _ HS.out
   refine hW.mono ?_
   clear hW
   rintro e wm ⟨m, vm, tm, rfl, rfl, q1, qk, hst, hti, hps⟩
   have Tm := Aside0.mk (And.intro hst (And.intro hti hps))
   clear hst hti hps
   replace H3 := mvK qk HS H3
   replace H4 := mvK qk HS H4
   replace HK := kkT HK qk
   replace HS := Aside0.mk q1
   clear q1 qk
   have zk := blk_celln H3.out 1 _ rfl; have fk := blk_frozen H3.out 1
   go_upto_region 12 with (fail)
   obtain ⟨F1_, F2_⟩ := set1 H3.out 1 (.int .i64 m) (cs' := #[.int .i64 4, .int .i64 m, .string r, .string ⟨#[]⟩, .slice none 0 0, .slice none 0 0, .slice none 0 0]) rfl
   generalize hW_ : World.setCell _ ⟨g3, 1, none⟩ (.int .i64 m) = wq at F1_ F2_ ⊢
   clear hW_ zk fk
   replace HS := ssO HS H3 HSB G3 F2_
   replace HK := kkO HK G3 F2_
   replace H4 := Aside0.mk ((F2_.block g4 (N3_4.out.symm)).trans H4.out)
   replace H3 := Aside0.mk F1_
   clear F1_ F2_
   go_wp2_with (fail)
   have hW := name_c E tm _ HS.out
   refine hW.mono ?_
   clear hW
   rintro e wl ⟨l, vl, tl, rfl, rfl, q1, qk, hst, hti, hps⟩
   have Tl := Aside0.mk (And.intro hst (And.intro hti hps))
   clear hst hti hps
   replace H3 := mvK qk HS H3
   replace H4 := mvK qk HS H4
   replace HK := kkT HK qk
   replace HS := Aside0.mk q1
   clear q1 qk
   have zk := blk_celln H3.out 3 _ rfl; have fk := blk_frozen H3.out 3
   go_upto_region 13 with (fail)
   obtain ⟨F1_, F2_⟩ := set1 H3.out 3 (.string l) (cs' := #[.int .i64 4, .int .i64 m, .string r, .string l, .slice none 0 0, .slice none 0 0, .slice none 0 0]) rfl
   generalize hW_ : World.setCell _ ⟨g3, 3, none⟩ (.string l) = wq at F1_ F2_ ⊢
   clear hW_ zk fk
   replace HS := ssO HS H3 HSB G3 F2_
   replace HK := kkO HK G3 F2_
   replace H4 := Aside0.mk ((F2_.block g4 (N3_4.out.symm)).trans H4.out)
   replace H3 := Aside0.mk F1_
   clear F1_ F2_
   have HQ := Aside0.mk (show rightR E ke r s.i = addR E ke r (s.i + 1) from by unfold rightR; rw [if_neg (by rw [isB_good HBD.out _ HF1.out]; decide), if_pos HE.out])
   have HNx := Aside0.mk (show Ne (⟨s.i + 1, false, s.ps⟩ : Cs) ((modeP E (s.i + 1)).bind (fun m j => (nameP E j).bind fun l j => (exprP E ke j).bind fun e j => .ok (⟨4, m, r, l, [e], [], []⟩ : S62) j [])) from fun _ e => HN.out HBD.out (HQ.out.trans e))
   have HN1 := Aside0.mk (Ne.next (s := ⟨s.i + 1, false, s.ps⟩) (f := fun m j => (nameP E j).bind fun l j => (exprP E ke j).bind fun e j => .ok (⟨4, m, r, l, [e], [], []⟩ : S62) j []) HNx.out Tm.out.1)
   go_wp2_with (fail)
   have hW := expr_c E ke tl _ HS.out (Ne.first (Ne.next (f := fun l j => (exprP E ke j).bind fun e j => .ok (⟨4, m, r, l, [e], [], []⟩ : S62) j []) HN1.out Tl.out.1))
   have Le := Aside0.mk (And.intro HK.out.2 (blk_lt H4.out))
   refine hW.mono ?_
   clear hW
   rintro e we ⟨e, ve, te, rfl, ⟨Ae, ce, rfl, le, re⟩, q1, qk, hst, hti, hps⟩
   have Te := Aside0.mk (And.intro hst (And.intro hti hps))
   clear hst hti hps
   replace H3 := mvK qk HS H3
   replace H4 := mvK qk HS H4
   replace HK := kkT HK qk
   replace HS := Aside0.mk q1
   clear q1 qk
   have Re := Aside0.mk re
   clear re
   replace Re := Aside0.mk (F.lower Re.out (show g4 + 1 ≤ _ from Le.out.2))
   go_upto_region 23 with ((with_reducible refine gate_dst (N := 47) rfl ?_); refine lit_event ?hg (N := 47) ?hd (n := 1) (cs := ⟨[.int .i64 e.f0, .int .i64 e.f1, .string e.f2, .slice Ae e.f3.length ce]⟩) (t := 94) ?hr ?_; (case hd => rfl); (case hg => rfl); (case hr => first | (go_simp; done) | (go_simp; rfl)); intro gk hg_ w9 hbox_ hq_; have hgk := Aside0.mk (show g4 < gk from by rw [hg_]; exact blk_lt H4.out); replace H3 := mvB hq_ H3; replace H4 := mvB hq_ H4; replace HK := kkB HK hq_; replace HS := ssM HS hq_; replace Re := ffB Re hq_; have RR := Aside0.mk (F.one hbox_ (GD.at hbox_ HS.out hgk.out (HS.out.ne hbox_ (by decide)) (by decide) (by decide)) (FK94 le Re.out)); have zk := blk_celln H3.out 4 _ rfl; have fk := blk_frozen H3.out 4; clear hg_ hbox_ hq_)
   clear Re
   skip
   obtain ⟨F1_, F2_⟩ := set1 H3.out 4 (.slice (some ⟨gk, 0, none⟩) 1 1) (cs' := #[.int .i64 4, .int .i64 m, .string r, .string l, .slice (some ⟨gk, 0, none⟩) 1 1, .slice none 0 0, .slice none 0 0]) rfl
   generalize hW_ : World.setCell _ ⟨g3, 4, none⟩ (.slice (some ⟨gk, 0, none⟩) 1 1) = wq at F1_ F2_ ⊢
   clear hW_ zk fk
   replace HS := ssO HS H3 HSB G3 F2_
   replace HK := kkO HK G3 F2_
   replace H4 := Aside0.mk ((F2_.block g4 (N3_4.out.symm)).trans H4.out)
   replace RR := Aside0.mk (F.only RR.out F2_ (Or.inl (Nat.lt_succ_of_lt LT3_4.out)))
   replace H3 := Aside0.mk F1_
   clear F1_ F2_
   obtain ⟨z3_0, z3_1, z3_2, z3_3, z3_4, z3_5, z3_6⟩ := cn7 H3.out
   obtain ⟨z4_0, f4_0, z4_1, f4_1, z4_2, f4_2, z4_3, f4_3, z4_4, f4_4, z4_5, f4_5, z4_6, f4_6⟩ := cf7 H4.out
   go_wp2
   refine fin62 H4.out (fun _ F1_ F2_ => ?_)
   exact ⟨⟨4, m, r, l, [e], [], []⟩, _, te, rfl, ⟨some ⟨gk, 0, none⟩, 1, none, 0, none, 0, rfl, Nat.le_refl 1, F.lower (F.only RR.out F2_ (Or.inl (Nat.lt_succ_self _))) (Nat.le_succ_of_le G4.out), Nat.le_refl 0, F.nil _ _ _ _ _, Nat.le_refl 0, F.nil _ _ _ _ _⟩, HS.out.only H4.out (by decide) (by decide) (Nat.le_trans HSB.out G4.out) F2_, HK.out.only G4.out F2_, (by rw [HQ.out]; exact Step.at HBD.out (Tm.out.1.bind (f := fun m j => (nameP E j).bind fun l j => (exprP E ke j).bind fun e j => .ok (⟨4, m, r, l, [e], [], []⟩ : S62) j []) (Tl.out.1.bind (f := fun l j => (exprP E ke j).bind fun e j => .ok (⟨4, m, r, l, [e], [], []⟩ : S62) j []) (Te.out.1.bind (Step.pure te _))))), Nat.le_trans (Nat.le_succ _) (Nat.le_trans Tm.out.2.1 (Nat.le_trans Tl.out.2.1 Te.out.2.1)), Te.out.2.2.trans (Tl.out.2.2.trans Tm.out.2.2)⟩
  | false =>
   have HF2 := Aside0.mk hB
   clear hB
   go_wp2_with (fail)
   have hW := is_d E s ⟨#[99, 97, 115]⟩ _ HS.out
   refine hW.mono ?_
   clear hW
   rintro e wi ⟨rfl, qb⟩
   replace H3 := mvB qb H3
   replace H4 := mvB qb H4
   replace HK := kkB HK qb
   replace HS := ssM HS qb
   clear qb
   cases hB : isB E s ⟨#[99, 97, 115]⟩ with
   | true =>
    have HO := Aside0.mk (is_ok hB)
    have HBD := Aside0.mk HO.out.1
    have HE := Aside0.mk (isB_good HBD.out _ hB)
    clear hB
    have HI_ := Aside0.mk (HS.out.inc HBD.out HO.out.2)
    have c1 := HS.out.c1; have cf1 := HS.out.fz 1
    go_upto_region 16 with (fail)
    (first | rw [HI_.out.1] | skip)
    obtain ⟨-, q1, qk⟩ := HI_.out
    generalize hW_ : World.setCell _ ⟨E.g, 1, none⟩ _ = wq at q1 qk ⊢
    clear hW_ HI_ c1 cf1
    replace H3 := mvK qk HS H3
    replace H4 := mvK qk HS H4
    replace HK := kkT HK qk
    replace HS := Aside0.mk q1
    clear q1 qk
    have zk := blk_celln H3.out 0 _ rfl; have fk := blk_frozen H3.out 0
    go_upto_region 17 with (fail)
    obtain ⟨F1_, F2_⟩ := set1 H3.out 0 (.int .i64 5) (cs' := #[.int .i64 5, .int .i64 0, .string r, .string ⟨#[]⟩, .slice none 0 0, .slice none 0 0, .slice none 0 0]) rfl
    generalize hW_ : World.setCell _ ⟨g3, 0, none⟩ (.int .i64 5) = wq at F1_ F2_ ⊢
    clear hW_ zk fk
    replace HS := ssO HS H3 HSB G3 F2_
    replace HK := kkO HK G3 F2_
    replace H4 := Aside0.mk ((F2_.block g4 (N3_4.out.symm)).trans H4.out)
    replace H3 := Aside0.mk F1_
    clear F1_ F2_
    go_wp2_with (fail)
    have hW := mode_c E ⟨s.i + 1, false, s.ps⟩ _ HS.out
    refine hW.mono ?_
    clear hW
    rintro e wm ⟨m, vm, tm, rfl, rfl, q1, qk, hst, hti, hps⟩
    have Tm := Aside0.mk (And.intro hst (And.intro hti hps))
    clear hst hti hps
    replace H3 := mvK qk HS H3
    replace H4 := mvK qk HS H4
    replace HK := kkT HK qk
    replace HS := Aside0.mk q1
    clear q1 qk
    have zk := blk_celln H3.out 1 _ rfl; have fk := blk_frozen H3.out 1
    go_upto_region 18 with (fail)
    obtain ⟨F1_, F2_⟩ := set1 H3.out 1 (.int .i64 m) (cs' := #[.int .i64 5, .int .i64 m, .string r, .string ⟨#[]⟩, .slice none 0 0, .slice none 0 0, .slice none 0 0]) rfl
    generalize hW_ : World.setCell _ ⟨g3, 1, none⟩ (.int .i64 m) = wq at F1_ F2_ ⊢
    clear hW_ zk fk
    replace HS := ssO HS H3 HSB G3 F2_
    replace HK := kkO HK G3 F2_
    replace H4 := Aside0.mk ((F2_.block g4 (N3_4.out.symm)).trans H4.out)
    replace H3 := Aside0.mk F1_
    clear F1_ F2_
    go_wp2_with (fail)
    have hW := name_c E tm _ HS.out
    refine hW.mono ?_
    clear hW
    rintro e wl ⟨l, vl, tl, rfl, rfl, q1, qk, hst, hti, hps⟩
    have Tl := Aside0.mk (And.intro hst (And.intro hti hps))
    clear hst hti hps
    replace H3 := mvK qk HS H3
    replace H4 := mvK qk HS H4
    replace HK := kkT HK qk
    replace HS := Aside0.mk q1
    clear q1 qk
    have zk := blk_celln H3.out 3 _ rfl; have fk := blk_frozen H3.out 3
    go_upto_region 19 with (fail)
    obtain ⟨F1_, F2_⟩ := set1 H3.out 3 (.string l) (cs' := #[.int .i64 5, .int .i64 m, .string r, .string l, .slice none 0 0, .slice none 0 0, .slice none 0 0]) rfl
    generalize hW_ : World.setCell _ ⟨g3, 3, none⟩ (.string l) = wq at F1_ F2_ ⊢
    clear hW_ zk fk
    replace HS := ssO HS H3 HSB G3 F2_
    replace HK := kkO HK G3 F2_
    replace H4 := Aside0.mk ((F2_.block g4 (N3_4.out.symm)).trans H4.out)
    replace H3 := Aside0.mk F1_
    clear F1_ F2_
    have HQ := Aside0.mk (show rightR E ke r s.i = casR E ke r (s.i + 1) from by unfold rightR; rw [if_neg (by rw [isB_good HBD.out _ HF1.out]; decide), if_neg (by rw [isB_good HBD.out _ HF2.out]; decide), if_pos HE.out])
    have HNx := Aside0.mk (show Ne (⟨s.i + 1, false, s.ps⟩ : Cs) ((modeP E (s.i + 1)).bind (fun m j => (nameP E j).bind fun l j => (exprP E ke j).bind fun e j => (mustP E ⟨#[44]⟩ j).bind fun _ j => (exprP E ke j).bind fun f j => .ok (⟨5, m, r, l, [e, f], [], []⟩ : S62) j [])) from fun _ e => HN.out HBD.out (HQ.out.trans e))
    have HN1 := Aside0.mk (Ne.next (s := ⟨s.i + 1, false, s.ps⟩) (f := fun m j => (nameP E j).bind fun l j => (exprP E ke j).bind fun e j => (mustP E ⟨#[44]⟩ j).bind fun _ j => (exprP E ke j).bind fun f j => .ok (⟨5, m, r, l, [e, f], [], []⟩ : S62) j []) HNx.out Tm.out.1)
    have HN2 := Aside0.mk (Ne.next (f := fun l j => (exprP E ke j).bind fun e j => (mustP E ⟨#[44]⟩ j).bind fun _ j => (exprP E ke j).bind fun f j => .ok (⟨5, m, r, l, [e, f], [], []⟩ : S62) j []) HN1.out Tl.out.1)
    clear HNx HN1
    go_wp2_with (fail)
    have hW := expr_c E ke tl _ HS.out (Ne.first HN2.out)
    have Le := Aside0.mk (And.intro HK.out.2 (blk_lt H4.out))
    refine hW.mono ?_
    clear hW
    rintro e we ⟨e, ve, te, rfl, ⟨Ae, ce, rfl, le, re⟩, q1, qk, hst, hti, hps⟩
    have Te := Aside0.mk (And.intro hst (And.intro hti hps))
    clear hst hti hps
    replace H3 := mvK qk HS H3
    replace H4 := mvK qk HS H4
    replace HK := kkT HK qk
    replace HS := Aside0.mk q1
    clear q1 qk
    have Re := Aside0.mk re
    clear re
    replace Re := Aside0.mk (F.lower Re.out (show g4 + 1 ≤ _ from Le.out.2))
    go_upto_region 20 with (first | ((with_reducible refine gate_dst (N := 5) rfl ?_); refine bbX (N := 5) z94v 94 ?hr ?_; (case hr => first | (go_simp; done) | (go_simp; rfl)); intro g5 hg_ w5 hbox_ hq_; obtain ⟨z0_, f0_, z1_, f1_, z2_, f2_, z3_, f3_⟩ := cf4 hbox_))
    obtain ⟨F1_, F2_⟩ := fill94 hbox_ (.int .i64 e.f0) (.int .i64 e.f1) (.string e.f2) (.slice Ae e.f3.length ce) _ rfl
    replace hq_ := hq_.trans (F2_.below.mono (Nat.le_of_eq hg_.out.symm))
    have G5 := Aside0.mk (show w.heap.size ≤ g5 from by rw [hg_.out]; exact HK.out.2)
    have N3_5 := Aside0.mk (ne_new H3.out hg_.out); have LT3_5 := Aside0.mk (lt_new H3.out hg_.out)
    have N4_5 := Aside0.mk (ne_new H4.out hg_.out); have LT4_5 := Aside0.mk (lt_new H4.out hg_.out)
    clear hg_ hbox_ F2_ z0_ f0_ z1_ f1_ z2_ f2_ z3_ f3_
    generalize (((w5.setCell ⟨g5, 0, none⟩ (.int .i64 e.f0)).setCell ⟨g5, 1, none⟩ (.int .i64 e.f1)).setCell ⟨g5, 2, none⟩ (.string e.f2)).setCell ⟨g5, 3, none⟩ (.slice Ae e.f3.length ce) = v5 at F1_ hq_ ⊢
    have H5 := Aside0.mk F1_
    replace H3 := mvB hq_ H3
    replace H4 := mvB hq_ H4
    replace Re := ffB Re hq_
    replace HK := kkB HK hq_
    replace HS := ssM HS hq_
    clear F1_ hq_
    go_wp2_with (fail)
    have hW := must_c E te ⟨#[44]⟩ _ HS.out
    refine hW.mono ?_
    clear hW
    rintro e wq ⟨_, vq, tq, rfl, rfl, q1, qk, hst, hti, hps⟩
    have Tq := Aside0.mk (And.intro hst (And.intro hti hps))
    clear hst hti hps
    replace H3 := mvK qk HS H3
    replace H4 := mvK qk HS H4
    replace H5 := mvK qk HS H5
    replace Re := ffK Re qk
    replace HK := kkT HK qk
    replace HS := Aside0.mk q1
    clear q1 qk
    have HN3 := Aside0.mk (Ne.next (f := fun _ j => (exprP E ke j).bind fun f j => .ok (⟨5, m, r, l, [e, f], [], []⟩ : S62) j []) (Ne.next (f := fun e j => (mustP E ⟨#[44]⟩ j).bind fun _ j => (exprP E ke j).bind fun f j => .ok (⟨5, m, r, l, [e, f], [], []⟩ : S62) j []) HN2.out Te.out.1) Tq.out.1)
    clear HN2
    have c2 := HS.out.c2
    cases hbd : tq.bad with
    | true =>
     have b0 := bdI_bad HS.out.ok2 hbd
     have b1 := eq_true b0; have b2 := decide_eq_true b0; have b3 : (bdI E tq < 0) = False := eq_false (by omega); have b4 : decide (bdI E tq < 0) = false := decide_eq_false (by omega)
     clear b0
     have HBS := HBD; replace HBD := Aside0.mk hbd
     clear hbd
     obtain ⟨z3_0, z3_1, z3_2, z3_3, z3_4, z3_5, z3_6⟩ := cn7 H3.out
     obtain ⟨z4_0, f4_0, z4_1, f4_1, z4_2, f4_2, z4_3, f4_3, z4_4, f4_4, z4_5, f4_5, z4_6, f4_6⟩ := cf7 H4.out
     go_wp2
     refine fin62 H4.out (fun _ F1_ F2_ => ?_)
     exact ⟨⟨5, m, r, l, [], [], []⟩, _, tq, rfl, ⟨none, 0, none, 0, none, 0, rfl, Nat.le_refl 0, F.nil _ _ _ _ _, Nat.le_refl 0, F.nil _ _ _ _ _, Nat.le_refl 0, F.nil _ _ _ _ _⟩, HS.out.only H4.out (by decide) (by decide) (Nat.le_trans HSB.out G4.out) F2_, HK.out.only G4.out F2_, (by rw [HQ.out]; exact Step.at HBS.out (Tm.out.1.bind (f := fun m j => (nameP E j).bind fun l j => (exprP E ke j).bind fun e j => (mustP E ⟨#[44]⟩ j).bind fun _ j => (exprP E ke j).bind fun f j => .ok (⟨5, m, r, l, [e, f], [], []⟩ : S62) j []) (Tl.out.1.bind (f := fun l j => (exprP E ke j).bind fun e j => (mustP E ⟨#[44]⟩ j).bind fun _ j => (exprP E ke j).bind fun f j => .ok (⟨5, m, r, l, [e, f], [], []⟩ : S62) j []) (Te.out.1.bind (f := fun e j => (mustP E ⟨#[44]⟩ j).bind fun _ j => (exprP E ke j).bind fun f j => .ok (⟨5, m, r, l, [e, f], [], []⟩ : S62) j []) (stop Tq.out.1 HBD.out _))))), Nat.le_trans (Nat.le_succ _) (Nat.le_trans Tm.out.2.1 (Nat.le_trans Tl.out.2.1 (Nat.le_trans Te.out.2.1 Tq.out.2.1))), Tq.out.2.2.trans (Te.out.2.2.trans (Tl.out.2.2.trans Tm.out.2.2))⟩
    | false =>
     rw [bdI_good hbd] at c2
     have HBS := HBD; replace HBD := Aside0.mk hbd
     clear hbd
     go_upto_region 22 with (fail)
     replace H3 := mvB (below_drew (Below.refl wq.heap.size wq)) H3
     replace H4 := mvB (below_drew (Below.refl wq.heap.size wq)) H4
     replace H5 := mvB (below_drew (Below.refl wq.heap.size wq)) H5
     replace Re := ffB Re (below_drew (Below.refl wq.heap.size wq))
     replace HK := kkB HK (below_drew (Below.refl wq.heap.size wq))
     replace HS := ssM HS (below_drew (Below.refl wq.heap.size wq))
     clear c2
     refine start_ (n := 6) (S := fun w' => w'.cell? ⟨g5, 0, none⟩ = some (.int .i64 e.f0) ∧ w'.cell? ⟨g5, 1, none⟩ = some (.int .i64 e.f1) ∧ w'.cell? ⟨g5, 2, none⟩ = some (.string e.f2) ∧ w'.cell? ⟨g5, 3, none⟩ = some (.slice Ae e.f3.length ce)) (ds := [5]) #[Z,Z,Z,Z,Z,Z] (by kernel_rfl) rfl rfl ⟨(blk_celln H5.out 0 _ rfl), (blk_celln H5.out 1 _ rfl), (blk_celln H5.out 2 _ rfl), (blk_celln H5.out 3 _ rfl)⟩ (fun hHeld => ?_)
     refine with_tabW rightT.tab22 rightT.bits22 (fun HT_ HW_ => ?_)
     generalize World.drew _ = wd at HS HK H3 H4 H5 Re hHeld ⊢
     refine take_ (i := 0) (N := some 75) (v := ?_) (a' := ?_) #[Y,Z,Z,Z,Z,Z] rfl rfl (take_ofW HT_.out HW_.out (by kernel_rfl)) (fun _ _ _ h => h) (Or.inl ⟨by rfl, ?_⟩) hHeld ?_ ?_
     rotate_left
     ·rintro w' ⟨s0, s1, s2, s3⟩
      go_simp
      with_reducible rfl
     rotate_left
     ·simp only [Act.put, pA, pB, pC, i64_w, i32_w]
      rfl
     refine ppU (i := 1) (N := some 76) #[Y,Y,Z,Z,Z,Z] HT_ ?_
     refine one_ (i := 2) (N := some 77) #[Y,Y,Y,Z,Z,Z] rfl rfl (one_of HT_.out (by kernel_rfl)) (by decide) (fun K hK => ?_)
     refine goes_ Try.func89 (by kernel_rfl) rfl #[.pointer (some ⟨E.g, 0, none⟩)] (by rfl) rfl rfl (by (try simp only [List.map_toArray, List.map_cons, List.map_nil]); first | done | rfl) ?_
     have hW := expr_c E ke tq _ HS.out (Ne.first HN3.out)
     have Lf := Aside0.mk (And.intro HK.out.2 (blk_lt H4.out))
     refine hW.mono ?_
     clear hW
     rintro e wf ⟨f, vf, tf, rfl, ⟨Af, cf, rfl, lf, rf⟩, q1, qk, hst, hti, hps⟩
     have Tf := Aside0.mk (And.intro hst (And.intro hti hps))
     clear hst hti hps
     have Rf := Aside0.mk (F.lower rf (show g4 + 1 ≤ _ from Lf.out.2))
     clear rf
     refine ⟨_, rfl, ?_⟩
     replace H3 := mvK qk HS H3
     replace H4 := mvK qk HS H4
     replace H5 := mvK qk HS H5
     replace Re := ffK Re qk
     replace HK := kkT HK qk
     replace HS := Aside0.mk q1
     clear q1 qk
     refine hK.out _ _ ⟨(blk_celln H5.out 0 _ rfl), (blk_celln H5.out 1 _ rfl), (blk_celln H5.out 2 _ rfl), (blk_celln H5.out 3 _ rfl)⟩ (fun hHeld => ?_)
     clear hK K
     refine norm_ (a' := ?_) ?_ ?_
     rotate_left
     ·show Act.put _ (some 77) _ = _
      simp only [Act.put, pA, pB, pC, i64_w, i32_w]
      rfl
     refine one_ (i := 3) (N := some 78) #[Y,Y,Y,Y,Z,Z] rfl rfl (one_of HT_.out (by kernel_rfl)) (by decide) (fun K hK => ?_)
     refine lit_step ?hg (N := 78) ?hd (n := 2) (cs := ⟨[.int .i64 e.f0, .int .i64 e.f1, .string e.f2, .slice Ae e.f3.length ce] ++ [.int .i64 f.f0, .int .i64 f.f1, .string f.f2, .slice Af f.f3.length cf]⟩) (t := 94) ?hr ?_; (case hd => rfl); (case hg => rfl); (case hr => first | (go_simp; done) | (go_simp; rfl))
     intro gk2 hg_ w9 hbox_ hq_
     have hgk := Aside0.mk (show g4 < gk2 from by rw [hg_]; exact blk_lt H4.out)
     replace H3 := mvB hq_ H3
     replace H4 := mvB hq_ H4
     replace H5 := mvB hq_ H5
     replace Re := ffB Re hq_
     replace Rf := ffB Rf hq_
     replace HK := kkB HK hq_
     replace HS := ssM HS hq_
     have RR := Aside0.mk (F.two hbox_ (GD.at hbox_ HS.out hgk.out (HS.out.ne hbox_ (by decide)) (by decide) (by decide)) (FK94 le Re.out) (FK94 lf Rf.out))
     clear hg_ hbox_ hq_
     refine hK.out _ _ ⟨(blk_celln H5.out 0 _ rfl), (blk_celln H5.out 1 _ rfl), (blk_celln H5.out 2 _ rfl), (blk_celln H5.out 3 _ rfl)⟩ (fun hHeld => ?_)
     clear hK K
     refine norm_ (a' := ?_) ?_ ?_
     rotate_left
     ·show Act.put _ (some 78) _ = _
      simp only [Act.put, pA, pB, pC, i64_w, i32_w]
      rfl
     refine ppU (i := 4) (N := some 79) #[Y,Y,Y,Y,Y,Z] HT_ ?_
     refine last_ (i := 5) (N := none) #[Y,Y,Y,Y,Y,Y] rfl rfl (one_of HT_.out (by kernel_rfl)) (by decide) (fun K hK => ?_)
     have se4 := blk_celln H3.out 4 _ rfl; have sf4 := blk_frozen H3.out 4
     refine skip_ (w1 := ?_) (by rfl) rfl ?_ ?_
     rotate_left
     ·go_simp
      rfl
     refine hK.out _ _ ?_
     clear hK K
     refine done_ (done_of HT_.out (by kernel_rfl)) ?_
     clear hHeld se4 sf4 H5 Re Rf
     obtain ⟨F1_, F2_⟩ := set1 H3.out 4 (.slice (some ⟨gk2, 0, none⟩) 2 2) (cs' := #[.int .i64 5, .int .i64 m, .string r, .string l, .slice (some ⟨gk2, 0, none⟩) 2 2, .slice none 0 0, .slice none 0 0]) rfl
     generalize hW_ : World.setCell _ ⟨g3, 4, none⟩ (.slice (some ⟨gk2, 0, none⟩) 2 2) = wz at F1_ F2_ ⊢
     clear hW_
     replace HS := ssO HS H3 HSB G3 F2_
     replace HK := kkO HK G3 F2_
     replace H4 := Aside0.mk ((F2_.block g4 (N3_4.out.symm)).trans H4.out)
     replace RR := Aside0.mk (F.only RR.out F2_ (Or.inl (Nat.lt_succ_of_lt LT3_4.out)))
     replace H3 := Aside0.mk F1_
     clear F1_ F2_
     obtain ⟨z3_0, z3_1, z3_2, z3_3, z3_4, z3_5, z3_6⟩ := cn7 H3.out
     obtain ⟨z4_0, f4_0, z4_1, f4_1, z4_2, f4_2, z4_3, f4_3, z4_4, f4_4, z4_5, f4_5, z4_6, f4_6⟩ := cf7 H4.out
     go_wp2
     refine fin62 H4.out (fun _ F1_ F2_ => ?_)
     exact ⟨⟨5, m, r, l, [e, f], [], []⟩, _, tf, rfl, ⟨some ⟨gk2, 0, none⟩, 2, none, 0, none, 0, rfl, Nat.le_refl 2, F.lower (F.only RR.out F2_ (Or.inl (Nat.lt_succ_self _))) (Nat.le_succ_of_le G4.out), Nat.le_refl 0, F.nil _ _ _ _ _, Nat.le_refl 0, F.nil _ _ _ _ _⟩, HS.out.only H4.out (by decide) (by decide) (Nat.le_trans HSB.out G4.out) F2_, HK.out.only G4.out F2_, (by rw [HQ.out]; exact Step.at HBS.out (Tm.out.1.bind (f := fun m j => (nameP E j).bind fun l j => (exprP E ke j).bind fun e j => (mustP E ⟨#[44]⟩ j).bind fun _ j => (exprP E ke j).bind fun f j => .ok (⟨5, m, r, l, [e, f], [], []⟩ : S62) j []) (Tl.out.1.bind (f := fun l j => (exprP E ke j).bind fun e j => (mustP E ⟨#[44]⟩ j).bind fun _ j => (exprP E ke j).bind fun f j => .ok (⟨5, m, r, l, [e, f], [], []⟩ : S62) j []) (Te.out.1.bind (f := fun e j => (mustP E ⟨#[44]⟩ j).bind fun _ j => (exprP E ke j).bind fun f j => .ok (⟨5, m, r, l, [e, f], [], []⟩ : S62) j []) (Tq.out.1.bind (f := fun _ j => (exprP E ke j).bind fun f j => .ok (⟨5, m, r, l, [e, f], [], []⟩ : S62) j []) (Tf.out.1.bind (Step.pure tf _))))))), Nat.le_trans (Nat.le_succ _) (Nat.le_trans Tm.out.2.1 (Nat.le_trans Tl.out.2.1 (Nat.le_trans Te.out.2.1 (Nat.le_trans Tq.out.2.1 Tf.out.2.1)))), Tf.out.2.2.trans (Tq.out.2.2.trans (Te.out.2.2.trans (Tl.out.2.2.trans Tm.out.2.2)))⟩
   | false =>
    have HF3 := Aside0.mk hB
    clear hB
    have HNp := Aside0.mk (show Ne s (putR E ke r s.i) from Ne.cast HN.out (fun hbad => zDFq1))
    go_upto_region 1 with (fail)
    have zk := blk_celln H3.out 0 _ rfl; have fk := blk_frozen H3.out 0
    go_upto_region 2 with (fail)
    obtain ⟨F1_, F2_⟩ := set1 H3.out 0 (.int .i64 1) (cs' := #[.int .i64 1, .int .i64 0, .string r, .string ⟨#[]⟩, .slice none 0 0, .slice none 0 0, .slice none 0 0]) rfl
    generalize hW_ : World.setCell _ ⟨g3, 0, none⟩ (.int .i64 1) = wq at F1_ F2_ ⊢
    clear hW_ zk fk
    replace HS := ssO HS H3 HSB G3 F2_
    replace HK := kkO HK G3 F2_
    replace H4 := Aside0.mk ((F2_.block g4 (N3_4.out.symm)).trans H4.out)
    replace H3 := Aside0.mk F1_
    clear F1_ F2_
    go_wp2_with (fail)
    have hW := expr_c E ke s _ HS.out (Ne.first HNp.out)
    have Le := Aside0.mk (And.intro HK.out.2 (blk_lt H4.out))
    refine hW.mono ?_
    clear hW
    rintro e we ⟨e, ve, te, rfl, ⟨Ae, ce, rfl, le, re⟩, q1, qk, hst, hti, hps⟩
    have Te := Aside0.mk (And.intro hst (And.intro hti hps))
    clear hst hti hps
    replace H3 := mvK qk HS H3
    replace H4 := mvK qk HS H4
    replace HK := kkT HK qk
    replace HS := Aside0.mk q1
    clear q1 qk
    have Re := Aside0.mk re
    clear re
    replace Re := Aside0.mk (F.lower Re.out (show g4 + 1 ≤ _ from Le.out.2))
    go_upto_region 23 with ((with_reducible refine gate_dst (N := 9) rfl ?_); refine lit_event ?hg (N := 9) ?hd (n := 1) (cs := ⟨[.int .i64 e.f0, .int .i64 e.f1, .string e.f2, .slice Ae e.f3.length ce]⟩) (t := 94) ?hr ?_; (case hd => rfl); (case hg => rfl); (case hr => first | (go_simp; done) | (go_simp; rfl)); intro gk hg_ w9 hbox_ hq_; have hgk := Aside0.mk (show g4 < gk from by rw [hg_]; exact blk_lt H4.out); replace H3 := mvB hq_ H3; replace H4 := mvB hq_ H4; replace HK := kkB HK hq_; replace HS := ssM HS hq_; replace Re := ffB Re hq_; have RR := Aside0.mk (F.one hbox_ (GD.at hbox_ HS.out hgk.out (HS.out.ne hbox_ (by decide)) (by decide) (by decide)) (FK94 le Re.out)); have zk := blk_celln H3.out 4 _ rfl; have fk := blk_frozen H3.out 4; clear hg_ hbox_ hq_)
    clear Re
    skip
    obtain ⟨F1_, F2_⟩ := set1 H3.out 4 (.slice (some ⟨gk, 0, none⟩) 1 1) (cs' := #[.int .i64 1, .int .i64 0, .string r, .string ⟨#[]⟩, .slice (some ⟨gk, 0, none⟩) 1 1, .slice none 0 0, .slice none 0 0]) rfl
    generalize hW_ : World.setCell _ ⟨g3, 4, none⟩ (.slice (some ⟨gk, 0, none⟩) 1 1) = wq at F1_ F2_ ⊢
    clear hW_ zk fk
    replace HS := ssO HS H3 HSB G3 F2_
    replace HK := kkO HK G3 F2_
    replace H4 := Aside0.mk ((F2_.block g4 (N3_4.out.symm)).trans H4.out)
    replace RR := Aside0.mk (F.only RR.out F2_ (Or.inl (Nat.lt_succ_of_lt LT3_4.out)))
    replace H3 := Aside0.mk F1_
    clear F1_ F2_
    obtain ⟨z3_0, z3_1, z3_2, z3_3, z3_4, z3_5, z3_6⟩ := cn7 H3.out
    obtain ⟨z4_0, f4_0, z4_1, f4_1, z4_2, f4_2, z4_3, f4_3, z4_4, f4_4, z4_5, f4_5, z4_6, f4_6⟩ := cf7 H4.out
    go_wp2
    refine fin62 H4.out (fun _ F1_ F2_ => ?_)
    exact ⟨⟨1, 0, r, ⟨#[]⟩, [e], [], []⟩, _, te, rfl, ⟨some ⟨gk, 0, none⟩, 1, none, 0, none, 0, rfl, Nat.le_refl 1, F.lower (F.only RR.out F2_ (Or.inl (Nat.lt_succ_self _))) (Nat.le_succ_of_le G4.out), Nat.le_refl 0, F.nil _ _ _ _ _, Nat.le_refl 0, F.nil _ _ _ _ _⟩, HS.out.only H4.out (by decide) (by decide) (Nat.le_trans HSB.out G4.out) F2_, HK.out.only G4.out F2_, Step.cast (r := putR E ke r s.i) (Te.out.1.bind (f := fun e j => .ok (⟨1, 0, r, ⟨#[]⟩, [e], [], []⟩ : S62) j []) (Step.pure te _)) (fun hbad => zDFq1), Te.out.2.1, Te.out.2.2⟩
end Go.Proofs.Ytinnldfmbeafiaa.PA.D
