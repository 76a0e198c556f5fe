/- The document's cursor: statements, blocks; walked by hand. -/
import Derived.Test.YtinnldfmbeafiaaDF
namespace Go.Proofs.Ytinnldfmbeafiaa.PA.D
open Go.RowKit Go.Proofs.YtinnldfmbeafiaaW.PrintWords Go.Proofs.YtinnldfmbeafiaaW.PrintLast Go.Proofs.YtinnldfmbeafiaaW.PrintMore
set_option linter.unusedVariables false
set_option linter.unusedSimpArgs false
attribute [local go_sem] cell_set_some fld53_0 fld53_1 fld53_2 fld53_3
theorem late {α β : Type} {s t u : Cs} {r : Res α} {x : α} {r2 : Res β} {y : β} (h : Step s r x t) (hb : t.bad = true) (k : Step t r2 y u) : Step s r x u := by
 obtain ⟨k1, k2⟩ := k.1 hb
 refine ⟨fun hs => ⟨k1, k2.trans (h.1 hs).2⟩, fun hs => ?_⟩
 rcases h.2 hs with ⟨p, e, h1, h2⟩ | ⟨j, q, _, rfl⟩
 ·exact .inl ⟨p, e, k1, k2.trans h2⟩
 ·cases hb
def stmtT.T2 : Bool × List (List Nat × List Nat) := (true, [([], []), ([], []), ([1], [1]), ([2], [2]), ([3], [3]), ([], []), ([5], [5]), ([6], [6]), ([7], [7]), ([], []), ([9], [9]), ([10], [10]), ([11], [11]), ([8, 12], [8, 12]), ([13], [13]), ([14], [14]), ([15], [15]), ([4, 16], [4, 16]), ([0, 0, 1, 2, 3, 4, 5, 6, 7, 8, 9, 10, 11, 12, 13, 14, 15, 16, 17], [0]), ([18, 0, 1, 2, 3, 4, 5, 6, 7, 8, 9, 10, 11, 12, 13, 14, 15, 16, 17], [18]), ([19, 17, 17, 0, 1, 2, 3, 4, 5, 6, 7, 8, 9, 10, 11, 12, 13, 14, 15, 16, 17], [17, 19])])
def stmtT.B2 : List Nat := [0, 0, 2, 6, 14, 0, 32, 96, 224, 0, 512, 1536, 3584, 8160, 16352, 32736, 65504, 131070, 262143, 524287, 1048575]
theorem stmtT.tab2 : rtab .any (opsOf Try.f64 2) = stmtT.T2 := by kernel_rfl
theorem stmtT.bits2 : waitsOk stmtT.T2.2 stmtT.B2 = true := by kernel_rfl
set_option maxHeartbeats 8000000 in
set_option maxRecDepth 100000 in
theorem stmt_c (E : Env) (ke : Nat) (blk : Nat → Res (List S62)) (FB : FullB E blk) : StAt E (stmtQ E ke blk) := by
 intro s w h hb hp hn
 obtain ⟨i, bad, ps⟩ := s
 simp only at hb
 subst hb
 have hps : ps.length ≤ 1000000 := by
  have h1 := hp
  have h2 := h.lt
  have h3 := h.ok.few
  unfold Pl at h1
  simp only [Bool.toNat_false] at h1 h2
  omega
 have HN := Aside0.mk (show stmtR E ke blk i ≠ .out from fun e => hn (by unfold stmtQ; simp only [Res.bind]; rw [e]))
 have HFB := Aside0.mk FB
 have HP := Aside0.mk hp
 have HPS := Aside0.mk hps
 clear hn FB hp hps
 have hu65 := Try.underlying65
 have hu53 := Try.underlying53
 have hu62 := Try.underlying62
 have hu94 := Try.underlying94
 have HSB := Aside0.mk (show E.w0.heap.size ≤ w.heap.size from h.below.size)
 have HS := Aside0.mk h
 have HK := Aside0.mk (KP.refl E w)
 clear h
 go_enter Try.func64, Try.ntmps64
 go_upto_region 2 with (first | ((with_reducible refine gate_dst (N := 2) rfl ?_); refine bbX (N := 2) z62v 62 ?hr ?_; (case hr => first | (go_simp; done) | (go_simp; rfl)); intro g2 hg_ w2 hbox_ hq_; have G2 := Aside0.mk (show w.heap.size ≤ g2 from by rw [hg_.out]; exact HK.out.2); have H2 := Aside0.mk hbox_; replace HK := kkB HK hq_; replace HS := ssM HS hq_; clear hg_ hbox_ hq_) | ((with_reducible refine gate_dst (N := 3) rfl ?_); refine bbX (N := 3) z62v 62 ?hr ?_; (case hr => first | (go_simp; done) | (go_simp; rfl)); intro g3 hg_ w3 hbox_ hq_; have G3 := Aside0.mk (show w.heap.size ≤ g3 from by rw [hg_.out]; exact HK.out.2); have N2_3 := Aside0.mk (ne_new H2.out hg_.out); have LT2_3 := Aside0.mk (lt_new H2.out hg_.out); have H3 := Aside0.mk hbox_; replace H2 := mvB hq_ H2; replace HK := kkB HK hq_; replace HS := ssM HS hq_; clear hg_ hbox_ hq_))
 replace H2 := mvB (below_drew (Below.refl _ _)) H2
 replace H3 := mvB (below_drew (Below.refl _ _)) H3
 replace HK := kkB HK (below_drew (Below.refl _ _))
 replace HS := ssM HS (below_drew (Below.refl _ _))
 obtain ⟨ad, hA, y0, y1, y2, y3⟩ := HS.out.tok
 have c0 := HS.out.c0; have c1 := HS.out.c1
 rw [hA] at c0
 have p1 := eq_true (show (i : Int) < (E.ts.length : Int) from Int.ofNat_lt.mpr HS.out.lt)
 have p2 := eq_true (show i < E.ts.length from HS.out.lt)
 have p0 := eq_true (show 0 ≤ (i : Int) from Int.natCast_nonneg _)
 clear hA
 have hl : (⟨i, false, ps⟩ : Cs).ps.length ≤ 1000000 := HPS.out
 obtain ⟨hB_, v_, hbk_, hR_, hne_⟩ := HS.out.cu
 obtain ⟨A3, c3, rfl⟩ := Kd.R_slice hR_
 have HBk := Aside0.mk hbk_
 have HR3 := Aside0.mk hR_
 have HE3 := Aside0.mk hne_
 clear hbk_ hR_ hne_
 refine start_ (n := 21) (S := fun w' => w'.cell? ⟨E.g, 3, none⟩ = some (.slice A3 (⟨i, false, ps⟩ : Cs).ps.length c3) ∧ w'.cell? ⟨E.g, 0, none⟩ = some (.slice (some ad) E.ts.length E.c) ∧ w'.cell? ⟨E.g, 1, none⟩ = some (.int .i64 (i : Int)) ∧ w'.cell? ⟨(ad.add (i * 4)).block, (ad.add (i * 4)).off + 3, none⟩ = some (.int .i64 (E.tk i).f3)) (ds := [17, 20]) #[Z,Z,Z,Z,Z,Z,Z,Z,Z,Z,Z,Z,Z,Z,Z,Z,Z,Z,Z,Z,Z] (by kernel_rfl) rfl rfl ⟨(blk_celln HBk.out 3 _ rfl), c0, c1, y3⟩ (fun hHeld => ?_)
 refine with_tabW stmtT.tab2 stmtT.bits2 (fun HT_ HW_ => ?_)
 generalize World.drew _ = wd at HS HK HBk HR3 c0 c1 y0 y1 y2 y3 H2 H3  hHeld ⊢
 refine ppU (i := 0) (N := some 4) #[Y,Z,Z,Z,Z,Z,Z,Z,Z,Z,Z,Z,Z,Z,Z,Z,Z,Z,Z,Z,Z] HT_ ?_
 refine ppU (i := 1) (N := some 5) #[Y,Y,Z,Z,Z,Z,Z,Z,Z,Z,Z,Z,Z,Z,Z,Z,Z,Z,Z,Z,Z] HT_ ?_
 refine ppU (i := 2) (N := some 6) #[Y,Y,Y,Z,Z,Z,Z,Z,Z,Z,Z,Z,Z,Z,Z,Z,Z,Z,Z,Z,Z] HT_ ?_
 refine ppU (i := 3) (N := some 7) #[Y,Y,Y,Y,Z,Z,Z,Z,Z,Z,Z,Z,Z,Z,Z,Z,Z,Z,Z,Z,Z] HT_ ?_
 refine take_ (i := 4) (N := some 8) (v := ?_) (a' := ?_) #[Y,Y,Y,Y,Y,Z,Z,Z,Z,Z,Z,Z,Z,Z,Z,Z,Z,Z,Z,Z,Z] rfl rfl (take_ofW HT_.out HW_.out (by kernel_rfl)) (fun _ _ _ h => h) (Or.inl ⟨by rfl, ?_⟩) hHeld ?_ ?_
 rotate_left
 ·rintro w' ⟨s0, s1, s2, s3⟩
  go_simp
  with_reducible rfl
 rotate_left
 ·simp only [Act.put, pA, pB, pC, i64_w, i32_w]
  rfl
 refine ppU (i := 5) (N := some 9) #[Y,Y,Y,Y,Y,Y,Z,Z,Z,Z,Z,Z,Z,Z,Z,Z,Z,Z,Z,Z,Z] HT_ ?_
 refine ppU (i := 6) (N := some 10) #[Y,Y,Y,Y,Y,Y,Y,Z,Z,Z,Z,Z,Z,Z,Z,Z,Z,Z,Z,Z,Z] HT_ ?_
 refine ppU (i := 7) (N := some 11) #[Y,Y,Y,Y,Y,Y,Y,Y,Z,Z,Z,Z,Z,Z,Z,Z,Z,Z,Z,Z,Z] HT_ ?_
 refine take_ (i := 8) (N := some 12) (v := ?_) (a' := ?_) #[Y,Y,Y,Y,Y,Y,Y,Y,Y,Z,Z,Z,Z,Z,Z,Z,Z,Z,Z,Z,Z] rfl rfl (take_ofW HT_.out HW_.out (by kernel_rfl)) (fun _ _ _ h => h) (Or.inl ⟨by rfl, ?_⟩) hHeld ?_ ?_
 rotate_left
 ·rintro w' ⟨s0, s1, s2, s3⟩
  go_simp
  with_reducible rfl
 rotate_left
 ·simp only [Act.put, pA, pB, pC, i64_w, i32_w]
  rfl
 refine ppU (i := 9) (N := some 13) #[Y,Y,Y,Y,Y,Y,Y,Y,Y,Y,Z,Z,Z,Z,Z,Z,Z,Z,Z,Z,Z] HT_ ?_
 refine ppU (i := 10) (N := some 14) #[Y,Y,Y,Y,Y,Y,Y,Y,Y,Y,Y,Z,Z,Z,Z,Z,Z,Z,Z,Z,Z] HT_ ?_
 refine ppU (i := 11) (N := some 15) #[Y,Y,Y,Y,Y,Y,Y,Y,Y,Y,Y,Y,Z,Z,Z,Z,Z,Z,Z,Z,Z] HT_ ?_
 refine take_ (i := 12) (N := some 16) (v := ?_) (a' := ?_) #[Y,Y,Y,Y,Y,Y,Y,Y,Y,Y,Y,Y,Y,Z,Z,Z,Z,Z,Z,Z,Z] rfl rfl (take_ofW HT_.out HW_.out (by kernel_rfl)) (fun _ _ _ h => h) (Or.inl ⟨by rfl, ?_⟩) hHeld ?_ ?_
 rotate_left
 ·rintro w' ⟨s0, s1, s2, s3⟩
  go_simp
  with_reducible rfl
 rotate_left
 ·simp only [Act.put, pA, pB, pC, i64_w, i32_w]
  rfl
 refine ppU (i := 13) (N := some 17) #[Y,Y,Y,Y,Y,Y,Y,Y,Y,Y,Y,Y,Y,Y,Z,Z,Z,Z,Z,Z,Z] HT_ ?_
 refine ppU (i := 14) (N := some 18) #[Y,Y,Y,Y,Y,Y,Y,Y,Y,Y,Y,Y,Y,Y,Y,Z,Z,Z,Z,Z,Z] HT_ ?_
 refine take_ (i := 15) (N := some 19) (v := ?_) (a' := ?_) #[Y,Y,Y,Y,Y,Y,Y,Y,Y,Y,Y,Y,Y,Y,Y,Y,Z,Z,Z,Z,Z] rfl rfl (take_ofW HT_.out HW_.out (by kernel_rfl)) (fun _ _ _ h => h) (Or.inl ⟨by rfl, ?_⟩) hHeld ?_ ?_
 rotate_left
 ·rintro w' ⟨s0, s1, s2, s3⟩
  go_simp
  with_reducible rfl
 rotate_left
 ·simp only [Act.put, pA, pB, pC, i64_w, i32_w]
  rfl
 refine one_ (i := 16) (N := some 20) #[Y,Y,Y,Y,Y,Y,Y,Y,Y,Y,Y,Y,Y,Y,Y,Y,Y,Z,Z,Z,Z] rfl rfl (one_of HT_.out (by kernel_rfl)) (by decide) (fun K hK => ?_)
 refine value_ (w1 := ?_) (v := ?_) (by rfl) rfl ?_ ?_
 rotate_left 2
 ·go_simp
  constructor
  ·rfl
  ·rfl
 refine hK.out _ _ ⟨(World.cell?_alloc_lt _ _ _ (World.block_lt_of_cell? _ _ (blk_celln HBk.out 3 _ rfl))).trans (blk_celln HBk.out 3 _ rfl), (World.cell?_alloc_lt _ _ _ (World.block_lt_of_cell? _ _ c0)).trans c0, (World.cell?_alloc_lt _ _ _ (World.block_lt_of_cell? _ _ c1)).trans c1, (World.cell?_alloc_lt _ _ _ (World.block_lt_of_cell? _ _ y3)).trans y3⟩ (fun hHeld => ?_)
 clear hK K
 refine norm_ (a' := ?_) ?_ ?_
 rotate_left
 ·show Act.put _ (some 20) _ = _
  simp only [Act.put, pA, pB, pC, i64_w, i32_w]
  rfl
 refine last_ (i := 17) (N := some 21) #[Y,Y,Y,Y,Y,Y,Y,Y,Y,Y,Y,Y,Y,Y,Y,Y,Y,Y,Z,Z,Z] rfl rfl (one_of HT_.out (by kernel_rfl)) (by decide) (fun K hK => ?_)
 refine Kd.R_append_step (Kd.int .i64) (w0 := E.w0) E.w0.heap.size (by rfl) (.tmp 8) (.tmp 20) 35 3 (.int .i64 0) 8 rfl Try.underlying35 info3 rfl (by decide) (by decide) (.slice A3 (⟨i, false, ps⟩ : Cs).ps.length c3) (⟨i, false, ps⟩ : Cs).ps (E.tk i).f3 [.int .i64 (E.tk i).f3] (fun _ => True) (fun _ => False) rfl rfl rfl (fun _ hk => hk.elim) (fun _ _ => trivial) HR3.out HS.out.below HS.out.below.size (by omega) ?_
 intro v4 w2 q1 q2 q3 _
 obtain ⟨A4, c4, rfl⟩ := Kd.R_slice q1
 rw [show ((⟨i, false, ps⟩ : Cs).ps ++ [(E.tk i).f3]).length = (⟨i, false, ps⟩ : Cs).ps.length + 1 from by simp] at q1 ⊢
 refine hK.out _ _ ?_
 clear hK K
 refine norm_ (a' := ?_) ?_ ?_
 rotate_left
 ·show Act.put _ (some 21) _ = _
  simp only [Act.put, pA, pB, pC, i64_w, i32_w]
  rfl
 have hb2 := blk_grown HBk.out q3 (fun e => HE3.out e.symm)
 refine ppU (i := 18) (N := some 22) #[Y,Y,Y,Y,Y,Y,Y,Y,Y,Y,Y,Y,Y,Y,Y,Y,Y,Y,Y,Z,Z] HT_ ?_
 refine ppU (i := 19) (N := some 23) #[Y,Y,Y,Y,Y,Y,Y,Y,Y,Y,Y,Y,Y,Y,Y,Y,Y,Y,Y,Y,Z] HT_ ?_
 refine last_ (i := 20) (N := none) #[Y,Y,Y,Y,Y,Y,Y,Y,Y,Y,Y,Y,Y,Y,Y,Y,Y,Y,Y,Y,Y] rfl rfl (one_of HT_.out (by kernel_rfl)) (by decide) (fun K hK => ?_)
 have hs3 := blk_celln hb2 3 _ rfl
 have hf3 := blk_frozen hb2 3
 refine skip_ (w1 := ?_) (by rfl) rfl ?_ ?_
 rotate_left
 ·go_simp
  rfl
 refine hK.out _ _ ?_
 clear hK K
 refine done_ (done_of HT_.out (by kernel_rfl)) ?_
 have hn4 := fun e => Kd.R_ne q1 hb2 (by decide) (Eq.symm e)
 have typ := fun g hg => (Kd.R_typed HR3.out g hg)
 clear hHeld hs3 hf3 c0 c1 y0 y1 y2 y3 p0 p1 p2
 have qq : ST E ⟨i, (⟨i, false, ps⟩ : Cs).bad, (⟨i, false, ps⟩ : Cs).ps ++ [(E.tk i).f3]⟩ (w2.setCell ⟨E.g, 3, none⟩ (.slice A4 ((⟨i, false, ps⟩ : Cs).ps.length + 1) c4)) := ⟨HS.out.ok, HS.out.ok2, ⟨hB_, _, blk_put hb2 3 _ (by simp only [List.length_append, List.length_cons, List.length_nil]; rfl), ints_move (by simpa using q1) (fun k hk => Below.heap_setCell _ ⟨E.g, 3, none⟩ _ k (fun e => hn4 (by rw [hk, e]))), hn4⟩, q2.setCell (p := ⟨E.g, 3, none⟩) hB_ _, HS.out.lt⟩
 have qk : KP E wd (w2.setCell ⟨E.g, 3, none⟩ (.slice A4 ((⟨i, false, ps⟩ : Cs).ps.length + 1) c4)) := ⟨((Lib.OthersKept.refl 3 (some E.g) _).grown q3 (fun g hg => by obtain ⟨c, hc⟩ := typ g hg; exact ⟨c, (0, 0), hc⟩)).setCell ⟨E.g, 3, none⟩ rfl _, by simpa [World.setCell] using q3.size⟩
 generalize hW_ : w2.setCell ⟨E.g, 3, none⟩ _ = wm at qq qk ⊢
 clear hW_ hb2 hn4 typ q1 q2 q3 HBk HR3 HE3 hl
 have q1 := qq
 clear qq
 replace H2 := mvK qk HS H2
 replace H3 := mvK qk HS H3
 replace HK := kkT HK qk
 replace HS := Aside0.mk q1
 clear q1 qk
 obtain ⟨p0, hp0⟩ : ∃ p0, (E.tk i).f3 = p0 := ⟨_, rfl⟩
 have HP0 := Aside0.mk hp0
 replace HS : Aside0 (ST E ⟨i, false, ps ++ [p0]⟩ wm) := ⟨hp0 ▸ HS.out⟩
 clear hp0 hB_
 go_wp2_with (fail)
 have hW := is_d E ⟨i, false, ps ++ [p0]⟩ ⟨#[115, 116, 111, 114, 101]⟩ _ HS.out
 refine hW.mono ?_
 clear hW
 rintro e wi ⟨rfl, qb⟩
 replace H2 := mvB qb H2
 replace H3 := mvB qb H3
 replace HK := kkB HK qb
 replace HS := ssM HS qb
 clear qb
 cases hB : isB E ⟨i, false, ps ++ [p0]⟩ ⟨#[115, 116, 111, 114, 101]⟩ with
 | true =>
  have HO := Aside0.mk (is_ok hB)
  have HE := Aside0.mk (isB_good (s := ⟨i, false, ps ++ [p0]⟩) rfl _ hB)
  clear hB
  have HI_ := Aside0.mk (HS.out.inc (show (⟨i, false, ps ++ [p0]⟩ : Cs).bad = false from rfl) HO.out.2)
  have c1 := HS.out.c1; have cf1 := HS.out.fz 1
  go_upto_region 9 with (fail)
  (first | rw [HI_.out.1] | skip)
  obtain ⟨-, q1, qk⟩ := HI_.out
  generalize hW_ : World.setCell _ ⟨E.g, 1, none⟩ _ = wq at q1 qk ⊢
  clear hW_ HI_ c1 cf1
  replace H2 := mvK qk HS H2
  replace H3 := mvK qk HS H3
  replace HK := kkT HK qk
  replace HS := Aside0.mk q1
  clear q1 qk
  replace HS : Aside0 (ST E ⟨i + 1, false, ps ++ [p0]⟩ wq) := ⟨HS.out⟩
  have zk := blk_celln H3.out 0 _ rfl; have fk := blk_frozen H3.out 0
  go_upto_region 10 with (fail)
  obtain ⟨F1_, F2_⟩ := set1 H3.out 0 (.int .i64 3) (cs' := #[.int .i64 3, .int .i64 0, .string ⟨#[]⟩, .string ⟨#[]⟩, .slice none 0 0, .slice none 0 0, .slice none 0 0]) rfl
  generalize hW_ : World.setCell _ ⟨g3, 0, none⟩ (.int .i64 3) = wq at F1_ F2_ ⊢
  clear hW_ zk fk
  replace HS := ssO HS H3 HSB G3 F2_
  replace HK := kkO HK G3 F2_
  replace H2 := Aside0.mk ((F2_.block g2 (N2_3.out)).trans H2.out)
  replace H3 := Aside0.mk F1_
  clear F1_ F2_
  have HNx := Aside0.mk (show Ne (⟨i + 1, false, ps ++ [p0]⟩ : Cs) (storeP E ke (i + 1)) from fun _ e => HN.out (((show stmtR E ke blk i = storeP E ke (i + 1) from by unfold stmtR; rw [if_pos HE.out])).trans e))
  go_wp2_with (fail)
  have hW := mode_c E ⟨i + 1, false, ps ++ [p0]⟩ _ HS.out
  refine hW.mono ?_
  clear hW
  rintro e wm ⟨m, vm, tm, rfl, rfl, q1, qk, hst, hti, hps⟩
  have Tm := Aside0.mk (And.intro hst (And.intro hti hps))
  clear hst hti hps
  replace H2 := mvK qk HS H2
  replace H3 := mvK qk HS H3
  replace HK := kkT HK qk
  replace HS := Aside0.mk q1
  clear q1 qk
  have zk := blk_celln H3.out 1 _ rfl; have fk := blk_frozen H3.out 1
  go_upto_region 11 with (fail)
  obtain ⟨F1_, F2_⟩ := set1 H3.out 1 (.int .i64 m) (cs' := #[.int .i64 3, .int .i64 m, .string ⟨#[]⟩, .string ⟨#[]⟩, .slice none 0 0, .slice none 0 0, .slice none 0 0]) rfl
  generalize hW_ : World.setCell _ ⟨g3, 1, none⟩ (.int .i64 m) = wq at F1_ F2_ ⊢
  clear hW_ zk fk
  replace HS := ssO HS H3 HSB G3 F2_
  replace HK := kkO HK G3 F2_
  replace H2 := Aside0.mk ((F2_.block g2 (N2_3.out)).trans H2.out)
  replace H3 := Aside0.mk F1_
  clear F1_ F2_
  go_wp2_with (fail)
  have hW := name_c E tm _ HS.out
  refine hW.mono ?_
  clear hW
  rintro e wl ⟨l, vl, tl, rfl, rfl, q1, qk, hst, hti, hps⟩
  have Tl := Aside0.mk (And.intro hst (And.intro hti hps))
  clear hst hti hps
  replace H2 := mvK qk HS H2
  replace H3 := mvK qk HS H3
  replace HK := kkT HK qk
  replace HS := Aside0.mk q1
  clear q1 qk
  have zk := blk_celln H3.out 3 _ rfl; have fk := blk_frozen H3.out 3
  go_upto_region 12 with (fail)
  obtain ⟨F1_, F2_⟩ := set1 H3.out 3 (.string l) (cs' := #[.int .i64 3, .int .i64 m, .string ⟨#[]⟩, .string l, .slice none 0 0, .slice none 0 0, .slice none 0 0]) rfl
  generalize hW_ : World.setCell _ ⟨g3, 3, none⟩ (.string l) = wq at F1_ F2_ ⊢
  clear hW_ zk fk
  replace HS := ssO HS H3 HSB G3 F2_
  replace HK := kkO HK G3 F2_
  replace H2 := Aside0.mk ((F2_.block g2 (N2_3.out)).trans H2.out)
  replace H3 := Aside0.mk F1_
  clear F1_ F2_
  have HNl := Aside0.mk (Ne.next (Ne.next HNx.out Tm.out.1) Tl.out.1)
  clear HNx
  have c2 := HS.out.c2
  cases hbd : tl.bad with
  | true =>
   have b0 := bdI_bad HS.out.ok2 hbd
   have b1 := eq_true b0; have b2 := decide_eq_true b0; have b3 : (bdI E tl < 0) = False := eq_false (by omega); have b4 : decide (bdI E tl < 0) = false := decide_eq_false (by omega)
   clear b0
   have HBD := Aside0.mk hbd
   clear hbd
   go_wp2_with (fail)
   have hW := must_c E tl ⟨#[59]⟩ _ HS.out
   refine hW.mono ?_
   clear hW
   rintro e wy ⟨_, vy, ty, rfl, rfl, q1, qk, hst, hti, hps⟩
   have Ty := Aside0.mk (And.intro hst (And.intro hti hps))
   clear hst hti hps
   replace H2 := mvK qk HS H2
   replace H3 := mvK qk HS H3
   replace HK := kkT HK qk
   replace HS := Aside0.mk q1
   clear q1 qk
   replace Ty := Aside0.mk (show Step (⟨i + 1, false, ps ++ [p0]⟩ : Cs) (storeP E ke (i + 1)) ⟨3, m, ⟨#[]⟩, l, [], [], []⟩ ty ∧ i + 1 ≤ ty.i ∧ ty.ps = ps ++ [p0] from ⟨late (Tm.out.1.bind (stop Tl.out.1 HBD.out _)) HBD.out Ty.out.1, Nat.le_trans Tm.out.2.1 (Nat.le_trans Tl.out.2.1 Ty.out.2.1), Ty.out.2.2.trans (Tl.out.2.2.trans Tm.out.2.2)⟩)
   obtain ⟨z3_0, z3_1, z3_2, z3_3, z3_4, z3_5, z3_6⟩ := cn7 H3.out
   obtain ⟨z2_0, f2_0, z2_1, f2_1, z2_2, f2_2, z2_3, f2_3, z2_4, f2_4, z2_5, f2_5, z2_6, f2_6⟩ := cf7 H2.out
   go_wp2
   refine fin62 H2.out (fun _ F1_ F2_ => ?_)
   exact ⟨⟨3, m, ⟨#[]⟩, l, [], [], []⟩, _, ty, rfl, ⟨none, 0, none, 0, none, 0, rfl, Nat.le_refl 0, F.nil _ _ _ _ _, Nat.le_refl 0, F.nil _ _ _ _ _, Nat.le_refl 0, F.nil _ _ _ _ _⟩, HS.out.only H2.out (by decide) (by decide) (Nat.le_trans HSB.out G2.out) F2_, HK.out.only G2.out F2_, Step.part (f := stmtR E ke blk) (HP0.out ▸ (Step.at (s := ⟨i, false, ps ++ [p0]⟩) (j := i + 1) rfl (Step.cast Ty.out.1 (fun _ => (show stmtR E ke blk i = storeP E ke (i + 1) from by unfold stmtR; rw [if_pos HE.out]))))), Nat.le_trans (Nat.le_succ _) Ty.out.2.1, Pl.got (Pl.part HP.out) Ty.out.1 Ty.out.2.1 Ty.out.2.2⟩
  | false =>
   rw [bdI_good hbd] at c2
   have HBD := Aside0.mk hbd
   clear hbd
   go_wp2_with (fail)
   have hW := expr_c E ke tl _ HS.out (Ne.first HNl.out)
   have Le := Aside0.mk (And.intro HK.out.2 (blk_lt H3.out))
   refine hW.mono ?_
   clear hW
   rintro e we ⟨e, ve, te, rfl, ⟨Ae, ce, rfl, le, re⟩, q1, qk, hst, hti, hps⟩
   have Te := Aside0.mk (And.intro hst (And.intro hti hps))
   clear hst hti hps
   replace H2 := mvK qk HS H2
   replace H3 := mvK qk HS H3
   replace HK := kkT HK qk
   replace HS := Aside0.mk q1
   clear q1 qk
   have Re := Aside0.mk re
   clear re
   replace Re := Aside0.mk (F.lower Re.out (show g3 + 1 ≤ _ from Le.out.2))
   go_upto_region 27 with ((with_reducible refine gate_dst (N := 61) rfl ?_); refine lit_event ?hg (N := 61) ?hd (n := 1) (cs := ⟨[.int .i64 e.f0, .int .i64 e.f1, .string e.f2, .slice Ae e.f3.length ce]⟩) (t := 94) ?hr ?_; (case hd => rfl); (case hg => rfl); (case hr => first | (go_simp; done) | (go_simp; rfl)); intro gk hg_ w9 hbox_ hq_; have hgk := Aside0.mk (show g3 < gk from by rw [hg_]; exact blk_lt H3.out); replace H2 := mvB hq_ H2; replace H3 := mvB hq_ H3; replace HK := kkB HK hq_; replace HS := ssM HS hq_; replace Re := ffB Re hq_; have RR := Aside0.mk (F.one hbox_ (GD.at hbox_ HS.out hgk.out (HS.out.ne hbox_ (by decide)) (by decide) (by decide)) (FK94 le Re.out)); have zk := blk_celln H3.out 4 _ rfl; have fk := blk_frozen H3.out 4; clear hg_ hbox_ hq_)
   clear Re
   skip
   obtain ⟨F1_, F2_⟩ := set1 H3.out 4 (.slice (some ⟨gk, 0, none⟩) 1 1) (cs' := #[.int .i64 3, .int .i64 m, .string ⟨#[]⟩, .string l, .slice (some ⟨gk, 0, none⟩) 1 1, .slice none 0 0, .slice none 0 0]) rfl
   generalize hW_ : World.setCell _ ⟨g3, 4, none⟩ (.slice (some ⟨gk, 0, none⟩) 1 1) = wq at F1_ F2_ ⊢
   clear hW_ zk fk
   replace HS := ssO HS H3 HSB G3 F2_
   replace HK := kkO HK G3 F2_
   replace H2 := Aside0.mk ((F2_.block g2 (N2_3.out)).trans H2.out)
   replace RR := Aside0.mk (F.only RR.out F2_ (Or.inl (Nat.lt_succ_self _)))
   replace H3 := Aside0.mk F1_
   clear F1_ F2_
   clear c2
   go_wp2_with (fail)
   have hW := must_c E te ⟨#[59]⟩ _ HS.out
   refine hW.mono ?_
   clear hW
   rintro e wy ⟨_, vy, ty, rfl, rfl, q1, qk, hst, hti, hps⟩
   have Ty := Aside0.mk (And.intro hst (And.intro hti hps))
   clear hst hti hps
   replace H2 := mvK qk HS H2
   replace H3 := mvK qk HS H3
   replace RR := ffK RR qk
   replace HK := kkT HK qk
   replace HS := Aside0.mk q1
   clear q1 qk
   replace Ty := Aside0.mk (show Step (⟨i + 1, false, ps ++ [p0]⟩ : Cs) (storeP E ke (i + 1)) ⟨3, m, ⟨#[]⟩, l, [e], [], []⟩ ty ∧ i + 1 ≤ ty.i ∧ ty.ps = ps ++ [p0] from ⟨Tm.out.1.bind (Tl.out.1.bind (Te.out.1.bind (Ty.out.1.bind (Step.pure ty _)))), Nat.le_trans Tm.out.2.1 (Nat.le_trans Tl.out.2.1 (Nat.le_trans Te.out.2.1 Ty.out.2.1)), Ty.out.2.2.trans (Te.out.2.2.trans (Tl.out.2.2.trans Tm.out.2.2))⟩)
   obtain ⟨z3_0, z3_1, z3_2, z3_3, z3_4, z3_5, z3_6⟩ := cn7 H3.out
   obtain ⟨z2_0, f2_0, z2_1, f2_1, z2_2, f2_2, z2_3, f2_3, z2_4, f2_4, z2_5, f2_5, z2_6, f2_6⟩ := cf7 H2.out
   go_wp2
   refine fin62 H2.out (fun _ F1_ F2_ => ?_)
   exact ⟨⟨3, m, ⟨#[]⟩, l, [e], [], []⟩, _, ty, rfl, ⟨some ⟨gk, 0, none⟩, 1, none, 0, none, 0, rfl, Nat.le_refl 1, F.lower (F.only RR.out F2_ (Or.inl (Nat.lt_succ_of_lt LT2_3.out))) (Nat.le_succ_of_le G3.out), Nat.le_refl 0, F.nil _ _ _ _ _, Nat.le_refl 0, F.nil _ _ _ _ _⟩, HS.out.only H2.out (by decide) (by decide) (Nat.le_trans HSB.out G2.out) F2_, HK.out.only G2.out F2_, Step.part (f := stmtR E ke blk) (HP0.out ▸ (Step.at (s := ⟨i, false, ps ++ [p0]⟩) (j := i + 1) rfl (Step.cast Ty.out.1 (fun _ => (show stmtR E ke blk i = storeP E ke (i + 1) from by unfold stmtR; rw [if_pos HE.out]))))), Nat.le_trans (Nat.le_succ _) Ty.out.2.1, Pl.got (Pl.part HP.out) Ty.out.1 Ty.out.2.1 Ty.out.2.2⟩
 | false =>
  have HF0 := Aside0.mk (isB_good (s := ⟨i, false, ps ++ [p0]⟩) rfl _ hB)
  clear hB
  go_wp2_with (fail)
  have hW := is_d E ⟨i, false, ps ++ [p0]⟩ ⟨#[102, 101, 110, 99, 101]⟩ _ HS.out
  refine hW.mono ?_
  clear hW
  rintro e wi ⟨rfl, qb⟩
  replace H2 := mvB qb H2
  replace H3 := mvB qb H3
  replace HK := kkB HK qb
  replace HS := ssM HS qb
  clear qb
  cases hB : isB E ⟨i, false, ps ++ [p0]⟩ ⟨#[102, 101, 110, 99, 101]⟩ with
  | true =>
   have HO := Aside0.mk (is_ok hB)
   have HE := Aside0.mk (isB_good (s := ⟨i, false, ps ++ [p0]⟩) rfl _ hB)
   clear hB
   have HI_ := Aside0.mk (HS.out.inc (show (⟨i, false, ps ++ [p0]⟩ : Cs).bad = false from rfl) HO.out.2)
   have c1 := HS.out.c1; have cf1 := HS.out.fz 1
   go_upto_region 16 with (fail)
   (first | rw [HI_.out.1] | skip)
   obtain ⟨-, q1, qk⟩ := HI_.out
   generalize hW_ : World.setCell _ ⟨E.g, 1, none⟩ _ = wq at q1 qk ⊢
   clear hW_ HI_ c1 cf1
   replace H2 := mvK qk HS H2
   replace H3 := mvK qk HS H3
   replace HK := kkT HK qk
   replace HS := Aside0.mk q1
   clear q1 qk
   replace HS : Aside0 (ST E ⟨i + 1, false, ps ++ [p0]⟩ wq) := ⟨HS.out⟩
   have zk := blk_celln H3.out 0 _ rfl; have fk := blk_frozen H3.out 0
   go_upto_region 17 with (fail)
   obtain ⟨F1_, F2_⟩ := set1 H3.out 0 (.int .i64 6) (cs' := #[.int .i64 6, .int .i64 0, .string ⟨#[]⟩, .string ⟨#[]⟩, .slice none 0 0, .slice none 0 0, .slice none 0 0]) rfl
   generalize hW_ : World.setCell _ ⟨g3, 0, none⟩ (.int .i64 6) = wq at F1_ F2_ ⊢
   clear hW_ zk fk
   replace HS := ssO HS H3 HSB G3 F2_
   replace HK := kkO HK G3 F2_
   replace H2 := Aside0.mk ((F2_.block g2 (N2_3.out)).trans H2.out)
   replace H3 := Aside0.mk F1_
   clear F1_ F2_
   go_wp2_with (fail)
   have hW := mode_c E ⟨i + 1, false, ps ++ [p0]⟩ _ HS.out
   refine hW.mono ?_
   clear hW
   rintro e wm ⟨m, vm, tm, rfl, rfl, q1, qk, hst, hti, hps⟩
   have Tm := Aside0.mk (And.intro hst (And.intro hti hps))
   clear hst hti hps
   replace H2 := mvK qk HS H2
   replace H3 := mvK qk HS H3
   replace HK := kkT HK qk
   replace HS := Aside0.mk q1
   clear q1 qk
   have zk := blk_celln H3.out 1 _ rfl; have fk := blk_frozen H3.out 1
   go_upto_region 27 with (fail)
   obtain ⟨F1_, F2_⟩ := set1 H3.out 1 (.int .i64 m) (cs' := #[.int .i64 6, .int .i64 m, .string ⟨#[]⟩, .string ⟨#[]⟩, .slice none 0 0, .slice none 0 0, .slice none 0 0]) rfl
   generalize hW_ : World.setCell _ ⟨g3, 1, none⟩ (.int .i64 m) = wq at F1_ F2_ ⊢
   clear hW_ zk fk
   replace HS := ssO HS H3 HSB G3 F2_
   replace HK := kkO HK G3 F2_
   replace H2 := Aside0.mk ((F2_.block g2 (N2_3.out)).trans H2.out)
   replace H3 := Aside0.mk F1_
   clear F1_ F2_
   go_wp2_with (fail)
   have hW := must_c E tm ⟨#[59]⟩ _ HS.out
   refine hW.mono ?_
   clear hW
   rintro e wy ⟨_, vy, ty, rfl, rfl, q1, qk, hst, hti, hps⟩
   have Ty := Aside0.mk (And.intro hst (And.intro hti hps))
   clear hst hti hps
   replace H2 := mvK qk HS H2
   replace H3 := mvK qk HS H3
   replace HK := kkT HK qk
   replace HS := Aside0.mk q1
   clear q1 qk
   replace Ty := Aside0.mk (show Step (⟨i + 1, false, ps ++ [p0]⟩ : Cs) (fenceP E (i + 1)) ⟨6, m, ⟨#[]⟩, ⟨#[]⟩, [], [], []⟩ ty ∧ i + 1 ≤ ty.i ∧ ty.ps = ps ++ [p0] from ⟨Tm.out.1.bind (Ty.out.1.bind (Step.pure ty _)), Nat.le_trans Tm.out.2.1 Ty.out.2.1, Ty.out.2.2.trans Tm.out.2.2⟩)
   obtain ⟨z3_0, z3_1, z3_2, z3_3, z3_4, z3_5, z3_6⟩ := cn7 H3.out
   obtain ⟨z2_0, f2_0, z2_1, f2_1, z2_2, f2_2, z2_3, f2_3, z2_4, f2_4, z2_5, f2_5, z2_6, f2_6⟩ := cf7 H2.out
   go_wp2
   refine fin62 H2.out (fun _ F1_ F2_ => ?_)
   exact ⟨⟨6, m, ⟨#[]⟩, ⟨#[]⟩, [], [], []⟩, _, ty, rfl, ⟨none, 0, none, 0, none, 0, rfl, Nat.le_refl 0, F.nil _ _ _ _ _, Nat.le_refl 0, F.nil _ _ _ _ _, Nat.le_refl 0, F.nil _ _ _ _ _⟩, HS.out.only H2.out (by decide) (by decide) (Nat.le_trans HSB.out G2.out) F2_, HK.out.only G2.out F2_, Step.part (f := stmtR E ke blk) (HP0.out ▸ (Step.at (s := ⟨i, false, ps ++ [p0]⟩) (j := i + 1) rfl (Step.cast Ty.out.1 (fun _ => (show stmtR E ke blk i = fenceP E (i + 1) from by unfold stmtR; rw [if_neg (by rw [HF0.out]; decide), if_pos HE.out]))))), Nat.le_trans (Nat.le_succ _) Ty.out.2.1, Pl.got (Pl.part HP.out) Ty.out.1 Ty.out.2.1 Ty.out.2.2⟩
  | false =>
   have HF1 := Aside0.mk (isB_good (s := ⟨i, false, ps ++ [p0]⟩) rfl _ hB)
   clear hB
   go_wp2_with (fail)
   have hW := is_d E ⟨i, false, ps ++ [p0]⟩ ⟨#[105, 102]⟩ _ HS.out
   refine hW.mono ?_
   clear hW
   rintro e wi ⟨rfl, qb⟩
   replace H2 := mvB qb H2
   replace H3 := mvB qb H3
   replace HK := kkB HK qb
   replace HS := ssM HS qb
   clear qb
   cases hB : isB E ⟨i, false, ps ++ [p0]⟩ ⟨#[105, 102]⟩ with
   | true =>
    have HO := Aside0.mk (is_ok hB)
    have HE := Aside0.mk (isB_good (s := ⟨i, false, ps ++ [p0]⟩) rfl _ hB)
    clear hB
    have HI_ := Aside0.mk (HS.out.inc (show (⟨i, false, ps ++ [p0]⟩ : Cs).bad = false from rfl) HO.out.2)
    have c1 := HS.out.c1; have cf1 := HS.out.fz 1
    go_upto_region 20 with (fail)
    (first | rw [HI_.out.1] | skip)
    obtain ⟨-, q1, qk⟩ := HI_.out
    generalize hW_ : World.setCell _ ⟨E.g, 1, none⟩ _ = wq at q1 qk ⊢
    clear hW_ HI_ c1 cf1
    replace H2 := mvK qk HS H2
    replace H3 := mvK qk HS H3
    replace HK := kkT HK qk
    replace HS := Aside0.mk q1
    clear q1 qk
    replace HS : Aside0 (ST E ⟨i + 1, false, ps ++ [p0]⟩ wq) := ⟨HS.out⟩
    have zk := blk_celln H3.out 0 _ rfl; have fk := blk_frozen H3.out 0
    go_upto_region 21 with (fail)
    obtain ⟨F1_, F2_⟩ := set1 H3.out 0 (.int .i64 7) (cs' := #[.int .i64 7, .int .i64 0, .string ⟨#[]⟩, .string ⟨#[]⟩, .slice none 0 0, .slice none 0 0, .slice none 0 0]) rfl
    generalize hW_ : World.setCell _ ⟨g3, 0, none⟩ (.int .i64 7) = wq at F1_ F2_ ⊢
    clear hW_ zk fk
    replace HS := ssO HS H3 HSB G3 F2_
    replace HK := kkO HK G3 F2_
    replace H2 := Aside0.mk ((F2_.block g2 (N2_3.out)).trans H2.out)
    replace H3 := Aside0.mk F1_
    clear F1_ F2_
    have HNx := Aside0.mk (show Ne (⟨i + 1, false, ps ++ [p0]⟩ : Cs) (branchP E ke blk (i + 1)) from fun _ e => HN.out (((show stmtR E ke blk i = branchP E ke blk (i + 1) from by unfold stmtR; rw [if_neg (by rw [HF0.out]; decide), if_neg (by rw [HF1.out]; decide), if_pos HE.out])).trans e))
    go_wp2_with (fail)
    have hW := expr_c E ke ⟨i + 1, false, ps ++ [p0]⟩ _ HS.out (Ne.first HNx.out)
    have Le := Aside0.mk (And.intro HK.out.2 (blk_lt H3.out))
    refine hW.mono ?_
    clear hW
    rintro e we ⟨e, ve, te, rfl, ⟨Ae, ce, rfl, le, re⟩, q1, qk, hst, hti, hps⟩
    have Te := Aside0.mk (And.intro hst (And.intro hti hps))
    clear hst hti hps
    replace H2 := mvK qk HS H2
    replace H3 := mvK qk HS H3
    replace HK := kkT HK qk
    replace HS := Aside0.mk q1
    clear q1 qk
    have Re := Aside0.mk re
    clear re
    replace Re := Aside0.mk (F.lower Re.out (show g3 + 1 ≤ _ from Le.out.2))
    go_upto_region 22 with ((with_reducible refine gate_dst (N := 90) rfl ?_); refine lit_event ?hg (N := 90) ?hd (n := 1) (cs := ⟨[.int .i64 e.f0, .int .i64 e.f1, .string e.f2, .slice Ae e.f3.length ce]⟩) (t := 94) ?hr ?_; (case hd => rfl); (case hg => rfl); (case hr => first | (go_simp; done) | (go_simp; rfl)); intro gk hg_ w9 hbox_ hq_; have hgk := Aside0.mk (show g3 < gk from by rw [hg_]; exact blk_lt H3.out); replace H2 := mvB hq_ H2; replace H3 := mvB hq_ H3; replace HK := kkB HK hq_; replace HS := ssM HS hq_; replace Re := ffB Re hq_; have RR := Aside0.mk (F.one hbox_ (GD.at hbox_ HS.out hgk.out (HS.out.ne hbox_ (by decide)) (by decide) (by decide)) (FK94 le Re.out)); have zk := blk_celln H3.out 4 _ rfl; have fk := blk_frozen H3.out 4; clear hg_ hbox_ hq_)
    clear Re
    skip
    obtain ⟨F1_, F2_⟩ := set1 H3.out 4 (.slice (some ⟨gk, 0, none⟩) 1 1) (cs' := #[.int .i64 7, .int .i64 0, .string ⟨#[]⟩, .string ⟨#[]⟩, .slice (some ⟨gk, 0, none⟩) 1 1, .slice none 0 0, .slice none 0 0]) rfl
    generalize hW_ : World.setCell _ ⟨g3, 4, none⟩ (.slice (some ⟨gk, 0, none⟩) 1 1) = wq at F1_ F2_ ⊢
    clear hW_ zk fk
    replace HS := ssO HS H3 HSB G3 F2_
    replace HK := kkO HK G3 F2_
    replace H2 := Aside0.mk ((F2_.block g2 (N2_3.out)).trans H2.out)
    replace RR := Aside0.mk (F.only RR.out F2_ (Or.inl (Nat.lt_succ_self _)))
    replace H3 := Aside0.mk F1_
    clear F1_ F2_
    have HEQ := Aside0.mk (show stmtR E ke blk i = branchP E ke blk (i + 1) from by unfold stmtR; rw [if_neg (by rw [HF0.out]; decide), if_neg (by rw [HF1.out]; decide), if_pos HE.out])
    clear HE
    have N1 := Aside0.mk (show Ne te ((blk te.i).bind fun a j => elseP E blk e a j) from Ne.next (f := fun e j => (blk j).bind fun a j => elseP E blk e a j) HNx.out Te.out.1)
    have Pe := Aside0.mk (Pl.got (Pl.part HP.out) Te.out.1 Te.out.2.1 Te.out.2.2)
    go_wp2_with (fail)
    have hW := HFB.out te _ HS.out Pe.out (Ne.first N1.out)
    have La := Aside0.mk (And.intro HK.out.2 (blk_lt H3.out))
    refine hW.mono ?_
    clear hW
    rintro e wa ⟨a, va, ta, rfl, ⟨Aa, ca, rfl, la, ra⟩, q1, qk, hst, hti, hpl⟩
    have Ta := Aside0.mk (And.intro hst (And.intro hti hpl))
    clear hst hti hpl
    replace H2 := mvK qk HS H2
    replace H3 := mvK qk HS H3
    replace RR := ffK RR qk
    replace HK := kkT HK qk
    replace HS := Aside0.mk q1
    clear q1 qk
    have Ra := Aside0.mk ra
    clear ra
    have N2 := Aside0.mk (show Ne ta (elseP E blk e a ta.i) from Ne.next (f := fun a j => elseP E blk e a j) N1.out Ta.out.1)
    have zk := blk_celln H3.out 5 _ rfl; have fk := blk_frozen H3.out 5
    go_upto_region 23 with (fail)
    obtain ⟨F1_, F2_⟩ := set1 H3.out 5 (.slice Aa a.length ca) (cs' := #[.int .i64 7, .int .i64 0, .string ⟨#[]⟩, .string ⟨#[]⟩, .slice (some ⟨gk, 0, none⟩) 1 1, .slice Aa a.length ca, .slice none 0 0]) rfl
    generalize hW_ : World.setCell _ ⟨g3, 5, none⟩ (.slice Aa a.length ca) = wq at F1_ F2_ ⊢
    clear hW_ zk fk
    replace HS := ssO HS H3 HSB G3 F2_
    replace HK := kkO HK G3 F2_
    replace H2 := Aside0.mk ((F2_.block g2 (N2_3.out)).trans H2.out)
    replace RR := Aside0.mk (F.only RR.out F2_ (Or.inl (Nat.lt_succ_self _)))
    replace Ra := Aside0.mk (F.only Ra.out F2_ (Or.inl La.out.2))
    replace H3 := Aside0.mk F1_
    clear F1_ F2_
    go_wp2_with (fail)
    have hW := is_d E ta ⟨#[101, 108, 115, 101]⟩ _ HS.out
    refine hW.mono ?_
    clear hW
    rintro e wi ⟨rfl, qb⟩
    replace H2 := mvB qb H2
    replace H3 := mvB qb H3
    replace RR := ffB RR qb
    replace Ra := ffB Ra qb
    replace HK := kkB HK qb
    replace HS := ssM HS qb
    clear qb
    cases hB : isB E ta ⟨#[101, 108, 115, 101]⟩ with
    | true =>
     have HO := Aside0.mk (is_ok hB)
     have HBD := Aside0.mk HO.out.1
     have HE := Aside0.mk (isB_good HBD.out _ hB)
     clear hB
     have HI_ := Aside0.mk (HS.out.inc HBD.out HO.out.2)
     have c1 := HS.out.c1; have cf1 := HS.out.fz 1
     go_upto_region 25 with (fail)
     (first | rw [HI_.out.1] | skip)
     obtain ⟨-, q1, qk⟩ := HI_.out
     generalize hW_ : World.setCell _ ⟨E.g, 1, none⟩ _ = wq at q1 qk ⊢
     clear hW_ HI_ c1 cf1
     replace H2 := mvK qk HS H2
     replace H3 := mvK qk HS H3
     replace RR := ffK RR qk
     replace Ra := ffK Ra qk
     replace HK := kkT HK qk
     replace HS := Aside0.mk q1
     clear q1 qk
     go_wp2_with (fail)
     have hW := HFB.out ⟨ta.i + 1, false, ta.ps⟩ _ HS.out (Pl.step Ta.out.2.2 HBD.out) (fun _ => by have h1 := N2.out HBD.out; unfold elseP at h1; rw [if_pos HE.out] at h1; exact bind_out h1)
     have Lb := Aside0.mk (And.intro HK.out.2 (blk_lt H3.out))
     refine hW.mono ?_
     clear hW
     rintro e wb ⟨b, vb, tb, rfl, ⟨Ab, cb, rfl, lb, rb⟩, q1, qk, hst, hti, hpl⟩
     have Tb := Aside0.mk (And.intro hst (And.intro hti hpl))
     clear hst hti hpl
     replace H2 := mvK qk HS H2
     replace H3 := mvK qk HS H3
     replace RR := ffK RR qk
     replace Ra := ffK Ra qk
     replace HK := kkT HK qk
     replace HS := Aside0.mk q1
     clear q1 qk
     have Rb := Aside0.mk rb
     clear rb
     have zk := blk_celln H3.out 6 _ rfl; have fk := blk_frozen H3.out 6
     go_upto_region 26 with (fail)
     obtain ⟨F1_, F2_⟩ := set1 H3.out 6 (.slice Ab b.length cb) (cs' := #[.int .i64 7, .int .i64 0, .string ⟨#[]⟩, .string ⟨#[]⟩, .slice (some ⟨gk, 0, none⟩) 1 1, .slice Aa a.length ca, .slice Ab b.length cb]) rfl
     generalize hW_ : World.setCell _ ⟨g3, 6, none⟩ (.slice Ab b.length cb) = wq at F1_ F2_ ⊢
     clear hW_ zk fk
     replace HS := ssO HS H3 HSB G3 F2_
     replace HK := kkO HK G3 F2_
     replace H2 := Aside0.mk ((F2_.block g2 (N2_3.out)).trans H2.out)
     replace RR := Aside0.mk (F.only RR.out F2_ (Or.inl (Nat.lt_succ_self _)))
     replace Ra := Aside0.mk (F.only Ra.out F2_ (Or.inl La.out.2))
     replace Rb := Aside0.mk (F.only Rb.out F2_ (Or.inl Lb.out.2))
     replace H3 := Aside0.mk F1_
     clear F1_ F2_
     obtain ⟨z3_0, z3_1, z3_2, z3_3, z3_4, z3_5, z3_6⟩ := cn7 H3.out
     obtain ⟨z2_0, f2_0, z2_1, f2_1, z2_2, f2_2, z2_3, f2_3, z2_4, f2_4, z2_5, f2_5, z2_6, f2_6⟩ := cf7 H2.out
     go_wp2
     refine fin62 H2.out (fun _ F1_ F2_ => ?_)
     exact ⟨⟨7, 0, ⟨#[]⟩, ⟨#[]⟩, [e], a, b⟩, _, tb, rfl, ⟨some ⟨gk, 0, none⟩, 1, Aa, ca, Ab, cb, rfl, Nat.le_refl 1, F.lower (F.only RR.out F2_ (Or.inl (Nat.lt_succ_of_lt LT2_3.out))) (Nat.le_succ_of_le G3.out), la, F.lower (F.only Ra.out F2_ (Or.inl (Nat.lt_trans LT2_3.out La.out.2))) La.out.1, lb, F.lower (F.only Rb.out F2_ (Or.inl (Nat.lt_trans LT2_3.out Lb.out.2))) Lb.out.1⟩, HS.out.only H2.out (by decide) (by decide) (Nat.le_trans HSB.out G2.out) F2_, HK.out.only G2.out F2_, Step.part (f := stmtR E ke blk) (HP0.out ▸ (Step.at (s := ⟨i, false, ps ++ [p0]⟩) (j := i + 1) rfl (Step.cast (r := branchP E ke blk (i + 1)) (Te.out.1.bind (f := fun e j => (blk j).bind fun a j => elseP E blk e a j) (Ta.out.1.bind (f := fun a j => elseP E blk e a j) (by unfold elseP; rw [if_pos HE.out]; exact Step.at HBD.out (Tb.out.1.bind (Step.pure tb _))))) (fun _ => HEQ.out)))), Nat.le_trans (Nat.le_succ _) (Nat.le_trans Te.out.2.1 (Nat.le_trans Ta.out.2.1 (Nat.le_trans (Nat.le_succ _) Tb.out.2.1))), Tb.out.2.2⟩
    | false =>
     have HFE := Aside0.mk hB
     clear hB
     go_upto_region 26 with (fail)
     obtain ⟨z3_0, z3_1, z3_2, z3_3, z3_4, z3_5, z3_6⟩ := cn7 H3.out
     obtain ⟨z2_0, f2_0, z2_1, f2_1, z2_2, f2_2, z2_3, f2_3, z2_4, f2_4, z2_5, f2_5, z2_6, f2_6⟩ := cf7 H2.out
     go_wp2
     refine fin62 H2.out (fun _ F1_ F2_ => ?_)
     exact ⟨⟨7, 0, ⟨#[]⟩, ⟨#[]⟩, [e], a, []⟩, _, ta, rfl, ⟨some ⟨gk, 0, none⟩, 1, Aa, ca, none, 0, rfl, Nat.le_refl 1, F.lower (F.only RR.out F2_ (Or.inl (Nat.lt_succ_of_lt LT2_3.out))) (Nat.le_succ_of_le G3.out), la, F.lower (F.only Ra.out F2_ (Or.inl (Nat.lt_trans LT2_3.out La.out.2))) La.out.1, Nat.le_refl 0, F.nil _ _ _ _ _⟩, HS.out.only H2.out (by decide) (by decide) (Nat.le_trans HSB.out G2.out) F2_, HK.out.only G2.out F2_, Step.part (f := stmtR E ke blk) (HP0.out ▸ (Step.at (s := ⟨i, false, ps ++ [p0]⟩) (j := i + 1) rfl (Step.cast (r := branchP E ke blk (i + 1)) (Te.out.1.bind (f := fun e j => (blk j).bind fun a j => elseP E blk e a j) (Ta.out.1.bind (f := fun a j => elseP E blk e a j) (Step.cast (Step.pure ta _) (fun hbad => by unfold elseP; rw [if_neg (by rw [isB_good hbad _ HFE.out]; decide)])))) (fun _ => HEQ.out)))), Nat.le_trans (Nat.le_succ _) (Nat.le_trans Te.out.2.1 Ta.out.2.1), Ta.out.2.2⟩
   | false =>
    have HF2 := Aside0.mk (isB_good (s := ⟨i, false, ps ++ [p0]⟩) rfl _ hB)
    clear hB
    have HEQ := Aside0.mk (show stmtR E ke blk i = setP E ke i from by unfold stmtR; rw [if_neg (by rw [HF0.out]; decide), if_neg (by rw [HF1.out]; decide), if_neg (by rw [HF2.out]; decide)])
    have HNx := Aside0.mk (show Ne (⟨i, false, ps ++ [p0]⟩ : Cs) (setP E ke i) from fun _ e => HN.out (HEQ.out.trans e))
    clear HF0 HF1 HF2
    go_wp2_with (fail)
    have hW := name_c E ⟨i, false, ps ++ [p0]⟩ _ HS.out
    refine hW.mono ?_
    clear hW
    rintro e wr ⟨r, vr, tr, rfl, rfl, q1, qk, hst, hti, hps⟩
    have Tr := Aside0.mk (And.intro hst (And.intro hti hps))
    clear hst hti hps
    replace H2 := mvK qk HS H2
    replace H3 := mvK qk HS H3
    replace HK := kkT HK qk
    replace HS := Aside0.mk q1
    clear q1 qk
    have zk := blk_celln H3.out 2 _ rfl; have fk := blk_frozen H3.out 2
    go_upto_region 4 with (fail)
    obtain ⟨F1_, F2_⟩ := set1 H3.out 2 (.string r) (cs' := #[.int .i64 0, .int .i64 0, .string r, .string ⟨#[]⟩, .slice none 0 0, .slice none 0 0, .slice none 0 0]) rfl
    generalize hW_ : World.setCell _ ⟨g3, 2, none⟩ (.string r) = wq at F1_ F2_ ⊢
    clear hW_ zk fk
    replace HS := ssO HS H3 HSB G3 F2_
    replace HK := kkO HK G3 F2_
    replace H2 := Aside0.mk ((F2_.block g2 (N2_3.out)).trans H2.out)
    replace H3 := Aside0.mk F1_
    clear F1_ F2_
    go_wp2_with (fail)
    have hW := must_c E tr ⟨#[61]⟩ _ HS.out
    refine hW.mono ?_
    clear hW
    rintro e wa ⟨_, va, ta, rfl, rfl, q1, qk, hst, hti, hps⟩
    have Ta := Aside0.mk (And.intro hst (And.intro hti hps))
    clear hst hti hps
    replace H2 := mvK qk HS H2
    replace H3 := mvK qk HS H3
    replace HK := kkT HK qk
    replace HS := Aside0.mk q1
    clear q1 qk
    have H1_ : Ne tr ((mustP E ⟨#[61]⟩ tr.i).bind fun _ j => rightP E ke r j) := Ne.next (f := fun r j => (mustP E ⟨#[61]⟩ j).bind fun _ j => rightP E ke r j) HNx.out Tr.out.1
    have HR := Aside0.mk (show Ne ta (rightP E ke r ta.i) from Ne.next (f := fun _ j => rightP E ke r j) H1_ Ta.out.1)
    clear H1_ HNx
    have c2 := HS.out.c2
    cases hbd : ta.bad with
    | true =>
     have b0 := bdI_bad HS.out.ok2 hbd
     have b1 := eq_true b0; have b2 := decide_eq_true b0; have b3 : (bdI E ta < 0) = False := eq_false (by omega); have b4 : decide (bdI E ta < 0) = false := decide_eq_false (by omega)
     clear b0
     have HBD := Aside0.mk hbd
     clear hbd
     go_wp2_with (fail)
     have hW := must_c E ta ⟨#[59]⟩ _ HS.out
     refine hW.mono ?_
     clear hW
     rintro e wy ⟨_, vy, ty, rfl, rfl, q1, qk, hst, hti, hps⟩
     have Ty := Aside0.mk (And.intro hst (And.intro hti hps))
     clear hst hti hps
     replace H2 := mvK qk HS H2
     replace H3 := mvK qk HS H3
     replace HK := kkT HK qk
     replace HS := Aside0.mk q1
     clear q1 qk
     replace Ty := Aside0.mk (show Step (⟨i, false, ps ++ [p0]⟩ : Cs) (setP E ke i) ⟨0, 0, r, ⟨#[]⟩, [], [], []⟩ ty ∧ i ≤ ty.i ∧ ty.ps = ps ++ [p0] from ⟨late (Tr.out.1.bind (f := fun r j => (mustP E ⟨#[61]⟩ j).bind fun _ j => rightP E ke r j) (stop Ta.out.1 HBD.out _)) HBD.out Ty.out.1, Nat.le_trans Tr.out.2.1 (Nat.le_trans Ta.out.2.1 Ty.out.2.1), Ty.out.2.2.trans (Ta.out.2.2.trans Tr.out.2.2)⟩)
     obtain ⟨z3_0, z3_1, z3_2, z3_3, z3_4, z3_5, z3_6⟩ := cn7 H3.out
     obtain ⟨z2_0, f2_0, z2_1, f2_1, z2_2, f2_2, z2_3, f2_3, z2_4, f2_4, z2_5, f2_5, z2_6, f2_6⟩ := cf7 H2.out
     go_wp2
     refine fin62 H2.out (fun _ F1_ F2_ => ?_)
     exact ⟨⟨0, 0, r, ⟨#[]⟩, [], [], []⟩, _, ty, rfl, ⟨none, 0, none, 0, none, 0, rfl, Nat.le_refl 0, F.nil _ _ _ _ _, Nat.le_refl 0, F.nil _ _ _ _ _, Nat.le_refl 0, F.nil _ _ _ _ _⟩, HS.out.only H2.out (by decide) (by decide) (Nat.le_trans HSB.out G2.out) F2_, HK.out.only G2.out F2_, Step.part (f := stmtR E ke blk) (HP0.out ▸ (Step.cast Ty.out.1 (fun _ => HEQ.out))), Ty.out.2.1, Pl.set HP.out Ty.out.1 Ty.out.2.1 Ty.out.2.2⟩
    | false =>
     rw [bdI_good hbd] at c2
     have HBD := Aside0.mk hbd
     clear hbd
     obtain ⟨z3_0, z3_1, z3_2, z3_3, z3_4, z3_5, z3_6⟩ := cn7 H3.out
     have HR2 := Aside0.mk (show Ne ta ((rightR E ke r ta.i).bind fun x j => semiP E x j) from Ne.cast HR.out (fun _ => right_eq E ke r ta.i))
     clear HR
     go_wp2_with (fail)
     have hW := right_c E ke r ta _ HS.out (Ne.first HR2.out)
     have Lx := Aside0.mk (And.intro HK.out.2 (blk_lt H3.out))
     refine hW.mono ?_
     clear hW
     rintro e wx ⟨x, vx, tx, rfl, ⟨A4, c4, A5, c5, A6, c6, rfl, l4, r4, l5, r5, l6, r6⟩, q1, qk, hst, hti, hps⟩
     have Tx := Aside0.mk (And.intro hst (And.intro hti hps))
     clear hst hti hps
     clear z3_0 z3_1 z3_2 z3_3 z3_4 z3_5 z3_6
     replace H2 := mvK qk HS H2
     replace H3 := mvK qk HS H3
     replace HK := kkT HK qk
     replace HS := Aside0.mk q1
     clear q1 qk c2
     have R4 := Aside0.mk r4
     have R5 := Aside0.mk r5
     have R6 := Aside0.mk r6
     clear r4 r5 r6
     obtain ⟨z3_0, f3_0, z3_1, f3_1, z3_2, f3_2, z3_3, f3_3, z3_4, f3_4, z3_5, f3_5, z3_6, f3_6⟩ := cf7 H3.out
     go_upto_region 27 with (fail)
     obtain ⟨F1_, F2_⟩ := fill62 H3.out (.int .i64 x.f0) (.int .i64 x.f1) (.string x.f2) (.string x.f3) (.slice A4 x.f4.length c4) (.slice A5 x.f5.length c5) (.slice A6 x.f6.length c6) _ rfl
     generalize hW_ : World.setCell (World.setCell (World.setCell (World.setCell (World.setCell (World.setCell (World.setCell _ ⟨g3, 0, none⟩ _) ⟨g3, 1, none⟩ _) ⟨g3, 2, none⟩ _) ⟨g3, 3, none⟩ _) ⟨g3, 4, none⟩ _) ⟨g3, 5, none⟩ _) ⟨g3, 6, none⟩ _ = wq at F1_ F2_ ⊢
     clear hW_
     clear z3_0 f3_0 z3_1 f3_1 z3_2 f3_2 z3_3 f3_3 z3_4 f3_4 z3_5 f3_5 z3_6 f3_6
     replace HS := ssO HS H3 HSB G3 F2_
     replace HK := kkO HK G3 F2_
     replace H2 := Aside0.mk ((F2_.block g2 (N2_3.out)).trans H2.out)
     replace R4 := Aside0.mk (F.only R4.out F2_ (Or.inl Lx.out.2))
     replace R5 := Aside0.mk (F.only R5.out F2_ (Or.inl Lx.out.2))
     replace R6 := Aside0.mk (F.only R6.out F2_ (Or.inl Lx.out.2))
     replace H3 := Aside0.mk F1_
     clear F1_ F2_
     go_wp2_with (fail)
     have hW := must_c E tx ⟨#[59]⟩ _ HS.out
     refine hW.mono ?_
     clear hW
     rintro e wy ⟨_, vy, ty, rfl, rfl, q1, qk, hst, hti, hps⟩
     have Ty := Aside0.mk (And.intro hst (And.intro hti hps))
     clear hst hti hps
     replace H2 := mvK qk HS H2
     replace H3 := mvK qk HS H3
     replace R4 := ffK R4 qk
     replace R5 := ffK R5 qk
     replace R6 := ffK R6 qk
     replace HK := kkT HK qk
     replace HS := Aside0.mk q1
     clear q1 qk
     replace Ty := Aside0.mk (show Step (⟨i, false, ps ++ [p0]⟩ : Cs) (setP E ke i) x ty ∧ i ≤ ty.i ∧ ty.ps = ps ++ [p0] from ⟨Tr.out.1.bind (f := fun r j => (mustP E ⟨#[61]⟩ j).bind fun _ j => rightP E ke r j) (Ta.out.1.bind (f := fun _ j => rightP E ke r j) (Step.cast (Tx.out.1.bind (f := fun x j => semiP E x j) (Ty.out.1.bind (Step.pure ty _))) (fun _ => right_eq E ke r ta.i))), Nat.le_trans Tr.out.2.1 (Nat.le_trans Ta.out.2.1 (Nat.le_trans Tx.out.2.1 Ty.out.2.1)), Ty.out.2.2.trans (Tx.out.2.2.trans (Ta.out.2.2.trans Tr.out.2.2))⟩)
     obtain ⟨z3_0, z3_1, z3_2, z3_3, z3_4, z3_5, z3_6⟩ := cn7 H3.out
     obtain ⟨z2_0, f2_0, z2_1, f2_1, z2_2, f2_2, z2_3, f2_3, z2_4, f2_4, z2_5, f2_5, z2_6, f2_6⟩ := cf7 H2.out
     go_wp2
     refine fin62 H2.out (fun _ F1_ F2_ => ?_)
     exact ⟨x, _, ty, rfl, ⟨A4, c4, A5, c5, A6, c6, rfl, l4, F.lower (F.only R4.out F2_ (Or.inl (Nat.lt_trans LT2_3.out Lx.out.2))) Lx.out.1, l5, F.lower (F.only R5.out F2_ (Or.inl (Nat.lt_trans LT2_3.out Lx.out.2))) Lx.out.1, l6, F.lower (F.only R6.out F2_ (Or.inl (Nat.lt_trans LT2_3.out Lx.out.2))) Lx.out.1⟩, HS.out.only H2.out (by decide) (by decide) (Nat.le_trans HSB.out G2.out) F2_, HK.out.only G2.out F2_, Step.part (f := stmtR E ke blk) (HP0.out ▸ (Step.cast Ty.out.1 (fun _ => HEQ.out))), Ty.out.2.1, Pl.set HP.out Ty.out.1 Ty.out.2.1 Ty.out.2.2⟩
set_option maxHeartbeats 8000000 in
set_option maxRecDepth 100000 in
theorem block_c (E : Env) (st : Nat → Res S62) (IH : StAt E st) (AD : ∀ i x j q, st i = .ok x j q → i < j) (s : Cs) (w : World) (h : ST E s w) (hp : Pl s) (hn : Ne s (blockP E st s.i)) : Calls Try.prog 39 #[.pointer (some ⟨E.g, 0, none⟩)] w (GotB E s w (blockP E st s.i) (VB E w)) := by
 have hu65 := Try.underlying65
 have HN := Aside0.mk hn
 have HIH := Aside0.mk IH
 have HAD := Aside0.mk AD
 have HP := Aside0.mk hp
 clear hn IH AD hp
 have HSB := Aside0.mk (show E.w0.heap.size ≤ w.heap.size from h.below.size)
 have HS := Aside0.mk h
 have HK := Aside0.mk (KP.refl E w)
 clear h
 go_enter Try.func39, Try.ntmps39
 go_wp2_with (fail)
 have hW := must_c E s ⟨#[123]⟩ _ HS.out
 refine hW.mono ?_
 clear hW
 rintro e wa ⟨_, va, ta, rfl, rfl, q1, qk, hst, hti, hps⟩
 have Ta := Aside0.mk (And.intro hst (And.intro hti hps))
 clear hst hti hps
 replace HK := kkT HK qk
 replace HS := Aside0.mk q1
 clear q1 qk
 have N1 := Aside0.mk (show Ne ta ((blockL E st (E.ts.length + 1) [] ta.i).bind fun l j => (mustP E ⟨#[125]⟩ j).bind fun _ j => .ok l j []) from Ne.next (f := fun _ j => (blockL E st (E.ts.length + 1) [] j).bind fun l j => (mustP E ⟨#[125]⟩ j).bind fun _ j => .ok l j []) HN.out Ta.out.1)
 have Pa := Aside0.mk (Pl.got HP.out Ta.out.1 Ta.out.2.1 Ta.out.2.2)
 go_wp2
 go_loopg [3] (E.ts.length + 1) (fun kq v3 w' => ∃ (sc : Cs) (l : List S62) (A : Option Addr) (c : Nat), v3 = .slice A l.length c ∧ Aside0 (ST E sc w') ∧ Aside0 (KP E w w') ∧ Aside0 (Kd.N k62 62 w' w.heap.size (GD E E.g w.heap.size w') (.slice A l.length c) l) ∧ Aside0 (Ne sc (blockL E st kq l sc.i)) ∧ Aside0 (∀ y u, Step sc (blockL E st kq l sc.i) y u → Step ta (blockL E st (E.ts.length + 1) [] ta.i) y u) ∧ Aside0 (ta.i ≤ sc.i ∧ Pl sc ∧ Ll sc l.length))
 case atStart => exact ⟨ta, [], none, 0, rfl, HS, HK, ⟨Kd.N_nil _ _ _ _ _⟩, ⟨Ne.first N1.out⟩, ⟨fun y u q => q⟩, ⟨Nat.le_refl _, Pa.out, Nat.zero_le _⟩⟩
 case round =>
  clear HS HK
  obtain ⟨sc, l, Al, cl, rfl, HS, HK, RN, HNe, HC, HLE⟩ := hrel
  have HC2 := Aside0.mk HS.out.lt; have HFW := Aside0.mk HS.out.ok.few
  obtain ⟨i, bad, ps⟩ := sc
  have c2 := HS.out.c2
  cases bad with
  | true =>
   have b0 := bdI_bad HS.out.ok2 (rfl : (⟨i, true, ps⟩ : Cs).bad = true)
   have b1 := eq_true b0; have b2 := decide_eq_true b0; have b3 : (bdI E ⟨i, true, ps⟩ < 0) = False := eq_false (by omega); have b4 : decide (bdI E ⟨i, true, ps⟩ < 0) = false := decide_eq_false (by omega)
   clear b0
   go_wp2_with (fail)
   have hW := must_c E ⟨i, true, ps⟩ ⟨#[125]⟩ _ HS.out
   refine hW.mono ?_
   clear hW
   rintro e wq ⟨_, vq, tq, rfl, rfl, q1, qk, hst, hti, hps⟩
   have Tq := Aside0.mk (And.intro hst (And.intro hti hps))
   clear hst hti hps
   replace RN := Aside0.mk (NG.kp RN.out qk)
   replace HK := kkT HK qk
   replace HS := Aside0.mk q1
   clear q1 qk
   go_wp2
   go_ret
   exact ⟨l, _, tq, rfl, ⟨Al, cl, rfl, (Kd.N_reads' RN.out).2.1, Kd.N_F RN.out⟩, HS.out, HK.out, Ta.out.1.bind (f := fun _ j => (blockL E st (E.ts.length + 1) [] j).bind fun l j => (mustP E ⟨#[125]⟩ j).bind fun _ j => .ok l j []) ((HC.out _ _ (block_stop HNe.out (fun h => by cases h))).bind (f := fun l j => (mustP E ⟨#[125]⟩ j).bind fun _ j => .ok l j []) (Tq.out.1.bind (Step.pure tq l))), Nat.le_trans Ta.out.2.1 (Nat.le_trans HLE.out.1 Tq.out.2.1), Pl.got HLE.out.2.1 Tq.out.1 Tq.out.2.1 Tq.out.2.2⟩
  | false =>
   rw [bdI_good rfl] at c2
   go_wp2_with (fail)
   have hW := is_d E ⟨i, false, ps⟩ ⟨#[125]⟩ _ HS.out
   refine hW.mono ?_
   clear hW
   rintro e wi ⟨rfl, qb⟩
   replace RN := Aside0.mk (NG.kp RN.out (KP.below qb))
   replace HK := kkB HK qb
   replace HS := ssM HS qb
   clear qb c2
   cases hB : isB E ⟨i, false, ps⟩ ⟨#[125]⟩ with
   | true =>
    have HE := Aside0.mk (isB_good (s := ⟨i, false, ps⟩) rfl _ hB)
    clear hB
    go_wp2_with (fail)
    have hW := must_c E ⟨i, false, ps⟩ ⟨#[125]⟩ _ HS.out
    refine hW.mono ?_
    clear hW
    rintro e wq ⟨_, vq, tq, rfl, rfl, q1, qk, hst, hti, hps⟩
    have Tq := Aside0.mk (And.intro hst (And.intro hti hps))
    clear hst hti hps
    replace RN := Aside0.mk (NG.kp RN.out qk)
    replace HK := kkT HK qk
    replace HS := Aside0.mk q1
    clear q1 qk
    go_wp2
    go_ret
    exact ⟨l, _, tq, rfl, ⟨Al, cl, rfl, (Kd.N_reads' RN.out).2.1, Kd.N_F RN.out⟩, HS.out, HK.out, Ta.out.1.bind (f := fun _ j => (blockL E st (E.ts.length + 1) [] j).bind fun l j => (mustP E ⟨#[125]⟩ j).bind fun _ j => .ok l j []) ((HC.out _ _ (block_stop HNe.out (fun _ => HE.out))).bind (f := fun l j => (mustP E ⟨#[125]⟩ j).bind fun _ j => .ok l j []) (Tq.out.1.bind (Step.pure tq l))), Nat.le_trans Ta.out.2.1 (Nat.le_trans HLE.out.1 Tq.out.2.1), Pl.got HLE.out.2.1 Tq.out.1 Tq.out.2.1 Tq.out.2.2⟩
   | false =>
    have HE := Aside0.mk (isB_good (s := ⟨i, false, ps⟩) rfl _ hB)
    have HG := Aside0.mk (block_go (s := ⟨i, false, ps⟩) rfl HNe.out HE.out)
    clear hB HNe
    go_wp2_with (fail)
    have hW := HIH.out ⟨i, false, ps⟩ _ HS.out rfl HLE.out.2.1 HG.out.1
    have Lv := Aside0.mk (And.intro HK.out.2 (Kd.N_lt RN.out))
    refine hW.mono ?_
    clear hW
    rintro e wy ⟨y, vy, t2, rfl, ⟨A4, c4, A5, c5, A6, c6, rfl, l4, r4, l5, r5, l6, r6⟩, q1, qk, hst, hti, hpl⟩
    have Ty := Aside0.mk (And.intro hst (And.intro hti hpl))
    clear hst hti hpl
    replace RN := Aside0.mk (NG.kp RN.out qk)
    replace HK := kkT HK qk
    replace HS := Aside0.mk q1
    have FY := Aside0.mk (FK62 l4 r4 l5 r5 l6 r6)
    clear q1 qk r4 r5 r6
    have hll : (l.length + 1) * 120 ≤ 140737488355328 := by
     have h1 := HLE.out.2.2
     have h2 := HC2.out
     have h3 := HFW.out
     unfold Ll at h1
     simp only [Bool.toNat_false] at h1 h2
     omega
    have HLL := Aside0.mk hll
    clear hll
    go_wp2_with ((with_reducible refine gate_builtin (b := .append) (xs := #[.tmp 16, .tmp 19]) rfl ?_); at_builtin; refine NG_append (E := E) (s' := t2) (z := E.g) k62 (w0 := wy) w.heap.size rfl (.tmp 16) (.tmp 19) 56 62 (.agg z62v) 120 rfl Try.underlying56 info62 rfl (by decide) (by decide) (.slice Al l.length cl) l y [.int .i64 y.f0, .int .i64 y.f1, .string y.f2, .string y.f3, .slice A4 y.f4.length c4, .slice A5 y.f5.length c5, .slice A6 y.f6.length c6] rfl (by first | (go_simp; done) | (go_simp; rfl)) (Kd.FK_mono FY.out (fun k hk => ⟨GD.lower Lv.out.1 hk, fun e => by have h1 := Lv.out.2 k e.symm; have h2 := hk.1; omega⟩)) HS.out (by decide) (by decide) rfl RN.out (Below.refl _ _) HK.out.2 HLL.out ?_; intro va w2 q1 q2 q3 _; obtain ⟨Aa, ca, rfl⟩ := Kd.N_slice q1; have K1 := Aside0.mk q1; have typ := Kd.N_typed RN.out; have K2 := Aside0.mk (ST.grown HS.out q3 (HS.out.below.trans (q2.mono HSB.out)) (fun g hg => by obtain ⟨c, hc⟩ := typ g hg; exact ⟨c, 62, hc, by decide, by decide⟩)); have K3 := Aside0.mk (KP.grown HK.out q3 (fun g hg => Kd.N_base RN.out g hg)); clear q1 q2 q3 typ)
    obtain ⟨m, hm, hgo⟩ := HG.out.2
    obtain ⟨j1, j2⟩ := hgo y t2 Ty.out.1
    have K4 := Aside0.mk j1
    have K5 := Aside0.mk (show ∀ y u, _ → Step ta (blockL E st (E.ts.length + 1) [] ta.i) y u from fun y u q => HC.out y u (j2 y u q))
    have K6 := Aside0.mk (show ta.i ≤ t2.i ∧ Pl t2 ∧ Ll t2 (l ++ [y]).length from ⟨Nat.le_trans HLE.out.1 Ty.out.2.1, Ty.out.2.2, by rw [List.length_append]; exact Ll.next (E := E) (st := st) (s := ⟨i, false, ps⟩) HLE.out.2.2 rfl Ty.out.1 Ty.out.2.1 HAD.out⟩)
    have HM := Aside0.mk hm
    clear hgo j1 j2 HG HC HLE Ty FY Lv HE hm HIH HAD HN N1 RN HS HK HLL HC2 HFW
    go_roundg m
    case measure => rw [HM.out]; exact Nat.lt_succ_self _
    case rel => exact ⟨t2, l ++ [y], Aa, ca, (by first | rfl | (rw [List.length_append]; rfl)), K2, K3, K1, K4, K5, K6⟩
theorem block_bad (E : Env) (r : Nat → Res (List S62)) (s : Cs) (w : World) (h : ST E s w) (hp : Pl s) (hb : s.bad = true) : Calls Try.prog 39 #[.pointer (some ⟨E.g, 0, none⟩)] w (GotB E s w (r s.i) (VB E w)) := by
 refine (block_c E (fun _ => .out) (fun _ _ _ _ _ h => absurd rfl h) (fun _ _ _ _ h => by cases h) s w h hp (fun h => by rw [hb] at h; cases h)).mono ?_
 rintro e w' ⟨x, v, t, h1, h2, h3, h4, h5, h6, h7⟩
 obtain ⟨a, b⟩ := h5.1 hb
 exact ⟨x, v, t, h1, h2, h3, h4, Step.bad hb a b, h6, h7⟩
theorem block_all (E : Env) (ke : Nat) : ∀ k, FullB E (blockF E ke k)
 | 0 => fun s w h hp hn => by
  have hb : s.bad = true := by
   cases hbad : s.bad with
   | true => rfl
   | false => exact absurd rfl (hn hbad)
  exact block_bad E (blockF E ke 0) s w h hp hb
 | k + 1 => fun s w h hp hn => block_c E (stmtQ E ke (blockF E ke k)) (stmt_c E ke (blockF E ke k) (block_all E ke k)) (stmt_adv' (block_adv E ke k)) s w h hp hn
end Go.Proofs.Ytinnldfmbeafiaa.PA.D
