/- The document's cursor: a program; walked by hand. -/
import Derived.Test.YtinnldfmbeafiaaDG
namespace Go.Proofs.Ytinnldfmbeafiaa.PA.D
open Go.RowKit Go.Proofs.YtinnldfmbeafiaaW.PrintWords Go.Proofs.YtinnldfmbeafiaaW.PrintLast Go.Proofs.YtinnldfmbeafiaaW.PrintMore
set_option linter.unusedVariables false
set_option linter.unusedSimpArgs false
attribute [local go_sem] cell_set_some fld53_0 fld53_1 fld53_2 fld53_3
theorem zDHq1 {p : Prop} (h : p := by kernel_rfl) : p := h
theorem zDHq2 {p : Prop} (h : p := by decide) : p := h
theorem zDHq3 {p : Prop} (h : p := by simp only [List.length_append, List.length_cons, List.length_nil]; rfl) : p := h
section
variable {E : Env} {s t : Cs} {w w1 : World} {α : Type} {d : Kd α} {z b tt n e : Nat} {A : Option Addr} {xs : List α} {row : Option Nat} {v : Value}
theorem NG.skip {g : Nat} (h : Kd.N d e w b (GD E z b w) v xs) (hg : w.heap.size ≤ g) : Kd.N d e w b (GD E g b w) v xs :=
 Kd.N_mono (Kd.N_bound h) (fun k hk => ⟨hk.1.1, hk.1.2.1, hk.1.2.2.1, by have := hk.2; omega⟩)
theorem NG.any (h : Kd.N d e w b (GD E z b w) v xs) : Kd.N d e w b (GD E E.g b w) v xs := Kd.N_mono h (fun k hk => ⟨hk.1, hk.2.1, hk.2.2.1, hk.2.1⟩)
theorem FT.to (h : Kd.F d w (fun k => GD E z b w k ∧ k < tt) A n xs) (hm : ∀ k, GD E z b w k → k < tt → k < w.heap.size → w1.heap[k]? = w.heap[k]?) : Kd.F d w1 (fun k => GD E z b w1 k ∧ k < tt) A n xs :=
 Kd.F_mono (Kd.F_step (Kd.F_bound h) (fun k hk _ => hm k hk.1.1 hk.1.2 hk.2)) (fun k hk => ⟨⟨hk.1.1.1, hk.1.1.2.1, fun c fz => (by rw [hm k hk.1.1 hk.1.2 hk.2]; exact hk.1.1.2.2.1 c fz), hk.1.1.2.2.2⟩, hk.1.2⟩)
theorem FT.kp (h : Kd.F d w (fun k => GD E z b w k ∧ k < tt) A n xs) (hk : KP E w w1) : Kd.F d w1 (fun k => GD E z b w1 k ∧ k < tt) A n xs := FT.to h (fun k a _ c => hk.gd k a c)
theorem FT.only {g : Nat} (h : Kd.F d w (fun k => GD E z b w k ∧ k < tt) A n xs) (ho : Only g w w1) (hg : g < b ∨ g = z) : Kd.F d w1 (fun k => GD E z b w1 k ∧ k < tt) A n xs := FT.to h (fun k a _ c => ho.gd hg k a c)
theorem FT.grown (h : Kd.F d w (fun k => GD E z b w k ∧ k < tt) A n xs) (hg : w.grownBy w1 row) (hr : ∀ g, row = some g → tt ≤ g) : Kd.F d w1 (fun k => GD E z b w1 k ∧ k < tt) A n xs := FT.to h (fun k _ b c => hg.block k c (fun e => by
 have := hr k e.symm
 omega))
theorem askT (hb : s.bad = false) (h : isT E s.i ⟨#[102, 111, 114, 97, 108, 108]⟩ = true) : Step s (askQ E s.i) 2 ⟨s.i + 1, false, s.ps⟩ := by
 refine Step.good (j := s.i + 1) (q := []) hb ?_ (by simp)
 have h2 : isT E s.i ⟨#[101, 120, 105, 115, 116, 115]⟩ = false := by
  cases hx : isT E s.i ⟨#[101, 120, 105, 115, 116, 115]⟩ with
  | false => rfl
  | true =>
   have a := (isT_iff.mp h).2
   rw [(isT_iff.mp hx).2] at a
   exact absurd a (by rw [Go.Lib.toList_data, Go.Lib.toList_data]; decide)
 unfold askQ
 rw [if_neg (by rw [h2]; decide)]
 unfold mustP
 rw [if_pos h]
 rfl
theorem askF (h : isB E s ⟨#[102, 111, 114, 97, 108, 108]⟩ = false) (k : Step s (mustP E ⟨#[101, 120, 105, 115, 116, 115]⟩ s.i) () t) : Step s (askQ E s.i) 1 t := by
 refine ⟨k.1, fun hb => ?_⟩
 have h1 := isB_good hb _ h
 have e1 : ∀ b, isT E s.i ⟨#[101, 120, 105, 115, 116, 115]⟩ = b → mustP E ⟨#[101, 120, 105, 115, 116, 115]⟩ s.i = (if b = true then .ok () (s.i + 1) [] else .fail s.i) := fun b hb => by unfold mustP; rw [hb]
 unfold askQ
 cases hx : isT E s.i ⟨#[101, 120, 105, 115, 116, 115]⟩ with
 | true =>
  rw [if_pos rfl]
  have k2 := k.2 hb
  rw [e1 _ hx, if_pos rfl] at k2
  rcases k2 with ⟨p, e, _, _⟩ | ⟨j, q, e, e3⟩
  ·cases e
  ·injection e with _ e4 e5
   subst e4 e5
   exact .inr ⟨_, [], rfl, e3⟩
 | false =>
  rw [if_neg (zDHq2)]
  have k2 := k.2 hb
  rw [e1 _ hx, if_neg (zDHq2)] at k2
  rcases k2 with ⟨p, e, h3, h4⟩ | ⟨j, q, e, e3⟩
  ·injection e with e
   subst e
   refine .inl ⟨s.i, ?_, h3, h4⟩
   unfold mustP
   rw [if_neg (by rw [h1]; decide)]
   rfl
  ·cases e
end
def programT.T2 : Bool × List (List Nat × List Nat) := (true, [([], []), ([], []), ([1], [1]), ([2], [2]), ([3], [3]), ([], []), ([5], [5]), ([6], [6]), ([7], [7]), ([], []), ([9], [9]), ([10], [10]), ([11], [11]), ([8, 12], [8, 12]), ([13], [13]), ([14], [14]), ([15], [15]), ([4, 16], [4, 16]), ([0, 0, 1, 2, 3, 4, 5, 6, 7, 8, 9, 10, 11, 12, 13, 14, 15, 16, 17], [0]), ([18, 0, 1, 2, 3, 4, 5, 6, 7, 8, 9, 10, 11, 12, 13, 14, 15, 16, 17], [18]), ([19, 17, 17, 0, 1, 2, 3, 4, 5, 6, 7, 8, 9, 10, 11, 12, 13, 14, 15, 16, 17], [17, 19])])
def programT.B2 : List Nat := [0, 0, 2, 6, 14, 0, 32, 96, 224, 0, 512, 1536, 3584, 8160, 16352, 32736, 65504, 131070, 262143, 524287, 1048575]
theorem programT.tab2 : rtab .any (opsOf Try.f19 2) = programT.T2 := by kernel_rfl
theorem programT.bits2 : waitsOk programT.T2.2 programT.B2 = true := by kernel_rfl
def programT.T8 : Bool × List (List Nat × List Nat) := (true, [([], []), ([], []), ([1], [1]), ([2], [2]), ([3], [3]), ([], []), ([5], [5]), ([6], [6]), ([7], [7]), ([], []), ([9], [9]), ([10], [10]), ([11], [11]), ([8, 12], [8, 12]), ([13], [13]), ([14], [14]), ([15], [15]), ([4, 16], [4, 16]), ([0, 0, 1, 2, 3, 4, 5, 6, 7, 8, 9, 10, 11, 12, 13, 14, 15, 16, 17], [0]), ([18, 0, 1, 2, 3, 4, 5, 6, 7, 8, 9, 10, 11, 12, 13, 14, 15, 16, 17], [18]), ([19, 17, 17, 0, 1, 2, 3, 4, 5, 6, 7, 8, 9, 10, 11, 12, 13, 14, 15, 16, 17], [17, 19])])
def programT.B8 : List Nat := [0, 0, 2, 6, 14, 0, 32, 96, 224, 0, 512, 1536, 3584, 8160, 16352, 32736, 65504, 131070, 262143, 524287, 1048575]
theorem programT.tab8 : rtab .any (opsOf Try.f19 8) = programT.T8 := by kernel_rfl
theorem programT.bits8 : waitsOk programT.T8.2 programT.B8 = true := by kernel_rfl
def programT.T15 : Bool × List (List Nat × List Nat) := (true, [([], []), ([0], [0]), ([], []), ([2], [2]), ([3], [3]), ([1, 4, 3], [1, 4]), ([0, 1, 2, 3, 4, 5], []), ([6, 5, 5, 0, 1, 2, 3, 4, 5], [5, 6])])
def programT.B15 : List Nat := [0, 1, 0, 4, 12, 31, 63, 127]
theorem programT.tab15 : rtab .any (opsOf Try.f19 15) = programT.T15 := by kernel_rfl
theorem programT.bits15 : waitsOk programT.T15.2 programT.B15 = true := by kernel_rfl
def programT.T16 : Bool × List (List Nat × List Nat) := (true, [([], []), ([], []), ([1], [1]), ([2], [2]), ([3], [3]), ([], []), ([5], [5]), ([6], [6]), ([7], [7]), ([], []), ([9], [9]), ([10], [10]), ([11], [11]), ([8, 12], [8, 12]), ([13], [13]), ([14], [14]), ([15], [15]), ([4, 16], [4, 16]), ([0, 0, 1, 2, 3, 4, 5, 6, 7, 8, 9, 10, 11, 12, 13, 14, 15, 16, 17], [0]), ([18, 0, 1, 2, 3, 4, 5, 6, 7, 8, 9, 10, 11, 12, 13, 14, 15, 16, 17], [18]), ([19, 17, 17, 0, 1, 2, 3, 4, 5, 6, 7, 8, 9, 10, 11, 12, 13, 14, 15, 16, 17], [17, 19])])
def programT.B16 : List Nat := [0, 0, 2, 6, 14, 0, 32, 96, 224, 0, 512, 1536, 3584, 8160, 16352, 32736, 65504, 131070, 262143, 524287, 1048575]
theorem programT.tab16 : rtab .any (opsOf Try.f19 16) = programT.T16 := by kernel_rfl
theorem programT.bits16 : waitsOk programT.T16.2 programT.B16 = true := by kernel_rfl
set_option maxHeartbeats 8000000 in
set_option maxRecDepth 100000 in
theorem prog_c (E : Env) (kc ke kb i0 : Nat) (w : World) (h : ST E ⟨i0, false, []⟩ w) (hn : Ne ⟨i0, false, []⟩ (progP E kc ke kb i0)) : Calls Try.prog 19 #[.pointer (some ⟨E.g, 0, none⟩)] w (GotP E ⟨i0, false, []⟩ w (progP E kc ke kb i0)) := by
 have hu65 := Try.underlying65
 have hu29 := Try.underlying29
 have hu53 := Try.underlying53
 have hu68 := Try.underlying68
 have HN := Aside0.mk hn
 clear hn
 have HSB := Aside0.mk (show E.w0.heap.size ≤ w.heap.size from h.below.size)
 have HS := Aside0.mk h
 have HK := Aside0.mk (KP.refl E w)
 clear h
 go_enter Try.func19, Try.ntmps19
 go_upto_region 2 with (first | ((with_reducible refine gate_dst (N := 2) rfl ?_); refine bbX (N := 2) z29v 29 ?hr ?_; (case hr => first | (go_simp; done) | (go_simp; rfl)); intro g2 hg_ w2 hbox_ hq_; have G2 := Aside0.mk (show w.heap.size ≤ g2 from by rw [hg_.out]; exact HK.out.2); have H2 := Aside0.mk hbox_; replace HK := kkB HK hq_; replace HS := ssM HS hq_; clear hg_ hbox_ hq_) | ((with_reducible refine gate_dst (N := 3) rfl ?_); refine bbX (N := 3) z29v 29 ?hr ?_; (case hr => first | (go_simp; done) | (go_simp; rfl)); intro g3 hg_ w3 hbox_ hq_; have G3 := Aside0.mk (show w.heap.size ≤ g3 from by rw [hg_.out]; exact HK.out.2); have N2_3 := Aside0.mk (ne_new H2.out hg_.out); have LT2_3 := Aside0.mk (lt_new H2.out hg_.out); have H3 := Aside0.mk hbox_; replace H2 := mvB hq_ H2; replace HK := kkB HK hq_; replace HS := ssM HS hq_; clear hg_ hbox_ hq_))
 replace H2 := mvB (below_drew (Below.refl _ _)) H2
 replace H3 := mvB (below_drew (Below.refl _ _)) H3
 replace HK := kkB HK (below_drew (Below.refl _ _))
 replace HS := ssM HS (below_drew (Below.refl _ _))
 obtain ⟨ad, hA, y0, y1, y2, y3⟩ := HS.out.tok
 have c0 := HS.out.c0; have c1 := HS.out.c1
 rw [hA] at c0
 have p1 := eq_true (show (i0 : Int) < (E.ts.length : Int) from Int.ofNat_lt.mpr HS.out.lt)
 have p2 := eq_true (show i0 < E.ts.length from HS.out.lt)
 have p0 := eq_true (show 0 ≤ (i0 : Int) from Int.natCast_nonneg _)
 clear hA
 have hl : (⟨i0, false, []⟩ : Cs).ps.length ≤ 1000000 := (Nat.zero_le _)
 obtain ⟨hB_, v_, hbk_, hR_, hne_⟩ := HS.out.cu
 obtain ⟨A3, c3, rfl⟩ := Kd.R_slice hR_
 have HBk := Aside0.mk hbk_
 have HR3 := Aside0.mk hR_
 have HE3 := Aside0.mk hne_
 clear hbk_ hR_ hne_
 refine start_ (n := 21) (S := fun w' => w'.cell? ⟨E.g, 3, none⟩ = some (.slice A3 (⟨i0, false, []⟩ : Cs).ps.length c3) ∧ w'.cell? ⟨E.g, 0, none⟩ = some (.slice (some ad) E.ts.length E.c) ∧ w'.cell? ⟨E.g, 1, none⟩ = some (.int .i64 (i0 : Int)) ∧ w'.cell? ⟨(ad.add (i0 * 4)).block, (ad.add (i0 * 4)).off + 3, none⟩ = some (.int .i64 (E.tk i0).f3)) (ds := [17, 20]) #[Z,Z,Z,Z,Z,Z,Z,Z,Z,Z,Z,Z,Z,Z,Z,Z,Z,Z,Z,Z,Z] (zDHq1) rfl rfl ⟨(blk_celln HBk.out 3 _ rfl), c0, c1, y3⟩ (fun hHeld => ?_)
 refine with_tabW programT.tab2 programT.bits2 (fun HT_ HW_ => ?_)
 generalize World.drew _ = wd at HS HK HBk HR3 c0 c1 y0 y1 y2 y3 H2 H3  hHeld ⊢
 refine ppU (i := 0) (N := some 5) #[Y,Z,Z,Z,Z,Z,Z,Z,Z,Z,Z,Z,Z,Z,Z,Z,Z,Z,Z,Z,Z] HT_ ?_
 refine ppU (i := 1) (N := some 6) #[Y,Y,Z,Z,Z,Z,Z,Z,Z,Z,Z,Z,Z,Z,Z,Z,Z,Z,Z,Z,Z] HT_ ?_
 refine ppU (i := 2) (N := some 7) #[Y,Y,Y,Z,Z,Z,Z,Z,Z,Z,Z,Z,Z,Z,Z,Z,Z,Z,Z,Z,Z] HT_ ?_
 refine ppU (i := 3) (N := some 8) #[Y,Y,Y,Y,Z,Z,Z,Z,Z,Z,Z,Z,Z,Z,Z,Z,Z,Z,Z,Z,Z] HT_ ?_
 refine take_ (i := 4) (N := some 9) (v := ?_) (a' := ?_) #[Y,Y,Y,Y,Y,Z,Z,Z,Z,Z,Z,Z,Z,Z,Z,Z,Z,Z,Z,Z,Z] rfl rfl (take_ofW HT_.out HW_.out (zDHq1)) (fun _ _ _ h => h) (Or.inl ⟨by rfl, ?_⟩) hHeld ?_ ?_
 rotate_left
 ·rintro w' ⟨s0, s1, s2, s3⟩
  go_simp
  with_reducible rfl
 rotate_left
 ·simp only [Act.put, pA, pB, pC, i64_w, i32_w]
  rfl
 refine ppU (i := 5) (N := some 10) #[Y,Y,Y,Y,Y,Y,Z,Z,Z,Z,Z,Z,Z,Z,Z,Z,Z,Z,Z,Z,Z] HT_ ?_
 refine ppU (i := 6) (N := some 11) #[Y,Y,Y,Y,Y,Y,Y,Z,Z,Z,Z,Z,Z,Z,Z,Z,Z,Z,Z,Z,Z] HT_ ?_
 refine ppU (i := 7) (N := some 12) #[Y,Y,Y,Y,Y,Y,Y,Y,Z,Z,Z,Z,Z,Z,Z,Z,Z,Z,Z,Z,Z] HT_ ?_
 refine take_ (i := 8) (N := some 13) (v := ?_) (a' := ?_) #[Y,Y,Y,Y,Y,Y,Y,Y,Y,Z,Z,Z,Z,Z,Z,Z,Z,Z,Z,Z,Z] rfl rfl (take_ofW HT_.out HW_.out (zDHq1)) (fun _ _ _ h => h) (Or.inl ⟨by rfl, ?_⟩) hHeld ?_ ?_
 rotate_left
 ·rintro w' ⟨s0, s1, s2, s3⟩
  go_simp
  with_reducible rfl
 rotate_left
 ·simp only [Act.put, pA, pB, pC, i64_w, i32_w]
  rfl
 refine ppU (i := 9) (N := some 14) #[Y,Y,Y,Y,Y,Y,Y,Y,Y,Y,Z,Z,Z,Z,Z,Z,Z,Z,Z,Z,Z] HT_ ?_
 refine ppU (i := 10) (N := some 15) #[Y,Y,Y,Y,Y,Y,Y,Y,Y,Y,Y,Z,Z,Z,Z,Z,Z,Z,Z,Z,Z] HT_ ?_
 refine ppU (i := 11) (N := some 16) #[Y,Y,Y,Y,Y,Y,Y,Y,Y,Y,Y,Y,Z,Z,Z,Z,Z,Z,Z,Z,Z] HT_ ?_
 refine take_ (i := 12) (N := some 17) (v := ?_) (a' := ?_) #[Y,Y,Y,Y,Y,Y,Y,Y,Y,Y,Y,Y,Y,Z,Z,Z,Z,Z,Z,Z,Z] rfl rfl (take_ofW HT_.out HW_.out (zDHq1)) (fun _ _ _ h => h) (Or.inl ⟨by rfl, ?_⟩) hHeld ?_ ?_
 rotate_left
 ·rintro w' ⟨s0, s1, s2, s3⟩
  go_simp
  with_reducible rfl
 rotate_left
 ·simp only [Act.put, pA, pB, pC, i64_w, i32_w]
  rfl
 refine ppU (i := 13) (N := some 18) #[Y,Y,Y,Y,Y,Y,Y,Y,Y,Y,Y,Y,Y,Y,Z,Z,Z,Z,Z,Z,Z] HT_ ?_
 refine ppU (i := 14) (N := some 19) #[Y,Y,Y,Y,Y,Y,Y,Y,Y,Y,Y,Y,Y,Y,Y,Z,Z,Z,Z,Z,Z] HT_ ?_
 refine take_ (i := 15) (N := some 20) (v := ?_) (a' := ?_) #[Y,Y,Y,Y,Y,Y,Y,Y,Y,Y,Y,Y,Y,Y,Y,Y,Z,Z,Z,Z,Z] rfl rfl (take_ofW HT_.out HW_.out (zDHq1)) (fun _ _ _ h => h) (Or.inl ⟨by rfl, ?_⟩) hHeld ?_ ?_
 rotate_left
 ·rintro w' ⟨s0, s1, s2, s3⟩
  go_simp
  with_reducible rfl
 rotate_left
 ·simp only [Act.put, pA, pB, pC, i64_w, i32_w]
  rfl
 refine one_ (i := 16) (N := some 21) #[Y,Y,Y,Y,Y,Y,Y,Y,Y,Y,Y,Y,Y,Y,Y,Y,Y,Z,Z,Z,Z] rfl rfl (one_of HT_.out (zDHq1)) (zDHq2) (fun K hK => ?_)
 refine value_ (w1 := ?_) (v := ?_) (by rfl) rfl ?_ ?_
 rotate_left 2
 ·go_simp
  constructor
  ·rfl
  ·rfl
 refine hK.out _ _ ⟨(World.cell?_alloc_lt _ _ _ (World.block_lt_of_cell? _ _ (blk_celln HBk.out 3 _ rfl))).trans (blk_celln HBk.out 3 _ rfl), (World.cell?_alloc_lt _ _ _ (World.block_lt_of_cell? _ _ c0)).trans c0, (World.cell?_alloc_lt _ _ _ (World.block_lt_of_cell? _ _ c1)).trans c1, (World.cell?_alloc_lt _ _ _ (World.block_lt_of_cell? _ _ y3)).trans y3⟩ (fun hHeld => ?_)
 clear hK K
 refine norm_ (a' := ?_) ?_ ?_
 rotate_left
 ·show Act.put _ (some 21) _ = _
  simp only [Act.put, pA, pB, pC, i64_w, i32_w]
  rfl
 refine last_ (i := 17) (N := some 22) #[Y,Y,Y,Y,Y,Y,Y,Y,Y,Y,Y,Y,Y,Y,Y,Y,Y,Y,Z,Z,Z] rfl rfl (one_of HT_.out (zDHq1)) (zDHq2) (fun K hK => ?_)
 refine Kd.R_append_step (Kd.int .i64) (w0 := E.w0) E.w0.heap.size (by rfl) (.tmp 9) (.tmp 21) 35 3 (.int .i64 0) 8 rfl Try.underlying35 info3 rfl (zDHq2) (zDHq2) (.slice A3 (⟨i0, false, []⟩ : Cs).ps.length c3) (⟨i0, false, []⟩ : Cs).ps (E.tk i0).f3 [.int .i64 (E.tk i0).f3] (fun _ => True) (fun _ => False) rfl rfl rfl (fun _ hk => hk.elim) (fun _ _ => trivial) HR3.out HS.out.below HS.out.below.size (by omega) ?_
 intro v4 w2 q1 q2 q3 _
 obtain ⟨A4, c4, rfl⟩ := Kd.R_slice q1
 rw [show ((⟨i0, false, []⟩ : Cs).ps ++ [(E.tk i0).f3]).length = (⟨i0, false, []⟩ : Cs).ps.length + 1 from by simp] at q1 ⊢
 refine hK.out _ _ ?_
 clear hK K
 refine norm_ (a' := ?_) ?_ ?_
 rotate_left
 ·show Act.put _ (some 22) _ = _
  simp only [Act.put, pA, pB, pC, i64_w, i32_w]
  rfl
 have hb2 := blk_grown HBk.out q3 (fun e => HE3.out e.symm)
 refine ppU (i := 18) (N := some 23) #[Y,Y,Y,Y,Y,Y,Y,Y,Y,Y,Y,Y,Y,Y,Y,Y,Y,Y,Y,Z,Z] HT_ ?_
 refine ppU (i := 19) (N := some 24) #[Y,Y,Y,Y,Y,Y,Y,Y,Y,Y,Y,Y,Y,Y,Y,Y,Y,Y,Y,Y,Z] HT_ ?_
 refine last_ (i := 20) (N := none) #[Y,Y,Y,Y,Y,Y,Y,Y,Y,Y,Y,Y,Y,Y,Y,Y,Y,Y,Y,Y,Y] rfl rfl (one_of HT_.out (zDHq1)) (zDHq2) (fun K hK => ?_)
 have hs3 := blk_celln hb2 3 _ rfl
 have hf3 := blk_frozen hb2 3
 refine skip_ (w1 := ?_) (by rfl) rfl ?_ ?_
 rotate_left
 ·go_simp
  rfl
 refine hK.out _ _ ?_
 clear hK K
 refine done_ (done_of HT_.out (zDHq1)) ?_
 have hn4 := fun e => Kd.R_ne q1 hb2 (zDHq2) (Eq.symm e)
 have typ := fun g hg => (Kd.R_typed HR3.out g hg)
 clear hHeld hs3 hf3 c0 c1 y0 y1 y2 y3 p0 p1 p2
 have qq : ST E ⟨i0, (⟨i0, false, []⟩ : Cs).bad, (⟨i0, false, []⟩ : Cs).ps ++ [(E.tk i0).f3]⟩ (w2.setCell ⟨E.g, 3, none⟩ (.slice A4 ((⟨i0, false, []⟩ : Cs).ps.length + 1) c4)) := ⟨HS.out.ok, HS.out.ok2, ⟨hB_, _, blk_put hb2 3 _ (zDHq3), ints_move (by simpa using q1) (fun k hk => Below.heap_setCell _ ⟨E.g, 3, none⟩ _ k (fun e => hn4 (by rw [hk, e]))), hn4⟩, q2.setCell (p := ⟨E.g, 3, none⟩) hB_ _, HS.out.lt⟩
 have qk : KP E wd (w2.setCell ⟨E.g, 3, none⟩ (.slice A4 ((⟨i0, false, []⟩ : Cs).ps.length + 1) c4)) := ⟨((Lib.OthersKept.refl 3 (some E.g) _).grown q3 (fun g hg => by obtain ⟨c, hc⟩ := typ g hg; exact ⟨c, (0, 0), hc⟩)).setCell ⟨E.g, 3, none⟩ rfl _, by simpa [World.setCell] using q3.size⟩
 generalize hW_ : w2.setCell ⟨E.g, 3, none⟩ _ = wm at qq qk ⊢
 clear hW_ hb2 hn4 typ q1 q2 q3 HBk HR3 HE3 hl
 have q1 := qq
 clear qq
 replace H2 := mvK qk HS H2
 replace H3 := mvK qk HS H3
 replace HK := kkT HK qk
 replace HS := Aside0.mk q1
 clear q1 qk
 obtain ⟨p0, hp0⟩ : ∃ p0, (E.tk i0).f3 = p0 := ⟨_, rfl⟩
 have HP0 := Aside0.mk hp0
 replace HS : Aside0 (ST E ⟨i0, false, [p0]⟩ wm) := ⟨hp0 ▸ HS.out⟩
 have S1 := Aside0.mk (show Step ⟨i0, false, []⟩ (markP E i0) () ⟨i0, false, [p0]⟩ from hp0 ▸ Step.mark E ⟨i0, false, []⟩)
 clear hp0 HP0 hB_
 replace HN := Aside0.mk (show Ne ⟨i0, false, [p0]⟩ (prog2 E kc ke kb i0) from Ne.next (f := fun _ i => prog2 E kc ke kb i) HN.out S1.out)
 have HPL := Aside0.mk (show Pl ⟨i0, false, [p0]⟩ from by show 1 ≤ i0 + 1 + 0; omega)
 go_wp2_with (fail)
 have hW := must_c E ⟨i0, false, [p0]⟩ ⟨#[108, 105, 116, 109, 117, 115]⟩ _ HS.out
 refine hW.mono ?_
 clear hW
 rintro e wa ⟨_, va, ta, rfl, rfl, q1, qk, hst, hti, hps⟩
 have Ta := Aside0.mk (And.intro hst (And.intro hti hps))
 clear hst hti hps
 replace H2 := mvK qk HS H2
 replace H3 := mvK qk HS H3
 replace HK := kkT HK qk
 replace HS := Aside0.mk q1
 clear q1 qk
 replace HN := Aside0.mk (show Ne ta (prog3 E kc ke kb ta.i) from Ne.next (f := fun _ i => prog3 E kc ke kb i) HN.out Ta.out.1)
 replace HPL := Aside0.mk (Pl.got HPL.out Ta.out.1 Ta.out.2.1 Ta.out.2.2)
 go_wp2_with (fail)
 have hW := name_c E ta _ HS.out
 refine hW.mono ?_
 clear hW
 rintro e wn ⟨n, vn, tn, rfl, rfl, q1, qk, hst, hti, hps⟩
 have Tn := Aside0.mk (And.intro hst (And.intro hti hps))
 clear hst hti hps
 replace H2 := mvK qk HS H2
 replace H3 := mvK qk HS H3
 replace HK := kkT HK qk
 replace HS := Aside0.mk q1
 clear q1 qk
 replace HN := Aside0.mk (show Ne tn (prog4 E kc ke kb n tn.i) from Ne.next (f := fun n i => prog4 E kc ke kb n i) HN.out Tn.out.1)
 replace HPL := Aside0.mk (Pl.got HPL.out Tn.out.1 Tn.out.2.1 Tn.out.2.2)
 have zk := blk_celln H3.out 0 _ rfl; have fk := blk_frozen H3.out 0
 go_upto_region 5 with (fail)
 obtain ⟨F1_, F2_⟩ := set1 H3.out 0 (.string n) (cs' := #[.string n, .int .i64 0, .slice none 0 0, .slice none 0 0, .int .i64 0, .int .i64 0, .int .i64 0, .string ⟨#[]⟩, .int .i64 0, .slice none 0 0]) rfl
 generalize hW_ : World.setCell _ ⟨g3, 0, none⟩ (.string n) = wq at F1_ F2_ ⊢
 clear hW_ zk fk
 replace HS := ssO HS H3 HSB G3 F2_
 replace HK := kkO HK G3 F2_
 replace H2 := Aside0.mk ((F2_.block g2 (N2_3.out)).trans H2.out)
 replace H3 := Aside0.mk F1_
 clear F1_ F2_
 go_wp2_with (fail)
 have hW := must_c E tn ⟨#[118, 97, 108, 117, 101, 115]⟩ _ HS.out
 refine hW.mono ?_
 clear hW
 rintro e wb ⟨_, vb, tb, rfl, rfl, q1, qk, hst, hti, hps⟩
 have Tb := Aside0.mk (And.intro hst (And.intro hti hps))
 clear hst hti hps
 replace H2 := mvK qk HS H2
 replace H3 := mvK qk HS H3
 replace HK := kkT HK qk
 replace HS := Aside0.mk q1
 clear q1 qk
 replace HN := Aside0.mk (show Ne tb (prog5 E kc ke kb n tb.i) from Ne.next (f := fun _ i => prog5 E kc ke kb n i) HN.out Tb.out.1)
 replace HPL := Aside0.mk (Pl.got HPL.out Tb.out.1 Tb.out.2.1 Tb.out.2.2)
 go_wp2_with (fail)
 have hW := number_c E tb _ HS.out
 refine hW.mono ?_
 clear hW
 rintro e wv ⟨v, vv, tv, rfl, rfl, q1, qk, hst, hti, hps⟩
 have Tv := Aside0.mk (And.intro hst (And.intro hti hps))
 clear hst hti hps
 replace H2 := mvK qk HS H2
 replace H3 := mvK qk HS H3
 replace HK := kkT HK qk
 replace HS := Aside0.mk q1
 clear q1 qk
 replace HN := Aside0.mk (show Ne tv (midP E kc ke kb n v tv.i) from Ne.next (f := fun v i => midP E kc ke kb n v i) HN.out Tv.out.1)
 replace HPL := Aside0.mk (Pl.got HPL.out Tv.out.1 Tv.out.2.1 Tv.out.2.2)
 have zk := blk_celln H3.out 1 _ rfl; have fk := blk_frozen H3.out 1
 go_wp2_with (fail)
 obtain ⟨F1_, F2_⟩ := set1 H3.out 1 (.int .i64 v) (cs' := #[.string n, .int .i64 v, .slice none 0 0, .slice none 0 0, .int .i64 0, .int .i64 0, .int .i64 0, .string ⟨#[]⟩, .int .i64 0, .slice none 0 0]) rfl
 generalize hW_ : World.setCell _ ⟨g3, 1, none⟩ (.int .i64 v) = wq at F1_ F2_ ⊢
 clear hW_ zk fk
 replace HS := ssO HS H3 HSB G3 F2_
 replace HK := kkO HK G3 F2_
 replace H2 := Aside0.mk ((F2_.block g2 (N2_3.out)).trans H2.out)
 replace H3 := Aside0.mk F1_
 clear F1_ F2_
 have S5 := Aside0.mk (show ∀ y u, Step tv (midP E kc ke kb n v tv.i) y u → Step ⟨i0, false, []⟩ (progP E kc ke kb i0) y u from fun y u q => Step.bind (f := fun _ i => prog2 E kc ke kb i) S1.out (Ta.out.1.bind (f := fun _ i => prog3 E kc ke kb i) (Tn.out.1.bind (f := fun n i => prog4 E kc ke kb n i) (Tb.out.1.bind (f := fun _ i => prog5 E kc ke kb n i) (Tv.out.1.bind (f := fun v i => midP E kc ke kb n v i) q)))))
 clear S1 Ta Tn Tb Tv
 go_loopg [] (E.ts.length + 1) (fun kq w' => ∃ (sc : Cs) (l : List S68) (A1 : Option Addr) (c1 : Nat), Aside0 (ST E sc w') ∧ Aside0 (KP E w w') ∧ Aside0 (w'.heap[g2]? = some (.cells z29v 29 (0, 0))) ∧ Aside0 (w'.heap[g3]? = some (.cells #[.string n, .int .i64 v, .slice A1 l.length c1, .slice none 0 0, .int .i64 0, .int .i64 0, .int .i64 0, .string ⟨#[]⟩, .int .i64 0, .slice none 0 0] 29 (0, 0))) ∧ Aside0 (Kd.N k68 68 w' (g3 + 1) (GD E E.g (g3 + 1) w') (.slice A1 l.length c1) l) ∧ Aside0 (Ne sc (initL E kq l sc.i)) ∧ Aside0 (∀ y u, Step sc (initL E kq l sc.i) y u → Step tv (initL E (E.ts.length + 1) [] tv.i) y u) ∧ Aside0 (l.length ≤ sc.i + sc.bad.toNat ∧ Pl sc))
 case atStart => exact ⟨tv, [], none, 0, HS, HK, H2, H3, ⟨Kd.N_nil _ _ _ _ _⟩, ⟨Ne.first HN.out⟩, ⟨fun y u q => q⟩, ⟨Nat.zero_le _, HPL.out⟩⟩
 case round =>
  clear HS HK H2 H3 HPL
  obtain ⟨sc, l, A1, c1, HS, HK, H2, H3, RN, HNe, HC, HLE⟩ := hrel
  go_wp2_with (fail)
  have hW := is_d E sc ⟨#[105, 110, 105, 116]⟩ _ HS.out
  refine hW.mono ?_
  clear hW
  rintro e wi ⟨rfl, qb⟩
  replace H2 := mvB qb H2
  replace H3 := mvB qb H3
  replace RN := Aside0.mk (NG.kp RN.out (KP.below qb))
  replace HK := kkB HK qb
  replace HS := ssM HS qb
  clear qb
  cases hB : isB E sc ⟨#[105, 110, 105, 116]⟩ with
  | true =>
   obtain ⟨hbad, hne⟩ := is_ok hB
   have HE := Aside0.mk (isB_good hbad _ hB)
   obtain ⟨i, bad, ps⟩ := sc
   simp only at hbad hne
   subst hbad
   have HX := Aside0.mk hne
   have HG := Aside0.mk (init_go HNe.out HE.out)
   have HPS := Aside0.mk (show ps.length ≤ 1000000 from by have h1 := HS.out.lt; have h2 := HS.out.ok.few; have h3 := HLE.out.2; unfold Pl at h3; simp only [Bool.toNat_false] at h1 h3; omega)
   clear hB hne
   go_upto_region 8 with (fail)
   replace H2 := mvB (below_drew (Below.refl _ _)) H2
   replace H3 := mvB (below_drew (Below.refl _ _)) H3
   replace RN := Aside0.mk (NG.kp RN.out (KP.below (below_drew (Below.refl _ _))))
   replace HK := kkB HK (below_drew (Below.refl _ _))
   replace HS := ssM HS (below_drew (Below.refl _ _))
   obtain ⟨ad, hA, y0, y1, y2, y3⟩ := HS.out.tok
   have c0 := HS.out.c0; have c1 := HS.out.c1
   rw [hA] at c0
   have p1 := eq_true (show (i : Int) < (E.ts.length : Int) from Int.ofNat_lt.mpr HS.out.lt)
   have p2 := eq_true (show i < E.ts.length from HS.out.lt)
   have p0 := eq_true (show 0 ≤ (i : Int) from Int.natCast_nonneg _)
   clear hA
   have hl : (⟨i, false, ps⟩ : Cs).ps.length ≤ 1000000 := HPS.out
   obtain ⟨hB_, v_, hbk_, hR_, hne_⟩ := HS.out.cu
   obtain ⟨A3, c3, rfl⟩ := Kd.R_slice hR_
   have HBk := Aside0.mk hbk_
   have HR3 := Aside0.mk hR_
   have HE3 := Aside0.mk hne_
   clear hbk_ hR_ hne_
   refine start_ (n := 21) (S := fun w' => w'.cell? ⟨E.g, 3, none⟩ = some (.slice A3 (⟨i, false, ps⟩ : Cs).ps.length c3) ∧ w'.cell? ⟨E.g, 0, none⟩ = some (.slice (some ad) E.ts.length E.c) ∧ w'.cell? ⟨E.g, 1, none⟩ = some (.int .i64 (i : Int)) ∧ w'.cell? ⟨(ad.add (i * 4)).block, (ad.add (i * 4)).off + 3, none⟩ = some (.int .i64 (E.tk i).f3)) (ds := [17, 20]) #[Z,Z,Z,Z,Z,Z,Z,Z,Z,Z,Z,Z,Z,Z,Z,Z,Z,Z,Z,Z,Z] (zDHq1) rfl rfl ⟨(blk_celln HBk.out 3 _ rfl), c0, c1, y3⟩ (fun hHeld => ?_)
   refine with_tabW programT.tab8 programT.bits8 (fun HT_ HW_ => ?_)
   generalize World.drew _ = wd at HS HK HBk HR3 c0 c1 y0 y1 y2 y3 H2 H3 RN hHeld ⊢
   refine ppU (i := 0) (N := some 37) #[Y,Z,Z,Z,Z,Z,Z,Z,Z,Z,Z,Z,Z,Z,Z,Z,Z,Z,Z,Z,Z] HT_ ?_
   refine ppU (i := 1) (N := some 38) #[Y,Y,Z,Z,Z,Z,Z,Z,Z,Z,Z,Z,Z,Z,Z,Z,Z,Z,Z,Z,Z] HT_ ?_
   refine ppU (i := 2) (N := some 39) #[Y,Y,Y,Z,Z,Z,Z,Z,Z,Z,Z,Z,Z,Z,Z,Z,Z,Z,Z,Z,Z] HT_ ?_
   refine ppU (i := 3) (N := some 40) #[Y,Y,Y,Y,Z,Z,Z,Z,Z,Z,Z,Z,Z,Z,Z,Z,Z,Z,Z,Z,Z] HT_ ?_
   refine take_ (i := 4) (N := some 41) (v := ?_) (a' := ?_) #[Y,Y,Y,Y,Y,Z,Z,Z,Z,Z,Z,Z,Z,Z,Z,Z,Z,Z,Z,Z,Z] rfl rfl (take_ofW HT_.out HW_.out (zDHq1)) (fun _ _ _ h => h) (Or.inl ⟨by rfl, ?_⟩) hHeld ?_ ?_
   rotate_left
   ·rintro w' ⟨s0, s1, s2, s3⟩
    go_simp
    with_reducible rfl
   rotate_left
   ·simp only [Act.put, pA, pB, pC, i64_w, i32_w]
    rfl
   refine ppU (i := 5) (N := some 42) #[Y,Y,Y,Y,Y,Y,Z,Z,Z,Z,Z,Z,Z,Z,Z,Z,Z,Z,Z,Z,Z] HT_ ?_
   refine ppU (i := 6) (N := some 43) #[Y,Y,Y,Y,Y,Y,Y,Z,Z,Z,Z,Z,Z,Z,Z,Z,Z,Z,Z,Z,Z] HT_ ?_
   refine ppU (i := 7) (N := some 44) #[Y,Y,Y,Y,Y,Y,Y,Y,Z,Z,Z,Z,Z,Z,Z,Z,Z,Z,Z,Z,Z] HT_ ?_
   refine take_ (i := 8) (N := some 45) (v := ?_) (a' := ?_) #[Y,Y,Y,Y,Y,Y,Y,Y,Y,Z,Z,Z,Z,Z,Z,Z,Z,Z,Z,Z,Z] rfl rfl (take_ofW HT_.out HW_.out (zDHq1)) (fun _ _ _ h => h) (Or.inl ⟨by rfl, ?_⟩) hHeld ?_ ?_
   rotate_left
   ·rintro w' ⟨s0, s1, s2, s3⟩
    go_simp
    with_reducible rfl
   rotate_left
   ·simp only [Act.put, pA, pB, pC, i64_w, i32_w]
    rfl
   refine ppU (i := 9) (N := some 46) #[Y,Y,Y,Y,Y,Y,Y,Y,Y,Y,Z,Z,Z,Z,Z,Z,Z,Z,Z,Z,Z] HT_ ?_
   refine ppU (i := 10) (N := some 47) #[Y,Y,Y,Y,Y,Y,Y,Y,Y,Y,Y,Z,Z,Z,Z,Z,Z,Z,Z,Z,Z] HT_ ?_
   refine ppU (i := 11) (N := some 48) #[Y,Y,Y,Y,Y,Y,Y,Y,Y,Y,Y,Y,Z,Z,Z,Z,Z,Z,Z,Z,Z] HT_ ?_
   refine take_ (i := 12) (N := some 49) (v := ?_) (a' := ?_) #[Y,Y,Y,Y,Y,Y,Y,Y,Y,Y,Y,Y,Y,Z,Z,Z,Z,Z,Z,Z,Z] rfl rfl (take_ofW HT_.out HW_.out (zDHq1)) (fun _ _ _ h => h) (Or.inl ⟨by rfl, ?_⟩) hHeld ?_ ?_
   rotate_left
   ·rintro w' ⟨s0, s1, s2, s3⟩
    go_simp
    with_reducible rfl
   rotate_left
   ·simp only [Act.put, pA, pB, pC, i64_w, i32_w]
    rfl
   refine ppU (i := 13) (N := some 50) #[Y,Y,Y,Y,Y,Y,Y,Y,Y,Y,Y,Y,Y,Y,Z,Z,Z,Z,Z,Z,Z] HT_ ?_
   refine ppU (i := 14) (N := some 51) #[Y,Y,Y,Y,Y,Y,Y,Y,Y,Y,Y,Y,Y,Y,Y,Z,Z,Z,Z,Z,Z] HT_ ?_
   refine take_ (i := 15) (N := some 52) (v := ?_) (a' := ?_) #[Y,Y,Y,Y,Y,Y,Y,Y,Y,Y,Y,Y,Y,Y,Y,Y,Z,Z,Z,Z,Z] rfl rfl (take_ofW HT_.out HW_.out (zDHq1)) (fun _ _ _ h => h) (Or.inl ⟨by rfl, ?_⟩) hHeld ?_ ?_
   rotate_left
   ·rintro w' ⟨s0, s1, s2, s3⟩
    go_simp
    with_reducible rfl
   rotate_left
   ·simp only [Act.put, pA, pB, pC, i64_w, i32_w]
    rfl
   refine one_ (i := 16) (N := some 53) #[Y,Y,Y,Y,Y,Y,Y,Y,Y,Y,Y,Y,Y,Y,Y,Y,Y,Z,Z,Z,Z] rfl rfl (one_of HT_.out (zDHq1)) (zDHq2) (fun K hK => ?_)
   refine value_ (w1 := ?_) (v := ?_) (by rfl) rfl ?_ ?_
   rotate_left 2
   ·go_simp
    constructor
    ·rfl
    ·rfl
   refine hK.out _ _ ⟨(World.cell?_alloc_lt _ _ _ (World.block_lt_of_cell? _ _ (blk_celln HBk.out 3 _ rfl))).trans (blk_celln HBk.out 3 _ rfl), (World.cell?_alloc_lt _ _ _ (World.block_lt_of_cell? _ _ c0)).trans c0, (World.cell?_alloc_lt _ _ _ (World.block_lt_of_cell? _ _ c1)).trans c1, (World.cell?_alloc_lt _ _ _ (World.block_lt_of_cell? _ _ y3)).trans y3⟩ (fun hHeld => ?_)
   clear hK K
   refine norm_ (a' := ?_) ?_ ?_
   rotate_left
   ·show Act.put _ (some 53) _ = _
    simp only [Act.put, pA, pB, pC, i64_w, i32_w]
    rfl
   refine last_ (i := 17) (N := some 54) #[Y,Y,Y,Y,Y,Y,Y,Y,Y,Y,Y,Y,Y,Y,Y,Y,Y,Y,Z,Z,Z] rfl rfl (one_of HT_.out (zDHq1)) (zDHq2) (fun K hK => ?_)
   refine Kd.R_append_step (Kd.int .i64) (w0 := E.w0) E.w0.heap.size (by rfl) (.tmp 41) (.tmp 53) 35 3 (.int .i64 0) 8 rfl Try.underlying35 info3 rfl (zDHq2) (zDHq2) (.slice A3 (⟨i, false, ps⟩ : Cs).ps.length c3) (⟨i, false, ps⟩ : Cs).ps (E.tk i).f3 [.int .i64 (E.tk i).f3] (fun _ => True) (fun _ => False) rfl rfl rfl (fun _ hk => hk.elim) (fun _ _ => trivial) HR3.out HS.out.below HS.out.below.size (by omega) ?_
   intro v4 w2 q1 q2 q3 _
   obtain ⟨A4, c4, rfl⟩ := Kd.R_slice q1
   rw [show ((⟨i, false, ps⟩ : Cs).ps ++ [(E.tk i).f3]).length = (⟨i, false, ps⟩ : Cs).ps.length + 1 from by simp] at q1 ⊢
   refine hK.out _ _ ?_
   clear hK K
   refine norm_ (a' := ?_) ?_ ?_
   rotate_left
   ·show Act.put _ (some 54) _ = _
    simp only [Act.put, pA, pB, pC, i64_w, i32_w]
    rfl
   have hb2 := blk_grown HBk.out q3 (fun e => HE3.out e.symm)
   refine ppU (i := 18) (N := some 55) #[Y,Y,Y,Y,Y,Y,Y,Y,Y,Y,Y,Y,Y,Y,Y,Y,Y,Y,Y,Z,Z] HT_ ?_
   refine ppU (i := 19) (N := some 56) #[Y,Y,Y,Y,Y,Y,Y,Y,Y,Y,Y,Y,Y,Y,Y,Y,Y,Y,Y,Y,Z] HT_ ?_
   refine last_ (i := 20) (N := none) #[Y,Y,Y,Y,Y,Y,Y,Y,Y,Y,Y,Y,Y,Y,Y,Y,Y,Y,Y,Y,Y] rfl rfl (one_of HT_.out (zDHq1)) (zDHq2) (fun K hK => ?_)
   have hs3 := blk_celln hb2 3 _ rfl
   have hf3 := blk_frozen hb2 3
   refine skip_ (w1 := ?_) (by rfl) rfl ?_ ?_
   rotate_left
   ·go_simp
    rfl
   refine hK.out _ _ ?_
   clear hK K
   refine done_ (done_of HT_.out (zDHq1)) ?_
   have hn4 := fun e => Kd.R_ne q1 hb2 (zDHq2) (Eq.symm e)
   have typ := fun g hg => (Kd.R_typed HR3.out g hg)
   clear hHeld hs3 hf3 c0 c1 y0 y1 y2 y3 p0 p1 p2
   have qq : ST E ⟨i, (⟨i, false, ps⟩ : Cs).bad, (⟨i, false, ps⟩ : Cs).ps ++ [(E.tk i).f3]⟩ (w2.setCell ⟨E.g, 3, none⟩ (.slice A4 ((⟨i, false, ps⟩ : Cs).ps.length + 1) c4)) := ⟨HS.out.ok, HS.out.ok2, ⟨hB_, _, blk_put hb2 3 _ (zDHq3), ints_move (by simpa using q1) (fun k hk => Below.heap_setCell _ ⟨E.g, 3, none⟩ _ k (fun e => hn4 (by rw [hk, e]))), hn4⟩, q2.setCell (p := ⟨E.g, 3, none⟩) hB_ _, HS.out.lt⟩
   have qk : KP E wd (w2.setCell ⟨E.g, 3, none⟩ (.slice A4 ((⟨i, false, ps⟩ : Cs).ps.length + 1) c4)) := ⟨((Lib.OthersKept.refl 3 (some E.g) _).grown q3 (fun g hg => by obtain ⟨c, hc⟩ := typ g hg; exact ⟨c, (0, 0), hc⟩)).setCell ⟨E.g, 3, none⟩ rfl _, by simpa [World.setCell] using q3.size⟩
   generalize hW_ : w2.setCell ⟨E.g, 3, none⟩ _ = wm at qq qk ⊢
   clear hW_ hb2 hn4 typ q1 q2 q3 HBk HR3 HE3 hl
   have q1 := qq
   clear qq
   replace H2 := mvK qk HS H2
   replace H3 := mvK qk HS H3
   replace RN := Aside0.mk (NG.kp RN.out qk)
   replace HK := kkT HK qk
   replace HS := Aside0.mk q1
   clear q1 qk
   obtain ⟨p1, hp1⟩ : ∃ p1, (E.tk i).f3 = p1 := ⟨_, rfl⟩
   replace HS : Aside0 (ST E ⟨i, false, ps ++ [p1]⟩ wm) := ⟨hp1 ▸ HS.out⟩
   replace HG := hp1 ▸ HG
   clear hp1 hB_
   have HI_ := Aside0.mk (HS.out.inc (show (⟨i, false, ps ++ [p1]⟩ : Cs).bad = false from rfl) HX.out)
   have c1 := HS.out.c1; have cf1 := HS.out.fz 1
   go_upto_region 10 with (fail)
   (first | rw [HI_.out.1] | skip)
   obtain ⟨-, q1, qk⟩ := HI_.out
   generalize hW_ : World.setCell _ ⟨E.g, 1, none⟩ _ = wq at q1 qk ⊢
   clear hW_ HI_ c1 cf1
   replace H2 := mvK qk HS H2
   replace H3 := mvK qk HS H3
   replace RN := Aside0.mk (NG.kp RN.out qk)
   replace HK := kkT HK qk
   replace HS := Aside0.mk q1
   clear q1 qk
   replace HS : Aside0 (ST E ⟨i + 1, false, ps ++ [p1]⟩ wq) := ⟨HS.out⟩
   have HLT := Aside0.mk (show i + 1 < E.ts.length from HS.out.lt)
   go_wp2_with (fail)
   have hW := name_c E ⟨i + 1, false, ps ++ [p1]⟩ _ HS.out
   refine hW.mono ?_
   clear hW
   rintro e wx ⟨x, vx, tx, rfl, rfl, q1, qk, hst, hti, hps⟩
   have Tx := Aside0.mk (And.intro hst (And.intro hti hps))
   clear hst hti hps
   replace H2 := mvK qk HS H2
   replace H3 := mvK qk HS H3
   replace RN := Aside0.mk (NG.kp RN.out qk)
   replace HK := kkT HK qk
   replace HS := Aside0.mk q1
   clear q1 qk
   go_upto_region 11 with (first | ((with_reducible refine gate_dst (N := 4) rfl ?_); refine bbX (N := 4) #[.string ⟨#[]⟩, .int .i64 0] 68 ?hr ?_; (case hr => first | (go_simp; done) | (go_simp; rfl)); intro g4 hg_ w4 hbox_ hq_; obtain ⟨z0_, f0_, z1_, f1_⟩ := cf2 hbox_))
   obtain ⟨F1_, F2_⟩ := fill68 hbox_ (.string x) (.int .i64 0) _ rfl
   replace hq_ := hq_.trans (F2_.below.mono (Nat.le_of_eq hg_.out.symm))
   have G4 := Aside0.mk (show w.heap.size ≤ g4 from by rw [hg_.out]; exact HK.out.2)
   have N2_4 := Aside0.mk (ne_new H2.out hg_.out); have LT2_4 := Aside0.mk (lt_new H2.out hg_.out)
   have N3_4 := Aside0.mk (ne_new H3.out hg_.out); have LT3_4 := Aside0.mk (lt_new H3.out hg_.out)
   replace RN := Aside0.mk (NG.skip RN.out (Nat.le_of_eq hg_.out.symm)); clear hg_ hbox_ F2_ z0_ f0_ z1_ f1_
   generalize (w4.setCell ⟨g4, 0, none⟩ (.string x)).setCell ⟨g4, 1, none⟩ (.int .i64 0) = v4 at F1_ hq_ ⊢
   have H4 := Aside0.mk F1_
   replace H2 := mvB hq_ H2
   replace H3 := mvB hq_ H3
   replace RN := Aside0.mk (NG.kp RN.out (KP.below hq_))
   replace HK := kkB HK hq_
   replace HS := ssM HS hq_
   clear F1_ hq_
   go_wp2_with (fail)
   have hW := number_c E tx _ HS.out
   refine hW.mono ?_
   clear hW
   rintro e wy ⟨y, vy, ty, rfl, rfl, q1, qk, hst, hti, hps⟩
   have Ty := Aside0.mk (And.intro hst (And.intro hti hps))
   clear hst hti hps
   replace H2 := mvK qk HS H2
   replace H3 := mvK qk HS H3
   replace H4 := mvK qk HS H4
   replace RN := Aside0.mk (NG.kp RN.out qk)
   replace HK := kkT HK qk
   replace HS := Aside0.mk q1
   clear q1 qk
   have zk := blk_celln H4.out 1 _ rfl; have fk := blk_frozen H4.out 1
   go_upto_region 12 with (fail)
   obtain ⟨F1_, F2_⟩ := set1 H4.out 1 (.int .i64 y) (cs' := #[.string x, .int .i64 y]) rfl
   generalize hW_ : World.setCell _ ⟨g4, 1, none⟩ (.int .i64 y) = wq at F1_ F2_ ⊢
   clear hW_ zk fk
   replace HS := ssO HS H4 HSB G4 F2_
   replace HK := kkO HK G4 F2_
   replace H2 := Aside0.mk ((F2_.block g2 (N2_4.out)).trans H2.out)
   replace H3 := Aside0.mk ((F2_.block g3 (N3_4.out)).trans H3.out)
   replace RN := Aside0.mk (NG.only RN.out F2_ (Or.inr rfl))
   replace H4 := Aside0.mk F1_
   clear F1_ F2_
   replace RN := Aside0.mk (NG.any RN.out)
   have hll : (l.length + 1) * 24 ≤ 140737488355328 := by
    have h1 := HLE.out.1
    have h2 := HLT.out
    have h3 := HS.out.ok.few
    simp only [Bool.toNat_false] at h1
    omega
   have HLL := Aside0.mk hll
   clear hll
   have zk := blk_celln H3.out 2 _ rfl
   obtain ⟨z4_0, z4_1⟩ := cn2 H4.out
   go_wp2_with ((with_reducible refine gate_builtin (b := .append) (xs := #[.tmp 71, .tmp 73]) rfl ?_); at_builtin; refine NG_append (E := E) (s' := ty) (z := E.g) k68 (w0 := wq) (g3 + 1) rfl (.tmp 71) (.tmp 73) 23 68 (.agg #[.string ⟨#[]⟩, .int .i64 0]) 24 rfl Try.underlying23 info68 rfl (zDHq2) (zDHq2) (.slice A1 l.length c1) l ⟨x, y⟩ [.string x, .int .i64 y] rfl (by first | (go_simp; done) | (go_simp; rfl)) (k68_mkF _ _ ⟨x, y⟩) HS.out (zDHq2) (zDHq2) rfl RN.out (Below.refl _ _) (show g3 + 1 ≤ _ from blk_lt H3.out) HLL.out ?_; intro va w2 q1 q2 q3 _; obtain ⟨Aa, ca, rfl⟩ := Kd.N_slice q1; rw [show (l ++ [(⟨x, y⟩ : S68)]).length = l.length + 1 from by simp] at q1 ⊢; have hb3 := blk_grown H3.out q3 (Kd.N_ne RN.out H3.out (zDHq2)); have hs3 := blk_celln hb3 2 _ rfl; have hf3 := blk_frozen hb3 2; have Q1 := Aside0.mk q1; have Q2 := Aside0.mk q2; have Q3 := Aside0.mk q3; have HB3 := Aside0.mk hb3; clear q1 q2 q3 hb3)
   have q1 := Q1.out; have q2 := Q2.out; have q3 := Q3.out; have hb3 := HB3.out
   have typ := Kd.N_typed RN.out
   replace HS := Aside0.mk (ST.grown HS.out q3 (HS.out.below.trans (q2.mono (Nat.le_succ_of_le (Nat.le_trans HSB.out G3.out)))) (fun g hg => by obtain ⟨c, hc⟩ := typ g hg; exact ⟨c, 68, hc, zDHq2, zDHq2⟩))
   replace HK := Aside0.mk (KP.grown HK.out q3 (fun g hg => by have h1 := Kd.N_base RN.out g hg; have h2 := G3.out; omega))
   replace H2 := Aside0.mk (blk_grown H2.out q3 (Kd.N_ne RN.out H2.out (zDHq2)))
   replace H3 := Aside0.mk hb3
   obtain ⟨F1_, F2_⟩ := set1 H3.out 2 (.slice Aa (l.length + 1) ca) (cs' := #[.string n, .int .i64 v, .slice Aa (l.length + 1) ca, .slice none 0 0, .int .i64 0, .int .i64 0, .int .i64 0, .string ⟨#[]⟩, .int .i64 0, .slice none 0 0]) rfl
   have K1 := Aside0.mk (HS.out.only H3.out (zDHq2) (zDHq2) (Nat.le_trans HSB.out G3.out) F2_)
   have K2 := Aside0.mk (HK.out.only G3.out F2_)
   have K3 := Aside0.mk ((F2_.block g2 N2_3.out).trans H2.out)
   have K4 := Aside0.mk F1_
   have K5 := Aside0.mk (NG.only q1 F2_ (Or.inl (Nat.lt_succ_self _)))
   obtain ⟨m, hm, hgo⟩ := HG.out
   obtain ⟨j1, j2⟩ := hgo x y tx ty Tx.out.1 Ty.out.1
   have K6 := Aside0.mk j1
   have K7 := Aside0.mk (show ∀ z u, Step ty (initL E m (l ++ [⟨x, y⟩]) ty.i) z u → Step tv (initL E (E.ts.length + 1) [] tv.i) z u from fun z u q => HC.out z u (j2 z u q))
   have hpt := Pl.got (Pl.got (Pl.part (x := p1) HLE.out.2) Tx.out.1 Tx.out.2.1 Tx.out.2.2) Ty.out.1 Ty.out.2.1 Ty.out.2.2
   have K8 := Aside0.mk (show (l ++ [(⟨x, y⟩ : S68)]).length ≤ ty.i + ty.bad.toNat ∧ Pl ty from ⟨by have h1 := HLE.out.1; have h2 := Tx.out.2.1; have h3 := Ty.out.2.1; simp only [Bool.toNat_false] at h1; simp only [List.length_append, List.length_cons, List.length_nil]; omega, hpt⟩)
   have HM := Aside0.mk hm
   clear hgo j1 j2 hm hpt HG HC HLE Tx Ty HN RN HS HK H2 H3 HE HX HPS HLT HNe q1 q2 q3 Q1 Q2 Q3 HB3 F1_ F2_ hb3 hs3 hf3 S5 H4 HLL typ N2_4 N3_4 G4
   generalize hW_ : World.setCell w2 ⟨g3, 2, none⟩ (.slice Aa (l.length + 1) ca) = wz at K1 K2 K3 K4 K5 ⊢
   have e1 : l.length + 1 = (l ++ [(⟨x, y⟩ : S68)]).length := by simp
   rw [e1] at K4 K5
   clear hW_ e1
   go_roundg m
   case measure => rw [HM.out]; exact Nat.lt_succ_self _
   case rel => exact ⟨ty, l ++ [⟨x, y⟩], Aa, ca, K1, K2, K3, K4, K5, K6, K7, K8⟩
  | false =>
   have SI := Aside0.mk (HC.out _ _ (init_stop HNe.out hB))
   replace HN := Aside0.mk (show Ne sc (mid2 E kc ke kb n v l sc.i) from Ne.next (f := fun ini i => mid2 E kc ke kb n v ini i) HN.out SI.out)
   replace S5 := Aside0.mk (show ∀ y u, Step sc (mid2 E kc ke kb n v l sc.i) y u → Step ⟨i0, false, []⟩ (progP E kc ke kb i0) y u from fun y u q => S5.out y u (SI.out.bind (f := fun ini i => mid2 E kc ke kb n v ini i) q))
   have HPL := Aside0.mk HLE.out.2
   have hcI := Aside0.mk (Kd.N_reads' RN.out).2.1
   clear hB HC HNe SI HLE
   obtain ⟨b2, hb2⟩ : ∃ b2, wi.heap.size = b2 := ⟨_, rfl⟩
   have RI := Aside0.mk (Kd.F_bound (Kd.N_F RN.out))
   rw [hb2] at RI
   have HB2 := Aside0.mk (Nat.le_of_eq hb2.symm)
   have LB := Aside0.mk (show g3 < b2 from hb2 ▸ blk_lt H3.out)
   clear hb2 RN
   go_wp2_with (fail)
   go_loopg [] (E.ts.length + 1) (fun kq w' => ∃ (sd : Cs) (l2 : List (List S62)) (A2 : Option Addr) (c2 : Nat), Aside0 (ST E sd w') ∧ Aside0 (KP E w w') ∧ Aside0 (w'.heap[g2]? = some (.cells z29v 29 (0, 0))) ∧ Aside0 (w'.heap[g3]? = some (.cells #[.string n, .int .i64 v, .slice A1 l.length c1, .slice A2 l2.length c2, .int .i64 0, .int .i64 0, .int .i64 0, .string ⟨#[]⟩, .int .i64 0, .slice none 0 0] 29 (0, 0))) ∧ Aside0 (Kd.F k68 w' (fun k => GD E E.g (g3 + 1) w' k ∧ k < b2) A1 l.length l) ∧ Aside0 (Kd.N (Kd.slice 62 k62) 56 w' b2 (GD E E.g b2 w') (.slice A2 l2.length c2) l2) ∧ Aside0 (b2 ≤ w'.heap.size) ∧ Aside0 (Ne sd (thrL E (blockF E ke kb) kq l2 sd.i)) ∧ Aside0 (∀ y u, Step sd (thrL E (blockF E ke kb) kq l2 sd.i) y u → Step sc (thrL E (blockF E ke kb) (E.ts.length + 1) [] sc.i) y u) ∧ Aside0 (l2.length ≤ sd.i + sd.bad.toNat ∧ Pl sd))
   case atStart => exact ⟨sc, [], none, 0, HS, HK, H2, H3, RI, ⟨Kd.N_nil _ _ _ _ _⟩, HB2, ⟨Ne.first HN.out⟩, ⟨fun y u q => q⟩, ⟨Nat.zero_le _, HPL.out⟩⟩
   case round =>
    clear HS HK H2 H3 RI HB2 HPL
    obtain ⟨sd, l2, A2, c2, HS, HK, H2, H3, RI, RT, HB2, HNe, HC, HLE⟩ := hrel
    go_wp2_with (fail)
    have hW := is_d E sd ⟨#[116, 104, 114, 101, 97, 100]⟩ _ HS.out
    refine hW.mono ?_
    clear hW
    rintro e wt ⟨rfl, qb⟩
    replace H2 := mvB qb H2
    replace H3 := mvB qb H3
    replace RI := Aside0.mk (FT.kp RI.out (KP.below qb))
    replace RT := Aside0.mk (NG.kp RT.out (KP.below qb))
    replace HK := kkB HK qb
    replace HS := ssM HS qb
    replace HB2 := Aside0.mk (Nat.le_trans HB2.out (qb).size)
    clear qb
    cases hB : isB E sd ⟨#[116, 104, 114, 101, 97, 100]⟩ with
    | true =>
     have HO := Aside0.mk (is_ok hB)
     have HBD := Aside0.mk HO.out.1
     have HE := Aside0.mk (isB_good HBD.out _ hB)
     clear hB
     have HG := Aside0.mk (thr_go HBD.out HNe.out HE.out)
     have HPT := Aside0.mk (Pl.step HLE.out.2 HBD.out)
     clear HNe
     have HI_ := Aside0.mk (HS.out.inc HBD.out HO.out.2)
     have c1 := HS.out.c1; have cf1 := HS.out.fz 1
     go_upto_region 15 with (fail)
     (first | rw [HI_.out.1] | skip)
     obtain ⟨-, q1, qk⟩ := HI_.out
     generalize hW_ : World.setCell _ ⟨E.g, 1, none⟩ _ = wq at q1 qk ⊢
     clear hW_ HI_ c1 cf1
     replace H2 := mvK qk HS H2
     replace H3 := mvK qk HS H3
     replace RI := Aside0.mk (FT.kp RI.out qk)
     replace RT := Aside0.mk (NG.kp RT.out qk)
     replace HK := kkT HK qk
     replace HS := Aside0.mk q1
     replace HB2 := Aside0.mk (Nat.le_trans HB2.out (qk).2)
     clear q1 qk
     replace H2 := mvB (below_drew (Below.refl wq.heap.size wq)) H2
     replace H3 := mvB (below_drew (Below.refl wq.heap.size wq)) H3
     replace RI := Aside0.mk (FT.kp RI.out (KP.below (below_drew (Below.refl wq.heap.size wq))))
     replace RT := Aside0.mk (NG.kp RT.out (KP.below (below_drew (Below.refl wq.heap.size wq))))
     replace HK := kkB HK (below_drew (Below.refl wq.heap.size wq))
     replace HS := ssM HS (below_drew (Below.refl wq.heap.size wq))
     replace HB2 := Aside0.mk (Nat.le_trans HB2.out ((below_drew (Below.refl wq.heap.size wq))).size)
     have HLT := Aside0.mk (show sd.i + 1 < E.ts.length from HS.out.lt)
     refine start_ (n := 8) (S := fun w' => w'.cell? ⟨g3, 3, none⟩ = some (.slice A2 l2.length c2)) (ds := [5, 7]) #[Z,Z,Z,Z,Z,Z,Z,Z] (zDHq1) rfl rfl (blk_celln H3.out 3 _ rfl) (fun hHeld => ?_)
     refine with_tabW programT.tab15 programT.bits15 (fun HT_ HW_ => ?_)
     generalize World.drew _ = wd at HS HK H2 H3 RI RT HB2 hHeld ⊢
     refine ppU (i := 0) (N := some 85) #[Y,Z,Z,Z,Z,Z,Z,Z] HT_ ?_
     refine take_ (i := 1) (N := some 86) (v := ?_) (a' := ?_) #[Y,Y,Z,Z,Z,Z,Z,Z] rfl rfl (take_ofW HT_.out HW_.out (zDHq1)) (fun _ _ _ h => h) (Or.inl ⟨by rfl, ?_⟩) hHeld ?_ ?_
     rotate_left
     ·rintro w' s0
      go_simp
      with_reducible rfl
     rotate_left
     ·simp only [Act.put, pA, pB, pC, i64_w, i32_w]
      rfl
     refine ppU (i := 2) (N := some 87) #[Y,Y,Y,Z,Z,Z,Z,Z] HT_ ?_
     refine one_ (i := 3) (N := some 88) #[Y,Y,Y,Y,Z,Z,Z,Z] rfl rfl (one_of HT_.out (zDHq1)) (zDHq2) (fun K hK => ?_)
     refine goes_ Try.func39 (zDHq1) rfl #[.pointer (some ⟨E.g, 0, none⟩)] (by rfl) rfl rfl (by (try simp only [List.map_toArray, List.map_cons, List.map_nil]); first | done | rfl) ?_
     have hW := block_all E ke kb ⟨sd.i + 1, false, sd.ps⟩ _ HS.out HPT.out (fun _ => HG.out.1)
     have Lv := Aside0.mk (And.intro HB2.out (Kd.N_lt RT.out))
     refine hW.mono ?_
     clear hW
     rintro e wb ⟨y, vy, ty, rfl, ⟨Ay, cy, rfl, ly, ry⟩, q1, qk, hst, hti, hpl⟩
     have Ty := Aside0.mk (And.intro hst (And.intro hti hpl))
     clear hst hti hpl
     refine ⟨_, rfl, ?_⟩
     replace H2 := mvK qk HS H2
     replace H3 := mvK qk HS H3
     replace RI := Aside0.mk (FT.kp RI.out qk)
     replace RT := Aside0.mk (NG.kp RT.out qk)
     replace HK := kkT HK qk
     replace HS := Aside0.mk q1
     replace HB2 := Aside0.mk (Nat.le_trans HB2.out (qk).2)
     have Ry := Aside0.mk ry
     clear q1 qk ry
     refine hK.out _ _ (blk_celln H3.out 3 _ rfl) (fun hHeld => ?_)
     clear hK K
     refine norm_ (a' := ?_) ?_ ?_
     rotate_left
     ·show Act.put _ (some 88) _ = _
      simp only [Act.put, pA, pB, pC, i64_w, i32_w]
      rfl
     refine one_ (i := 4) (N := some 89) #[Y,Y,Y,Y,Y,Z,Z,Z] rfl rfl (one_of HT_.out (zDHq1)) (zDHq2) (fun K hK => ?_)
     refine value_ (w1 := ?_) (v := ?_) (by rfl) rfl ?_ ?_
     rotate_left 2
     ·go_simp
      constructor
      ·rfl
      ·rfl
     refine hK.out _ _ ((World.cell?_alloc_lt _ _ _ (World.block_lt_of_cell? _ _ (blk_celln H3.out 3 _ rfl))).trans (blk_celln H3.out 3 _ rfl)) (fun hHeld => ?_)
     clear hK K
     refine norm_ (a' := ?_) ?_ ?_
     rotate_left
     ·show Act.put _ (some 89) _ = _
      simp only [Act.put, pA, pB, pC, i64_w, i32_w]
      rfl
     refine last_ (i := 5) (N := some 90) #[Y,Y,Y,Y,Y,Y,Z,Z] rfl rfl (one_of HT_.out (zDHq1)) (zDHq2) (fun K hK => ?_)
     have hll : (l2.length + 1) * 24 ≤ 140737488355328 := by
      have h1 := HLE.out.1
      have h2 := HLT.out
      have h3 := HS.out.ok.few
      rw [HBD.out] at h1
      simp only [Bool.toNat_false] at h1 h2
      omega
     refine NG_append_step (E := E) (s' := ty) (z := E.g) (Kd.slice 62 k62) (w0 := wb) b2 (by rfl) (.tmp 86) (.tmp 89) 24 56 (.slice none 0 0) 24 rfl Try.underlying24 info56 rfl (zDHq2) (zDHq2) (.slice A2 l2.length c2) l2 y [.slice Ay y.length cy] rfl rfl (Kd.FK_mono (Kd.FK_slice_mk ly Ry.out) (fun k hk => ⟨GD.lower Lv.out.1 hk, fun e => by have h1 := Lv.out.2 k e.symm; have h2 := hk.1; omega⟩)) HS.out (zDHq2) (zDHq2) rfl RT.out (Below.refl _ _) HB2.out hll ?_
     intro va w2 q1 q2 q3 _
     obtain ⟨Aa, ca, rfl⟩ := Kd.N_slice q1
     rw [show (l2 ++ [y]).length = l2.length + 1 from by simp] at q1 ⊢
     refine hK.out _ _ ?_
     clear hK K
     refine norm_ (a' := ?_) ?_ ?_
     rotate_left
     ·show Act.put _ (some 90) _ = _
      simp only [Act.put, pA, pB, pC, i64_w, i32_w]
      rfl
     refine ppU (i := 6) (N := some 91) #[Y,Y,Y,Y,Y,Y,Y,Z] HT_ ?_
     refine last_ (i := 7) (N := none) #[Y,Y,Y,Y,Y,Y,Y,Y] rfl rfl (one_of HT_.out (zDHq1)) (zDHq2) (fun K hK => ?_)
     have hb3 := blk_grown H3.out q3 (Kd.N_ne RT.out H3.out (zDHq2))
     have hs3 := blk_celln hb3 3 _ rfl
     have hf3 := blk_frozen hb3 3
     refine skip_ (w1 := ?_) (by rfl) rfl ?_ ?_
     rotate_left
     ·go_simp
      rfl
     refine hK.out _ _ ?_
     clear hK K
     refine done_ (done_of HT_.out (zDHq1)) ?_
     have typ := Kd.N_typed RT.out
     replace HS := Aside0.mk (ST.grown HS.out q3 (HS.out.below.trans (q2.mono (Nat.le_trans (Nat.le_trans HSB.out G3.out) (Nat.le_of_lt LB.out)))) (fun g hg => by obtain ⟨c, hc⟩ := typ g hg; exact ⟨c, 56, hc, zDHq2, zDHq2⟩))
     replace HK := Aside0.mk (KP.grown HK.out q3 (fun g hg => by have h1 := Kd.N_base RT.out g hg; have h2 := G3.out; have h3 := LB.out; omega))
     replace H2 := Aside0.mk (blk_grown H2.out q3 (Kd.N_ne RT.out H2.out (zDHq2)))
     replace H3 := Aside0.mk hb3
     replace RI := Aside0.mk (FT.grown RI.out q3 (fun g hg => Kd.N_base RT.out g hg))
     replace HB2 := Aside0.mk (Nat.le_trans HB2.out q3.size)
     clear hHeld typ hs3 hf3 hll
     go_wp2
     obtain ⟨F1_, F2_⟩ := set1 H3.out 3 (.slice Aa (l2.length + 1) ca) (cs' := #[.string n, .int .i64 v, .slice A1 l.length c1, .slice Aa (l2.length + 1) ca, .int .i64 0, .int .i64 0, .int .i64 0, .string ⟨#[]⟩, .int .i64 0, .slice none 0 0]) rfl
     have K1 := Aside0.mk (HS.out.only H3.out (zDHq2) (zDHq2) (Nat.le_trans HSB.out G3.out) F2_)
     have K2 := Aside0.mk (HK.out.only G3.out F2_)
     have K3 := Aside0.mk ((F2_.block g2 N2_3.out).trans H2.out)
     have K4 := Aside0.mk F1_
     have K5 := Aside0.mk (FT.only RI.out F2_ (Or.inl (Nat.lt_succ_self _)))
     have K6 := Aside0.mk (NG.only q1 F2_ (Or.inl LB.out))
     have K7 := Aside0.mk (Nat.le_trans HB2.out F2_.below.size)
     obtain ⟨m, hm, hgo⟩ := HG.out.2
     obtain ⟨j1, j2⟩ := hgo y ty Ty.out.1
     have K8 := Aside0.mk j1
     have K9 := Aside0.mk (show ∀ z u, Step ty (thrL E (blockF E ke kb) m (l2 ++ [y]) ty.i) z u → Step sc (thrL E (blockF E ke kb) (E.ts.length + 1) [] sc.i) z u from fun z u q => HC.out z u (j2 z u q))
     have KA := Aside0.mk (show (l2 ++ [y]).length ≤ ty.i + ty.bad.toNat ∧ Pl ty from ⟨by have h1 := HLE.out.1; have h2 := Ty.out.2.1; rw [HBD.out] at h1; simp only [Bool.toNat_false] at h1; simp only [List.length_append, List.length_cons, List.length_nil] at h2 ⊢; omega, Ty.out.2.2⟩)
     have HM := Aside0.mk hm
     clear hgo j1 j2 hm HG HC HLE Ty HN RI RT HB2 HS HK H2 H3 HE HBD HO HPT HLT Ry Lv q1 q2 q3 F1_ F2_ hb3 S5 hcI
     generalize hW_ : World.setCell w2 ⟨g3, 3, none⟩ (.slice Aa (l2.length + 1) ca) = wz at K1 K2 K3 K4 K5 K6 K7 ⊢
     have e1 : l2.length + 1 = (l2 ++ [y]).length := by simp
     rw [e1] at K4 K6
     clear hW_ e1
     go_roundg m
     case measure => rw [HM.out]; exact Nat.lt_succ_self _
     case rel => exact ⟨ty, l2 ++ [y], Aa, ca, K1, K2, K3, K4, K5, K6, K7, K8, K9, KA⟩
    | false =>
     have SI := Aside0.mk (HC.out _ _ (thr_stop HNe.out hB))
     replace HN := Aside0.mk (show Ne sd (lastP E kc n v l l2 sd.i) from Ne.next (f := fun th i => lastP E kc n v l th i) HN.out SI.out)
     replace S5 := Aside0.mk (show ∀ y u, Step sd (lastP E kc n v l l2 sd.i) y u → Step ⟨i0, false, []⟩ (progP E kc ke kb i0) y u from fun y u q => S5.out y u (SI.out.bind (f := fun th i => lastP E kc n v l th i) q))
     have hcT := Aside0.mk (Kd.N_reads' RT.out).2.1
     clear HC HNe SI hB
     have HPS := Aside0.mk (show sd.ps.length ≤ 1000000 from by have h1 := HS.out.lt; have h2 := HS.out.ok.few; have h3 := HLE.out.2; unfold Pl at h3; have h4 : sd.bad.toNat ≤ 1 := (by cases sd.bad <;> simp); omega)
     clear HLE
     go_upto_region 16 with (fail)
     replace H2 := mvB (below_drew (Below.refl wt.heap.size wt)) H2
     replace H3 := mvB (below_drew (Below.refl wt.heap.size wt)) H3
     replace RI := Aside0.mk (FT.kp RI.out (KP.below (below_drew (Below.refl wt.heap.size wt))))
     replace RT := Aside0.mk (NG.kp RT.out (KP.below (below_drew (Below.refl wt.heap.size wt))))
     replace HK := kkB HK (below_drew (Below.refl wt.heap.size wt))
     replace HS := ssM HS (below_drew (Below.refl wt.heap.size wt))
     replace HB2 := Aside0.mk (Nat.le_trans HB2.out ((below_drew (Below.refl wt.heap.size wt))).size)
     obtain ⟨ad, hA, y0, y1, y2, y3⟩ := HS.out.tok
     have c0 := HS.out.c0; have c1 := HS.out.c1
     rw [hA] at c0
     have p1 := eq_true (show (sd.i : Int) < (E.ts.length : Int) from Int.ofNat_lt.mpr HS.out.lt)
     have p2 := eq_true (show sd.i < E.ts.length from HS.out.lt)
     have p0 := eq_true (show 0 ≤ (sd.i : Int) from Int.natCast_nonneg _)
     clear hA
     have hl : (sd).ps.length ≤ 1000000 := HPS.out
     obtain ⟨hB_, v_, hbk_, hR_, hne_⟩ := HS.out.cu
     obtain ⟨A3, c3, rfl⟩ := Kd.R_slice hR_
     have HBk := Aside0.mk hbk_
     have HR3 := Aside0.mk hR_
     have HE3 := Aside0.mk hne_
     clear hbk_ hR_ hne_
     refine start_ (n := 21) (S := fun w' => w'.cell? ⟨E.g, 3, none⟩ = some (.slice A3 (sd).ps.length c3) ∧ w'.cell? ⟨E.g, 0, none⟩ = some (.slice (some ad) E.ts.length E.c) ∧ w'.cell? ⟨E.g, 1, none⟩ = some (.int .i64 (sd.i : Int)) ∧ w'.cell? ⟨(ad.add (sd.i * 4)).block, (ad.add (sd.i * 4)).off + 3, none⟩ = some (.int .i64 (E.tk sd.i).f3)) (ds := [17, 20]) #[Z,Z,Z,Z,Z,Z,Z,Z,Z,Z,Z,Z,Z,Z,Z,Z,Z,Z,Z,Z,Z] (zDHq1) rfl rfl ⟨(blk_celln HBk.out 3 _ rfl), c0, c1, y3⟩ (fun hHeld => ?_)
     refine with_tabW programT.tab16 programT.bits16 (fun HT_ HW_ => ?_)
     generalize World.drew _ = wd at HS HK HBk HR3 c0 c1 y0 y1 y2 y3 H2 H3 RI RT HB2 hHeld ⊢
     refine ppU (i := 0) (N := some 92) #[Y,Z,Z,Z,Z,Z,Z,Z,Z,Z,Z,Z,Z,Z,Z,Z,Z,Z,Z,Z,Z] HT_ ?_
     refine ppU (i := 1) (N := some 93) #[Y,Y,Z,Z,Z,Z,Z,Z,Z,Z,Z,Z,Z,Z,Z,Z,Z,Z,Z,Z,Z] HT_ ?_
     refine ppU (i := 2) (N := some 94) #[Y,Y,Y,Z,Z,Z,Z,Z,Z,Z,Z,Z,Z,Z,Z,Z,Z,Z,Z,Z,Z] HT_ ?_
     refine ppU (i := 3) (N := some 95) #[Y,Y,Y,Y,Z,Z,Z,Z,Z,Z,Z,Z,Z,Z,Z,Z,Z,Z,Z,Z,Z] HT_ ?_
     refine take_ (i := 4) (N := some 96) (v := ?_) (a' := ?_) #[Y,Y,Y,Y,Y,Z,Z,Z,Z,Z,Z,Z,Z,Z,Z,Z,Z,Z,Z,Z,Z] rfl rfl (take_ofW HT_.out HW_.out (zDHq1)) (fun _ _ _ h => h) (Or.inl ⟨by rfl, ?_⟩) hHeld ?_ ?_
     rotate_left
     ·rintro w' ⟨s0, s1, s2, s3⟩
      go_simp
      with_reducible rfl
     rotate_left
     ·simp only [Act.put, pA, pB, pC, i64_w, i32_w]
      rfl
     refine ppU (i := 5) (N := some 97) #[Y,Y,Y,Y,Y,Y,Z,Z,Z,Z,Z,Z,Z,Z,Z,Z,Z,Z,Z,Z,Z] HT_ ?_
     refine ppU (i := 6) (N := some 98) #[Y,Y,Y,Y,Y,Y,Y,Z,Z,Z,Z,Z,Z,Z,Z,Z,Z,Z,Z,Z,Z] HT_ ?_
     refine ppU (i := 7) (N := some 99) #[Y,Y,Y,Y,Y,Y,Y,Y,Z,Z,Z,Z,Z,Z,Z,Z,Z,Z,Z,Z,Z] HT_ ?_
     refine take_ (i := 8) (N := some 100) (v := ?_) (a' := ?_) #[Y,Y,Y,Y,Y,Y,Y,Y,Y,Z,Z,Z,Z,Z,Z,Z,Z,Z,Z,Z,Z] rfl rfl (take_ofW HT_.out HW_.out (zDHq1)) (fun _ _ _ h => h) (Or.inl ⟨by rfl, ?_⟩) hHeld ?_ ?_
     rotate_left
     ·rintro w' ⟨s0, s1, s2, s3⟩
      go_simp
      with_reducible rfl
     rotate_left
     ·simp only [Act.put, pA, pB, pC, i64_w, i32_w]
      rfl
     refine ppU (i := 9) (N := some 101) #[Y,Y,Y,Y,Y,Y,Y,Y,Y,Y,Z,Z,Z,Z,Z,Z,Z,Z,Z,Z,Z] HT_ ?_
     refine ppU (i := 10) (N := some 102) #[Y,Y,Y,Y,Y,Y,Y,Y,Y,Y,Y,Z,Z,Z,Z,Z,Z,Z,Z,Z,Z] HT_ ?_
     refine ppU (i := 11) (N := some 103) #[Y,Y,Y,Y,Y,Y,Y,Y,Y,Y,Y,Y,Z,Z,Z,Z,Z,Z,Z,Z,Z] HT_ ?_
     refine take_ (i := 12) (N := some 104) (v := ?_) (a' := ?_) #[Y,Y,Y,Y,Y,Y,Y,Y,Y,Y,Y,Y,Y,Z,Z,Z,Z,Z,Z,Z,Z] rfl rfl (take_ofW HT_.out HW_.out (zDHq1)) (fun _ _ _ h => h) (Or.inl ⟨by rfl, ?_⟩) hHeld ?_ ?_
     rotate_left
     ·rintro w' ⟨s0, s1, s2, s3⟩
      go_simp
      with_reducible rfl
     rotate_left
     ·simp only [Act.put, pA, pB, pC, i64_w, i32_w]
      rfl
     refine ppU (i := 13) (N := some 105) #[Y,Y,Y,Y,Y,Y,Y,Y,Y,Y,Y,Y,Y,Y,Z,Z,Z,Z,Z,Z,Z] HT_ ?_
     refine ppU (i := 14) (N := some 106) #[Y,Y,Y,Y,Y,Y,Y,Y,Y,Y,Y,Y,Y,Y,Y,Z,Z,Z,Z,Z,Z] HT_ ?_
     refine take_ (i := 15) (N := some 107) (v := ?_) (a' := ?_) #[Y,Y,Y,Y,Y,Y,Y,Y,Y,Y,Y,Y,Y,Y,Y,Y,Z,Z,Z,Z,Z] rfl rfl (take_ofW HT_.out HW_.out (zDHq1)) (fun _ _ _ h => h) (Or.inl ⟨by rfl, ?_⟩) hHeld ?_ ?_
     rotate_left
     ·rintro w' ⟨s0, s1, s2, s3⟩
      go_simp
      with_reducible rfl
     rotate_left
     ·simp only [Act.put, pA, pB, pC, i64_w, i32_w]
      rfl
     refine one_ (i := 16) (N := some 108) #[Y,Y,Y,Y,Y,Y,Y,Y,Y,Y,Y,Y,Y,Y,Y,Y,Y,Z,Z,Z,Z] rfl rfl (one_of HT_.out (zDHq1)) (zDHq2) (fun K hK => ?_)
     refine value_ (w1 := ?_) (v := ?_) (by rfl) rfl ?_ ?_
     rotate_left 2
     ·go_simp
      constructor
      ·rfl
      ·rfl
     refine hK.out _ _ ⟨(World.cell?_alloc_lt _ _ _ (World.block_lt_of_cell? _ _ (blk_celln HBk.out 3 _ rfl))).trans (blk_celln HBk.out 3 _ rfl), (World.cell?_alloc_lt _ _ _ (World.block_lt_of_cell? _ _ c0)).trans c0, (World.cell?_alloc_lt _ _ _ (World.block_lt_of_cell? _ _ c1)).trans c1, (World.cell?_alloc_lt _ _ _ (World.block_lt_of_cell? _ _ y3)).trans y3⟩ (fun hHeld => ?_)
     clear hK K
     refine norm_ (a' := ?_) ?_ ?_
     rotate_left
     ·show Act.put _ (some 108) _ = _
      simp only [Act.put, pA, pB, pC, i64_w, i32_w]
      rfl
     refine last_ (i := 17) (N := some 109) #[Y,Y,Y,Y,Y,Y,Y,Y,Y,Y,Y,Y,Y,Y,Y,Y,Y,Y,Z,Z,Z] rfl rfl (one_of HT_.out (zDHq1)) (zDHq2) (fun K hK => ?_)
     refine Kd.R_append_step (Kd.int .i64) (w0 := E.w0) E.w0.heap.size (by rfl) (.tmp 96) (.tmp 108) 35 3 (.int .i64 0) 8 rfl Try.underlying35 info3 rfl (zDHq2) (zDHq2) (.slice A3 (sd).ps.length c3) (sd).ps (E.tk sd.i).f3 [.int .i64 (E.tk sd.i).f3] (fun _ => True) (fun _ => False) rfl rfl rfl (fun _ hk => hk.elim) (fun _ _ => trivial) HR3.out HS.out.below HS.out.below.size (by omega) ?_
     intro v4 w2 q1 q2 q3 _
     obtain ⟨A4, c4, rfl⟩ := Kd.R_slice q1
     rw [show ((sd).ps ++ [(E.tk sd.i).f3]).length = (sd).ps.length + 1 from by simp] at q1 ⊢
     refine hK.out _ _ ?_
     clear hK K
     refine norm_ (a' := ?_) ?_ ?_
     rotate_left
     ·show Act.put _ (some 109) _ = _
      simp only [Act.put, pA, pB, pC, i64_w, i32_w]
      rfl
     have hb2 := blk_grown HBk.out q3 (fun e => HE3.out e.symm)
     refine ppU (i := 18) (N := some 110) #[Y,Y,Y,Y,Y,Y,Y,Y,Y,Y,Y,Y,Y,Y,Y,Y,Y,Y,Y,Z,Z] HT_ ?_
     refine ppU (i := 19) (N := some 111) #[Y,Y,Y,Y,Y,Y,Y,Y,Y,Y,Y,Y,Y,Y,Y,Y,Y,Y,Y,Y,Z] HT_ ?_
     refine last_ (i := 20) (N := none) #[Y,Y,Y,Y,Y,Y,Y,Y,Y,Y,Y,Y,Y,Y,Y,Y,Y,Y,Y,Y,Y] rfl rfl (one_of HT_.out (zDHq1)) (zDHq2) (fun K hK => ?_)
     have hs3 := blk_celln hb2 3 _ rfl
     have hf3 := blk_frozen hb2 3
     refine skip_ (w1 := ?_) (by rfl) rfl ?_ ?_
     rotate_left
     ·go_simp
      rfl
     refine hK.out _ _ ?_
     clear hK K
     refine done_ (done_of HT_.out (zDHq1)) ?_
     have hn4 := fun e => Kd.R_ne q1 hb2 (zDHq2) (Eq.symm e)
     have typ := fun g hg => (Kd.R_typed HR3.out g hg)
     clear hHeld hs3 hf3 c0 c1 y0 y1 y2 y3 p0 p1 p2
     have qq : ST E ⟨sd.i, (sd).bad, (sd).ps ++ [(E.tk sd.i).f3]⟩ (w2.setCell ⟨E.g, 3, none⟩ (.slice A4 ((sd).ps.length + 1) c4)) := ⟨HS.out.ok, HS.out.ok2, ⟨hB_, _, blk_put hb2 3 _ (zDHq3), ints_move (by simpa using q1) (fun k hk => Below.heap_setCell _ ⟨E.g, 3, none⟩ _ k (fun e => hn4 (by rw [hk, e]))), hn4⟩, q2.setCell (p := ⟨E.g, 3, none⟩) hB_ _, HS.out.lt⟩
     have qk : KP E wd (w2.setCell ⟨E.g, 3, none⟩ (.slice A4 ((sd).ps.length + 1) c4)) := ⟨((Lib.OthersKept.refl 3 (some E.g) _).grown q3 (fun g hg => by obtain ⟨c, hc⟩ := typ g hg; exact ⟨c, (0, 0), hc⟩)).setCell ⟨E.g, 3, none⟩ rfl _, by simpa [World.setCell] using q3.size⟩
     generalize hW_ : w2.setCell ⟨E.g, 3, none⟩ _ = wm at qq qk ⊢
     clear hW_ hb2 hn4 typ q1 q2 q3 HBk HR3 HE3 hl
     have q1 := qq
     clear qq
     replace H2 := mvK qk HS H2
     replace H3 := mvK qk HS H3
     replace RI := Aside0.mk (FT.kp RI.out qk)
     replace RT := Aside0.mk (NG.kp RT.out qk)
     replace HK := kkT HK qk
     replace HS := Aside0.mk q1
     replace HB2 := Aside0.mk (Nat.le_trans HB2.out (qk).2)
     clear q1 qk
     obtain ⟨sf, hsf⟩ : ∃ sf : Cs, (⟨sd.i, sd.bad, sd.ps ++ [(E.tk sd.i).f3]⟩ : Cs) = sf := ⟨_, rfl⟩
     have SM := Aside0.mk (show Step sd (markP E sd.i) () sf from hsf ▸ Step.mark E sd)
     replace HS : Aside0 (ST E sf wm) := ⟨hsf ▸ HS.out⟩
     clear hsf HPS hB_
     replace HN := Aside0.mk (show Ne sf (last2 E kc n v l l2 sf.i) from Ne.next (f := fun _ i => last2 E kc n v l l2 i) HN.out SM.out)
     replace S5 := Aside0.mk (show ∀ y u, Step sf (last2 E kc n v l l2 sf.i) y u → Step ⟨i0, false, []⟩ (progP E kc ke kb i0) y u from fun y u q => S5.out y u (SM.out.bind (f := fun _ i => last2 E kc n v l l2 i) q))
     clear SM
     go_wp2_with (fail)
     have hW := is_d E sf ⟨#[102, 111, 114, 97, 108, 108]⟩ _ HS.out
     refine hW.mono ?_
     clear hW
     rintro e wu ⟨rfl, qb⟩
     replace H2 := mvB qb H2
     replace H3 := mvB qb H3
     replace RI := Aside0.mk (FT.kp RI.out (KP.below qb))
     replace RT := Aside0.mk (NG.kp RT.out (KP.below qb))
     replace HK := kkB HK qb
     replace HS := ssM HS qb
     replace HB2 := Aside0.mk (Nat.le_trans HB2.out (qb).size)
     clear qb
     cases hB : isB E sf ⟨#[102, 111, 114, 97, 108, 108]⟩ with
     | true =>
      have HO := Aside0.mk (is_ok hB)
      have HBD := Aside0.mk HO.out.1
      have HE := Aside0.mk (isB_good HBD.out _ hB)
      clear hB
      have SA := Aside0.mk (askT HBD.out HE.out)
      have zk := blk_celln H3.out 4 _ rfl; have fk := blk_frozen H3.out 4
      go_upto_region 19 with (fail)
      obtain ⟨F1_, F2_⟩ := set1 H3.out 4 (.int .i64 2) (cs' := #[.string n, .int .i64 v, .slice A1 l.length c1, .slice A2 l2.length c2, .int .i64 2, .int .i64 0, .int .i64 0, .string ⟨#[]⟩, .int .i64 0, .slice none 0 0]) rfl
      generalize hW_ : World.setCell _ ⟨g3, 4, none⟩ (.int .i64 2) = wq at F1_ F2_ ⊢
      clear hW_ zk fk
      replace HS := ssO HS H3 HSB G3 F2_
      replace HK := kkO HK G3 F2_
      replace H2 := Aside0.mk ((F2_.block g2 (N2_3.out)).trans H2.out)
      replace RI := Aside0.mk (FT.only RI.out F2_ (Or.inl (Nat.lt_succ_self _)))
      replace RT := Aside0.mk (NG.only RT.out F2_ (Or.inl LB.out))
      replace H3 := Aside0.mk F1_
      replace HB2 := Aside0.mk (Nat.le_trans HB2.out F2_.below.size)
      clear F1_ F2_
      have HI_ := Aside0.mk (HS.out.inc HBD.out HO.out.2)
      have c1 := HS.out.c1; have cf1 := HS.out.fz 1
      go_upto_region 22 with (fail)
      (first | rw [HI_.out.1] | skip)
      obtain ⟨-, q1, qk⟩ := HI_.out
      generalize hW_ : World.setCell _ ⟨E.g, 1, none⟩ _ = wq at q1 qk ⊢
      clear hW_ HI_ c1 cf1
      replace H2 := mvK qk HS H2
      replace H3 := mvK qk HS H3
      replace RI := Aside0.mk (FT.kp RI.out qk)
      replace RT := Aside0.mk (NG.kp RT.out qk)
      replace HK := kkT HK qk
      replace HS := Aside0.mk q1
      replace HB2 := Aside0.mk (Nat.le_trans HB2.out (qk).2)
      clear q1 qk
      replace HN := Aside0.mk (show Ne (⟨sf.i + 1, false, sf.ps⟩ : Cs) (last3 E kc n v l l2 2 (⟨sf.i + 1, false, sf.ps⟩ : Cs).i) from Ne.next (f := fun a i => last3 E kc n v l l2 a i) HN.out SA.out)
      replace S5 := Aside0.mk (show ∀ y u, Step (⟨sf.i + 1, false, sf.ps⟩ : Cs) (last3 E kc n v l l2 2 (⟨sf.i + 1, false, sf.ps⟩ : Cs).i) y u → Step ⟨i0, false, []⟩ (progP E kc ke kb i0) y u from fun y u q => S5.out y u (SA.out.bind (f := fun a i => last3 E kc n v l l2 a i) q))
      clear SA
      go_wp2_with (fail)
      have hW := cond_all E kc (⟨sf.i + 1, false, sf.ps⟩ : Cs) _ HS.out (Ne.first HN.out)
      have Lc := Aside0.mk (And.intro HK.out.2 (blk_lt H3.out))
      refine hW.mono ?_
      clear hW
      rintro e wc ⟨c, vc, tc, rfl, ⟨Ac, cc, rfl, lc, rc⟩, q1, qk, hst, hti, hps⟩
      have Tc := Aside0.mk (And.intro hst (And.intro hti hps))
      clear hst hti hps
      replace H2 := mvK qk HS H2
      replace H3 := mvK qk HS H3
      replace RI := Aside0.mk (FT.kp RI.out qk)
      replace RT := Aside0.mk (NG.kp RT.out qk)
      replace HK := kkT HK qk
      replace HS := Aside0.mk q1
      replace HB2 := Aside0.mk (Nat.le_trans HB2.out (qk).2)
      clear q1 qk
      have Rc := Aside0.mk rc
      clear rc
      have zk5 := blk_celln H3.out 5 _ rfl; have fk5 := blk_frozen H3.out 5; have zk6 := blk_celln H3.out 6 _ rfl; have fk6 := blk_frozen H3.out 6; have zk7 := blk_celln H3.out 7 _ rfl; have fk7 := blk_frozen H3.out 7; have zk8 := blk_celln H3.out 8 _ rfl; have fk8 := blk_frozen H3.out 8; have zk9 := blk_celln H3.out 9 _ rfl; have fk9 := blk_frozen H3.out 9
      go_upto_region 23 with (fail)
      obtain ⟨F1_, F2_⟩ := fillc H3.out (.int .i64 c.f0) (.int .i64 c.f1) (.string c.f2) (.int .i64 c.f3) (.slice Ac c.f4.length cc) _ rfl
      generalize hW_ : World.setCell (World.setCell (World.setCell (World.setCell (World.setCell _ ⟨g3, 5, none⟩ _) ⟨g3, 6, none⟩ _) ⟨g3, 7, none⟩ _) ⟨g3, 8, none⟩ _) ⟨g3, 9, none⟩ _ = wq2 at F1_ F2_ ⊢
      clear hW_ zk5 fk5 zk6 fk6 zk7 fk7 zk8 fk8 zk9 fk9
      replace HS := ssO HS H3 HSB G3 F2_
      replace HK := kkO HK G3 F2_
      replace H2 := Aside0.mk ((F2_.block g2 (N2_3.out)).trans H2.out)
      replace RI := Aside0.mk (FT.only RI.out F2_ (Or.inl (Nat.lt_succ_self _)))
      replace RT := Aside0.mk (NG.only RT.out F2_ (Or.inl LB.out))
      replace Rc := Aside0.mk (F.only Rc.out F2_ (Or.inl Lc.out.2))
      replace H3 := Aside0.mk F1_
      replace HB2 := Aside0.mk (Nat.le_trans HB2.out F2_.below.size)
      clear F1_ F2_
      replace HN := Aside0.mk (show Ne tc (last4 E n v l l2 2 c tc.i) from Ne.next (f := fun c i => last4 E n v l l2 2 c i) HN.out Tc.out.1)
      replace S5 := Aside0.mk (show ∀ y u, Step tc (last4 E n v l l2 2 c tc.i) y u → Step ⟨i0, false, []⟩ (progP E kc ke kb i0) y u from fun y u q => S5.out y u (Tc.out.1.bind (f := fun c i => last4 E n v l l2 2 c i) q))
      clear Tc HN
      replace H2 := mvB (below_drew (Below.refl wq2.heap.size wq2)) H2
      replace H3 := mvB (below_drew (Below.refl wq2.heap.size wq2)) H3
      replace RI := Aside0.mk (FT.kp RI.out (KP.below (below_drew (Below.refl wq2.heap.size wq2))))
      replace RT := Aside0.mk (NG.kp RT.out (KP.below (below_drew (Below.refl wq2.heap.size wq2))))
      replace Rc := ffB Rc (below_drew (Below.refl wq2.heap.size wq2))
      replace HK := kkB HK (below_drew (Below.refl wq2.heap.size wq2))
      replace HS := ssM HS (below_drew (Below.refl wq2.heap.size wq2))
      replace HB2 := Aside0.mk (Nat.le_trans HB2.out ((below_drew (Below.refl wq2.heap.size wq2))).size)
      obtain ⟨ad, hA, y0, y1, y2, y3⟩ := HS.out.tok
      have c0 := HS.out.c0; have c1 := HS.out.c1
      rw [hA] at c0
      have p1 := eq_true (show (tc.i : Int) < (E.ts.length : Int) from Int.ofNat_lt.mpr HS.out.lt)
      have p2 := eq_true (show tc.i < E.ts.length from HS.out.lt)
      have p0 := eq_true (show 0 ≤ (tc.i : Int) from Int.natCast_nonneg _)
      clear hA
      have c2 := HS.out.c2
      cases hbd : tc.bad with
      | true =>
       have b0 := bdI_bad HS.out.ok2 hbd
       have b1 := eq_true b0; have b2 := decide_eq_true b0; have b3 : (bdI E tc < 0) = False := eq_false (by omega); have b4 : decide (bdI E tc < 0) = false := decide_eq_false (by omega)
       clear b0
       have HBD := Aside0.mk hbd
       clear hbd
       have SE := Aside0.mk (show Step tc (endP E tc.i) () tc from Step.bad HBD.out HBD.out rfl)
       go_region
       all_goals
        clear c2 b1 b2 b3 b4 c0 c1 y0 y1 y2 y3 p0 p1 p2
        generalize World.drew wq2 = wz at HS HK H2 H3 RI RT Rc HB2 ⊢
        obtain ⟨z3_0, z3_1, z3_2, z3_3, z3_4, z3_5, z3_6, z3_7, z3_8, z3_9⟩ := cn10 H3.out
        obtain ⟨z2_0, f2_0, z2_1, f2_1, z2_2, f2_2, z2_3, f2_3, z2_4, f2_4, z2_5, f2_5, z2_6, f2_6, z2_7, f2_7, z2_8, f2_8, z2_9, f2_9⟩ := cf10 H2.out
        go_wp2
        refine fin29 H2.out (fun _ F1_ F2_ => ?_)
        exact ⟨⟨n, v, l, l2, 2, c⟩, _, tc, rfl, ⟨A1, c1, A2, c2, Ac, cc, rfl, hcI.out, F.lower (Kd.F_mono (FT.only RI.out F2_ (Or.inl (Nat.lt_succ_of_lt LT2_3.out))) (fun _ hk => hk.1)) (Nat.le_succ_of_le G3.out), hcT.out, F.lower (Kd.N_F (NG.only RT.out F2_ (Or.inl (Nat.lt_trans LT2_3.out LB.out)))) (Nat.le_trans G3.out (Nat.le_of_lt LB.out)), lc, F.lower (F.only Rc.out F2_ (Or.inl (Nat.lt_trans LT2_3.out Lc.out.2))) Lc.out.1⟩, HS.out.only H2.out (zDHq2) (zDHq2) (Nat.le_trans HSB.out G2.out) F2_, HK.out.only G2.out F2_, S5.out _ _ (SE.out.bind (f := fun _ i => .ok (⟨n, v, l, l2, 2, c⟩ : PR) i []) (Step.pure _ _))⟩
      | false =>
       rw [bdI_good hbd] at c2
       have HBD := Aside0.mk hbd
       clear hbd
       by_cases hk : (E.tk tc.i).f0 = 4
       ·have k1 : ((E.tk tc.i).f0 == 4) = true := beq_iff_eq.mpr hk
        have k2 : decide ((E.tk tc.i).f0 = 4) = true := decide_eq_true hk
        have k3 := eq_true hk
        have SE := Aside0.mk (Step.endT (s := tc) hk)
        clear hk
        go_region
        all_goals
         clear c2 c0 c1 y0 y1 y2 y3 p0 p1 p2
         generalize World.drew wq2 = wz at HS HK H2 H3 RI RT Rc HB2 ⊢
         obtain ⟨z3_0, z3_1, z3_2, z3_3, z3_4, z3_5, z3_6, z3_7, z3_8, z3_9⟩ := cn10 H3.out
         obtain ⟨z2_0, f2_0, z2_1, f2_1, z2_2, f2_2, z2_3, f2_3, z2_4, f2_4, z2_5, f2_5, z2_6, f2_6, z2_7, f2_7, z2_8, f2_8, z2_9, f2_9⟩ := cf10 H2.out
         go_wp2
         refine fin29 H2.out (fun _ F1_ F2_ => ?_)
         exact ⟨⟨n, v, l, l2, 2, c⟩, _, tc, rfl, ⟨A1, c1, A2, c2, Ac, cc, rfl, hcI.out, F.lower (Kd.F_mono (FT.only RI.out F2_ (Or.inl (Nat.lt_succ_of_lt LT2_3.out))) (fun _ hk => hk.1)) (Nat.le_succ_of_le G3.out), hcT.out, F.lower (Kd.N_F (NG.only RT.out F2_ (Or.inl (Nat.lt_trans LT2_3.out LB.out)))) (Nat.le_trans G3.out (Nat.le_of_lt LB.out)), lc, F.lower (F.only Rc.out F2_ (Or.inl (Nat.lt_trans LT2_3.out Lc.out.2))) Lc.out.1⟩, HS.out.only H2.out (zDHq2) (zDHq2) (Nat.le_trans HSB.out G2.out) F2_, HK.out.only G2.out F2_, S5.out _ _ (SE.out.bind (f := fun _ i => .ok (⟨n, v, l, l2, 2, c⟩ : PR) i []) (Step.pure _ _))⟩
       ·have k1 : ((E.tk tc.i).f0 == 4) = false := beq_eq_false_iff_ne.mpr hk
        have k2 : decide ((E.tk tc.i).f0 = 4) = false := decide_eq_false hk
        have k3 := eq_false hk
        have SE := Aside0.mk (Step.endF (s := tc) hk)
        clear hk
        go_region
        all_goals
         clear c2 c0 c1 y0 y1 y2 y3 p0 p1 p2
         go_wp2_with (fail)
         have hW := wrong_d E tc _ HS.out
         refine hW.mono ?_
         clear hW
         rintro e wl ⟨rfl, q1, qk⟩
         replace H2 := mvK qk HS H2
         replace H3 := mvK qk HS H3
         replace RI := Aside0.mk (FT.kp RI.out qk)
         replace RT := Aside0.mk (NG.kp RT.out qk)
         replace Rc := ffK Rc qk
         replace HK := kkT HK qk
         replace HS := Aside0.mk q1
         replace HB2 := Aside0.mk (Nat.le_trans HB2.out (qk).2)
         clear q1 qk
         obtain ⟨z3_0, z3_1, z3_2, z3_3, z3_4, z3_5, z3_6, z3_7, z3_8, z3_9⟩ := cn10 H3.out
         obtain ⟨z2_0, f2_0, z2_1, f2_1, z2_2, f2_2, z2_3, f2_3, z2_4, f2_4, z2_5, f2_5, z2_6, f2_6, z2_7, f2_7, z2_8, f2_8, z2_9, f2_9⟩ := cf10 H2.out
         go_wp2
         refine fin29 H2.out (fun _ F1_ F2_ => ?_)
         exact ⟨⟨n, v, l, l2, 2, c⟩, _, ⟨tc.i, true, tc.ps⟩, rfl, ⟨A1, c1, A2, c2, Ac, cc, rfl, hcI.out, F.lower (Kd.F_mono (FT.only RI.out F2_ (Or.inl (Nat.lt_succ_of_lt LT2_3.out))) (fun _ hk => hk.1)) (Nat.le_succ_of_le G3.out), hcT.out, F.lower (Kd.N_F (NG.only RT.out F2_ (Or.inl (Nat.lt_trans LT2_3.out LB.out)))) (Nat.le_trans G3.out (Nat.le_of_lt LB.out)), lc, F.lower (F.only Rc.out F2_ (Or.inl (Nat.lt_trans LT2_3.out Lc.out.2))) Lc.out.1⟩, HS.out.only H2.out (zDHq2) (zDHq2) (Nat.le_trans HSB.out G2.out) F2_, HK.out.only G2.out F2_, S5.out _ _ (SE.out.bind (f := fun _ i => .ok (⟨n, v, l, l2, 2, c⟩ : PR) i []) (Step.pure _ _))⟩
     | false =>
      have HF := Aside0.mk hB
      clear hB
      have zk := blk_celln H3.out 4 _ rfl; have fk := blk_frozen H3.out 4
      go_upto_region 21 with (fail)
      obtain ⟨F1_, F2_⟩ := set1 H3.out 4 (.int .i64 1) (cs' := #[.string n, .int .i64 v, .slice A1 l.length c1, .slice A2 l2.length c2, .int .i64 1, .int .i64 0, .int .i64 0, .string ⟨#[]⟩, .int .i64 0, .slice none 0 0]) rfl
      generalize hW_ : World.setCell _ ⟨g3, 4, none⟩ (.int .i64 1) = wq at F1_ F2_ ⊢
      clear hW_ zk fk
      replace HS := ssO HS H3 HSB G3 F2_
      replace HK := kkO HK G3 F2_
      replace H2 := Aside0.mk ((F2_.block g2 (N2_3.out)).trans H2.out)
      replace RI := Aside0.mk (FT.only RI.out F2_ (Or.inl (Nat.lt_succ_self _)))
      replace RT := Aside0.mk (NG.only RT.out F2_ (Or.inl LB.out))
      replace H3 := Aside0.mk F1_
      replace HB2 := Aside0.mk (Nat.le_trans HB2.out F2_.below.size)
      clear F1_ F2_
      go_wp2_with (fail)
      have hW := must_c E sf ⟨#[101, 120, 105, 115, 116, 115]⟩ _ HS.out
      refine hW.mono ?_
      clear hW
      rintro e wf ⟨_, vf, tf, rfl, rfl, q1, qk, hst, hti, hps⟩
      have Tf := Aside0.mk (And.intro hst (And.intro hti hps))
      clear hst hti hps
      replace H2 := mvK qk HS H2
      replace H3 := mvK qk HS H3
      replace RI := Aside0.mk (FT.kp RI.out qk)
      replace RT := Aside0.mk (NG.kp RT.out qk)
      replace HK := kkT HK qk
      replace HS := Aside0.mk q1
      replace HB2 := Aside0.mk (Nat.le_trans HB2.out (qk).2)
      clear q1 qk
      have SA := Aside0.mk (askF HF.out Tf.out.1)
      replace HN := Aside0.mk (show Ne tf (last3 E kc n v l l2 1 tf.i) from Ne.next (f := fun a i => last3 E kc n v l l2 a i) HN.out SA.out)
      replace S5 := Aside0.mk (show ∀ y u, Step tf (last3 E kc n v l l2 1 tf.i) y u → Step ⟨i0, false, []⟩ (progP E kc ke kb i0) y u from fun y u q => S5.out y u (SA.out.bind (f := fun a i => last3 E kc n v l l2 a i) q))
      clear SA
      go_wp2_with (fail)
      have hW := cond_all E kc tf _ HS.out (Ne.first HN.out)
      have Lc := Aside0.mk (And.intro HK.out.2 (blk_lt H3.out))
      refine hW.mono ?_
      clear hW
      rintro e wc ⟨c, vc, tc, rfl, ⟨Ac, cc, rfl, lc, rc⟩, q1, qk, hst, hti, hps⟩
      have Tc := Aside0.mk (And.intro hst (And.intro hti hps))
      clear hst hti hps
      replace H2 := mvK qk HS H2
      replace H3 := mvK qk HS H3
      replace RI := Aside0.mk (FT.kp RI.out qk)
      replace RT := Aside0.mk (NG.kp RT.out qk)
      replace HK := kkT HK qk
      replace HS := Aside0.mk q1
      replace HB2 := Aside0.mk (Nat.le_trans HB2.out (qk).2)
      clear q1 qk
      have Rc := Aside0.mk rc
      clear rc
      have zk5 := blk_celln H3.out 5 _ rfl; have fk5 := blk_frozen H3.out 5; have zk6 := blk_celln H3.out 6 _ rfl; have fk6 := blk_frozen H3.out 6; have zk7 := blk_celln H3.out 7 _ rfl; have fk7 := blk_frozen H3.out 7; have zk8 := blk_celln H3.out 8 _ rfl; have fk8 := blk_frozen H3.out 8; have zk9 := blk_celln H3.out 9 _ rfl; have fk9 := blk_frozen H3.out 9
      go_upto_region 23 with (fail)
      obtain ⟨F1_, F2_⟩ := fillc H3.out (.int .i64 c.f0) (.int .i64 c.f1) (.string c.f2) (.int .i64 c.f3) (.slice Ac c.f4.length cc) _ rfl
      generalize hW_ : World.setCell (World.setCell (World.setCell (World.setCell (World.setCell _ ⟨g3, 5, none⟩ _) ⟨g3, 6, none⟩ _) ⟨g3, 7, none⟩ _) ⟨g3, 8, none⟩ _) ⟨g3, 9, none⟩ _ = wq2 at F1_ F2_ ⊢
      clear hW_ zk5 fk5 zk6 fk6 zk7 fk7 zk8 fk8 zk9 fk9
      replace HS := ssO HS H3 HSB G3 F2_
      replace HK := kkO HK G3 F2_
      replace H2 := Aside0.mk ((F2_.block g2 (N2_3.out)).trans H2.out)
      replace RI := Aside0.mk (FT.only RI.out F2_ (Or.inl (Nat.lt_succ_self _)))
      replace RT := Aside0.mk (NG.only RT.out F2_ (Or.inl LB.out))
      replace Rc := Aside0.mk (F.only Rc.out F2_ (Or.inl Lc.out.2))
      replace H3 := Aside0.mk F1_
      replace HB2 := Aside0.mk (Nat.le_trans HB2.out F2_.below.size)
      clear F1_ F2_
      replace HN := Aside0.mk (show Ne tc (last4 E n v l l2 1 c tc.i) from Ne.next (f := fun c i => last4 E n v l l2 1 c i) HN.out Tc.out.1)
      replace S5 := Aside0.mk (show ∀ y u, Step tc (last4 E n v l l2 1 c tc.i) y u → Step ⟨i0, false, []⟩ (progP E kc ke kb i0) y u from fun y u q => S5.out y u (Tc.out.1.bind (f := fun c i => last4 E n v l l2 1 c i) q))
      clear Tc HN
      replace H2 := mvB (below_drew (Below.refl wq2.heap.size wq2)) H2
      replace H3 := mvB (below_drew (Below.refl wq2.heap.size wq2)) H3
      replace RI := Aside0.mk (FT.kp RI.out (KP.below (below_drew (Below.refl wq2.heap.size wq2))))
      replace RT := Aside0.mk (NG.kp RT.out (KP.below (below_drew (Below.refl wq2.heap.size wq2))))
      replace Rc := ffB Rc (below_drew (Below.refl wq2.heap.size wq2))
      replace HK := kkB HK (below_drew (Below.refl wq2.heap.size wq2))
      replace HS := ssM HS (below_drew (Below.refl wq2.heap.size wq2))
      replace HB2 := Aside0.mk (Nat.le_trans HB2.out ((below_drew (Below.refl wq2.heap.size wq2))).size)
      obtain ⟨ad, hA, y0, y1, y2, y3⟩ := HS.out.tok
      have c0 := HS.out.c0; have c1 := HS.out.c1
      rw [hA] at c0
      have p1 := eq_true (show (tc.i : Int) < (E.ts.length : Int) from Int.ofNat_lt.mpr HS.out.lt)
      have p2 := eq_true (show tc.i < E.ts.length from HS.out.lt)
      have p0 := eq_true (show 0 ≤ (tc.i : Int) from Int.natCast_nonneg _)
      clear hA
      have c2 := HS.out.c2
      cases hbd : tc.bad with
      | true =>
       have b0 := bdI_bad HS.out.ok2 hbd
       have b1 := eq_true b0; have b2 := decide_eq_true b0; have b3 : (bdI E tc < 0) = False := eq_false (by omega); have b4 : decide (bdI E tc < 0) = false := decide_eq_false (by omega)
       clear b0
       have HBD := Aside0.mk hbd
       clear hbd
       have SE := Aside0.mk (show Step tc (endP E tc.i) () tc from Step.bad HBD.out HBD.out rfl)
       go_region
       all_goals
        clear c2 b1 b2 b3 b4 c0 c1 y0 y1 y2 y3 p0 p1 p2
        generalize World.drew wq2 = wz at HS HK H2 H3 RI RT Rc HB2 ⊢
        obtain ⟨z3_0, z3_1, z3_2, z3_3, z3_4, z3_5, z3_6, z3_7, z3_8, z3_9⟩ := cn10 H3.out
        obtain ⟨z2_0, f2_0, z2_1, f2_1, z2_2, f2_2, z2_3, f2_3, z2_4, f2_4, z2_5, f2_5, z2_6, f2_6, z2_7, f2_7, z2_8, f2_8, z2_9, f2_9⟩ := cf10 H2.out
        go_wp2
        refine fin29 H2.out (fun _ F1_ F2_ => ?_)
        exact ⟨⟨n, v, l, l2, 1, c⟩, _, tc, rfl, ⟨A1, c1, A2, c2, Ac, cc, rfl, hcI.out, F.lower (Kd.F_mono (FT.only RI.out F2_ (Or.inl (Nat.lt_succ_of_lt LT2_3.out))) (fun _ hk => hk.1)) (Nat.le_succ_of_le G3.out), hcT.out, F.lower (Kd.N_F (NG.only RT.out F2_ (Or.inl (Nat.lt_trans LT2_3.out LB.out)))) (Nat.le_trans G3.out (Nat.le_of_lt LB.out)), lc, F.lower (F.only Rc.out F2_ (Or.inl (Nat.lt_trans LT2_3.out Lc.out.2))) Lc.out.1⟩, HS.out.only H2.out (zDHq2) (zDHq2) (Nat.le_trans HSB.out G2.out) F2_, HK.out.only G2.out F2_, S5.out _ _ (SE.out.bind (f := fun _ i => .ok (⟨n, v, l, l2, 1, c⟩ : PR) i []) (Step.pure _ _))⟩
      | false =>
       rw [bdI_good hbd] at c2
       have HBD := Aside0.mk hbd
       clear hbd
       by_cases hk : (E.tk tc.i).f0 = 4
       ·have k1 : ((E.tk tc.i).f0 == 4) = true := beq_iff_eq.mpr hk
        have k2 : decide ((E.tk tc.i).f0 = 4) = true := decide_eq_true hk
        have k3 := eq_true hk
        have SE := Aside0.mk (Step.endT (s := tc) hk)
        clear hk
        go_region
        all_goals
         clear c2 c0 c1 y0 y1 y2 y3 p0 p1 p2
         generalize World.drew wq2 = wz at HS HK H2 H3 RI RT Rc HB2 ⊢
         obtain ⟨z3_0, z3_1, z3_2, z3_3, z3_4, z3_5, z3_6, z3_7, z3_8, z3_9⟩ := cn10 H3.out
         obtain ⟨z2_0, f2_0, z2_1, f2_1, z2_2, f2_2, z2_3, f2_3, z2_4, f2_4, z2_5, f2_5, z2_6, f2_6, z2_7, f2_7, z2_8, f2_8, z2_9, f2_9⟩ := cf10 H2.out
         go_wp2
         refine fin29 H2.out (fun _ F1_ F2_ => ?_)
         exact ⟨⟨n, v, l, l2, 1, c⟩, _, tc, rfl, ⟨A1, c1, A2, c2, Ac, cc, rfl, hcI.out, F.lower (Kd.F_mono (FT.only RI.out F2_ (Or.inl (Nat.lt_succ_of_lt LT2_3.out))) (fun _ hk => hk.1)) (Nat.le_succ_of_le G3.out), hcT.out, F.lower (Kd.N_F (NG.only RT.out F2_ (Or.inl (Nat.lt_trans LT2_3.out LB.out)))) (Nat.le_trans G3.out (Nat.le_of_lt LB.out)), lc, F.lower (F.only Rc.out F2_ (Or.inl (Nat.lt_trans LT2_3.out Lc.out.2))) Lc.out.1⟩, HS.out.only H2.out (zDHq2) (zDHq2) (Nat.le_trans HSB.out G2.out) F2_, HK.out.only G2.out F2_, S5.out _ _ (SE.out.bind (f := fun _ i => .ok (⟨n, v, l, l2, 1, c⟩ : PR) i []) (Step.pure _ _))⟩
       ·have k1 : ((E.tk tc.i).f0 == 4) = false := beq_eq_false_iff_ne.mpr hk
        have k2 : decide ((E.tk tc.i).f0 = 4) = false := decide_eq_false hk
        have k3 := eq_false hk
        have SE := Aside0.mk (Step.endF (s := tc) hk)
        clear hk
        go_region
        all_goals
         clear c2 c0 c1 y0 y1 y2 y3 p0 p1 p2
         go_wp2_with (fail)
         have hW := wrong_d E tc _ HS.out
         refine hW.mono ?_
         clear hW
         rintro e wl ⟨rfl, q1, qk⟩
         replace H2 := mvK qk HS H2
         replace H3 := mvK qk HS H3
         replace RI := Aside0.mk (FT.kp RI.out qk)
         replace RT := Aside0.mk (NG.kp RT.out qk)
         replace Rc := ffK Rc qk
         replace HK := kkT HK qk
         replace HS := Aside0.mk q1
         replace HB2 := Aside0.mk (Nat.le_trans HB2.out (qk).2)
         clear q1 qk
         obtain ⟨z3_0, z3_1, z3_2, z3_3, z3_4, z3_5, z3_6, z3_7, z3_8, z3_9⟩ := cn10 H3.out
         obtain ⟨z2_0, f2_0, z2_1, f2_1, z2_2, f2_2, z2_3, f2_3, z2_4, f2_4, z2_5, f2_5, z2_6, f2_6, z2_7, f2_7, z2_8, f2_8, z2_9, f2_9⟩ := cf10 H2.out
         go_wp2
         refine fin29 H2.out (fun _ F1_ F2_ => ?_)
         exact ⟨⟨n, v, l, l2, 1, c⟩, _, ⟨tc.i, true, tc.ps⟩, rfl, ⟨A1, c1, A2, c2, Ac, cc, rfl, hcI.out, F.lower (Kd.F_mono (FT.only RI.out F2_ (Or.inl (Nat.lt_succ_of_lt LT2_3.out))) (fun _ hk => hk.1)) (Nat.le_succ_of_le G3.out), hcT.out, F.lower (Kd.N_F (NG.only RT.out F2_ (Or.inl (Nat.lt_trans LT2_3.out LB.out)))) (Nat.le_trans G3.out (Nat.le_of_lt LB.out)), lc, F.lower (F.only Rc.out F2_ (Or.inl (Nat.lt_trans LT2_3.out Lc.out.2))) Lc.out.1⟩, HS.out.only H2.out (zDHq2) (zDHq2) (Nat.le_trans HSB.out G2.out) F2_, HK.out.only G2.out F2_, S5.out _ _ (SE.out.bind (f := fun _ i => .ok (⟨n, v, l, l2, 1, c⟩ : PR) i []) (Step.pure _ _))⟩
end Go.Proofs.Ytinnldfmbeafiaa.PA.D
