/- The document's cursor: what stands here; walked by hand. -/
import Derived.Test.YtinnldfmbeafiaaDA
import Derived.Test.YtinnldfmbeafiaaPAx9
namespace Go.Proofs.Ytinnldfmbeafiaa.PA.D
open Go.RowKit Go.Proofs.YtinnldfmbeafiaaW.PrintWords Go.Proofs.YtinnldfmbeafiaaW.PrintLast Go.Proofs.YtinnldfmbeafiaaW.PrintMore
set_option linter.unusedVariables false
set_option linter.unusedSimpArgs false
theorem keyword2_ev (x : ByteArray) : Ev (fun k => witheref6_Keyword.f k x) (kwS x) := by
 have : ∀ (d i : Nat), kwWords.length - i = d → i ≤ kwWords.length → Ev (fun k => witheref6_Keyword.l0 k x kwWords (i : Int)) (decide (ixS (kwWords.drop i) x i ≥ 0)) := by
  intro d
  induction d with
  | zero =>
   intro i h1 h2
   refine Ev.step (fun k => by simp only [witheref6_Keyword.l0]; rfl) (ev_else (by omega) ?_)
   rw [List.drop_of_length_le (by omega)]
   exact Ev.now _
  | succ d ih =>
   intro i h1 h2
   have hi : i < kwWords.length := by omega
   have hr := ih (i + 1) (by omega) (by omega)
   refine Ev.step (fun k => by simp only [witheref6_Keyword.l0]; rfl) (ev_if (by omega) (ev_if (by omega) ?_))
   rw [rdOf_nat kwWords _ i hi, List.drop_eq_getElem_cons hi, ixS]
   by_cases he : x.toList = kwWords[i].toList
   ·rw [if_pos he]
    refine ev_if he.symm (ev_eq (Ev.now _) ?_)
    exact (decide_eq_true (Int.natCast_nonneg i)).symm
   ·rw [if_neg he]
    refine ev_else (fun e => he e.symm) ?_
    have hl : kwWords.length = 21 := rfl
    rw [w64 (by omega) (by omega)]
    exact hr
 have h := this kwWords.length 0 (by omega) (by omega)
 exact ev_bind0 (show witheref6_words.f = some kwWords from rfl) h
theorem keyword_d (x : ByteArray) (w : World) : Calls Try.prog 87 #[.string x] w fun e w' => e = .returned (.bool (kwS x)) ∧ Below w.heap.size w w' := by
 obtain ⟨k, hk⟩ := keyword2_ev x
 exact witheref6_Keyword.calls k x _ w (hk k (Nat.le_refl k))
theorem ST.inc {E : Env} {s : Cs} {w : World} (h : ST E s w) (hb : s.bad = false) (hk : (E.tk s.i).f0 ≠ 4) : wrap64 ((s.i : Int) + 1) = ((s.i + 1 : Nat) : Int) ∧ ST E ⟨s.i + 1, false, s.ps⟩ (w.setCell ⟨E.g, 1, none⟩ (.int .i64 ((s.i + 1 : Nat) : Int))) ∧ KP E w (w.setCell ⟨E.g, 1, none⟩ (.int .i64 ((s.i + 1 : Nat) : Int))) := by
 have hl := h.ok.fin s.i h.lt hk
 have hf := h.ok.few
 refine ⟨by unfold wrap64; omega, ?_, (h.go hb hl).2⟩
 have h2 := (h.go hb hl).1
 rw [hb] at h2
 exact h2
attribute [local go_sem] cell_set_some fld53_0 fld53_1 fld53_2 fld53_3
def isT.T1 : Bool × List (List Nat × List Nat) := (true, [([], []), ([0], [0]), ([1], [1]), ([2], [2]), ([], []), ([4], [4]), ([5], [5]), ([6], [6]), ([3, 7], [3, 7]), ([8], [8]), ([], []), ([10, 9, 0, 1, 2, 3, 4, 5, 6, 7, 8, 9, 10], [9, 10])])
def isT.B1 : List Nat := [0, 1, 3, 7, 0, 16, 48, 112, 255, 511, 0, 2047]
theorem isT.tab1 : rtab .any (opsOf Try.f38 1) = isT.T1 := by kernel_rfl
theorem isT.bits1 : waitsOk isT.T1.2 isT.B1 = true := by kernel_rfl
set_option maxHeartbeats 8000000 in
set_option maxRecDepth 100000 in
theorem is_d (E : Env) (s : Cs) (t : ByteArray) (w : World) (h : ST E s w) : Calls Try.prog 38 #[.pointer (some ⟨E.g, 0, none⟩), .string t] w fun e w' => e = .returned (.bool (isB E s t)) ∧ Below w.heap.size w w' := by
 obtain ⟨i, bad, ps⟩ := s
 have hu65 := Try.underlying65
 have hu53 := Try.underlying53
 have HB := Aside0.mk (below_drew (Below.refl w.heap.size w))
 have HSB := Aside0.mk (show E.w0.heap.size ≤ w.heap.size from h.below.size)
 have HS := Aside0.mk h
 have HK := Aside0.mk (KP.refl E w)
 clear h
 go_enter Try.func38, Try.ntmps38
 go_upto_region 1 with (fail)
 replace HK := kkB HK (below_drew (Below.refl w.heap.size w))
 replace HS := ssM HS (below_drew (Below.refl w.heap.size w))
 obtain ⟨ad, hA, y0, y1, y2, y3⟩ := HS.out.tok
 have c0 := HS.out.c0; have c1 := HS.out.c1
 rw [hA] at c0
 have p1 := eq_true (show (i : Int) < (E.ts.length : Int) from Int.ofNat_lt.mpr HS.out.lt)
 have p2 := eq_true (show i < E.ts.length from HS.out.lt)
 have p0 := eq_true (show 0 ≤ (i : Int) from Int.natCast_nonneg _)
 clear hA
 refine start_ (n := 12) (S := fun w' => w'.cell? ⟨E.g, 0, none⟩ = some (.slice (some ad) E.ts.length E.c) ∧ w'.cell? ⟨E.g, 1, none⟩ = some (.int .i64 (i : Int)) ∧ w'.cell? (ad.add (i * 4)) = some (.int .i64 (E.tk i).f0) ∧ w'.cell? ⟨(ad.add (i * 4)).block, (ad.add (i * 4)).off + 1, none⟩ = some (.string (E.tk i).f1) ∧ w'.cell? ⟨(ad.add (i * 4)).block, (ad.add (i * 4)).off + 2, none⟩ = some (.int .i64 (E.tk i).f2) ∧ w'.cell? ⟨(ad.add (i * 4)).block, (ad.add (i * 4)).off + 3, none⟩ = some (.int .i64 (E.tk i).f3)) (ds := [11]) #[Z,Z,Z,Z,Z,Z,Z,Z,Z,Z,Z,Z] (by kernel_rfl) rfl rfl ⟨c0, c1, y0, y1, y2, y3⟩ (fun hHeld => ?_)
 refine with_tabW isT.tab1 isT.bits1 (fun HT_ HW_ => ?_)
 generalize World.drew _ = wd at HS HK HB c0 c1 y0 y1 y2 y3 hHeld ⊢
 refine ppU (i := 0) (N := some 6) #[Y,Z,Z,Z,Z,Z,Z,Z,Z,Z,Z,Z] HT_ ?_
 refine ppU (i := 1) (N := some 7) #[Y,Y,Z,Z,Z,Z,Z,Z,Z,Z,Z,Z] HT_ ?_
 refine ppU (i := 2) (N := some 8) #[Y,Y,Y,Z,Z,Z,Z,Z,Z,Z,Z,Z] HT_ ?_
 refine take_ (i := 3) (N := some 9) (v := ?_) (a' := ?_) #[Y,Y,Y,Y,Z,Z,Z,Z,Z,Z,Z,Z] rfl rfl (take_ofW HT_.out HW_.out (by kernel_rfl)) (fun _ _ _ h => h) (Or.inl ⟨by rfl, ?_⟩) hHeld ?_ ?_
 rotate_left
 ·rintro w' ⟨s0, s1, s2, s3, s4, s5⟩
  go_simp
  with_reducible rfl
 rotate_left
 ·simp only [Act.put, pA, pB, pC, i64_w, i32_w]
  rfl
 refine ppU (i := 4) (N := some 10) #[Y,Y,Y,Y,Y,Z,Z,Z,Z,Z,Z,Z] HT_ ?_
 refine ppU (i := 5) (N := some 11) #[Y,Y,Y,Y,Y,Y,Z,Z,Z,Z,Z,Z] HT_ ?_
 refine ppU (i := 6) (N := some 12) #[Y,Y,Y,Y,Y,Y,Y,Z,Z,Z,Z,Z] HT_ ?_
 refine take_ (i := 7) (N := some 13) (v := ?_) (a' := ?_) #[Y,Y,Y,Y,Y,Y,Y,Y,Z,Z,Z,Z] rfl rfl (take_ofW HT_.out HW_.out (by kernel_rfl)) (fun _ _ _ h => h) (Or.inl ⟨by rfl, ?_⟩) hHeld ?_ ?_
 rotate_left
 ·rintro w' ⟨s0, s1, s2, s3, s4, s5⟩
  go_simp
  with_reducible rfl
 rotate_left
 ·simp only [Act.put, pA, pB, pC, i64_w, i32_w]
  rfl
 refine ppU (i := 8) (N := some 14) #[Y,Y,Y,Y,Y,Y,Y,Y,Y,Z,Z,Z] HT_ ?_
 refine take_ (i := 9) (N := some 15) (v := ?_) (a' := ?_) #[Y,Y,Y,Y,Y,Y,Y,Y,Y,Y,Z,Z] rfl rfl (take_ofW HT_.out HW_.out (by kernel_rfl)) (fun _ _ _ h => h) (Or.inl ⟨by rfl, ?_⟩) hHeld ?_ ?_
 rotate_left
 ·rintro w' ⟨s0, s1, s2, s3, s4, s5⟩
  go_simp
  with_reducible rfl
 rotate_left
 ·simp only [Act.put, pA, pB, pC, i64_w, i32_w]
  rfl
 refine one_ (i := 10) (N := some 5) #[Y,Y,Y,Y,Y,Y,Y,Y,Y,Y,Y,Z] rfl rfl (one_of HT_.out (by kernel_rfl)) (by decide) (fun K hK => ?_)
 refine value_ (w1 := ?_) (v := ?_) (by rfl) rfl ?_ ?_
 rotate_left 2
 ·go_simp
  constructor
  ·rfl
  ·rfl
 refine hK.out _ _ ⟨(World.cell?_alloc_lt _ _ _ (World.block_lt_of_cell? _ _ c0)).trans c0, (World.cell?_alloc_lt _ _ _ (World.block_lt_of_cell? _ _ c1)).trans c1, (World.cell?_alloc_lt _ _ _ (World.block_lt_of_cell? _ _ y0)).trans y0, (World.cell?_alloc_lt _ _ _ (World.block_lt_of_cell? _ _ y1)).trans y1, (World.cell?_alloc_lt _ _ _ (World.block_lt_of_cell? _ _ y2)).trans y2, (World.cell?_alloc_lt _ _ _ (World.block_lt_of_cell? _ _ y3)).trans y3⟩ (fun hHeld => ?_)
 clear hK K
 refine norm_ (a' := ?_) ?_ ?_
 rotate_left
 ·show Act.put _ (some 5) _ = _
  simp only [Act.put, pA, pB, pC, i64_w, i32_w]
  rfl
 refine last_ (i := 11) (N := none) #[Y,Y,Y,Y,Y,Y,Y,Y,Y,Y,Y,Y] rfl rfl (one_of HT_.out (by kernel_rfl)) (by decide) (fun K hK => ?_)
 have hb5 := blk_new wd (.cells z53v 53 (0, 0))
 have hs0 := blk_celln hb5 0 _ rfl; have hf0 := blk_frozen hb5 0; have hs1 := blk_celln hb5 1 _ rfl; have hf1 := blk_frozen hb5 1; have hs2 := blk_celln hb5 2 _ rfl; have hf2 := blk_frozen hb5 2; have hs3 := blk_celln hb5 3 _ rfl; have hf3 := blk_frozen hb5 3
 refine skip_ (w1 := ?_) (by rfl) rfl ?_ ?_
 rotate_left
 ·go_simp
  rfl
 refine hK.out _ _ ?_
 clear hK K
 refine done_ (done_of HT_.out (by kernel_rfl)) ?_
 have F1_ := blk_new wd (.cells #[.int .i64 (E.tk i).f0, .string (E.tk i).f1, .int .i64 (E.tk i).f2, .int .i64 (E.tk i).f3] 53 (0, 0))
 have Q2 := Aside0.mk (below_alloc (Below.refl wd.heap.size wd) (.cells #[.int .i64 (E.tk i).f0, .string (E.tk i).f1, .int .i64 (E.tk i).f2, .int .i64 (E.tk i).f3] 53 (0, 0)))
 clear hHeld hs0 hf0 hs1 hf1 hs2 hf2 hs3 hf3 hb5
 clear c0 c1 y0 y1 y2 y3 p0 p1 p2
 generalize hW_ : World.alloc wd _ = w5 at F1_ Q2 ⊢
 clear hW_
 obtain ⟨g5, hg5⟩ : ∃ g5, wd.heap.size = g5 := ⟨_, rfl⟩
 rw [hg5] at F1_ ⊢
 have H5 := Aside0.mk F1_
 clear F1_ hg5
 replace HK := kkB HK Q2.out
 replace HS := ssM HS Q2.out
 replace HB := Aside0.mk (below_step HB.out Q2.out); clear Q2
 obtain ⟨z5_0, z5_1, z5_2, z5_3⟩ := cn4 H5.out
 have c2 := HS.out.c2
 cases bad with
 | true =>
  have b0 : ¬ bdI E ⟨i, true, ps⟩ < 0 := by
   have h1 := HS.out.ok2.nn i
   show ¬ (E.tk i).f3 < 0
   omega
  have b1 := eq_false b0; have b2 := decide_eq_false b0
  clear b0
  go_wp2
  go_ret
  exact ⟨by simp [isB], HB.out⟩
 | false =>
  rw [show bdI E ⟨i, false, ps⟩ = -1 from rfl] at c2
  by_cases ht : (E.tk i).f1.toList = t.toList
  ·have t1 := eq_true ht; have t2 : decide ((E.tk i).f1.toList = t.toList) = true := decide_eq_true ht; have t3 : ((E.tk i).f1.toList == t.toList) = true := beq_iff_eq.mpr ht
   by_cases k1 : (E.tk i).f0 = 1
   ·have a1 := eq_true k1; have a2 := decide_eq_true k1; have a3 : ((E.tk i).f0 == 1) = true := beq_iff_eq.mpr k1
    clear k1 ht
    go_wp2
    go_ret
    exact ⟨by simp [isB, *], HB.out⟩
   ·have a1 := eq_false k1; have a2 := decide_eq_false k1; have a3 : ((E.tk i).f0 == 1) = false := beq_eq_false_iff_ne.mpr k1
    by_cases k3 : (E.tk i).f0 = 3
    ·have b1 := eq_true k3; have b2 := decide_eq_true k3; have b3 : ((E.tk i).f0 == 3) = true := beq_iff_eq.mpr k3
     clear k1 k3 ht
     go_wp2
     go_ret
     exact ⟨by simp [isB, *], HB.out⟩
    ·have b1 := eq_false k3; have b2 := decide_eq_false k3; have b3 : ((E.tk i).f0 == 3) = false := beq_eq_false_iff_ne.mpr k3
     clear k1 k3 ht
     go_wp2
     go_ret
     exact ⟨by simp [isB, *], HB.out⟩
  ·have t1 := eq_false ht; have t2 : decide ((E.tk i).f1.toList = t.toList) = false := decide_eq_false ht; have t3 : ((E.tk i).f1.toList == t.toList) = false := beq_eq_false_iff_ne.mpr ht
   by_cases k1 : (E.tk i).f0 = 1
   ·have a1 := eq_true k1; have a2 := decide_eq_true k1; have a3 : ((E.tk i).f0 == 1) = true := beq_iff_eq.mpr k1
    clear k1 ht
    go_wp2
    go_ret
    exact ⟨by simp [isB, *], HB.out⟩
   ·have a1 := eq_false k1; have a2 := decide_eq_false k1; have a3 : ((E.tk i).f0 == 1) = false := beq_eq_false_iff_ne.mpr k1
    by_cases k3 : (E.tk i).f0 = 3
    ·have b1 := eq_true k3; have b2 := decide_eq_true k3; have b3 : ((E.tk i).f0 == 3) = true := beq_iff_eq.mpr k3
     clear k1 k3 ht
     go_wp2
     go_ret
     exact ⟨by simp [isB, *], HB.out⟩
    ·have b1 := eq_false k3; have b2 := decide_eq_false k3; have b3 : ((E.tk i).f0 == 3) = false := beq_eq_false_iff_ne.mpr k3
     clear k1 k3 ht
     go_wp2
     go_ret
     exact ⟨by simp [isB, *], HB.out⟩
set_option maxHeartbeats 8000000 in
set_option maxRecDepth 100000 in
theorem wrong_d (E : Env) (s : Cs) (w : World) (h : ST E s w) : Calls Try.prog 41 #[.pointer (some ⟨E.g, 0, none⟩)] w fun e w' => e = .returned (.tuple #[]) ∧ ST E ⟨s.i, true, s.ps⟩ w' ∧ KP E w w' := by
 obtain ⟨i, bad, ps⟩ := s
 have hu65 := Try.underlying65
 have hu53 := Try.underlying53
 have HSB := Aside0.mk (show E.w0.heap.size ≤ w.heap.size from h.below.size)
 have HS := Aside0.mk h
 have HK := Aside0.mk (KP.refl E w)
 clear h
 go_enter Try.func41, Try.ntmps41
 have c2 := HS.out.c2
 cases bad with
 | true =>
  have b0 : ¬ bdI E ⟨i, true, ps⟩ < 0 := by
   have h1 := HS.out.ok2.nn i
   show ¬ (E.tk i).f3 < 0
   omega
  have b1 := eq_false b0; have b2 := decide_eq_false b0
  clear b0
  go_wp2
  go_end0
  exact ⟨rfl, HS.out, HK.out⟩
 | false =>
  rw [show bdI E ⟨i, false, ps⟩ = -1 from rfl] at c2
  go_upto_region 1 with (fail)
  replace HK := kkB HK (below_drew (Below.refl w.heap.size w))
  replace HS := ssM HS (below_drew (Below.refl w.heap.size w))
  obtain ⟨ad, hA, y0, y1, y2, y3⟩ := HS.out.tok
  have c0 := HS.out.c0; have c1 := HS.out.c1
  rw [hA] at c0
  have p1 := eq_true (show (i : Int) < (E.ts.length : Int) from Int.ofNat_lt.mpr HS.out.lt)
  have p2 := eq_true (show i < E.ts.length from HS.out.lt)
  have p0 := eq_true (show 0 ≤ (i : Int) from Int.natCast_nonneg _)
  clear hA
  have cf2 := HS.out.fz 2
  obtain ⟨q1, qk⟩ := HS.out.wrong
  have Q1 := Aside0.mk q1; have QK := Aside0.mk qk
  clear q1 qk
  go_region
  all_goals
   go_end0
   exact ⟨rfl, Q1.out, HK.out.trans QK.out⟩
set_option maxHeartbeats 8000000 in
set_option maxRecDepth 100000 in
theorem isNumber_d (E : Env) (s : Cs) (w : World) (h : ST E s w) : Calls Try.prog 63 #[.pointer (some ⟨E.g, 0, none⟩)] w fun e w' => e = .returned (.bool (nuB E s)) ∧ Below w.heap.size w w' := by
 obtain ⟨i, bad, ps⟩ := s
 have hu65 := Try.underlying65
 have hu53 := Try.underlying53
 have HB := Aside0.mk (below_drew (Below.refl w.heap.size w))
 have HSB := Aside0.mk (show E.w0.heap.size ≤ w.heap.size from h.below.size)
 have HS := Aside0.mk h
 have HK := Aside0.mk (KP.refl E w)
 clear h
 go_enter Try.func63, Try.ntmps63
 go_upto_region 1 with (fail)
 replace HK := kkB HK (below_drew (Below.refl w.heap.size w))
 replace HS := ssM HS (below_drew (Below.refl w.heap.size w))
 obtain ⟨ad, hA, y0, y1, y2, y3⟩ := HS.out.tok
 have c0 := HS.out.c0; have c1 := HS.out.c1
 rw [hA] at c0
 have p1 := eq_true (show (i : Int) < (E.ts.length : Int) from Int.ofNat_lt.mpr HS.out.lt)
 have p2 := eq_true (show i < E.ts.length from HS.out.lt)
 have p0 := eq_true (show 0 ≤ (i : Int) from Int.natCast_nonneg _)
 clear hA
 have c2 := HS.out.c2
 cases bad with
 | true =>
  have b0 : ¬ bdI E ⟨i, true, ps⟩ < 0 := by
   have h1 := HS.out.ok2.nn i
   show ¬ (E.tk i).f3 < 0
   omega
  have b1 := eq_false b0; have b2 := decide_eq_false b0
  clear b0
  go_region
  all_goals
   go_wp2
   go_ret
   exact ⟨by simp [nuB], HB.out⟩
 | false =>
  rw [show bdI E ⟨i, false, ps⟩ = -1 from rfl] at c2
  by_cases k1 : (E.tk i).f0 = 2
  ·have a1 := eq_true k1; have a2 := decide_eq_true k1; have a3 : ((E.tk i).f0 == 2) = true := beq_iff_eq.mpr k1
   clear k1
   go_region
   all_goals
    go_wp2
    go_ret
    exact ⟨by simp [nuB, *], HB.out⟩
  ·have a1 := eq_false k1; have a2 := decide_eq_false k1; have a3 : ((E.tk i).f0 == 2) = false := beq_eq_false_iff_ne.mpr k1
   clear k1
   go_region
   all_goals
    go_wp2
    go_ret
    exact ⟨by simp [nuB, *], HB.out⟩
def isNameT.T1 : Bool × List (List Nat × List Nat) := (true, [([], []), ([0], [0]), ([1], [1]), ([2], [2]), ([], []), ([4], [4]), ([5], [5]), ([6], [6]), ([3, 7], [3, 7]), ([8], [8]), ([], []), ([10, 9, 0, 1, 2, 3, 4, 5, 6, 7, 8, 9, 10], [9, 10])])
def isNameT.B1 : List Nat := [0, 1, 3, 7, 0, 16, 48, 112, 255, 511, 0, 2047]
theorem isNameT.tab1 : rtab .any (opsOf Try.f62 1) = isNameT.T1 := by kernel_rfl
theorem isNameT.bits1 : waitsOk isNameT.T1.2 isNameT.B1 = true := by kernel_rfl
set_option maxHeartbeats 8000000 in
set_option maxRecDepth 100000 in
theorem isName_d (E : Env) (s : Cs) (w : World) (h : ST E s w) : Calls Try.prog 62 #[.pointer (some ⟨E.g, 0, none⟩)] w fun e w' => e = .returned (.bool (nmB E s)) ∧ Below w.heap.size w w' := by
 obtain ⟨i, bad, ps⟩ := s
 have hu65 := Try.underlying65
 have hu53 := Try.underlying53
 have HB := Aside0.mk (below_drew (Below.refl w.heap.size w))
 have HSB := Aside0.mk (show E.w0.heap.size ≤ w.heap.size from h.below.size)
 have HS := Aside0.mk h
 have HK := Aside0.mk (KP.refl E w)
 clear h
 go_enter Try.func62, Try.ntmps62
 go_upto_region 1 with (fail)
 replace HK := kkB HK (below_drew (Below.refl w.heap.size w))
 replace HS := ssM HS (below_drew (Below.refl w.heap.size w))
 obtain ⟨ad, hA, y0, y1, y2, y3⟩ := HS.out.tok
 have c0 := HS.out.c0; have c1 := HS.out.c1
 rw [hA] at c0
 have p1 := eq_true (show (i : Int) < (E.ts.length : Int) from Int.ofNat_lt.mpr HS.out.lt)
 have p2 := eq_true (show i < E.ts.length from HS.out.lt)
 have p0 := eq_true (show 0 ≤ (i : Int) from Int.natCast_nonneg _)
 clear hA
 refine start_ (n := 12) (S := fun w' => w'.cell? ⟨E.g, 0, none⟩ = some (.slice (some ad) E.ts.length E.c) ∧ w'.cell? ⟨E.g, 1, none⟩ = some (.int .i64 (i : Int)) ∧ w'.cell? (ad.add (i * 4)) = some (.int .i64 (E.tk i).f0) ∧ w'.cell? ⟨(ad.add (i * 4)).block, (ad.add (i * 4)).off + 1, none⟩ = some (.string (E.tk i).f1) ∧ w'.cell? ⟨(ad.add (i * 4)).block, (ad.add (i * 4)).off + 2, none⟩ = some (.int .i64 (E.tk i).f2) ∧ w'.cell? ⟨(ad.add (i * 4)).block, (ad.add (i * 4)).off + 3, none⟩ = some (.int .i64 (E.tk i).f3)) (ds := [11]) #[Z,Z,Z,Z,Z,Z,Z,Z,Z,Z,Z,Z] (by kernel_rfl) rfl rfl ⟨c0, c1, y0, y1, y2, y3⟩ (fun hHeld => ?_)
 refine with_tabW isNameT.tab1 isNameT.bits1 (fun HT_ HW_ => ?_)
 generalize World.drew _ = wd at HS HK HB c0 c1 y0 y1 y2 y3 hHeld ⊢
 refine ppU (i := 0) (N := some 4) #[Y,Z,Z,Z,Z,Z,Z,Z,Z,Z,Z,Z] HT_ ?_
 refine ppU (i := 1) (N := some 5) #[Y,Y,Z,Z,Z,Z,Z,Z,Z,Z,Z,Z] HT_ ?_
 refine ppU (i := 2) (N := some 6) #[Y,Y,Y,Z,Z,Z,Z,Z,Z,Z,Z,Z] HT_ ?_
 refine take_ (i := 3) (N := some 7) (v := ?_) (a' := ?_) #[Y,Y,Y,Y,Z,Z,Z,Z,Z,Z,Z,Z] rfl rfl (take_ofW HT_.out HW_.out (by kernel_rfl)) (fun _ _ _ h => h) (Or.inl ⟨by rfl, ?_⟩) hHeld ?_ ?_
 rotate_left
 ·rintro w' ⟨s0, s1, s2, s3, s4, s5⟩
  go_simp
  with_reducible rfl
 rotate_left
 ·simp only [Act.put, pA, pB, pC, i64_w, i32_w]
  rfl
 refine ppU (i := 4) (N := some 8) #[Y,Y,Y,Y,Y,Z,Z,Z,Z,Z,Z,Z] HT_ ?_
 refine ppU (i := 5) (N := some 9) #[Y,Y,Y,Y,Y,Y,Z,Z,Z,Z,Z,Z] HT_ ?_
 refine ppU (i := 6) (N := some 10) #[Y,Y,Y,Y,Y,Y,Y,Z,Z,Z,Z,Z] HT_ ?_
 refine take_ (i := 7) (N := some 11) (v := ?_) (a' := ?_) #[Y,Y,Y,Y,Y,Y,Y,Y,Z,Z,Z,Z] rfl rfl (take_ofW HT_.out HW_.out (by kernel_rfl)) (fun _ _ _ h => h) (Or.inl ⟨by rfl, ?_⟩) hHeld ?_ ?_
 rotate_left
 ·rintro w' ⟨s0, s1, s2, s3, s4, s5⟩
  go_simp
  with_reducible rfl
 rotate_left
 ·simp only [Act.put, pA, pB, pC, i64_w, i32_w]
  rfl
 refine ppU (i := 8) (N := some 12) #[Y,Y,Y,Y,Y,Y,Y,Y,Y,Z,Z,Z] HT_ ?_
 refine take_ (i := 9) (N := some 13) (v := ?_) (a' := ?_) #[Y,Y,Y,Y,Y,Y,Y,Y,Y,Y,Z,Z] rfl rfl (take_ofW HT_.out HW_.out (by kernel_rfl)) (fun _ _ _ h => h) (Or.inl ⟨by rfl, ?_⟩) hHeld ?_ ?_
 rotate_left
 ·rintro w' ⟨s0, s1, s2, s3, s4, s5⟩
  go_simp
  with_reducible rfl
 rotate_left
 ·simp only [Act.put, pA, pB, pC, i64_w, i32_w]
  rfl
 refine one_ (i := 10) (N := some 3) #[Y,Y,Y,Y,Y,Y,Y,Y,Y,Y,Y,Z] rfl rfl (one_of HT_.out (by kernel_rfl)) (by decide) (fun K hK => ?_)
 refine value_ (w1 := ?_) (v := ?_) (by rfl) rfl ?_ ?_
 rotate_left 2
 ·go_simp
  constructor
  ·rfl
  ·rfl
 refine hK.out _ _ ⟨(World.cell?_alloc_lt _ _ _ (World.block_lt_of_cell? _ _ c0)).trans c0, (World.cell?_alloc_lt _ _ _ (World.block_lt_of_cell? _ _ c1)).trans c1, (World.cell?_alloc_lt _ _ _ (World.block_lt_of_cell? _ _ y0)).trans y0, (World.cell?_alloc_lt _ _ _ (World.block_lt_of_cell? _ _ y1)).trans y1, (World.cell?_alloc_lt _ _ _ (World.block_lt_of_cell? _ _ y2)).trans y2, (World.cell?_alloc_lt _ _ _ (World.block_lt_of_cell? _ _ y3)).trans y3⟩ (fun hHeld => ?_)
 clear hK K
 refine norm_ (a' := ?_) ?_ ?_
 rotate_left
 ·show Act.put _ (some 3) _ = _
  simp only [Act.put, pA, pB, pC, i64_w, i32_w]
  rfl
 refine last_ (i := 11) (N := none) #[Y,Y,Y,Y,Y,Y,Y,Y,Y,Y,Y,Y] rfl rfl (one_of HT_.out (by kernel_rfl)) (by decide) (fun K hK => ?_)
 have hb5 := blk_new wd (.cells z53v 53 (0, 0))
 have hs0 := blk_celln hb5 0 _ rfl; have hf0 := blk_frozen hb5 0; have hs1 := blk_celln hb5 1 _ rfl; have hf1 := blk_frozen hb5 1; have hs2 := blk_celln hb5 2 _ rfl; have hf2 := blk_frozen hb5 2; have hs3 := blk_celln hb5 3 _ rfl; have hf3 := blk_frozen hb5 3
 refine skip_ (w1 := ?_) (by rfl) rfl ?_ ?_
 rotate_left
 ·go_simp
  rfl
 refine hK.out _ _ ?_
 clear hK K
 refine done_ (done_of HT_.out (by kernel_rfl)) ?_
 have F1_ := blk_new wd (.cells #[.int .i64 (E.tk i).f0, .string (E.tk i).f1, .int .i64 (E.tk i).f2, .int .i64 (E.tk i).f3] 53 (0, 0))
 have Q2 := Aside0.mk (below_alloc (Below.refl wd.heap.size wd) (.cells #[.int .i64 (E.tk i).f0, .string (E.tk i).f1, .int .i64 (E.tk i).f2, .int .i64 (E.tk i).f3] 53 (0, 0)))
 clear hHeld hs0 hf0 hs1 hf1 hs2 hf2 hs3 hf3 hb5
 clear c0 c1 y0 y1 y2 y3 p0 p1 p2
 generalize hW_ : World.alloc wd _ = w5 at F1_ Q2 ⊢
 clear hW_
 obtain ⟨g5, hg5⟩ : ∃ g5, wd.heap.size = g5 := ⟨_, rfl⟩
 rw [hg5] at F1_ ⊢
 have H5 := Aside0.mk F1_
 clear F1_ hg5
 replace HK := kkB HK Q2.out
 replace HS := ssM HS Q2.out
 replace HB := Aside0.mk (below_step HB.out Q2.out); clear Q2
 obtain ⟨z5_0, z5_1, z5_2, z5_3⟩ := cn4 H5.out
 have c2 := HS.out.c2
 cases bad with
 | true =>
  have b0 : ¬ bdI E ⟨i, true, ps⟩ < 0 := by
   have h1 := HS.out.ok2.nn i
   show ¬ (E.tk i).f3 < 0
   omega
  have b1 := eq_false b0; have b2 := decide_eq_false b0
  clear b0
  go_wp2
  go_ret
  exact ⟨by simp [nmB], HB.out⟩
 | false =>
  rw [show bdI E ⟨i, false, ps⟩ = -1 from rfl] at c2
  by_cases k1 : (E.tk i).f0 = 1
  ·have a1 := eq_true k1; have a2 := decide_eq_true k1; have a3 : ((E.tk i).f0 == 1) = true := beq_iff_eq.mpr k1
   have K1 := Aside0.mk k1
   clear k1
   go_wp2_with (fail)
   have hW := keyword_d (E.tk i).f1 w5
   refine hW.mono ?_
   clear hW
   rintro e wk ⟨rfl, qb⟩
   replace HB := Aside0.mk (below_step HB.out qb)
   clear qb
   cases hK : kwS (E.tk i).f1
   ·have HX := Aside0.mk hK
    clear hK
    go_wp2
    go_ret
    exact ⟨by simp [nmB, K1.out, HX.out], HB.out⟩
   ·have HX := Aside0.mk hK
    clear hK
    go_wp2
    go_ret
    exact ⟨by simp [nmB, K1.out, HX.out], HB.out⟩
  ·have a1 := eq_false k1; have a2 := decide_eq_false k1; have a3 : ((E.tk i).f0 == 1) = false := beq_eq_false_iff_ne.mpr k1
   have K1 := Aside0.mk k1
   clear k1
   go_wp2
   go_ret
   exact ⟨by simp [nmB, K1.out], HB.out⟩
end Go.Proofs.Ytinnldfmbeafiaa.PA.D
