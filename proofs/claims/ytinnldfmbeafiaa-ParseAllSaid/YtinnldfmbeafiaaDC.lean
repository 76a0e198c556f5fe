/- The document's cursor: what must stand here; walked by hand. -/
import Derived.Test.YtinnldfmbeafiaaDB
namespace Go.Proofs.Ytinnldfmbeafiaa.PA.D
open Go.RowKit Go.Proofs.YtinnldfmbeafiaaW.PrintWords Go.Proofs.YtinnldfmbeafiaaW.PrintLast Go.Proofs.YtinnldfmbeafiaaW.PrintMore
set_option linter.unusedVariables false
set_option linter.unusedSimpArgs false
attribute [local go_sem] cell_set_some fld53_0 fld53_1 fld53_2 fld53_3
theorem zDCq1 {p : Prop} (h : p := by rcases Nat.lt_succ_iff_lt_or_eq.mp hj with h | h; exact HF.out j h; rw [h]; exact HE.out) : p := h
theorem zDCq2 {p : Prop} (h : p := by unfold modeP; rw [if_pos HH.out.1, HH.out.2]; rfl) : p := h
theorem ST.tok2 {E : Env} {s : Cs} {w : World} (h : ST E s w) {j : Nat} (hl : j < E.ts.length) : ∃ ad, E.A = some ad ∧ w.cell? (ad.add (j * 4)) = some (.int .i64 (E.tk j).f0) ∧ w.cell? ⟨(ad.add (j * 4)).block, (ad.add (j * 4)).off + 1, none⟩ = some (.string (E.tk j).f1) ∧ w.cell? ⟨(ad.add (j * 4)).block, (ad.add (j * 4)).off + 2, none⟩ = some (.int .i64 (E.tk j).f2) ∧ w.cell? ⟨(ad.add (j * 4)).block, (ad.add (j * 4)).off + 3, none⟩ = some (.int .i64 (E.tk j).f3) := by
 obtain ⟨ad, e, y0, y1, y2, y3⟩ := at_T53 h.ok.row (j : Int) (by omega) (by omega)
 simp only [Int.toNat_natCast] at y0 y1 y2 y3
 have cb : ∀ {a : Addr} {v : Value}, E.w0.cell? a = some v → w.cell? a = some v := fun hc => (h.below.cell (World.block_lt_of_cell? _ _ hc)).trans hc
 exact ⟨ad, e, cb y0, cb y1, cb y2, cb y3⟩
theorem isT_iff {E : Env} {i : Nat} {t : ByteArray} : isT E i t = true ↔ ((E.tk i).f0 = 1 ∨ (E.tk i).f0 = 3) ∧ (E.tk i).f1.toList = t.toList := by
 unfold isT
 simp
theorem isT_not {E : Env} {i : Nat} {t : ByteArray} (h : isT E i t = false) (hk : (E.tk i).f0 = 1 ∨ (E.tk i).f0 = 3) : (E.tk i).f1.toList ≠ t.toList := fun e => by
 rw [isT_iff.mpr ⟨hk, e⟩] at h
 cases h
def md (n : Nat) : ByteArray := modes.getD n ⟨#[]⟩
theorem mode_hit {E : Env} (h2 : Ok2 E) {i n : Nat} (hn : n < 5) (h : isT E i (md n) = true) (hp : ∀ j, j < n → isT E i (md j) = false) : (decide ((E.tk i).f0 = 1) && decide (ixS modes (E.tk i).f1 0 ≥ 0)) = true ∧ ixS modes (E.tk i).f1 0 = (n : Int) := by
 obtain ⟨hk, ht⟩ := isT_iff.mp h
 have hne : ∀ j, j < n → (E.tk i).f1.toList ≠ (md j).toList := fun j hj => isT_not (hp j hj) hk
 have hix : ixS modes (E.tk i).f1 0 = (n : Int) := by
  have e0 : modes = [md 0, md 1, md 2, md 3, md 4] := rfl
  rw [e0]
  simp only [ixS]
  rcases (by omega : n = 0 ∨ n = 1 ∨ n = 2 ∨ n = 3 ∨ n = 4) with rfl | rfl | rfl | rfl | rfl
  ·rw [if_pos ht]
  ·rw [if_neg (hne 0 (by omega)), if_pos ht]
  ·rw [if_neg (hne 0 (by omega)), if_neg (hne 1 (by omega)), if_pos ht]
  ·rw [if_neg (hne 0 (by omega)), if_neg (hne 1 (by omega)), if_neg (hne 2 (by omega)), if_pos ht]
  ·rw [if_neg (hne 0 (by omega)), if_neg (hne 1 (by omega)), if_neg (hne 2 (by omega)), if_neg (hne 3 (by omega)), if_pos ht]
 refine ⟨?_, hix⟩
 rcases hk with hk | hk
 ·rw [hix]
  simp [hk]
 ·have := h2.sg i hk
  omega
theorem mode_none {E : Env} {i : Nat} (hp : ∀ j, j < 5 → isT E i (md j) = false) : modeP E i = .fail i := by
 unfold modeP
 rw [if_neg]
 intro h
 simp only [Bool.and_eq_true, decide_eq_true_eq] at h
 have hne : ∀ j, j < 5 → (E.tk i).f1.toList ≠ (md j).toList := fun j hj => isT_not (hp j hj) (.inl h.1)
 have e0 : modes = [md 0, md 1, md 2, md 3, md 4] := rfl
 rw [e0] at h
 simp only [ixS] at h
 rw [if_neg (hne 0 (by omega)), if_neg (hne 1 (by omega)), if_neg (hne 2 (by omega)), if_neg (hne 3 (by omega)), if_neg (hne 4 (by omega))] at h
 omega
set_option maxHeartbeats 8000000 in
set_option maxRecDepth 100000 in
theorem must_c (E : Env) (s : Cs) (t : ByteArray) (w : World) (h : ST E s w) : Calls Try.prog 35 #[.pointer (some ⟨E.g, 0, none⟩), .string t] w (Got E s w (mustP E t s.i) (fun _ _ v => v = .tuple #[])) := by
 have hu65 := Try.underlying65
 have hu53 := Try.underlying53
 have HSB := Aside0.mk (show E.w0.heap.size ≤ w.heap.size from h.below.size)
 have HS := Aside0.mk h
 have HK := Aside0.mk (KP.refl E w)
 clear h
 go_enter Try.func35, Try.ntmps35
 go_wp2_with (fail)
 have hW := is_d E s t _ HS.out
 refine hW.mono ?_
 clear hW
 rintro e wa ⟨rfl, qb⟩
 replace HK := kkB HK qb
 replace HS := ssM HS qb
 clear qb
 cases hB : isB E s t with
 | true =>
  have HE := Aside0.mk hB
  have HO := Aside0.mk (is_ok hB)
  clear hB
  have HI_ := Aside0.mk (HS.out.inc HO.out.1 HO.out.2)
  have c1 := HS.out.c1; have cf1 := HS.out.fz 1
  go_wp2_with (fail)
  (first | rw [HI_.out.1] | skip)
  obtain ⟨-, q1, qk⟩ := HI_.out
  generalize hW_ : World.setCell _ ⟨E.g, 1, none⟩ _ = wq at q1 qk ⊢
  clear hW_ HI_ c1 cf1
  replace HK := kkT HK qk
  replace HS := Aside0.mk q1
  clear q1 qk
  go_end0
  have hS := Step.wt (s := s) (p := isT E s.i t) (b := true) (HE.out.symm.trans (isB_eq E s t)) () ()
  exact ⟨(), _, ⟨s.i + 1, false, s.ps⟩, rfl, rfl, HS.out, HK.out, by unfold mustP; simpa [PA.wt, HO.out.1] using hS, Nat.le_succ _, rfl⟩
 | false =>
  have HE := Aside0.mk hB
  clear hB
  go_wp2_with (fail)
  have hW := wrong_d E s _ HS.out
  refine hW.mono ?_
  clear hW
  rintro e wb ⟨rfl, q1, qk⟩
  replace HK := kkT HK qk
  replace HS := Aside0.mk q1
  clear q1 qk
  go_wp2
  first | go_end0 | (refine bodyPost_ret (results_none rfl _ _ _) rfl ?_)
  have hS := Step.wt (s := s) (p := isT E s.i t) (b := false) (HE.out.symm.trans (isB_eq E s t)) () ()
  exact ⟨(), _, ⟨s.i, true, s.ps⟩, rfl, rfl, HS.out, HK.out, by unfold mustP; simpa [PA.wt] using hS, Nat.le_refl _, rfl⟩
set_option maxHeartbeats 8000000 in
set_option maxRecDepth 100000 in
theorem name_c (E : Env) (s : Cs) (w : World) (h : ST E s w) : Calls Try.prog 36 #[.pointer (some ⟨E.g, 0, none⟩)] w (Got E s w (nameP E s.i) (fun _ x v => v = .string x)) := by
 have hu65 := Try.underlying65
 have hu53 := Try.underlying53
 have HSB := Aside0.mk (show E.w0.heap.size ≤ w.heap.size from h.below.size)
 have HS := Aside0.mk h
 have HK := Aside0.mk (KP.refl E w)
 clear h
 go_enter Try.func36, Try.ntmps36
 go_wp2_with (fail)
 have hW := isName_d E s _ HS.out
 refine hW.mono ?_
 clear hW
 rintro e wa ⟨rfl, qb⟩
 replace HK := kkB HK qb
 replace HS := ssM HS qb
 clear qb
 cases hB : nmB E s with
 | true =>
  have HE := Aside0.mk hB
  have HO := Aside0.mk (nm_ok hB)
  have HT := Aside0.mk HS.out.tok
  have HLT := Aside0.mk HS.out.lt
  clear hB
  have HI_ := Aside0.mk (HS.out.inc HO.out.1 HO.out.2)
  have c1 := HS.out.c1; have cf1 := HS.out.fz 1
  go_upto_region 5 with (fail)
  (first | rw [HI_.out.1] | skip)
  obtain ⟨-, q1, qk⟩ := HI_.out
  have HT2 := Aside0.mk (ST.tok2 q1 HLT.out)
  generalize hW_ : World.setCell _ ⟨E.g, 1, none⟩ _ = wq at q1 qk HT2 ⊢
  clear hW_ HI_ c1 cf1 HT
  replace HK := kkT HK qk
  replace HS := Aside0.mk q1
  clear q1 qk
  have HD := Aside0.mk (below_drew (Below.refl wq.heap.size wq))
  replace HK := kkB HK HD.out
  replace HS := ssM HS HD.out
  obtain ⟨ad, hA, y0, y1, y2, y3⟩ := HT2.out
  have c0 := HS.out.c0; have c1 := HS.out.c1
  rw [hA] at c0
  have p1 := eq_true (show (s.i : Int) < (E.ts.length : Int) from Int.ofNat_lt.mpr HLT.out)
  have p2 := eq_true (show s.i < E.ts.length from HLT.out)
  have p0 := eq_true (show 0 ≤ (s.i : Int) from Int.natCast_nonneg _)
  have e1 : wrap64 ((s.i : Int) + 1 - 1) = (s.i : Int) := by
   have h1 := HLT.out
   have h2 := HS.out.ok.few
   unfold wrap64
   omega
  have e2 : wrap64 (s.i : Int) = (s.i : Int) := by
   have h1 := HLT.out
   have h2 := HS.out.ok.few
   unfold wrap64
   omega
  clear hA
  go_region
  all_goals
   go_wp2
   go_ret
   have hS := Step.wt (s := s) (p := (decide ((E.tk s.i).f0 = 1) && !kwS (E.tk s.i).f1)) (b := true) ((HE.out.symm.trans (nmB_eq E s))) (E.tk s.i).f1 ⟨#[]⟩
   exact ⟨(E.tk s.i).f1, _, ⟨s.i + 1, false, s.ps⟩, rfl, rfl, HS.out, HK.out, by unfold nameP; simpa [PA.wt, HO.out.1] using hS, Nat.le_succ _, rfl⟩
 | false =>
  have HE := Aside0.mk hB
  clear hB
  go_wp2_with (fail)
  have hW := wrong_d E s _ HS.out
  refine hW.mono ?_
  clear hW
  rintro e wb ⟨rfl, q1, qk⟩
  replace HK := kkT HK qk
  replace HS := Aside0.mk q1
  clear q1 qk
  go_wp2
  go_ret
  have hS := Step.wt (s := s) (p := (decide ((E.tk s.i).f0 = 1) && !kwS (E.tk s.i).f1)) (b := false) ((HE.out.symm.trans (nmB_eq E s))) (E.tk s.i).f1 ⟨#[]⟩
  exact ⟨⟨#[]⟩, _, ⟨s.i, true, s.ps⟩, rfl, rfl, HS.out, HK.out, by unfold nameP; simpa [PA.wt] using hS, Nat.le_refl _, rfl⟩
set_option maxHeartbeats 8000000 in
set_option maxRecDepth 100000 in
theorem number_c (E : Env) (s : Cs) (w : World) (h : ST E s w) : Calls Try.prog 37 #[.pointer (some ⟨E.g, 0, none⟩)] w (Got E s w (numP E s.i) (fun _ x v => v = .int .i64 x)) := by
 have hu65 := Try.underlying65
 have hu53 := Try.underlying53
 have HSB := Aside0.mk (show E.w0.heap.size ≤ w.heap.size from h.below.size)
 have HS := Aside0.mk h
 have HK := Aside0.mk (KP.refl E w)
 clear h
 go_enter Try.func37, Try.ntmps37
 go_wp2_with (fail)
 have hW := isNumber_d E s _ HS.out
 refine hW.mono ?_
 clear hW
 rintro e wa ⟨rfl, qb⟩
 replace HK := kkB HK qb
 replace HS := ssM HS qb
 clear qb
 cases hB : nuB E s with
 | true =>
  have HE := Aside0.mk hB
  have HO := Aside0.mk (nu_ok hB)
  have HT := Aside0.mk HS.out.tok
  have HLT := Aside0.mk HS.out.lt
  clear hB
  have HI_ := Aside0.mk (HS.out.inc HO.out.1 HO.out.2)
  have c1 := HS.out.c1; have cf1 := HS.out.fz 1
  go_upto_region 5 with (fail)
  (first | rw [HI_.out.1] | skip)
  obtain ⟨-, q1, qk⟩ := HI_.out
  have HT2 := Aside0.mk (ST.tok2 q1 HLT.out)
  generalize hW_ : World.setCell _ ⟨E.g, 1, none⟩ _ = wq at q1 qk HT2 ⊢
  clear hW_ HI_ c1 cf1 HT
  replace HK := kkT HK qk
  replace HS := Aside0.mk q1
  clear q1 qk
  have HD := Aside0.mk (below_drew (Below.refl wq.heap.size wq))
  replace HK := kkB HK HD.out
  replace HS := ssM HS HD.out
  obtain ⟨ad, hA, y0, y1, y2, y3⟩ := HT2.out
  have c0 := HS.out.c0; have c1 := HS.out.c1
  rw [hA] at c0
  have p1 := eq_true (show (s.i : Int) < (E.ts.length : Int) from Int.ofNat_lt.mpr HLT.out)
  have p2 := eq_true (show s.i < E.ts.length from HLT.out)
  have p0 := eq_true (show 0 ≤ (s.i : Int) from Int.natCast_nonneg _)
  have e1 : wrap64 ((s.i : Int) + 1 - 1) = (s.i : Int) := by
   have h1 := HLT.out
   have h2 := HS.out.ok.few
   unfold wrap64
   omega
  have e2 : wrap64 (s.i : Int) = (s.i : Int) := by
   have h1 := HLT.out
   have h2 := HS.out.ok.few
   unfold wrap64
   omega
  clear hA
  go_region
  all_goals
   go_wp2
   go_ret
   have hS := Step.wt (s := s) (p := decide ((E.tk s.i).f0 = 2)) (b := true) (HE.out.symm) (E.tk s.i).f2 0
   exact ⟨(E.tk s.i).f2, _, ⟨s.i + 1, false, s.ps⟩, rfl, rfl, HS.out, HK.out, by unfold numP; simpa [PA.wt, HO.out.1] using hS, Nat.le_succ _, rfl⟩
 | false =>
  have HE := Aside0.mk hB
  clear hB
  go_wp2_with (fail)
  have hW := wrong_d E s _ HS.out
  refine hW.mono ?_
  clear hW
  rintro e wb ⟨rfl, q1, qk⟩
  replace HK := kkT HK qk
  replace HS := Aside0.mk q1
  clear q1 qk
  go_wp2
  go_ret
  have hS := Step.wt (s := s) (p := decide ((E.tk s.i).f0 = 2)) (b := false) (HE.out.symm) (E.tk s.i).f2 0
  exact ⟨0, _, ⟨s.i, true, s.ps⟩, rfl, rfl, HS.out, HK.out, by unfold numP; simpa [PA.wt] using hS, Nat.le_refl _, rfl⟩
set_option maxHeartbeats 8000000 in
set_option maxRecDepth 100000 in
theorem mode_c (E : Env) (s : Cs) (w : World) (h : ST E s w) : Calls Try.prog 88 #[.pointer (some ⟨E.g, 0, none⟩)] w (Got E s w (modeP E s.i) (fun _ x v => v = .int .i64 x)) := by
 have hu65 := Try.underlying65
 have hu53 := Try.underlying53
 have HSB := Aside0.mk (show E.w0.heap.size ≤ w.heap.size from h.below.size)
 have HS := Aside0.mk h
 have HK := Aside0.mk (KP.refl E w)
 clear h
 go_enter Try.func88, Try.ntmps88
 go_wp2_with (fail)
 go_loopg [3] 5 (fun kq v3 w' => ∃ n : Nat, v3 = .int .i64 (n : Int) ∧ Aside0 (n + kq = 5) ∧ Aside0 (ST E s w') ∧ Aside0 (KP E w w') ∧ Aside0 (∀ j, j < n → isB E s (md j) = false))
 case atStart => exact ⟨0, rfl, ⟨rfl⟩, HS, HK, ⟨fun j hj => absurd hj (Nat.not_lt_zero j)⟩⟩
 case round =>
  clear HS HK
  obtain ⟨n, rfl, HI, HS, HK, HF⟩ := hrel
  have hi0 := HI.out
  cases gk with
  | zero =>
   obtain rfl : n = 5 := by omega
   clear hi0
   go_wp2_with (fail)
   have hW := wrong_d E s _ HS.out
   refine hW.mono ?_
   clear hW
   rintro e wb ⟨rfl, q1, qk⟩
   replace HK := kkT HK qk
   replace HS := Aside0.mk q1
   clear q1 qk
   go_wp2
   go_ret
   exact ⟨0, _, ⟨s.i, true, s.ps⟩, rfl, rfl, HS.out, HK.out, Step.fail (fun hb => mode_none (fun j hj => isB_good hb _ (HF.out j hj))) rfl rfl, Nat.le_refl _, rfl⟩
  | succ k1 =>
   rcases (by omega : n = 0 ∨ n = 1 ∨ n = 2 ∨ n = 3 ∨ n = 4) with rfl | rfl | rfl | rfl | rfl
   ·skip
    obtain rfl : k1 = 4 := by omega
    clear hi0
    go_wp2_with (fail)
    have hW := fun w => witheref6_Mode.calls 0 (md 0) w rfl
    refine (hW _).mono ?_
    clear hW
    rintro e wm ⟨rfl, qd⟩
    have qb := qd.below
    replace HK := kkB HK qb
    replace HS := ssM HS qb
    clear qb qd
    go_wp2_with (fail)
    have hW := is_d E s (md 0) _ HS.out
    refine hW.mono ?_
    clear hW
    rintro e wa ⟨rfl, qb⟩
    replace HK := kkB HK qb
    replace HS := ssM HS qb
    clear qb
    cases hB : isB E s (md 0) with
    | true =>
     have HO := Aside0.mk (is_ok hB)
     have HH := Aside0.mk (mode_hit HS.out.ok2 (by decide) (isB_good HO.out.1 _ hB) (fun j hj => isB_good HO.out.1 _ (HF.out j hj)))
     clear hB
     have HI_ := Aside0.mk (HS.out.inc HO.out.1 HO.out.2)
     have c1 := HS.out.c1; have cf1 := HS.out.fz 1
     go_wp2_with (fail)
     (first | rw [HI_.out.1] | skip)
     obtain ⟨-, q1, qk⟩ := HI_.out
     generalize hW_ : World.setCell _ ⟨E.g, 1, none⟩ _ = wq at q1 qk ⊢
     clear hW_ HI_ c1 cf1
     replace HK := kkT HK qk
     replace HS := Aside0.mk q1
     clear q1 qk
     go_ret
     exact ⟨0, _, ⟨s.i + 1, false, s.ps⟩, rfl, rfl, HS.out, HK.out, Step.good (j := s.i + 1) (q := []) HO.out.1 (zDCq2) (by simp), Nat.le_succ _, rfl⟩
    | false =>
     have HE := Aside0.mk hB
     clear hB
     go_wp2
     have HF2 := Aside0.mk (show ∀ j, j < 1 → isB E s (md j) = false from fun j hj => zDCq1)
     clear HF HI HE
     go_roundg 4
     case measure => exact Nat.lt_succ_self _
     case rel => exact ⟨1, (by first | rfl | (simp; done)), ⟨rfl⟩, HS, HK, HF2⟩
   ·skip
    obtain rfl : k1 = 3 := by omega
    clear hi0
    go_wp2_with (fail)
    have hW := fun w => witheref6_Mode.calls 1 (md 1) w rfl
    refine (hW _).mono ?_
    clear hW
    rintro e wm ⟨rfl, qd⟩
    have qb := qd.below
    replace HK := kkB HK qb
    replace HS := ssM HS qb
    clear qb qd
    go_wp2_with (fail)
    have hW := is_d E s (md 1) _ HS.out
    refine hW.mono ?_
    clear hW
    rintro e wa ⟨rfl, qb⟩
    replace HK := kkB HK qb
    replace HS := ssM HS qb
    clear qb
    cases hB : isB E s (md 1) with
    | true =>
     have HO := Aside0.mk (is_ok hB)
     have HH := Aside0.mk (mode_hit HS.out.ok2 (by decide) (isB_good HO.out.1 _ hB) (fun j hj => isB_good HO.out.1 _ (HF.out j hj)))
     clear hB
     have HI_ := Aside0.mk (HS.out.inc HO.out.1 HO.out.2)
     have c1 := HS.out.c1; have cf1 := HS.out.fz 1
     go_wp2_with (fail)
     (first | rw [HI_.out.1] | skip)
     obtain ⟨-, q1, qk⟩ := HI_.out
     generalize hW_ : World.setCell _ ⟨E.g, 1, none⟩ _ = wq at q1 qk ⊢
     clear hW_ HI_ c1 cf1
     replace HK := kkT HK qk
     replace HS := Aside0.mk q1
     clear q1 qk
     go_ret
     exact ⟨1, _, ⟨s.i + 1, false, s.ps⟩, rfl, rfl, HS.out, HK.out, Step.good (j := s.i + 1) (q := []) HO.out.1 (zDCq2) (by simp), Nat.le_succ _, rfl⟩
    | false =>
     have HE := Aside0.mk hB
     clear hB
     go_wp2
     have HF2 := Aside0.mk (show ∀ j, j < 2 → isB E s (md j) = false from fun j hj => zDCq1)
     clear HF HI HE
     go_roundg 3
     case measure => exact Nat.lt_succ_self _
     case rel => exact ⟨2, (by first | rfl | (simp; done)), ⟨rfl⟩, HS, HK, HF2⟩
   ·skip
    obtain rfl : k1 = 2 := by omega
    clear hi0
    go_wp2_with (fail)
    have hW := fun w => witheref6_Mode.calls 2 (md 2) w rfl
    refine (hW _).mono ?_
    clear hW
    rintro e wm ⟨rfl, qd⟩
    have qb := qd.below
    replace HK := kkB HK qb
    replace HS := ssM HS qb
    clear qb qd
    go_wp2_with (fail)
    have hW := is_d E s (md 2) _ HS.out
    refine hW.mono ?_
    clear hW
    rintro e wa ⟨rfl, qb⟩
    replace HK := kkB HK qb
    replace HS := ssM HS qb
    clear qb
    cases hB : isB E s (md 2) with
    | true =>
     have HO := Aside0.mk (is_ok hB)
     have HH := Aside0.mk (mode_hit HS.out.ok2 (by decide) (isB_good HO.out.1 _ hB) (fun j hj => isB_good HO.out.1 _ (HF.out j hj)))
     clear hB
     have HI_ := Aside0.mk (HS.out.inc HO.out.1 HO.out.2)
     have c1 := HS.out.c1; have cf1 := HS.out.fz 1
     go_wp2_with (fail)
     (first | rw [HI_.out.1] | skip)
     obtain ⟨-, q1, qk⟩ := HI_.out
     generalize hW_ : World.setCell _ ⟨E.g, 1, none⟩ _ = wq at q1 qk ⊢
     clear hW_ HI_ c1 cf1
     replace HK := kkT HK qk
     replace HS := Aside0.mk q1
     clear q1 qk
     go_ret
     exact ⟨2, _, ⟨s.i + 1, false, s.ps⟩, rfl, rfl, HS.out, HK.out, Step.good (j := s.i + 1) (q := []) HO.out.1 (zDCq2) (by simp), Nat.le_succ _, rfl⟩
    | false =>
     have HE := Aside0.mk hB
     clear hB
     go_wp2
     have HF2 := Aside0.mk (show ∀ j, j < 3 → isB E s (md j) = false from fun j hj => zDCq1)
     clear HF HI HE
     go_roundg 2
     case measure => exact Nat.lt_succ_self _
     case rel => exact ⟨3, (by first | rfl | (simp; done)), ⟨rfl⟩, HS, HK, HF2⟩
   ·skip
    obtain rfl : k1 = 1 := by omega
    clear hi0
    go_wp2_with (fail)
    have hW := fun w => witheref6_Mode.calls 3 (md 3) w rfl
    refine (hW _).mono ?_
    clear hW
    rintro e wm ⟨rfl, qd⟩
    have qb := qd.below
    replace HK := kkB HK qb
    replace HS := ssM HS qb
    clear qb qd
    go_wp2_with (fail)
    have hW := is_d E s (md 3) _ HS.out
    refine hW.mono ?_
    clear hW
    rintro e wa ⟨rfl, qb⟩
    replace HK := kkB HK qb
    replace HS := ssM HS qb
    clear qb
    cases hB : isB E s (md 3) with
    | true =>
     have HO := Aside0.mk (is_ok hB)
     have HH := Aside0.mk (mode_hit HS.out.ok2 (by decide) (isB_good HO.out.1 _ hB) (fun j hj => isB_good HO.out.1 _ (HF.out j hj)))
     clear hB
     have HI_ := Aside0.mk (HS.out.inc HO.out.1 HO.out.2)
     have c1 := HS.out.c1; have cf1 := HS.out.fz 1
     go_wp2_with (fail)
     (first | rw [HI_.out.1] | skip)
     obtain ⟨-, q1, qk⟩ := HI_.out
     generalize hW_ : World.setCell _ ⟨E.g, 1, none⟩ _ = wq at q1 qk ⊢
     clear hW_ HI_ c1 cf1
     replace HK := kkT HK qk
     replace HS := Aside0.mk q1
     clear q1 qk
     go_ret
     exact ⟨3, _, ⟨s.i + 1, false, s.ps⟩, rfl, rfl, HS.out, HK.out, Step.good (j := s.i + 1) (q := []) HO.out.1 (zDCq2) (by simp), Nat.le_succ _, rfl⟩
    | false =>
     have HE := Aside0.mk hB
     clear hB
     go_wp2
     have HF2 := Aside0.mk (show ∀ j, j < 4 → isB E s (md j) = false from fun j hj => zDCq1)
     clear HF HI HE
     go_roundg 1
     case measure => exact Nat.lt_succ_self _
     case rel => exact ⟨4, (by first | rfl | (simp; done)), ⟨rfl⟩, HS, HK, HF2⟩
   ·skip
    obtain rfl : k1 = 0 := by omega
    clear hi0
    go_wp2_with (fail)
    have hW := fun w => witheref6_Mode.calls 4 (md 4) w rfl
    refine (hW _).mono ?_
    clear hW
    rintro e wm ⟨rfl, qd⟩
    have qb := qd.below
    replace HK := kkB HK qb
    replace HS := ssM HS qb
    clear qb qd
    go_wp2_with (fail)
    have hW := is_d E s (md 4) _ HS.out
    refine hW.mono ?_
    clear hW
    rintro e wa ⟨rfl, qb⟩
    replace HK := kkB HK qb
    replace HS := ssM HS qb
    clear qb
    cases hB : isB E s (md 4) with
    | true =>
     have HO := Aside0.mk (is_ok hB)
     have HH := Aside0.mk (mode_hit HS.out.ok2 (by decide) (isB_good HO.out.1 _ hB) (fun j hj => isB_good HO.out.1 _ (HF.out j hj)))
     clear hB
     have HI_ := Aside0.mk (HS.out.inc HO.out.1 HO.out.2)
     have c1 := HS.out.c1; have cf1 := HS.out.fz 1
     go_wp2_with (fail)
     (first | rw [HI_.out.1] | skip)
     obtain ⟨-, q1, qk⟩ := HI_.out
     generalize hW_ : World.setCell _ ⟨E.g, 1, none⟩ _ = wq at q1 qk ⊢
     clear hW_ HI_ c1 cf1
     replace HK := kkT HK qk
     replace HS := Aside0.mk q1
     clear q1 qk
     go_ret
     exact ⟨4, _, ⟨s.i + 1, false, s.ps⟩, rfl, rfl, HS.out, HK.out, Step.good (j := s.i + 1) (q := []) HO.out.1 (zDCq2) (by simp), Nat.le_succ _, rfl⟩
    | false =>
     have HE := Aside0.mk hB
     clear hB
     go_wp2
     have HF2 := Aside0.mk (show ∀ j, j < 5 → isB E s (md j) = false from fun j hj => zDCq1)
     clear HF HI HE
     go_roundg 0
     case measure => exact Nat.lt_succ_self _
     case rel => exact ⟨5, (by first | rfl | (simp; done)), ⟨rfl⟩, HS, HK, HF2⟩
end Go.Proofs.Ytinnldfmbeafiaa.PA.D
