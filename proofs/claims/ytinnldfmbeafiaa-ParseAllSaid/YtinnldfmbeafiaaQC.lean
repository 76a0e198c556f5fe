/- The cursor's methods: names, numbers, words that must be there. -/
import Derived.Test.YtinnldfmbeafiaaQB
import Derived.Test.YtinnldfmbeafiaaQK
namespace Go.Proofs.Ytinnldfmbeafiaa.PA
open Go.RowKit Go.Proofs.YtinnldfmbeafiaaW.PrintWords Go.Proofs.YtinnldfmbeafiaaW.PrintLast Go.Proofs.YtinnldfmbeafiaaW.PrintMore
set_option linter.unusedVariables false
set_option linter.unusedSimpArgs false
attribute [local go_sem] cell_set_some fld53_0 fld53_1 fld53_2 fld53_3
def nmB (E : Env) (s : Cs) : Bool := !s.bad && decide ((E.tk s.i).f0 = 1) && !kwS (E.tk s.i).f1
def nuB (E : Env) (s : Cs) : Bool := !s.bad && decide ((E.tk s.i).f0 = 2)
/-- The state behind a token that must be there. -/
def wt (s : Cs) (b : Bool) : Cs := if b = true then ⟨s.i + 1, s.bad, s.ps⟩ else ⟨s.i, true, s.ps⟩
/-- The token that must be there; nothing, if it is not. -/
def wv (E : Env) (s : Cs) (b : Bool) : Array Value := if b = true then #[.int .i64 (E.tk s.i).f0, .string (E.tk s.i).f1, .int .i64 (E.tk s.i).f2, .int .i64 (E.tk s.i).f3] else z53v
theorem nx_wt {E : Env} {s : Cs} {b : Bool} (h : b = true → s.bad = false ∧ (E.tk s.i).f0 ≠ 4) (hb : b = true) : nx E s = wt s b := by
 unfold nx wt
 rw [if_pos (h hb), if_pos hb]
theorem nm_ok {E : Env} {s : Cs} (h : nmB E s = true) : s.bad = false ∧ (E.tk s.i).f0 ≠ 4 := by
 unfold nmB at h
 simp only [Bool.and_eq_true, Bool.not_eq_true', decide_eq_true_eq] at h
 exact ⟨h.1.1, by omega⟩
theorem nu_ok {E : Env} {s : Cs} (h : nuB E s = true) : s.bad = false ∧ (E.tk s.i).f0 ≠ 4 := by
 unfold nuB at h
 simp only [Bool.and_eq_true, Bool.not_eq_true', decide_eq_true_eq] at h
 exact ⟨h.1, by omega⟩
theorem is_ok {E : Env} {s : Cs} {t : ByteArray} (h : isB E s t = true) : s.bad = false ∧ (E.tk s.i).f0 ≠ 4 := by
 unfold isB at h
 simp only [Bool.and_eq_true, Bool.not_eq_true', decide_eq_true_eq, Bool.or_eq_true] at h
 exact ⟨h.1.1, by omega⟩
set_option maxHeartbeats 8000000 in
set_option maxRecDepth 100000 in
theorem isName_c (E : Env) (s : Cs) (w : World) (h : ST E s w) : Calls Try.prog 82 #[.pointer (some ⟨E.g, 0, none⟩)] w fun e w' => e = .returned (.bool (nmB E s)) ∧ Below w.heap.size w w' := by
 obtain ⟨i, bad, ps⟩ := s
 have hu85 := Try.underlying85
 have hu53 := Try.underlying53
 have HB := Aside0.mk (Below.refl w.heap.size w)
 have HSB := Aside0.mk (show E.w0.heap.size ≤ w.heap.size from h.below.size)
 have HS := Aside0.mk h
 have HK := Aside0.mk (KP.refl E w)
 clear h
 go_enter Try.func82, Try.ntmps82
 go_wp2_with (fail)
 have hW := here_c E ⟨i, bad, ps⟩ _ HS.out
 refine hW.mono ?_
 clear hW
 rintro e wa ⟨rfl, qb⟩
 replace HK := kkB HK qb
 replace HS := ssM HS qb
 replace HB := Aside0.mk (below_step HB.out qb); clear qb
 go_upto_region 2 with (first | ((with_reducible refine gate_dst (N := 3) rfl ?_); refine bbX (N := 3) z53v 53 ?hr ?_; (case hr => first | (go_simp; done) | (go_simp; rfl)); intro g3 hg_ w3 hbox_ hq_; obtain ⟨z0_, f0_, z1_, f1_, z2_, f2_, z3_, f3_⟩ := cf4 hbox_))
 obtain ⟨F1_, F2_⟩ := fill53 hbox_ (.int .i64 (E.tk i).f0) (.string (E.tk i).f1) (.int .i64 (E.tk i).f2) (.int .i64 (E.tk i).f3) _ rfl
 replace hq_ := hq_.trans (F2_.below.mono (Nat.le_of_eq hg_.out.symm))
 have G3 := Aside0.mk (show w.heap.size ≤ g3 from by rw [hg_.out]; exact HK.out.2)
 clear hg_ hbox_ F2_ z0_ f0_ z1_ f1_ z2_ f2_ z3_ f3_
 generalize (((w3.setCell ⟨g3, 0, none⟩ (.int .i64 (E.tk i).f0)).setCell ⟨g3, 1, none⟩ (.string (E.tk i).f1)).setCell ⟨g3, 2, none⟩ (.int .i64 (E.tk i).f2)).setCell ⟨g3, 3, none⟩ (.int .i64 (E.tk i).f3) = v3 at F1_ hq_ ⊢
 have H3 := Aside0.mk F1_
 replace HK := kkB HK hq_
 replace HS := ssM HS hq_
 replace HB := Aside0.mk (below_step HB.out hq_); clear F1_ hq_
 have c2 := HS.out.c2
 obtain ⟨z3_0, z3_1, z3_2, z3_3⟩ := cn4 H3.out
 cases bad with
 | true =>
  go_wp2
  go_ret
  exact ⟨by simp [nmB], HB.out⟩
 | false =>
  by_cases k1 : (E.tk i).f0 = 1
  ·have a1 := eq_true k1; have a2 := decide_eq_true k1; have a3 : ((E.tk i).f0 == 1) = true := beq_iff_eq.mpr k1
   have K1 := Aside0.mk k1
   clear k1
   go_wp2_with (fail)
   have hW := keyword_c (E.tk i).f1 v3
   refine hW.mono ?_
   clear hW
   rintro e wb ⟨rfl, qb⟩
   replace HB := Aside0.mk (below_step HB.out qb)
   clear qb
   go_wp2
   go_ret
   exact ⟨by simp [nmB, K1.out], HB.out⟩
  ·have a1 := eq_false k1; have a2 := decide_eq_false k1; have a3 : ((E.tk i).f0 == 1) = false := beq_eq_false_iff_ne.mpr k1
   have K1 := Aside0.mk k1
   clear k1
   go_wp2
   go_ret
   exact ⟨by simp [nmB, K1.out], HB.out⟩
set_option maxHeartbeats 8000000 in
set_option maxRecDepth 100000 in
theorem isNumber_c (E : Env) (s : Cs) (w : World) (h : ST E s w) : Calls Try.prog 83 #[.pointer (some ⟨E.g, 0, none⟩)] w fun e w' => e = .returned (.bool (nuB E s)) ∧ Below w.heap.size w w' := by
 obtain ⟨i, bad, ps⟩ := s
 have hu85 := Try.underlying85
 have hu53 := Try.underlying53
 have hu53 := Try.underlying53
 have HB := Aside0.mk (Below.refl w.heap.size w)
 have c2 := h.c2
 have HSB := Aside0.mk (show E.w0.heap.size ≤ w.heap.size from h.below.size)
 have HS := Aside0.mk h
 have HK := Aside0.mk (KP.refl E w)
 clear h
 go_enter Try.func83, Try.ntmps83
 cases bad with
 | true =>
  go_wp2
  go_ret
  exact ⟨by simp [nuB], HB.out⟩
 | false =>
  by_cases k1 : (E.tk i).f0 = 2
  ·have a1 := eq_true k1; have a2 := decide_eq_true k1; have a3 : ((E.tk i).f0 == 2) = true := beq_iff_eq.mpr k1
   have K1 := Aside0.mk k1
   clear k1
   go_wp2_with (fail)
   have hW := here_c E ⟨i, false, ps⟩ _ HS.out
   refine hW.mono ?_
   clear hW
   rintro e wb ⟨rfl, qb⟩
   replace HB := Aside0.mk (below_step HB.out qb)
   clear qb
   go_wp2
   go_ret
   exact ⟨by simp [nuB, K1.out], HB.out⟩
  ·have a1 := eq_false k1; have a2 := decide_eq_false k1; have a3 : ((E.tk i).f0 == 2) = false := beq_eq_false_iff_ne.mpr k1
   have K1 := Aside0.mk k1
   clear k1
   go_wp2_with (fail)
   have hW := here_c E ⟨i, false, ps⟩ _ HS.out
   refine hW.mono ?_
   clear hW
   rintro e wb ⟨rfl, qb⟩
   replace HB := Aside0.mk (below_step HB.out qb)
   clear qb
   go_wp2
   go_ret
   exact ⟨by simp [nuB, K1.out], HB.out⟩
set_option maxHeartbeats 8000000 in
set_option maxRecDepth 100000 in
theorem fail_c (E : Env) (s : Cs) (w : World) (h : ST E s w) : Calls Try.prog 61 #[.pointer (some ⟨E.g, 0, none⟩)] w fun e w' => e = .returned (.tuple #[]) ∧ ST E ⟨s.i, true, s.ps⟩ w' ∧ KP E w w' := by
 have hu85 := Try.underlying85
 have c2 := h.c2
 have cf2 := h.fz 2
 obtain ⟨q1, q2⟩ := h.fail
 have Q1 := Aside0.mk q1
 have Q2 := Aside0.mk q2
 clear q1 q2 h
 go_enter Try.func61, Try.ntmps61
 go_wp2
 go_end0
 exact ⟨rfl, Q1.out, Q2.out⟩
set_option maxHeartbeats 8000000 in
set_option maxRecDepth 100000 in
theorem must1_c (E : Env) (s : Cs) (t : ByteArray) (w : World) (ga gb : Nat) (h : ST E s w) (ha : w.heap[ga]? = some (.cells #[.pointer (some ⟨E.g, 0, none⟩)] 83 (0, 0))) (hb : w.heap[gb]? = some (.cells #[.string t] 9 (0, 0))) : Calls Try.prog 81 #[.pointer (some ⟨ga, 0, none⟩), .pointer (some ⟨gb, 0, none⟩)] w fun e w' => e = .returned (.bool (isB E s t)) ∧ Below w.heap.size w w' := by
 have z0 := blk_celln ha 0 _ rfl
 have z1 := blk_celln hb 0 _ rfl
 have HS := Aside0.mk h
 clear ha hb h
 go_enter Try.func81, Try.ntmps81
 go_wp2_with (fail)
 have hW := is_c E s t _ HS.out
 refine hW.mono ?_
 clear hW
 rintro e wb ⟨rfl, qb⟩
 go_wp2
 go_ret
 exact ⟨rfl, qb⟩
set_option maxHeartbeats 8000000 in
set_option maxRecDepth 100000 in
theorem want_name (E : Env) (s : Cs) (w : World) (h : ST E s w) (b : Bool) (hB : nmB E s = b) : Calls Try.prog 80 #[.pointer (some ⟨E.g, 0, none⟩), .func (.func 82) #[.pointer (some ⟨E.g, 0, none⟩)] #[]] w fun e w' => e = .returned (.agg (wv E s b)) ∧ ST E (wt s b) w' ∧ KP E w w' := by
 have HO := Aside0.mk (fun h_ : b = true => nm_ok (hB.trans h_))
 obtain ⟨i, bad, ps⟩ := s
 have hu53 := Try.underlying53
 have HSB := Aside0.mk (show E.w0.heap.size ≤ w.heap.size from h.below.size)
 have HS := Aside0.mk h
 have HK := Aside0.mk (KP.refl E w)
 clear h
 go_enter Try.func80, Try.ntmps80
 go_wp2_with ((with_reducible refine gate_dst (N := 4) rfl ?_); refine bbX (N := 4) z53v 53 ?hr ?_; (case hr => first | (go_simp; done) | (go_simp; rfl)); intro g4 hg_ w4 hbox_ hq_; have G4 := Aside0.mk (show w.heap.size ≤ g4 from by rw [hg_.out]; exact HK.out.2); have H4 := Aside0.mk hbox_; replace HK := kkB HK hq_; replace HS := ssM HS hq_; clear hg_ hbox_ hq_)
 go_wp2_with (fail)
 have hW := isName_c E ⟨i, bad, ps⟩ _ HS.out
 refine hW.mono ?_
 clear hW
 rintro e wa ⟨rfl, qb⟩
 replace H4 := mvB qb H4
 replace HK := kkB HK qb
 replace HS := ssM HS qb
 clear qb
 rw [hB]
 clear hB
 cases b with
 | true =>
  have HX := Aside0.mk (nx_wt (s := ⟨i, bad, ps⟩) HO.out rfl)
  go_wp2_with (fail)
  have hW := next_c E ⟨i, bad, ps⟩ _ HS.out
  refine hW.mono ?_
  clear hW
  rintro e wb ⟨rfl, q1, qk⟩
  replace H4 := mvK qk HS H4
  replace HK := kkT HK qk
  replace HS := Aside0.mk q1
  clear q1 qk
  rw [HX.out] at HS
  obtain ⟨z4_0, f4_0, z4_1, f4_1, z4_2, f4_2, z4_3, f4_3⟩ := cf4 H4.out
  go_wp2
  obtain ⟨F1_, F2_⟩ := fill53 H4.out (.int .i64 (E.tk i).f0) (.string (E.tk i).f1) (.int .i64 (E.tk i).f2) (.int .i64 (E.tk i).f3) _ rfl
  refine bodyPost_ret (results_cell_row rfl _ _ g4 53 _ (0, 0) _ rfl F1_ Try.underlying53 rfl (by kernel_rfl)) rfl ?_
  exact ⟨rfl, HS.out.only H4.out (by decide) (by decide) (Nat.le_trans HSB.out G4.out) F2_, HK.out.only G4.out F2_⟩
 | false =>
  go_wp2_with (fail)
  have hW := fail_c E ⟨i, bad, ps⟩ _ HS.out
  refine hW.mono ?_
  clear hW
  rintro e wb ⟨rfl, q1, qk⟩
  replace H4 := mvK qk HS H4
  replace HK := kkT HK qk
  replace HS := Aside0.mk q1
  clear q1 qk
  obtain ⟨z4_0, f4_0, z4_1, f4_1, z4_2, f4_2, z4_3, f4_3⟩ := cf4 H4.out
  go_wp2
  obtain ⟨F1_, F2_⟩ := fill53 H4.out (.int .i64 0) (.string ⟨#[]⟩) (.int .i64 0) (.int .i64 0) _ rfl
  refine bodyPost_ret (results_cell_row rfl _ _ g4 53 z53v (0, 0) _ rfl F1_ Try.underlying53 rfl (by kernel_rfl)) rfl ?_
  exact ⟨rfl, HS.out.only H4.out (by decide) (by decide) (Nat.le_trans HSB.out G4.out) F2_, HK.out.only G4.out F2_⟩
set_option maxHeartbeats 8000000 in
set_option maxRecDepth 100000 in
theorem want_number (E : Env) (s : Cs) (w : World) (h : ST E s w) (b : Bool) (hB : nuB E s = b) : Calls Try.prog 80 #[.pointer (some ⟨E.g, 0, none⟩), .func (.func 83) #[.pointer (some ⟨E.g, 0, none⟩)] #[]] w fun e w' => e = .returned (.agg (wv E s b)) ∧ ST E (wt s b) w' ∧ KP E w w' := by
 have HO := Aside0.mk (fun h_ : b = true => nu_ok (hB.trans h_))
 obtain ⟨i, bad, ps⟩ := s
 have hu53 := Try.underlying53
 have HSB := Aside0.mk (show E.w0.heap.size ≤ w.heap.size from h.below.size)
 have HS := Aside0.mk h
 have HK := Aside0.mk (KP.refl E w)
 clear h
 go_enter Try.func80, Try.ntmps80
 go_wp2_with ((with_reducible refine gate_dst (N := 4) rfl ?_); refine bbX (N := 4) z53v 53 ?hr ?_; (case hr => first | (go_simp; done) | (go_simp; rfl)); intro g4 hg_ w4 hbox_ hq_; have G4 := Aside0.mk (show w.heap.size ≤ g4 from by rw [hg_.out]; exact HK.out.2); have H4 := Aside0.mk hbox_; replace HK := kkB HK hq_; replace HS := ssM HS hq_; clear hg_ hbox_ hq_)
 go_wp2_with (fail)
 have hW := isNumber_c E ⟨i, bad, ps⟩ _ HS.out
 refine hW.mono ?_
 clear hW
 rintro e wa ⟨rfl, qb⟩
 replace H4 := mvB qb H4
 replace HK := kkB HK qb
 replace HS := ssM HS qb
 clear qb
 rw [hB]
 clear hB
 cases b with
 | true =>
  have HX := Aside0.mk (nx_wt (s := ⟨i, bad, ps⟩) HO.out rfl)
  go_wp2_with (fail)
  have hW := next_c E ⟨i, bad, ps⟩ _ HS.out
  refine hW.mono ?_
  clear hW
  rintro e wb ⟨rfl, q1, qk⟩
  replace H4 := mvK qk HS H4
  replace HK := kkT HK qk
  replace HS := Aside0.mk q1
  clear q1 qk
  rw [HX.out] at HS
  obtain ⟨z4_0, f4_0, z4_1, f4_1, z4_2, f4_2, z4_3, f4_3⟩ := cf4 H4.out
  go_wp2
  obtain ⟨F1_, F2_⟩ := fill53 H4.out (.int .i64 (E.tk i).f0) (.string (E.tk i).f1) (.int .i64 (E.tk i).f2) (.int .i64 (E.tk i).f3) _ rfl
  refine bodyPost_ret (results_cell_row rfl _ _ g4 53 _ (0, 0) _ rfl F1_ Try.underlying53 rfl (by kernel_rfl)) rfl ?_
  exact ⟨rfl, HS.out.only H4.out (by decide) (by decide) (Nat.le_trans HSB.out G4.out) F2_, HK.out.only G4.out F2_⟩
 | false =>
  go_wp2_with (fail)
  have hW := fail_c E ⟨i, bad, ps⟩ _ HS.out
  refine hW.mono ?_
  clear hW
  rintro e wb ⟨rfl, q1, qk⟩
  replace H4 := mvK qk HS H4
  replace HK := kkT HK qk
  replace HS := Aside0.mk q1
  clear q1 qk
  obtain ⟨z4_0, f4_0, z4_1, f4_1, z4_2, f4_2, z4_3, f4_3⟩ := cf4 H4.out
  go_wp2
  obtain ⟨F1_, F2_⟩ := fill53 H4.out (.int .i64 0) (.string ⟨#[]⟩) (.int .i64 0) (.int .i64 0) _ rfl
  refine bodyPost_ret (results_cell_row rfl _ _ g4 53 z53v (0, 0) _ rfl F1_ Try.underlying53 rfl (by kernel_rfl)) rfl ?_
  exact ⟨rfl, HS.out.only H4.out (by decide) (by decide) (Nat.le_trans HSB.out G4.out) F2_, HK.out.only G4.out F2_⟩
set_option maxHeartbeats 8000000 in
set_option maxRecDepth 100000 in
theorem want_must (E : Env) (s : Cs) (t : ByteArray) (ga gb : Nat) (w : World) (h : ST E s w) (ha : w.heap[ga]? = some (.cells #[.pointer (some ⟨E.g, 0, none⟩)] 83 (0, 0))) (hb : w.heap[gb]? = some (.cells #[.string t] 9 (0, 0))) (b : Bool) (hB : isB E s t = b) : Calls Try.prog 80 #[.pointer (some ⟨E.g, 0, none⟩), .func (.func 81) #[] #[.pointer (some ⟨ga, 0, none⟩), .pointer (some ⟨gb, 0, none⟩)]] w fun e w' => e = .returned (.agg (wv E s b)) ∧ ST E (wt s b) w' ∧ KP E w w' := by
 have HO := Aside0.mk (fun h_ : b = true => is_ok (hB.trans h_))
 obtain ⟨i, bad, ps⟩ := s
 have hu53 := Try.underlying53
 have HA := Aside0.mk ha
 have HT := Aside0.mk hb
 clear ha hb
 have HSB := Aside0.mk (show E.w0.heap.size ≤ w.heap.size from h.below.size)
 have HS := Aside0.mk h
 have HK := Aside0.mk (KP.refl E w)
 clear h
 go_enter Try.func80, Try.ntmps80
 go_wp2_with ((with_reducible refine gate_dst (N := 4) rfl ?_); refine bbX (N := 4) z53v 53 ?hr ?_; (case hr => first | (go_simp; done) | (go_simp; rfl)); intro g4 hg_ w4 hbox_ hq_; have G4 := Aside0.mk (show w.heap.size ≤ g4 from by rw [hg_.out]; exact HK.out.2); have H4 := Aside0.mk hbox_; replace HK := kkB HK hq_; replace HS := ssM HS hq_; replace HA := mvB hq_ HA; replace HT := mvB hq_ HT; clear hg_ hbox_ hq_)
 go_wp2_with (fail)
 have hW := must1_c E ⟨i, bad, ps⟩ t _ ga gb HS.out HA.out HT.out
 refine hW.mono ?_
 clear hW
 rintro e wa ⟨rfl, qb⟩
 replace H4 := mvB qb H4
 replace HK := kkB HK qb
 replace HS := ssM HS qb
 clear qb
 rw [hB]
 clear hB
 cases b with
 | true =>
  have HX := Aside0.mk (nx_wt (s := ⟨i, bad, ps⟩) HO.out rfl)
  go_wp2_with (fail)
  have hW := next_c E ⟨i, bad, ps⟩ _ HS.out
  refine hW.mono ?_
  clear hW
  rintro e wb ⟨rfl, q1, qk⟩
  replace H4 := mvK qk HS H4
  replace HK := kkT HK qk
  replace HS := Aside0.mk q1
  clear q1 qk
  rw [HX.out] at HS
  obtain ⟨z4_0, f4_0, z4_1, f4_1, z4_2, f4_2, z4_3, f4_3⟩ := cf4 H4.out
  go_wp2
  obtain ⟨F1_, F2_⟩ := fill53 H4.out (.int .i64 (E.tk i).f0) (.string (E.tk i).f1) (.int .i64 (E.tk i).f2) (.int .i64 (E.tk i).f3) _ rfl
  refine bodyPost_ret (results_cell_row rfl _ _ g4 53 _ (0, 0) _ rfl F1_ Try.underlying53 rfl (by kernel_rfl)) rfl ?_
  exact ⟨rfl, HS.out.only H4.out (by decide) (by decide) (Nat.le_trans HSB.out G4.out) F2_, HK.out.only G4.out F2_⟩
 | false =>
  go_wp2_with (fail)
  have hW := fail_c E ⟨i, bad, ps⟩ _ HS.out
  refine hW.mono ?_
  clear hW
  rintro e wb ⟨rfl, q1, qk⟩
  replace H4 := mvK qk HS H4
  replace HK := kkT HK qk
  replace HS := Aside0.mk q1
  clear q1 qk
  obtain ⟨z4_0, f4_0, z4_1, f4_1, z4_2, f4_2, z4_3, f4_3⟩ := cf4 H4.out
  go_wp2
  obtain ⟨F1_, F2_⟩ := fill53 H4.out (.int .i64 0) (.string ⟨#[]⟩) (.int .i64 0) (.int .i64 0) _ rfl
  refine bodyPost_ret (results_cell_row rfl _ _ g4 53 z53v (0, 0) _ rfl F1_ Try.underlying53 rfl (by kernel_rfl)) rfl ?_
  exact ⟨rfl, HS.out.only H4.out (by decide) (by decide) (Nat.le_trans HSB.out G4.out) F2_, HK.out.only G4.out F2_⟩
end Go.Proofs.Ytinnldfmbeafiaa.PA
