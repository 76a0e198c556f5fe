/- The cursor's methods, as what reading comes to. -/
import Derived.Test.YtinnldfmbeafiaaQC
namespace Go.Proofs.Ytinnldfmbeafiaa.PA
open Go.RowKit Go.Proofs.YtinnldfmbeafiaaW.PrintWords Go.Proofs.YtinnldfmbeafiaaW.PrintLast Go.Proofs.YtinnldfmbeafiaaW.PrintMore
set_option linter.unusedVariables false
set_option linter.unusedSimpArgs false
attribute [local go_sem] cell_set_some fld53_0 fld53_1 fld53_2 fld53_3
theorem info3 : (Try.prog.info? 3).map (fun i => (i.zero, i.size, i.bytes)) = some (some (.int .i64 0), 1, 8) := by kernel_rfl
section
variable {P : Program} {ops : Array Oper} {rest : List Oper} {o : Oper} {a : Act} {Q : Exit → Act → World → Prop} {Kc : Act → World → Prop}
theorem lit_step {W : World} (hw : Region.wanted o (yielded ops a.tmps) = true) {N : Tmp} (_hd : o.dst = some N) {n : Nat} {cs : Array Value} {t : TypeId}
 (hrun : (execOp a.eval o).run P W = .ok (.value (.slice (some ⟨W.heap.size, 0, none⟩) n n)) (W.alloc (.cells cs t (0, 0))))
 (h : ∀ g, g = W.heap.size → ∀ w1, w1.heap[g]? = some (.cells cs t (0, 0)) → Below W.heap.size W w1 → Kc (a.put o.dst (.slice (some ⟨g, 0, none⟩) n n)) w1) : if Region.wanted o (yielded ops a.tmps) = true then Oper.wp P o a W Kc Q else Kc (a.put o.dst undef) W :=
 event_step hw hrun (h _ rfl _ (blk_new W _) (below_alloc (Below.refl _ _) _))
theorem lit_event {W : World} (hgd : o.guard = none) {N : Tmp} (_hd : o.dst = some N) {n : Nat} {cs : Array Value} {t : TypeId}
 (hrun : (execOp a.eval o).run P W = .ok (.value (.slice (some ⟨W.heap.size, 0, none⟩) n n)) (W.alloc (.cells cs t (0, 0))))
 (h : ∀ g, g = W.heap.size → ∀ w1, w1.heap[g]? = some (.cells cs t (0, 0)) → Below W.heap.size W w1 → wpList P ops Q rest (a.put o.dst (.slice (some ⟨g, 0, none⟩) n n)) w1) : wpList P ops Q (o :: rest) a W :=
 Kd.event_run hgd hrun (h _ rfl _ (blk_new W _) (below_alloc (Below.refl _ _) _))
end
/-- A block of strings, read as a row. -/
theorem C_strs {w : World} {g : Nat} {l : List ByteArray} {t : TypeId} (hl : l.length ≤ 9223372036854775807) (h : w.heap[g]? = some (.cells ⟨l.map Value.string⟩ t (0, 0))) : Kd.C Kd.string w (some ⟨g, 0, none⟩) l.length l := by
 refine ⟨rfl, hl, fun _ => ⟨_, rfl, fun j p hj => ⟨[.string p], rfl, rfl, fun i u hu => ?_⟩⟩⟩
 have h0 : i = 0 := by
  have := (List.getElem?_eq_some_iff.1 hu).1
  simp at this
  omega
 subst h0
 have hu' : Value.string p = u := by simpa using hu
 subst hu'
 have e : (⟨g, 0, none⟩ : Addr).add (j * Kd.string.sz + 0) = ⟨g, j, none⟩ := by
  simp [Addr.add, Kd.string, Kd.scalar]
  intro h0
  exact h0.symm
 rw [e, blk_cell h j]
 simp [hj]
/-- What a call comes to that reads a thing. -/
def Got {α : Type} (E : Env) (s : Cs) (w : World) (r : Res α) (V : World → α → Value → Prop) (e : Ending) (w' : World) : Prop :=
 ∃ x v t, e = .returned v ∧ V w' x v ∧ ST E t w' ∧ KP E w w' ∧ Step s r x t ∧ s.i ≤ t.i ∧ t.ps = s.ps
def nameP (E : Env) (i : Nat) : Res ByteArray := if (decide ((E.tk i).f0 = 1) && !kwS (E.tk i).f1) = true then .ok (E.tk i).f1 (i + 1) [] else .fail i
def numP (E : Env) (i : Nat) : Res Int := if decide ((E.tk i).f0 = 2) = true then .ok (E.tk i).f2 (i + 1) [] else .fail i
/-- Is a word or a sign there? -/
def isT (E : Env) (i : Nat) (t : ByteArray) : Bool := (decide ((E.tk i).f0 = 1) || decide ((E.tk i).f0 = 3)) && decide ((E.tk i).f1.toList = t.toList)
def mustP (E : Env) (t : ByteArray) (i : Nat) : Res Unit := if isT E i t = true then .ok () (i + 1) [] else .fail i
def modeP (E : Env) (i : Nat) : Res Int := if (decide ((E.tk i).f0 = 1) && decide (ixS modes (E.tk i).f1 0 ≥ 0)) = true then .ok (ixS modes (E.tk i).f1 0) (i + 1) [] else .fail i
theorem Step.wt {α : Type} {s : Cs} {p b : Bool} (hb : b = (!s.bad && p)) (x0 d : α) : Step s (if p = true then .ok x0 (s.i + 1) [] else .fail s.i) (if b = true then x0 else d) (wt s b) := by
 obtain ⟨i, bad, ps⟩ := s
 simp only at hb
 subst hb
 cases bad with
 | true => exact Step.bad rfl rfl rfl
 | false =>
  cases p with
  | true => exact Step.good (j := i + 1) (q := []) rfl rfl (by simp [_root_.Go.Proofs.Ytinnldfmbeafiaa.PA.wt])
  | false => exact Step.fail (fun _ => rfl) rfl rfl
theorem wt_i (s : Cs) (b : Bool) : s.i ≤ (wt s b).i ∧ (wt s b).ps = s.ps := by
 unfold wt
 split
 ·exact ⟨Nat.le_succ _, rfl⟩
 ·exact ⟨Nat.le_refl _, rfl⟩
theorem isB_eq (E : Env) (s : Cs) (t : ByteArray) : isB E s t = (!s.bad && isT E s.i t) := by
 unfold isB isT
 rw [Bool.and_assoc]
theorem nmB_eq (E : Env) (s : Cs) : nmB E s = (!s.bad && (decide ((E.tk s.i).f0 = 1) && !kwS (E.tk s.i).f1)) := by
 unfold nmB
 rw [Bool.and_assoc]
/-- The state behind a word that may be there. -/
def tkS (s : Cs) (b : Bool) : Cs := if b = true then ⟨s.i + 1, s.bad, s.ps⟩ else s
theorem nx_tk {E : Env} {s : Cs} (h : s.bad = false ∧ (E.tk s.i).f0 ≠ 4) : nx E s = tkS s true := by
 unfold nx tkS
 rw [if_pos h, if_pos rfl]
set_option maxHeartbeats 8000000 in
set_option maxRecDepth 100000 in
theorem name_c (E : Env) (s : Cs) (w : World) (h : ST E s w) : Calls Try.prog 54 #[.pointer (some ⟨E.g, 0, none⟩)] w (Got E s w (nameP E s.i) (fun _ x v => v = .string x)) := by
 have hu53 := Try.underlying53
 have HI := Aside0.mk h.lt
 have HSB := Aside0.mk (show E.w0.heap.size ≤ w.heap.size from h.below.size)
 have HS := Aside0.mk h
 have HK := Aside0.mk (KP.refl E w)
 clear h
 go_enter Try.func54, Try.ntmps54
 cases hB : nmB E s with
 | true =>
  have HE := Aside0.mk hB
  go_wp2_with (fail)
  have hW := want_name E s _ HS.out true hB
  rw [show wv E s true = #[.int .i64 (E.tk s.i).f0, .string (E.tk s.i).f1, .int .i64 (E.tk s.i).f2, .int .i64 (E.tk s.i).f3] from rfl] at hW
  refine hW.mono ?_
  clear hW hB
  rintro e wb ⟨rfl, q1, qk⟩
  have Q1 := Aside0.mk q1
  have Q2 := Aside0.mk qk
  clear q1 qk
  go_wp2
  go_ret
  have hS := Step.wt (s := s) (p := (decide ((E.tk s.i).f0 = 1) && !kwS (E.tk s.i).f1)) (b := true) ((HE.out.symm.trans (nmB_eq E s))) (E.tk s.i).f1 ⟨#[]⟩
  exact ⟨_, _, _, rfl, rfl, Q1.out, HK.out.trans Q2.out, hS, (wt_i s _).1, (wt_i s _).2⟩
 | false =>
  have HE := Aside0.mk hB
  go_wp2_with (fail)
  have hW := want_name E s _ HS.out false hB
  rw [show wv E s false = z53v from rfl] at hW
  refine hW.mono ?_
  clear hW hB
  rintro e wb ⟨rfl, q1, qk⟩
  have Q1 := Aside0.mk q1
  have Q2 := Aside0.mk qk
  clear q1 qk
  go_wp2
  go_ret
  have hS := Step.wt (s := s) (p := (decide ((E.tk s.i).f0 = 1) && !kwS (E.tk s.i).f1)) (b := false) ((HE.out.symm.trans (nmB_eq E s))) (E.tk s.i).f1 ⟨#[]⟩
  exact ⟨_, _, _, rfl, rfl, Q1.out, HK.out.trans Q2.out, hS, (wt_i s _).1, (wt_i s _).2⟩
set_option maxHeartbeats 8000000 in
set_option maxRecDepth 100000 in
theorem number_c (E : Env) (s : Cs) (w : World) (h : ST E s w) : Calls Try.prog 55 #[.pointer (some ⟨E.g, 0, none⟩)] w (Got E s w (numP E s.i) (fun _ x v => v = .int .i64 x)) := by
 have hu53 := Try.underlying53
 have HI := Aside0.mk h.lt
 have HSB := Aside0.mk (show E.w0.heap.size ≤ w.heap.size from h.below.size)
 have HS := Aside0.mk h
 have HK := Aside0.mk (KP.refl E w)
 clear h
 go_enter Try.func55, Try.ntmps55
 cases hB : nuB E s with
 | true =>
  have HE := Aside0.mk hB
  go_wp2_with (fail)
  have hW := want_number E s _ HS.out true hB
  rw [show wv E s true = #[.int .i64 (E.tk s.i).f0, .string (E.tk s.i).f1, .int .i64 (E.tk s.i).f2, .int .i64 (E.tk s.i).f3] from rfl] at hW
  refine hW.mono ?_
  clear hW hB
  rintro e wb ⟨rfl, q1, qk⟩
  have Q1 := Aside0.mk q1
  have Q2 := Aside0.mk qk
  clear q1 qk
  go_wp2
  go_ret
  have hS := Step.wt (s := s) (p := decide ((E.tk s.i).f0 = 2)) (b := true) (HE.out.symm) (E.tk s.i).f2 0
  exact ⟨_, _, _, rfl, rfl, Q1.out, HK.out.trans Q2.out, hS, (wt_i s _).1, (wt_i s _).2⟩
 | false =>
  have HE := Aside0.mk hB
  go_wp2_with (fail)
  have hW := want_number E s _ HS.out false hB
  rw [show wv E s false = z53v from rfl] at hW
  refine hW.mono ?_
  clear hW hB
  rintro e wb ⟨rfl, q1, qk⟩
  have Q1 := Aside0.mk q1
  have Q2 := Aside0.mk qk
  clear q1 qk
  go_wp2
  go_ret
  have hS := Step.wt (s := s) (p := decide ((E.tk s.i).f0 = 2)) (b := false) (HE.out.symm) (E.tk s.i).f2 0
  exact ⟨_, _, _, rfl, rfl, Q1.out, HK.out.trans Q2.out, hS, (wt_i s _).1, (wt_i s _).2⟩
set_option maxHeartbeats 8000000 in
set_option maxRecDepth 100000 in
theorem must_c (E : Env) (s : Cs) (t : ByteArray) (w : World) (h : ST E s w) : Calls Try.prog 53 #[.pointer (some ⟨E.g, 0, none⟩), .string t] w (Got E s w (mustP E t s.i) (fun _ _ v => v = .tuple #[])) := by
 have hu53 := Try.underlying53
 have hu83 := Try.underlying83
 have HSB := Aside0.mk (show E.w0.heap.size ≤ w.heap.size from h.below.size)
 have HS := Aside0.mk h
 have HK := Aside0.mk (KP.refl E w)
 clear h
 go_enter Try.func53, Try.ntmps53
 go_upto_region 1 with (first | ((with_reducible refine gate_dst (N := 2) rfl ?_); refine bbX (N := 2) #[.pointer (some ⟨E.g, 0, none⟩)] 83 ?hr ?_; (case hr => first | (go_simp; done) | (go_simp; rfl)); intro ga hg_ wa hbox_ hq_; have Ga := Aside0.mk (show w.heap.size ≤ ga from by rw [hg_.out]; exact HK.out.2); have Ha := Aside0.mk hbox_; replace HK := kkB HK hq_; replace HS := ssM HS hq_; clear hg_ hbox_ hq_) | ((with_reducible refine gate_dst (N := 3) rfl ?_); refine bbX (N := 3) #[.string t] 9 ?hr ?_; (case hr => first | (go_simp; done) | (go_simp; rfl)); intro gb hg_ wb hbox_ hq_; have Gb := Aside0.mk (show w.heap.size ≤ gb from by rw [hg_.out]; exact HK.out.2); have Na_b := Aside0.mk (ne_new Ha.out hg_.out); have LTa_b := Aside0.mk (lt_new Ha.out hg_.out); have Hb := Aside0.mk hbox_; replace Ha := mvB hq_ Ha; replace HK := kkB HK hq_; replace HS := ssM HS hq_; clear hg_ hbox_ hq_))
 have za := blk_celln Ha.out 0 _ rfl
 cases hB : isB E s t with
 | true =>
  have HE := Aside0.mk hB
  go_wp2_with (fail)
  have hW := want_must E s t ga gb _ HS.out Ha.out Hb.out true hB
  refine hW.mono ?_
  clear hW hB
  rintro e wc ⟨rfl, q1, qk⟩
  have Q1 := Aside0.mk q1
  have Q2 := Aside0.mk qk
  clear q1 qk
  go_wp2
  go_end0
  have hS := Step.wt (s := s) (p := isT E s.i t) (b := true) (HE.out.symm.trans (isB_eq E s t)) () ()
  exact ⟨(), _, _, rfl, rfl, Q1.out, HK.out.trans Q2.out, by unfold mustP; simpa using hS, (wt_i s _).1, (wt_i s _).2⟩
 | false =>
  have HE := Aside0.mk hB
  go_wp2_with (fail)
  have hW := want_must E s t ga gb _ HS.out Ha.out Hb.out false hB
  refine hW.mono ?_
  clear hW hB
  rintro e wc ⟨rfl, q1, qk⟩
  have Q1 := Aside0.mk q1
  have Q2 := Aside0.mk qk
  clear q1 qk
  go_wp2
  go_end0
  have hS := Step.wt (s := s) (p := isT E s.i t) (b := false) (HE.out.symm.trans (isB_eq E s t)) () ()
  exact ⟨(), _, _, rfl, rfl, Q1.out, HK.out.trans Q2.out, by unfold mustP; simpa using hS, (wt_i s _).1, (wt_i s _).2⟩
set_option maxHeartbeats 8000000 in
set_option maxRecDepth 100000 in
theorem took_c (E : Env) (s : Cs) (t : ByteArray) (w : World) (h : ST E s w) (b : Bool) (hB : isB E s t = b) : Calls Try.prog 58 #[.pointer (some ⟨E.g, 0, none⟩), .string t] w fun e w' => e = .returned (.bool b) ∧ ST E (tkS s b) w' ∧ KP E w w' := by
 have HSB := Aside0.mk (show E.w0.heap.size ≤ w.heap.size from h.below.size)
 have HS := Aside0.mk h
 have HK := Aside0.mk (KP.refl E w)
 clear h
 go_enter Try.func58, Try.ntmps58
 go_wp2_with (fail)
 have hW := is_c E s t _ HS.out
 refine hW.mono ?_
 clear hW
 rintro e wa ⟨rfl, qb⟩
 replace HK := kkB HK qb
 replace HS := ssM HS qb
 clear qb
 rw [hB]
 cases b with
 | true =>
  have HX := Aside0.mk (nx_tk (is_ok hB))
  clear hB
  go_wp2_with (fail)
  have hW := next_c E s _ HS.out
  refine hW.mono ?_
  clear hW
  rintro e wb ⟨rfl, q1, qk⟩
  replace HK := kkT HK qk
  replace HS := Aside0.mk q1
  clear q1 qk
  rw [HX.out] at HS
  go_wp2
  go_ret
  exact ⟨rfl, HS.out, HK.out⟩
 | false =>
  clear hB
  go_wp2
  go_ret
  exact ⟨rfl, HS.out, HK.out⟩
set_option maxHeartbeats 8000000 in
set_option maxRecDepth 100000 in
theorem mode_c (E : Env) (s : Cs) (w : World) (h : ST E s w) : Calls Try.prog 104 #[.pointer (some ⟨E.g, 0, none⟩)] w (Got E s w (modeP E s.i) (fun _ x v => v = .int .i64 x)) := by
 obtain ⟨i, bad, ps⟩ := s
 have hu85 := Try.underlying85
 have hu53 := Try.underlying53
 have HSB := Aside0.mk (show E.w0.heap.size ≤ w.heap.size from h.below.size)
 have HS := Aside0.mk h
 have HK := Aside0.mk (KP.refl E w)
 clear h
 go_enter Try.func104, Try.ntmps104
 have c2 := HS.out.c2
 cases bad with
 | true =>
  go_wp2_with (fail)
  have hW := fail_c E ⟨i, true, ps⟩ _ HS.out
  refine hW.mono ?_
  clear hW
  rintro e wb ⟨rfl, q1, qk⟩
  replace HK := kkT HK qk
  replace HS := Aside0.mk q1
  clear q1 qk
  go_wp2
  go_ret
  exact ⟨0, _, _, rfl, rfl, HS.out, HK.out, Step.bad rfl rfl rfl, Nat.le_refl _, rfl⟩
 | false =>
  by_cases k1 : (E.tk i).f0 = 1
  ·have a1 := eq_true k1; have a2 := decide_eq_true k1; have a3 : ((E.tk i).f0 == 1) = true := beq_iff_eq.mpr k1
   have K1 := Aside0.mk k1
   clear k1
   go_wp2_with (fail)
   have hW := here_c E ⟨i, false, ps⟩ _ HS.out
   refine hW.mono ?_
   clear hW
   rintro e wb ⟨rfl, qb⟩
   replace HK := kkB HK qb
   replace HS := ssM HS qb
   clear qb
   clear c2
   go_wp2_with (((with_reducible refine gate_dst (N := 15) rfl ?_); refine lit_event ?hg (N := 15) ?hd (n := 5) (cs := ⟨modes.map Value.string⟩) (t := 9) ?hr ?_; (case hd => rfl); (case hg => rfl); (case hr => first | (go_simp; done) | (go_simp; rfl)); intro gs hg_ w9 hbox_ hq_; have HL := Aside0.mk hbox_; replace HK := kkB HK hq_; replace HS := ssM HS hq_; clear hg_ hbox_ hq_))
   have hW := here_c E ⟨i, false, ps⟩ _ HS.out
   refine hW.mono ?_
   clear hW
   rintro e wc ⟨rfl, qb⟩
   replace HK := kkB HK qb
   replace HS := ssM HS qb
   replace HL := mvB qb HL
   clear qb
   go_wp2_with (fail)
   have hW := modes_c (E.tk i).f1 wc (some ⟨gs, 0, none⟩) 5 (C_strs (by decide) HL.out) (by decide)
   refine hW.mono ?_
   clear hW
   rintro e wd ⟨rfl, qb⟩
   replace HK := kkB HK qb
   replace HS := ssM HS qb
   clear qb
   have MX := Aside0.mk (show ∃ m, ixS modes (E.tk i).f1 0 = m from ⟨_, rfl⟩)
   obtain ⟨m, hm⟩ := MX.out
   clear MX
   rw [hm]
   have HM := Aside0.mk hm
   clear hm
   by_cases k2 : m < 0
   ·have b1 := eq_true k2; have b2 := decide_eq_true k2
    have K2 := Aside0.mk k2
    clear k2
    go_wp2_with (fail)
    have hW := fail_c E ⟨i, false, ps⟩ _ HS.out
    refine hW.mono ?_
    clear hW
    rintro e wb ⟨rfl, q1, qk⟩
    replace HK := kkT HK qk
    replace HS := Aside0.mk q1
    clear q1 qk
    go_wp2
    go_ret
    exact ⟨0, _, _, rfl, rfl, HS.out, HK.out, Step.fail (fun _ => (by unfold modeP; rw [if_neg]; simp [K1.out, HM.out, K2.out])) rfl rfl, Nat.le_refl _, rfl⟩
   ·have b1 := eq_false k2; have b2 := decide_eq_false k2
    have K2 := Aside0.mk k2
    clear k2
    go_wp2_with (fail)
    have hW := next_c E ⟨i, false, ps⟩ _ HS.out
    refine hW.mono ?_
    clear hW
    rintro e wf ⟨rfl, q1, qk⟩
    replace HK := kkT HK qk
    replace HS := Aside0.mk q1
    clear q1 qk
    rw [show nx E ⟨i, false, ps⟩ = ⟨i + 1, false, ps⟩ from if_pos ⟨rfl, by rw [K1.out]; decide⟩] at HS
    go_wp2
    go_ret
    exact ⟨m, _, _, rfl, rfl, HS.out, HK.out, Step.good (j := i + 1) (q := []) rfl (by unfold modeP; rw [if_pos (by simp [K1.out, HM.out]; exact K2.out), HM.out]) (by simp), Nat.le_succ _, rfl⟩
  ·have a1 := eq_false k1; have a2 := decide_eq_false k1; have a3 : ((E.tk i).f0 == 1) = false := beq_eq_false_iff_ne.mpr k1
   have K1 := Aside0.mk k1
   clear k1
   go_wp2_with (fail)
   have hW := here_c E ⟨i, false, ps⟩ _ HS.out
   refine hW.mono ?_
   clear hW
   rintro e wb ⟨rfl, qb⟩
   replace HK := kkB HK qb
   replace HS := ssM HS qb
   clear qb
   clear c2
   go_wp2_with (fail)
   have hW := fail_c E ⟨i, false, ps⟩ _ HS.out
   refine hW.mono ?_
   clear hW
   rintro e wb ⟨rfl, q1, qk⟩
   replace HK := kkT HK qk
   replace HS := Aside0.mk q1
   clear q1 qk
   go_wp2
   go_ret
   exact ⟨0, _, _, rfl, rfl, HS.out, HK.out, Step.fail (fun _ => (by unfold modeP; rw [if_neg]; simp [K1.out])) rfl rfl, Nat.le_refl _, rfl⟩
def partT.T0 : Bool × List (List Nat × List Nat) := (true, [([], []), ([], []), ([1], [1]), ([2], [2]), ([3], [3]), ([], []), ([5], [5]), ([6], [6]), ([7], [7]), ([4, 8, 6], [4, 8]), ([0, 0, 1, 2, 3, 4, 5, 6, 7, 8, 9], [0]), ([10, 0, 1, 2, 3, 4, 5, 6, 7, 8, 9], [10]), ([11, 9, 9, 0, 1, 2, 3, 4, 5, 6, 7, 8, 9], [9, 11])])
def partT.B0 : List Nat := [0, 0, 2, 6, 14, 0, 32, 96, 224, 510, 1023, 2047, 4095]
theorem partT.tab0 : rtab .any (opsOf Try.f52 0) = partT.T0 := by kernel_rfl
theorem partT.bits0 : waitsOk partT.T0.2 partT.B0 = true := by kernel_rfl
set_option maxHeartbeats 8000000 in
set_option maxRecDepth 100000 in
theorem part_c (E : Env) (s : Cs) (w : World) (h : ST E s w) (hl : s.ps.length ≤ 1000000) : Calls Try.prog 52 #[.pointer (some ⟨E.g, 0, none⟩)] w fun e w' => e = .returned (.tuple #[]) ∧ ST E ⟨s.i, s.bad, s.ps ++ [(E.tk s.i).f3]⟩ w' ∧ KP E w w' := by
 have hu85 := Try.underlying85
 have hu53 := Try.underlying53
 obtain ⟨hB, v, hbk, hR, hne⟩ := h.cu
 obtain ⟨A3, c3, rfl⟩ := Kd.R_slice hR
 have HBk := Aside0.mk hbk
 have HR := Aside0.mk hR
 have HE := Aside0.mk hne
 clear hbk hR hne
 have HSB := Aside0.mk (show E.w0.heap.size ≤ w.heap.size from h.below.size)
 have HS := Aside0.mk h
 have HK := Aside0.mk (KP.refl E w)
 clear h
 go_enter Try.func52, Try.ntmps52
 replace HK := kkB HK (below_drew (Below.refl w.heap.size w))
 replace HS := ssM HS (below_drew (Below.refl w.heap.size w))
 replace HBk := mvB (below_drew (Below.refl w.heap.size w)) HBk
 replace HR := Aside0.mk (Kd.R_below HR.out (below_drew (Below.refl w.heap.size w)))
 refine start_ (n := 13) (S := fun w' => w'.cell? ⟨E.g, 3, none⟩ = some (.slice A3 s.ps.length c3)) (ds := [9, 12]) #[Z,Z,Z,Z,Z,Z,Z,Z,Z,Z,Z,Z,Z] (by kernel_rfl) rfl rfl (blk_celln HBk.out 3 _ rfl) (fun hHeld => ?_)
 refine with_tabW partT.tab0 partT.bits0 (fun HT_ HW_ => ?_)
 generalize World.drew _ = wd at HS HK HBk HR hHeld ⊢
 refine ppU (i := 0) (N := some 2) #[Y,Z,Z,Z,Z,Z,Z,Z,Z,Z,Z,Z,Z] HT_ ?_
 refine ppU (i := 1) (N := some 3) #[Y,Y,Z,Z,Z,Z,Z,Z,Z,Z,Z,Z,Z] HT_ ?_
 refine ppU (i := 2) (N := some 4) #[Y,Y,Y,Z,Z,Z,Z,Z,Z,Z,Z,Z,Z] HT_ ?_
 refine ppU (i := 3) (N := some 5) #[Y,Y,Y,Y,Z,Z,Z,Z,Z,Z,Z,Z,Z] HT_ ?_
 refine take_ (i := 4) (N := some 6) (v := ?_) (a' := ?_) #[Y,Y,Y,Y,Y,Z,Z,Z,Z,Z,Z,Z,Z] rfl rfl (take_ofW HT_.out HW_.out (by kernel_rfl)) (fun _ _ _ h => h) (Or.inl ⟨by rfl, ?_⟩) hHeld ?_ ?_
 rotate_left
 ·rintro w' s0
  go_simp
  with_reducible rfl
 rotate_left
 ·simp only [Act.put, pA, pB, pC, i64_w, i32_w]
  rfl
 refine ppU (i := 5) (N := some 7) #[Y,Y,Y,Y,Y,Y,Z,Z,Z,Z,Z,Z,Z] HT_ ?_
 refine one_ (i := 6) (N := some 8) #[Y,Y,Y,Y,Y,Y,Y,Z,Z,Z,Z,Z,Z] rfl rfl (one_of HT_.out (by kernel_rfl)) (by decide) (fun K hK => ?_)
 refine goes_ Try.func34 (by kernel_rfl) rfl #[.pointer (some ⟨E.g, 0, none⟩)] (by rfl) rfl rfl (by (try simp only [List.map_toArray, List.map_cons, List.map_nil]); first | done | rfl) ?_
 refine (here_c E s _ HS.out).mono ?_
 rintro e wx ⟨rfl, qb⟩
 refine ⟨_, rfl, ?_⟩
 replace HK := kkB HK qb
 replace HS := ssM HS qb
 replace HBk := mvB qb HBk
 replace HR := Aside0.mk (Kd.R_below HR.out qb)
 clear qb
 refine hK.out _ _ (blk_celln HBk.out 3 _ rfl) (fun hHeld => ?_)
 clear hK K
 refine norm_ (a' := ?_) ?_ ?_
 rotate_left
 ·show Act.put _ (some 8) _ = _
  simp only [Act.put, pA, pB, pC, i64_w, i32_w]
  rfl
 refine ppU (i := 7) (N := some 9) #[Y,Y,Y,Y,Y,Y,Y,Y,Z,Z,Z,Z,Z] HT_ ?_
 refine one_ (i := 8) (N := some 10) #[Y,Y,Y,Y,Y,Y,Y,Y,Y,Z,Z,Z,Z] rfl rfl (one_of HT_.out (by kernel_rfl)) (by decide) (fun K hK => ?_)
 refine value_ (w1 := ?_) (v := ?_) (by rfl) rfl ?_ ?_
 rotate_left 2
 ·go_simp
  constructor
  ·rfl
  ·rfl
 refine hK.out _ _ ((World.cell?_alloc_lt _ _ _ (World.block_lt_of_cell? _ _ (blk_celln HBk.out 3 _ rfl))).trans (blk_celln HBk.out 3 _ rfl)) (fun hHeld => ?_)
 clear hK K
 refine norm_ (a' := ?_) ?_ ?_
 rotate_left
 ·show Act.put _ (some 10) _ = _
  simp only [Act.put, pA, pB, pC, i64_w, i32_w]
  rfl
 refine last_ (i := 9) (N := some 11) #[Y,Y,Y,Y,Y,Y,Y,Y,Y,Y,Z,Z,Z] rfl rfl (one_of HT_.out (by kernel_rfl)) (by decide) (fun K hK => ?_)
 refine Kd.R_append_step (Kd.int .i64) (w0 := E.w0) E.w0.heap.size (by rfl) (.tmp 6) (.tmp 10) 35 3 (.int .i64 0) 8 rfl Try.underlying35 info3 rfl (by decide) (by decide) (.slice A3 s.ps.length c3) s.ps (E.tk s.i).f3 [.int .i64 (E.tk s.i).f3] (fun _ => True) (fun _ => False) rfl rfl rfl (fun _ hk => hk.elim) (fun _ _ => trivial) HR.out HS.out.below HS.out.below.size (by omega) ?_
 intro v4 w2 q1 q2 q3 _
 obtain ⟨A4, c4, rfl⟩ := Kd.R_slice q1
 rw [show (s.ps ++ [(E.tk s.i).f3]).length = s.ps.length + 1 from by simp] at q1 ⊢
 refine hK.out _ _ ?_
 clear hK K
 refine norm_ (a' := ?_) ?_ ?_
 rotate_left
 ·show Act.put _ (some 11) _ = _
  simp only [Act.put, pA, pB, pC, i64_w, i32_w]
  rfl
 have hb2 := blk_grown HBk.out q3 (fun e => HE.out e.symm)
 refine ppU (i := 10) (N := some 12) #[Y,Y,Y,Y,Y,Y,Y,Y,Y,Y,Y,Z,Z] HT_ ?_
 refine ppU (i := 11) (N := some 13) #[Y,Y,Y,Y,Y,Y,Y,Y,Y,Y,Y,Y,Z] HT_ ?_
 refine last_ (i := 12) (N := none) #[Y,Y,Y,Y,Y,Y,Y,Y,Y,Y,Y,Y,Y] rfl rfl (one_of HT_.out (by kernel_rfl)) (by decide) (fun K hK => ?_)
 have hs3 := blk_celln hb2 3 _ rfl
 have hf3 := blk_frozen hb2 3
 refine skip_ (w1 := ?_) (by rfl) rfl ?_ ?_
 rotate_left
 ·go_simp
  rfl
 refine hK.out _ _ ?_
 clear hK K
 refine done_ (done_of HT_.out (by kernel_rfl)) ?_
 have hn4 := fun e => Kd.R_ne q1 hb2 (by decide) (Eq.symm e)
 have hS := HS.out
 have hKK := HK.out
 have typ := fun g hg => (Kd.R_typed HR.out g hg)
 go_end0
 refine ⟨rfl, ⟨hS.ok, ⟨hB, _, blk_put hb2 3 _ rfl, ints_move q1 (fun k hk => Below.heap_setCell _ ⟨E.g, 3, none⟩ _ k (fun e => hn4 (by rw [hk, e]))), hn4⟩, q2.setCell (p := ⟨E.g, 3, none⟩) hB _, hS.lt⟩, hKK.trans ⟨?_, ?_⟩⟩
 ·exact ((Lib.OthersKept.refl 3 (some E.g) _).grown q3 (fun g hg => by obtain ⟨c, hc⟩ := typ g hg; exact ⟨c, (0, 0), hc⟩)).setCell ⟨E.g, 3, none⟩ rfl _
 ·simpa [World.setCell] using q3.size
end Go.Proofs.Ytinnldfmbeafiaa.PA
