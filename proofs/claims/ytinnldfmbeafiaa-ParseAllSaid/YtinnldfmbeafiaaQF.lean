/- Expressions: atom, sum, expr walked by hand. -/
import Derived.Test.YtinnldfmbeafiaaQE
namespace Go.Proofs.Ytinnldfmbeafiaa.PA
open Go.RowKit Go.Proofs.YtinnldfmbeafiaaW.PrintWords Go.Proofs.YtinnldfmbeafiaaW.PrintLast Go.Proofs.YtinnldfmbeafiaaW.PrintMore
set_option linter.unusedVariables false
set_option linter.unusedSimpArgs false
attribute [local go_sem] cell_set_some fld53_0 fld53_1 fld53_2 fld53_3
theorem Step.pure {α : Type} (t : Cs) (y : α) : Step t (.ok y t.i []) y t :=
 ⟨fun h => ⟨h, rfl⟩, fun h => .inr ⟨t.i, [], rfl, by obtain ⟨i, bad, ps⟩ := t; simp only at h; subst h; simp⟩⟩
theorem Step.at {α : Type} {s t : Cs} {j : Nat} {r : Res α} {x : α} (hb : s.bad = false) (h : Step ⟨j, false, s.ps⟩ r x t) : Step s r x t :=
 ⟨fun hb' => (by rw [hb] at hb'; cases hb'), fun _ => h.2 rfl⟩
theorem isB_good {E : Env} {s : Cs} {t : ByteArray} (hb : s.bad = false) (b : Bool) (h : isB E s t = b) : isT E s.i t = b := by
 rw [isB_eq, hb] at h
 simpa using h
def plusB : ByteArray := ⟨#[43]⟩
def atomP (E : Env) (ex : Nat → Res S94) (i : Nat) : Res S94 :=
 if decide ((E.tk i).f0 = 2) = true then (numP E i).bind fun n j => .ok ⟨1, n, ⟨#[]⟩, []⟩ j []
 else if (decide ((E.tk i).f0 = 1) && !kwS (E.tk i).f1) = true then (nameP E i).bind fun n j => .ok ⟨2, 0, n, []⟩ j []
 else if isT E i ⟨#[40]⟩ = true then (ex (i + 1)).bind fun e j => (mustP E ⟨#[41]⟩ j).bind fun _ l => .ok e l []
 else .fail i
def sumL (E : Env) (rt : Nat → Res S94) : Nat → S94 → Nat → Res S94
 | 0, _, _ => .out
 | m + 1, e, i => if isT E i ⟨#[43]⟩ = true then (rt (i + 1)).bind fun f j => sumL E rt m ⟨3, 0, ⟨#[]⟩, [e, f]⟩ j
  else if isT E i ⟨#[45]⟩ = true then (rt (i + 1)).bind fun f j => sumL E rt m ⟨4, 0, ⟨#[]⟩, [e, f]⟩ j else .ok e i []
def sumP (E : Env) (ex : Nat → Res S94) (i : Nat) : Res S94 := (atomP E ex i).bind fun e j => sumL E (atomP E ex) (E.ts.length + 1) e j
def cmpP (E : Env) (rt : Nat → Res S94) (e : S94) (i : Nat) : Res S94 := if isT E i ⟨#[61, 61]⟩ = true then (rt (i + 1)).bind fun f j => .ok ⟨5, 0, ⟨#[]⟩, [e, f]⟩ j []
 else if isT E i ⟨#[60]⟩ = true then (rt (i + 1)).bind fun f j => .ok ⟨6, 0, ⟨#[]⟩, [e, f]⟩ j [] else .ok e i []
def exprQ (E : Env) (ex : Nat → Res S94) (i : Nat) : Res S94 := (sumP E ex i).bind fun e j => cmpP E (sumP E ex) e j
def exprP (E : Env) : Nat → Nat → Res S94
 | 0, _ => .out
 | k + 1, i => exprQ E (exprP E k) i
/-- What is known of expressions further in. -/
def GoodAt (E : Env) (ex : Nat → Res S94) : Prop := ∀ s w, ST E s w → s.bad = false → ex s.i ≠ .out → Calls Try.prog 105 #[.pointer (some ⟨E.g, 0, none⟩)] w (Got E s w (ex s.i) (VE E w))
theorem bind_out {α β : Type} {r : Res α} {f : α → Nat → Res β} (h : r.bind f ≠ .out) : r ≠ .out := fun e => h (by rw [e]; rfl)
theorem sum_ne {E : Env} {rt : Nat → Res S94} {s : Cs} {m : Nat} {x : S94} (h : Ne s (sumL E rt m x s.i)) : NeJ E s ⟨#[43]⟩ ⟨#[45]⟩ rt := by
 intro hb ht
 have h1 := h hb
 cases m with
 | zero => exact absurd rfl h1
 | succ m =>
  unfold sumL at h1
  by_cases c : isT E s.i ⟨#[43]⟩ = true
  ·rw [if_pos c] at h1
   exact bind_out h1
  ·rw [if_neg c, if_pos (ht.resolve_left c)] at h1
   exact bind_out h1
theorem sum_stop {E : Env} {rt : Nat → Res S94} {s : Cs} {m : Nat} {x : S94} (h : Ne s (sumL E rt m x s.i)) (ha : isB E s ⟨#[43]⟩ = false) (hb : isB E s ⟨#[45]⟩ = false) : Step s (sumL E rt m x s.i) x s := by
 cases hbad : s.bad with
 | true => exact Step.bad hbad hbad rfl
 | false =>
  have a := isB_good hbad _ ha
  have b := isB_good hbad _ hb
  cases m with
  | zero => exact absurd rfl (h hbad)
  | succ m =>
   unfold sumL
   rw [if_neg (by rw [a]; decide), if_neg (by rw [b]; decide)]
   exact Step.pure s x
theorem sum_go {E : Env} {rt : Nat → Res S94} {s t : Cs} {m : Nat} {x f : S94} {op : Int} (hb : s.bad = false) (h : Ne s (sumL E rt m x s.i)) (ho : (isT E s.i ⟨#[43]⟩ = true ∧ op = 3) ∨ (isT E s.i ⟨#[43]⟩ = false ∧ isT E s.i ⟨#[45]⟩ = true ∧ op = 4)) (hs : Step ⟨s.i + 1, false, s.ps⟩ (rt (s.i + 1)) f t) :
 ∃ m', m = m' + 1 ∧ Ne t (sumL E rt m' ⟨op, 0, ⟨#[]⟩, [x, f]⟩ t.i) ∧ ∀ y u, Step t (sumL E rt m' ⟨op, 0, ⟨#[]⟩, [x, f]⟩ t.i) y u → Step s (sumL E rt m x s.i) y u := by
 cases m with
 | zero => exact absurd rfl (h hb)
 | succ m =>
  have e : sumL E rt (m + 1) x s.i = (rt (s.i + 1)).bind fun f j => sumL E rt m ⟨op, 0, ⟨#[]⟩, [x, f]⟩ j := by
   rcases ho with ⟨a, rfl⟩ | ⟨a, b, rfl⟩
   ·rw [sumL, if_pos a]
   ·rw [sumL, if_neg (by rw [a]; decide), if_pos b]
  rw [e] at h ⊢
  exact ⟨m, rfl, Ne.next (s := ⟨s.i + 1, false, s.ps⟩) (x := f) (f := fun f j => sumL E rt m ⟨op, 0, ⟨#[]⟩, [x, f]⟩ j) (fun _ => h hb) hs, fun y u k => Step.at hb (hs.bind k)⟩
theorem cmp_ne {E : Env} {rt : Nat → Res S94} {s : Cs} {x : S94} (h : Ne s (cmpP E rt x s.i)) : NeJ E s ⟨#[61, 61]⟩ ⟨#[60]⟩ rt := by
 intro hb ht
 have h1 := h hb
 unfold cmpP at h1
 by_cases c : isT E s.i ⟨#[61, 61]⟩ = true
 ·rw [if_pos c] at h1
  exact bind_out h1
 ·rw [if_neg c, if_pos (ht.resolve_left c)] at h1
  exact bind_out h1
theorem cmp_step {E : Env} {rt : Nat → Res S94} {s t : Cs} {x x' : S94} {r : Bool} (h : Join E s ⟨#[61, 61]⟩ ⟨#[60]⟩ 5 6 rt x x' t r) : Step s (cmpP E rt x s.i) x' t ∧ s.i ≤ t.i ∧ t.ps = s.ps := by
 rcases h with ⟨_, rfl, rfl, ha, hb⟩ | ⟨_, hbad, f, op, ho, hs, rfl, hi, hp⟩
 ·refine ⟨?_, Nat.le_refl _, rfl⟩
  cases hbad : t.bad with
  | true => exact Step.bad hbad hbad rfl
  | false =>
   have a := isB_good hbad _ ha
   have b := isB_good hbad _ hb
   unfold cmpP
   rw [if_neg (by rw [a]; decide), if_neg (by rw [b]; decide)]
   exact Step.pure t _
 ·refine ⟨Step.at (j := s.i + 1) hbad ?_, by omega, hp⟩
  unfold cmpP
  rcases ho with ⟨a, rfl⟩ | ⟨a, b, rfl⟩
  ·rw [if_pos a]
   exact hs.bind (Step.pure t _)
  ·rw [if_neg (by rw [a]; decide), if_pos b]
   exact hs.bind (Step.pure t _)
set_option maxHeartbeats 8000000 in
set_option maxRecDepth 100000 in
theorem atom_c (E : Env) (ex : Nat → Res S94) (IH : GoodAt E ex) (s : Cs) (w : World) (h : ST E s w) (hn : Ne s (atomP E ex s.i)) : Calls Try.prog 111 #[.pointer (some ⟨E.g, 0, none⟩)] w (Got E s w (atomP E ex s.i) (VE E w)) := by
 have HN := Aside0.mk hn
 have HIH := Aside0.mk IH
 clear hn IH
 have HSB := Aside0.mk (show E.w0.heap.size ≤ w.heap.size from h.below.size)
 have HS := Aside0.mk h
 have HK := Aside0.mk (KP.refl E w)
 clear h
 go_enter Try.func111, Try.ntmps111
 go_wp2_with ((with_reducible refine gate_dst (N := 2) rfl ?_); refine bbX (N := 2) z94v 94 ?hr ?_; (case hr => first | (go_simp; done) | (go_simp; rfl)); intro g2 hg_ w2 hbox_ hq_; have G2 := Aside0.mk (show w.heap.size ≤ g2 from by rw [hg_.out]; exact HK.out.2); have H2 := Aside0.mk hbox_; replace HK := kkB HK hq_; replace HS := ssM HS hq_; clear hg_ hbox_ hq_)
 go_wp2_with (fail)
 have hW := isNumber_c E s _ HS.out
 refine hW.mono ?_
 clear hW
 rintro e wa ⟨rfl, qb⟩
 replace H2 := mvB qb H2
 replace HK := kkB HK qb
 replace HS := ssM HS qb
 clear qb
 cases hB : nuB E s with
 | true =>
  have HB := Aside0.mk hB
  clear hB
  go_wp2_with (fail)
  have hW := number_c E s _ HS.out
  refine hW.mono ?_
  clear hW
  rintro e wb ⟨x, vx, t, rfl, rfl, q1, qk, hst, hti, hps⟩
  have TX := Aside0.mk (And.intro hst (And.intro hti hps))
  clear hst hti hps
  replace H2 := mvK qk HS H2
  replace HK := kkT HK qk
  replace HS := Aside0.mk q1
  clear q1 qk
  obtain ⟨z2_0, f2_0, z2_1, f2_1, z2_2, f2_2, z2_3, f2_3⟩ := cf4 H2.out
  go_wp2
  refine fin94 H2.out (fun _ F1_ F2_ => ?_)
  exact ⟨⟨1, x, ⟨#[]⟩, []⟩, _, t, rfl, ⟨none, 0, rfl, Nat.le_refl 0, F.nil _ _ _ _ _⟩, HS.out.only H2.out (by decide) (by decide) (Nat.le_trans HSB.out G2.out) F2_, HK.out.only G2.out F2_, (by have h2 : decide ((E.tk s.i).f0 = 2) = true := (by have := HB.out; simp [nuB] at this; simp [this.2]); unfold atomP; rw [if_pos h2]; exact TX.out.1.bind (Step.pure t _)), TX.out.2.1, TX.out.2.2⟩
 | false =>
  have HB := Aside0.mk hB
  clear hB
  go_wp2_with (fail)
  have hW := isName_c E s _ HS.out
  refine hW.mono ?_
  clear hW
  rintro e wb ⟨rfl, qb⟩
  replace H2 := mvB qb H2
  replace HK := kkB HK qb
  replace HS := ssM HS qb
  clear qb
  cases hB : nmB E s with
  | true =>
   have HB2 := Aside0.mk hB
   clear hB
   go_wp2_with (fail)
   have hW := name_c E s _ HS.out
   refine hW.mono ?_
   clear hW
   rintro e wb ⟨x, vx, t, rfl, rfl, q1, qk, hst, hti, hps⟩
   have TX := Aside0.mk (And.intro hst (And.intro hti hps))
   clear hst hti hps
   replace H2 := mvK qk HS H2
   replace HK := kkT HK qk
   replace HS := Aside0.mk q1
   clear q1 qk
   obtain ⟨z2_0, f2_0, z2_1, f2_1, z2_2, f2_2, z2_3, f2_3⟩ := cf4 H2.out
   go_wp2
   refine fin94 H2.out (fun _ F1_ F2_ => ?_)
   exact ⟨⟨2, 0, x, []⟩, _, t, rfl, ⟨none, 0, rfl, Nat.le_refl 0, F.nil _ _ _ _ _⟩, HS.out.only H2.out (by decide) (by decide) (Nat.le_trans HSB.out G2.out) F2_, HK.out.only G2.out F2_, (by have h2 := HB2.out; rw [nmB_eq] at h2; simp only [Bool.and_eq_true, Bool.not_eq_true', decide_eq_true_eq] at h2; unfold atomP; rw [if_neg (by rw [decide_eq_true_eq]; omega), if_pos (by simp [h2.2.1, h2.2.2])]; exact TX.out.1.bind (Step.pure t _)), TX.out.2.1, TX.out.2.2⟩
  | false =>
   have HB2 := Aside0.mk hB
   clear hB
   go_wp2_with (fail)
   cases hB : isB E s ⟨#[40]⟩ with
   | true =>
    obtain ⟨hbad, _⟩ := is_ok hB
    have HE := Aside0.mk (isB_good hbad _ hB)
    have HBD := Aside0.mk hbad
    have hW := took_c E s ⟨#[40]⟩ _ HS.out true hB
    refine hW.mono ?_
    clear hW hB hbad
    rintro e wc ⟨rfl, q1, qk⟩
    replace q1 : ST E ⟨s.i + 1, false, s.ps⟩ wc := by
     have e : tkS s true = ⟨s.i + 1, false, s.ps⟩ := by
      unfold tkS
      rw [if_pos rfl, HBD.out]
     rw [← e]
     exact q1
    replace H2 := mvK qk HS H2
    replace HK := kkT HK qk
    replace HS := Aside0.mk q1
    clear q1 qk
    have HQ := Aside0.mk (show atomP E ex s.i = (ex (s.i + 1)).bind fun e j => (mustP E ⟨#[41]⟩ j).bind fun _ l => .ok e l [] from by
     have h1 := HB.out
     have h2 := HB2.out
     rw [nmB_eq, HBD.out] at h2
     unfold nuB at h1
     rw [HBD.out] at h1
     unfold atomP
     rw [if_neg (by simpa using h1), if_neg (by simpa using h2), if_pos HE.out])
    go_wp2_with (fail)
    have hW := HIH.out ⟨s.i + 1, false, s.ps⟩ _ HS.out rfl (by have := HN.out HBD.out; rw [HQ.out] at this; exact bind_out this)
    have Lx := Aside0.mk (And.intro HK.out.2 (blk_lt H2.out))
    refine hW.mono ?_
    clear hW
    rintro e wx ⟨x, vx, tx, rfl, ⟨Ax, cx, rfl, lx, rx⟩, q1, qk, hst, hti, hps⟩
    have Tx := Aside0.mk (And.intro hst (And.intro hti hps))
    clear hst hti hps
    replace H2 := mvK qk HS H2
    replace HK := kkT HK qk
    replace HS := Aside0.mk q1
    clear q1 qk
    have Rx := Aside0.mk rx
    clear rx
    go_upto_region 7 with (first | ((with_reducible refine gate_dst (N := 3) rfl ?_); refine bbX (N := 3) z94v 94 ?hr ?_; (case hr => first | (go_simp; done) | (go_simp; rfl)); intro g3 hg_ w3 hbox_ hq_; obtain ⟨z0_, f0_, z1_, f1_, z2_, f2_, z3_, f3_⟩ := cf4 hbox_))
    obtain ⟨F1_, F2_⟩ := fill94 hbox_ (.int .i64 x.f0) (.int .i64 x.f1) (.string x.f2) (.slice Ax x.f3.length cx) _ rfl
    replace hq_ := hq_.trans (F2_.below.mono (Nat.le_of_eq hg_.out.symm))
    have G3 := Aside0.mk (show w.heap.size ≤ g3 from by rw [hg_.out]; exact HK.out.2)
    have N2_3 := Aside0.mk (ne_new H2.out hg_.out); have LT2_3 := Aside0.mk (lt_new H2.out hg_.out)
    clear hg_ hbox_ F2_ z0_ f0_ z1_ f1_ z2_ f2_ z3_ f3_
    generalize (((w3.setCell ⟨g3, 0, none⟩ (.int .i64 x.f0)).setCell ⟨g3, 1, none⟩ (.int .i64 x.f1)).setCell ⟨g3, 2, none⟩ (.string x.f2)).setCell ⟨g3, 3, none⟩ (.slice Ax x.f3.length cx) = v3 at F1_ hq_ ⊢
    have H3 := Aside0.mk F1_
    replace H2 := mvB hq_ H2
    replace Rx := ffB Rx hq_
    replace HK := kkB HK hq_
    replace HS := ssM HS hq_
    clear F1_ hq_
    go_wp2_with (fail)
    have hW := must_c E tx ⟨#[41]⟩ _ HS.out
    refine hW.mono ?_
    clear hW
    rintro e wd ⟨_, vy, ty, rfl, rfl, q1, qk, hst, hti, hps⟩
    have TY := Aside0.mk (And.intro hst (And.intro hti hps))
    clear hst hti hps
    replace H2 := mvK qk HS H2
    replace H3 := mvK qk HS H3
    replace Rx := ffK Rx qk
    replace HK := kkT HK qk
    replace HS := Aside0.mk q1
    clear q1 qk
    obtain ⟨z3_0, z3_1, z3_2, z3_3⟩ := cn4 H3.out
    obtain ⟨z2_0, f2_0, z2_1, f2_1, z2_2, f2_2, z2_3, f2_3⟩ := cf4 H2.out
    go_wp2
    refine fin94 H2.out (fun _ F1_ F2_ => ?_)
    exact ⟨x, _, ty, rfl, ⟨Ax, cx, rfl, lx, (F.lower (F.only Rx.out F2_ (Or.inl Lx.out.2)) Lx.out.1)⟩, HS.out.only H2.out (by decide) (by decide) (Nat.le_trans HSB.out G2.out) F2_, HK.out.only G2.out F2_, (by rw [HQ.out]; exact Step.at HBD.out (Tx.out.1.bind (TY.out.1.bind (Step.pure ty x)))), Nat.le_trans (Nat.le_succ _) (Nat.le_trans Tx.out.2.1 TY.out.2.1), TY.out.2.2.trans Tx.out.2.2⟩
   | false =>
    have HE := Aside0.mk hB
    have hW := took_c E s ⟨#[40]⟩ _ HS.out false hB
    refine hW.mono ?_
    clear hW hB
    rintro e wc ⟨rfl, q1, qk⟩
    replace q1 : ST E s wc := q1
    replace H2 := mvK qk HS H2
    replace HK := kkT HK qk
    replace HS := Aside0.mk q1
    clear q1 qk
    go_wp2_with (fail)
    have hW := fail_c E s _ HS.out
    refine hW.mono ?_
    clear hW
    rintro e wd ⟨rfl, q1, qk⟩
    replace H2 := mvK qk HS H2
    replace HK := kkT HK qk
    replace HS := Aside0.mk q1
    clear q1 qk
    obtain ⟨z2_0, f2_0, z2_1, f2_1, z2_2, f2_2, z2_3, f2_3⟩ := cf4 H2.out
    go_wp2
    refine fin94 H2.out (fun _ F1_ F2_ => ?_)
    exact ⟨⟨0, 0, ⟨#[]⟩, []⟩, _, _, rfl, ⟨none, 0, rfl, Nat.le_refl 0, F.nil _ _ _ _ _⟩, HS.out.only H2.out (by decide) (by decide) (Nat.le_trans HSB.out G2.out) F2_, HK.out.only G2.out F2_, Step.fail (fun hbad => (by have h1 := HB.out; have h2 := HB2.out; have h3 := isB_good hbad _ HE.out; rw [nmB_eq, hbad] at h2; unfold nuB at h1; rw [hbad] at h1; unfold atomP; rw [if_neg (by simpa using h1), if_neg (by simpa using h2), if_neg (by rw [h3]; decide)])) rfl rfl, Nat.le_refl _, rfl⟩
set_option maxHeartbeats 8000000 in
set_option maxRecDepth 100000 in
theorem sum_c (E : Env) (ex : Nat → Res S94) (IH : GoodAt E ex) (s : Cs) (w : World) (h : ST E s w) (hn : Ne s (sumP E ex s.i)) : Calls Try.prog 109 #[.pointer (some ⟨E.g, 0, none⟩)] w (Got E s w (sumP E ex s.i) (VE E w)) := by
 have HN := Aside0.mk hn
 have HIH := Aside0.mk IH
 clear hn IH
 have HSB := Aside0.mk (show E.w0.heap.size ≤ w.heap.size from h.below.size)
 have HS := Aside0.mk h
 have HK := Aside0.mk (KP.refl E w)
 clear h
 go_enter Try.func109, Try.ntmps109
 go_wp2_with ((with_reducible refine gate_dst (N := 2) rfl ?_); refine bbX (N := 2) z94v 94 ?hr ?_; (case hr => first | (go_simp; done) | (go_simp; rfl)); intro g2 hg_ w2 hbox_ hq_; have G2 := Aside0.mk (show w.heap.size ≤ g2 from by rw [hg_.out]; exact HK.out.2); have H2 := Aside0.mk hbox_; replace HK := kkB HK hq_; replace HS := ssM HS hq_; clear hg_ hbox_ hq_)
 go_wp2_with (fail)
 have hW := atom_c E ex HIH.out s _ HS.out (Ne.first HN.out)
 have Lx := Aside0.mk (And.intro HK.out.2 (blk_lt H2.out))
 refine hW.mono ?_
 clear hW
 rintro e wx ⟨x, vx, tx, rfl, ⟨Ax, cx, rfl, lx, rx⟩, q1, qk, hst, hti, hps⟩
 have Tx := Aside0.mk (And.intro hst (And.intro hti hps))
 clear hst hti hps
 replace H2 := mvK qk HS H2
 replace HK := kkT HK qk
 replace HS := Aside0.mk q1
 clear q1 qk
 have Rx := Aside0.mk rx
 clear rx
 go_wp2_with ((with_reducible refine gate_dst (N := 3) rfl ?_); refine bbX (N := 3) z94v 94 ?hr ?_; (case hr => first | (go_simp; done) | (go_simp; rfl)); intro g3 hg_ w3 hbox_ hq_; obtain ⟨z0_, f0_, z1_, f1_, z2_, f2_, z3_, f3_⟩ := cf4 hbox_)
 obtain ⟨F1_, F2_⟩ := fill94 hbox_ (.int .i64 x.f0) (.int .i64 x.f1) (.string x.f2) (.slice Ax x.f3.length cx) _ rfl
 replace hq_ := hq_.trans (F2_.below.mono (Nat.le_of_eq hg_.out.symm))
 have LT3 := Aside0.mk (show _ ≤ g3 from Nat.le_of_eq hg_.out.symm)
 have G3 := Aside0.mk (show w.heap.size ≤ g3 from by rw [hg_.out]; exact HK.out.2)
 have N2_3 := Aside0.mk (ne_new H2.out hg_.out); have LT2_3 := Aside0.mk (lt_new H2.out hg_.out)
 clear F2_ hbox_ z0_ f0_ z1_ f1_ z2_ f2_ z3_ f3_
 generalize (((w3.setCell ⟨g3, 0, none⟩ (.int .i64 x.f0)).setCell ⟨g3, 1, none⟩ (.int .i64 x.f1)).setCell ⟨g3, 2, none⟩ (.string x.f2)).setCell ⟨g3, 3, none⟩ (.slice Ax x.f3.length cx) = v3 at F1_ hq_ ⊢
 have H3 := Aside0.mk F1_
 replace Rx := Aside0.mk (F.lower (F.skip Rx.out (Nat.le_of_eq hg_.out.symm)) Lx.out.2)
 replace H2 := mvB hq_ H2
 replace Rx := ffB Rx hq_
 replace HK := kkB HK hq_
 replace HS := ssM HS hq_
 clear F1_ hq_ hg_
 go_loopg [] (E.ts.length + 1) (fun kq w' => ∃ (sc : Cs) (x : S94) (A : Option Addr) (c : Nat), Aside0 (ST E sc w') ∧ Aside0 (KP E w w') ∧ Aside0 (w'.heap[g2]? = some (.cells z94v 94 (0, 0))) ∧ Aside0 (w'.heap[g3]? = some (.cells #[.int .i64 x.f0, .int .i64 x.f1, .string x.f2, .slice A x.f3.length c] 94 (0, 0))) ∧ x.f3.length ≤ c ∧ Aside0 (Kd.F k94 w' (GD E g3 (g2 + 1) w') A x.f3.length x.f3) ∧ Aside0 (Ne sc (sumL E (atomP E ex) kq x sc.i)) ∧ Aside0 (∀ y u, Step sc (sumL E (atomP E ex) kq x sc.i) y u → Step s (sumP E ex s.i) y u) ∧ Aside0 (s.i ≤ sc.i ∧ sc.ps = s.ps))
 case atStart => exact ⟨tx, x, Ax, cx, HS, HK, H2, H3, lx, Rx, ⟨Ne.next HN.out Tx.out.1⟩, ⟨fun y u q => Tx.out.1.bind q⟩, ⟨Tx.out.2⟩⟩
 case round =>
  clear HS HK H2 H3 Rx Tx Lx lx
  obtain ⟨sc, y, Ay, cy, HS, HK, H2, H3, ly, Ry, HNe, HC, HLE⟩ := hrel
  go_wp2_with ((with_reducible refine gate_dst (N := 9) rfl ?_); refine lit_event ?hg (N := 9) ?hd (n := 2) (cs := #[.string ⟨#[43]⟩, .int .i64 3, .string ⟨#[45]⟩, .int .i64 4]) (t := 126) ?hr ?_; (case hd => rfl); (case hg => rfl); (case hr => first | (go_simp; done) | (go_simp; rfl)); intro gc hg_ w9 hbox_ hq_; have Hc := Aside0.mk hbox_; replace H2 := mvB hq_ H2; replace H3 := mvB hq_ H3; replace Ry := ffB Ry hq_; replace HK := kkB HK hq_; replace HS := ssM HS hq_; clear hg_ hbox_ hq_)
  have hW := joined_atom E sc _ g3 gc (g2 + 1) y Ay cy ⟨#[43]⟩ ⟨#[45]⟩ 3 4 (atomP E ex) HS.out H3.out ly Ry.out (Nat.le_trans HSB.out G3.out) LT2_3.out Hc.out (sum_ne HNe.out) (fun s w h hn => atom_c E ex HIH.out s w h hn)
  refine hW.mono ?_
  clear hW
  rintro e wj ⟨r, x2, t, A2, c2, rfl, q1, q2, hj, q3, l2, q4⟩
  replace H2 := Aside0.mk (KP2.blk q2 H2.out (HS.out.ne H2.out (by decide)) N2_3.out (by decide))
  replace HK := Aside0.mk (HK.out.two q2 G3.out)
  have HS2 := Aside0.mk q1
  replace H3 := Aside0.mk q3
  replace Ry := Aside0.mk q4
  have HJ := Aside0.mk hj
  clear q1 q2 q3 q4 hj Hc
  cases r with
  | false =>
   have HJ2 := Aside0.mk (show t = sc ∧ x2 = y ∧ isB E sc ⟨#[43]⟩ = false ∧ isB E sc ⟨#[45]⟩ = false from by
    rcases HJ.out with ⟨_, a, b, c, d⟩ | ⟨a, _⟩
    ·exact ⟨a, b, c, d⟩
    ·cases a)
   obtain ⟨rfl, rfl, hja, hjb⟩ := HJ2.out
   have HF := Aside0.mk (HC.out _ _ (sum_stop HNe.out hja hjb))
   clear HJ HJ2 HC HNe hja hjb HS
   have HS := HS2
   clear HS2
   obtain ⟨z3_0, z3_1, z3_2, z3_3⟩ := cn4 H3.out
   obtain ⟨z2_0, f2_0, z2_1, f2_1, z2_2, f2_2, z2_3, f2_3⟩ := cf4 H2.out
   go_wp2
   refine fin94 H2.out (fun _ F1_ F2_ => ?_)
   exact ⟨x2, _, t, rfl, ⟨A2, c2, rfl, l2, F.any (F.lower (F.only Ry.out F2_ (Or.inl (Nat.lt_succ_self _))) (Nat.le_succ_of_le G2.out))⟩, HS.out.only H2.out (by decide) (by decide) (Nat.le_trans HSB.out G2.out) F2_, HK.out.only G2.out F2_, HF.out, HLE.out.1, HLE.out.2⟩
  | true =>
   have HJ2 := Aside0.mk (show ∃ m, gk = m + 1 ∧ Ne t (sumL E (atomP E ex) m x2 t.i) ∧ (∀ y u, Step t (sumL E (atomP E ex) m x2 t.i) y u → Step s (sumP E ex s.i) y u) ∧ s.i ≤ t.i ∧ t.ps = s.ps from by
    rcases HJ.out with ⟨a, _⟩ | ⟨_, hb, f, op, ho, hs, rfl, hi, hp⟩
    ·cases a
    ·obtain ⟨m, e1, e2, e3⟩ := sum_go hb HNe.out ho hs
     exact ⟨m, e1, e2, fun y u q => HC.out y u (e3 y u q), Nat.le_trans HLE.out.1 (Nat.le_trans (Nat.le_succ _) hi), hp.trans HLE.out.2⟩)
   obtain ⟨m, hm, hj1, hj2, hj3⟩ := HJ2.out
   have J1 := Aside0.mk hj1
   have J2 := Aside0.mk hj2
   have J3 := Aside0.mk hj3
   have HM := Aside0.mk hm
   clear HJ HJ2 HC HNe hj1 hj2 hj3 hm HS
   go_wp2
   go_roundg m
   case measure => rw [HM.out]; exact Nat.lt_succ_self _
   case rel => exact ⟨t, x2, A2, c2, HS2, HK, H2, H3, l2, Ry, J1, J2, J3⟩
set_option maxHeartbeats 8000000 in
set_option maxRecDepth 100000 in
theorem exprQ_c (E : Env) (ex : Nat → Res S94) (IH : GoodAt E ex) (s : Cs) (w : World) (h : ST E s w) (hn : Ne s (exprQ E ex s.i)) : Calls Try.prog 105 #[.pointer (some ⟨E.g, 0, none⟩)] w (Got E s w (exprQ E ex s.i) (VE E w)) := by
 have HN := Aside0.mk hn
 have HIH := Aside0.mk IH
 clear hn IH
 have HSB := Aside0.mk (show E.w0.heap.size ≤ w.heap.size from h.below.size)
 have HS := Aside0.mk h
 have HK := Aside0.mk (KP.refl E w)
 clear h
 go_enter Try.func105, Try.ntmps105
 go_wp2_with ((with_reducible refine gate_dst (N := 2) rfl ?_); refine bbX (N := 2) z94v 94 ?hr ?_; (case hr => first | (go_simp; done) | (go_simp; rfl)); intro g2 hg_ w2 hbox_ hq_; have G2 := Aside0.mk (show w.heap.size ≤ g2 from by rw [hg_.out]; exact HK.out.2); have H2 := Aside0.mk hbox_; replace HK := kkB HK hq_; replace HS := ssM HS hq_; clear hg_ hbox_ hq_)
 go_wp2_with (fail)
 have hW := sum_c E ex HIH.out s _ HS.out (Ne.first HN.out)
 have Lx := Aside0.mk (And.intro HK.out.2 (blk_lt H2.out))
 refine hW.mono ?_
 clear hW
 rintro e wx ⟨x, vx, tx, rfl, ⟨Ax, cx, rfl, lx, rx⟩, q1, qk, hst, hti, hps⟩
 have Tx := Aside0.mk (And.intro hst (And.intro hti hps))
 clear hst hti hps
 replace H2 := mvK qk HS H2
 replace HK := kkT HK qk
 replace HS := Aside0.mk q1
 clear q1 qk
 have Rx := Aside0.mk rx
 clear rx
 go_upto_region 2 with (first | ((with_reducible refine gate_dst (N := 3) rfl ?_); refine bbX (N := 3) z94v 94 ?hr ?_; (case hr => first | (go_simp; done) | (go_simp; rfl)); intro g3 hg_ w3 hbox_ hq_; obtain ⟨z0_, f0_, z1_, f1_, z2_, f2_, z3_, f3_⟩ := cf4 hbox_))
 obtain ⟨F1_, F2_⟩ := fill94 hbox_ (.int .i64 x.f0) (.int .i64 x.f1) (.string x.f2) (.slice Ax x.f3.length cx) _ rfl
 replace hq_ := hq_.trans (F2_.below.mono (Nat.le_of_eq hg_.out.symm))
 have G3 := Aside0.mk (show w.heap.size ≤ g3 from by rw [hg_.out]; exact HK.out.2)
 have N2_3 := Aside0.mk (ne_new H2.out hg_.out); have LT2_3 := Aside0.mk (lt_new H2.out hg_.out)
 replace Rx := Aside0.mk (F.lower (F.skip Rx.out (Nat.le_of_eq hg_.out.symm)) Lx.out.2); clear hg_ hbox_ F2_ z0_ f0_ z1_ f1_ z2_ f2_ z3_ f3_
 generalize (((w3.setCell ⟨g3, 0, none⟩ (.int .i64 x.f0)).setCell ⟨g3, 1, none⟩ (.int .i64 x.f1)).setCell ⟨g3, 2, none⟩ (.string x.f2)).setCell ⟨g3, 3, none⟩ (.slice Ax x.f3.length cx) = v3 at F1_ hq_ ⊢
 have H3 := Aside0.mk F1_
 replace H2 := mvB hq_ H2
 replace Rx := ffB Rx hq_
 replace HK := kkB HK hq_
 replace HS := ssM HS hq_
 clear F1_ hq_
 go_wp2_with ((with_reducible refine gate_dst (N := 9) rfl ?_); refine lit_event ?hg (N := 9) ?hd (n := 2) (cs := #[.string ⟨#[61, 61]⟩, .int .i64 5, .string ⟨#[60]⟩, .int .i64 6]) (t := 126) ?hr ?_; (case hd => rfl); (case hg => rfl); (case hr => first | (go_simp; done) | (go_simp; rfl)); intro gc hg_ w9 hbox_ hq_; have Hc := Aside0.mk hbox_; replace H2 := mvB hq_ H2; replace H3 := mvB hq_ H3; replace Rx := ffB Rx hq_; replace HK := kkB HK hq_; replace HS := ssM HS hq_; clear hg_ hbox_ hq_)
 have hW := joined_sum E tx _ g3 gc (g2 + 1) x Ax cx ⟨#[61, 61]⟩ ⟨#[60]⟩ 5 6 (sumP E ex) HS.out H3.out lx Rx.out (Nat.le_trans HSB.out G3.out) LT2_3.out Hc.out (cmp_ne (Ne.next HN.out Tx.out.1)) (fun s w h hn => sum_c E ex HIH.out s w h hn)
 refine hW.mono ?_
 clear hW
 rintro e wj ⟨r, x2, t, A2, c2, rfl, q1, q2, hj, q3, l2, q4⟩
 replace H2 := Aside0.mk (KP2.blk q2 H2.out (HS.out.ne H2.out (by decide)) N2_3.out (by decide))
 replace HK := Aside0.mk (HK.out.two q2 G3.out)
 replace HS := Aside0.mk q1
 replace H3 := Aside0.mk q3
 replace Rx := Aside0.mk q4
 have HJ := Aside0.mk (cmp_step hj)
 clear q1 q2 q3 q4 hj Hc
 obtain ⟨z3_0, z3_1, z3_2, z3_3⟩ := cn4 H3.out
 obtain ⟨z2_0, f2_0, z2_1, f2_1, z2_2, f2_2, z2_3, f2_3⟩ := cf4 H2.out
 go_wp2
 refine fin94 H2.out (fun _ F1_ F2_ => ?_)
 exact ⟨x2, _, t, rfl, ⟨A2, c2, rfl, l2, F.any (F.lower (F.only Rx.out F2_ (Or.inl (Nat.lt_succ_self _))) (Nat.le_succ_of_le G2.out))⟩, HS.out.only H2.out (by decide) (by decide) (Nat.le_trans HSB.out G2.out) F2_, HK.out.only G2.out F2_, Tx.out.1.bind HJ.out.1, Nat.le_trans Tx.out.2.1 HJ.out.2.1, HJ.out.2.2.trans Tx.out.2.2⟩
theorem expr_c (E : Env) : ∀ k s w, ST E s w → Ne s (exprP E k s.i) → Calls Try.prog 105 #[.pointer (some ⟨E.g, 0, none⟩)] w (Got E s w (exprP E k s.i) (VE E w))
 | 0, s, w, h, hn => by
  have hb : s.bad = true := by
   cases hbad : s.bad with
   | true => rfl
   | false => exact absurd rfl (hn hbad)
  refine (exprQ_c E (fun _ => .out) (fun _ _ _ _ h => absurd rfl h) s w h (fun h => by rw [hb] at h; cases h)).mono ?_
  rintro e w' ⟨x, v, t, h1, h2, h3, h4, h5, h6, h7⟩
  obtain ⟨a, b⟩ := h5.1 hb
  exact ⟨x, v, t, h1, h2, h3, h4, Step.bad hb a b, h6, h7⟩
 | k + 1, s, w, h, hn => exprQ_c E (exprP E k) (fun s w h hb hne => expr_c E k s w h (fun _ => hne)) s w h hn
end Go.Proofs.Ytinnldfmbeafiaa.PA
