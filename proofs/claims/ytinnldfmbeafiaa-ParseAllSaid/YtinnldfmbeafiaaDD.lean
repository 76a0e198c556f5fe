/- The document's cursor: expressions; walked by hand. -/
import Derived.Test.YtinnldfmbeafiaaDC
namespace Go.Proofs.Ytinnldfmbeafiaa.PA.D
open Go.RowKit Go.Proofs.YtinnldfmbeafiaaW.PrintWords Go.Proofs.YtinnldfmbeafiaaW.PrintLast Go.Proofs.YtinnldfmbeafiaaW.PrintMore
set_option linter.unusedVariables false
set_option linter.unusedSimpArgs false
attribute [local go_sem] cell_set_some fld53_0 fld53_1 fld53_2 fld53_3
theorem zDDq1 {p : Prop} (h : p := by (try simp only [List.map_toArray, List.map_cons, List.map_nil]); first | done | rfl) : p := h
theorem zDDq2 {p : Prop} (h : p := by kernel_rfl) : p := h
theorem zDDq3 {p : Prop} (h : p := by decide) : p := h
theorem bind_nil {α β : Type} (x : α) (i : Nat) (f : α → Nat → Res β) : (Res.ok x i []).bind f = f x i := by
 simp only [Res.bind]
 cases f x i <;> simp
section
variable {α β : Type} {s t : Cs} {r : Res α} {x : α} {f : α → Nat → Res β}
theorem stop (h : Step s r x t) (hb : t.bad = true) (y : β) : Step s (r.bind f) y t := by
 refine ⟨h.1, fun hs => ?_⟩
 rcases h.2 hs with ⟨p, rfl, h1, h2⟩ | ⟨j, q, _, rfl⟩
 ·exact .inl ⟨p, rfl, h1, h2⟩
 ·cases hb
end
theorem bdI_good {E : Env} {s : Cs} (h : s.bad = false) : bdI E s = -1 := by
 unfold bdI
 rw [h]
 rfl
theorem bdI_bad {E : Env} {s : Cs} (h2 : Ok2 E) (h : s.bad = true) : 0 ≤ bdI E s := by
 unfold bdI
 rw [if_pos h]
 exact h2.nn s.i
theorem must_bind {α : Type} {E : Env} {t : ByteArray} {i : Nat} {g : Nat → Res α} : (if isT E i t = true then g (i + 1) else .fail i) = (mustP E t i).bind fun _ j => g j := by
 unfold mustP
 by_cases h : isT E i t = true
 ·rw [if_pos h, if_pos h, bind_nil]
 ·rw [if_neg h, if_neg h]
  rfl
theorem atom_par {E : Env} {ex : Nat → Res S94} {s : Cs} (h1 : nuB E s = false) (h2 : nmB E s = false) (hb : s.bad = false) : atomP E ex s.i = (mustP E ⟨#[40]⟩ s.i).bind fun _ j => (ex j).bind fun e j => (mustP E ⟨#[41]⟩ j).bind fun _ l => .ok e l [] := by
 rw [nmB_eq, hb] at h2
 unfold nuB at h1
 rw [hb] at h1
 unfold atomP
 rw [if_neg (by simpa using h1), if_neg (by simpa using h2)]
 exact must_bind (g := fun j => (ex j).bind fun e j => (mustP E ⟨#[41]⟩ j).bind fun _ l => .ok e l [])
theorem isB_ne {E : Env} {s : Cs} {a b : ByteArray} (h : isB E s a = true) (hne : a.toList ≠ b.toList) : isB E s b = false := by
 unfold isB at *
 simp only [Bool.and_eq_true, decide_eq_true_eq] at h
 rw [h.2]
 simp [hne]
set_option maxHeartbeats 8000000 in
set_option maxRecDepth 100000 in
theorem atom_c (E : Env) (ex : Nat → Res S94) (IH : GoodAt E ex) (s : Cs) (w : World) (h : ST E s w) (hn : Ne s (atomP E ex s.i)) : Calls Try.prog 106 #[.pointer (some ⟨E.g, 0, none⟩)] w (Got E s w (atomP E ex s.i) (VE E w)) := by
 have hu65 := Try.underlying65
 have hu94 := Try.underlying94
 have HN := Aside0.mk hn
 have HIH := Aside0.mk IH
 clear hn IH
 have HSB := Aside0.mk (show E.w0.heap.size ≤ w.heap.size from h.below.size)
 have HS := Aside0.mk h
 have HK := Aside0.mk (KP.refl E w)
 clear h
 go_enter Try.func106, Try.ntmps106
 go_wp2_with ((with_reducible refine gate_dst (N := 2) rfl ?_); refine bbX (N := 2) z94v 94 ?hr ?_; (case hr => first | (go_simp; done) | (go_simp; rfl)); intro g2 hg_ w2 hbox_ hq_; have G2 := Aside0.mk (show w.heap.size ≤ g2 from by rw [hg_.out]; exact HK.out.2); have H2 := Aside0.mk hbox_; replace HK := kkB HK hq_; replace HS := ssM HS hq_; clear hg_ hbox_ hq_)
 go_wp2_with (fail)
 have hW := isNumber_d E s _ HS.out
 refine hW.mono ?_
 clear hW
 rintro e wa ⟨rfl, qb⟩
 replace H2 := mvB qb H2
 replace HK := kkB HK qb
 replace HS := ssM HS qb
 clear qb
 cases hB : nuB E s with
 | true =>
  have HB := Aside0.mk hB
  clear hB
  go_wp2_with (fail)
  have hW := number_c E s _ HS.out
  refine hW.mono ?_
  clear hW
  rintro e wb ⟨x, vx, t, rfl, rfl, q1, qk, hst, hti, hps⟩
  have TX := Aside0.mk (And.intro hst (And.intro hti hps))
  clear hst hti hps
  replace H2 := mvK qk HS H2
  replace HK := kkT HK qk
  replace HS := Aside0.mk q1
  clear q1 qk
  obtain ⟨z2_0, f2_0, z2_1, f2_1, z2_2, f2_2, z2_3, f2_3⟩ := cf4 H2.out
  go_wp2
  refine fin94 H2.out (fun _ F1_ F2_ => ?_)
  exact ⟨⟨1, x, ⟨#[]⟩, []⟩, _, t, rfl, ⟨none, 0, rfl, Nat.le_refl 0, F.nil _ _ _ _ _⟩, HS.out.only H2.out (zDDq3) (zDDq3) (Nat.le_trans HSB.out G2.out) F2_, HK.out.only G2.out F2_, (by have h2 : decide ((E.tk s.i).f0 = 2) = true := (by have := HB.out; simp [nuB] at this; simp [this.2]); unfold atomP; rw [if_pos h2]; exact TX.out.1.bind (Step.pure t _)), TX.out.2.1, TX.out.2.2⟩
 | false =>
  have HB := Aside0.mk hB
  clear hB
  go_wp2_with (fail)
  have hW := isName_d E s _ HS.out
  refine hW.mono ?_
  clear hW
  rintro e wb ⟨rfl, qb⟩
  replace H2 := mvB qb H2
  replace HK := kkB HK qb
  replace HS := ssM HS qb
  clear qb
  cases hB : nmB E s with
  | true =>
   have HB2 := Aside0.mk hB
   clear hB
   go_wp2_with (fail)
   have hW := name_c E s _ HS.out
   refine hW.mono ?_
   clear hW
   rintro e wb ⟨x, vx, t, rfl, rfl, q1, qk, hst, hti, hps⟩
   have TX := Aside0.mk (And.intro hst (And.intro hti hps))
   clear hst hti hps
   replace H2 := mvK qk HS H2
   replace HK := kkT HK qk
   replace HS := Aside0.mk q1
   clear q1 qk
   obtain ⟨z2_0, f2_0, z2_1, f2_1, z2_2, f2_2, z2_3, f2_3⟩ := cf4 H2.out
   go_wp2
   refine fin94 H2.out (fun _ F1_ F2_ => ?_)
   exact ⟨⟨2, 0, x, []⟩, _, t, rfl, ⟨none, 0, rfl, Nat.le_refl 0, F.nil _ _ _ _ _⟩, HS.out.only H2.out (zDDq3) (zDDq3) (Nat.le_trans HSB.out G2.out) F2_, HK.out.only G2.out F2_, (by have h2 := HB2.out; rw [nmB_eq] at h2; simp only [Bool.and_eq_true, Bool.not_eq_true', decide_eq_true_eq] at h2; unfold atomP; rw [if_neg (by rw [decide_eq_true_eq]; omega), if_pos (by simp [h2.2.1, h2.2.2])]; exact TX.out.1.bind (Step.pure t _)), TX.out.2.1, TX.out.2.2⟩
  | false =>
   have HQ := Aside0.mk (fun hb => atom_par (ex := ex) HB.out hB hb)
   clear hB HB
   go_wp2_with (fail)
   have hW := must_c E s ⟨#[40]⟩ _ HS.out
   refine hW.mono ?_
   clear hW
   rintro e wq ⟨_, vq, tq, rfl, rfl, q1, qk, hst, hti, hps⟩
   have Tq := Aside0.mk (And.intro hst (And.intro hti hps))
   clear hst hti hps
   replace H2 := mvK qk HS H2
   replace HK := kkT HK qk
   replace HS := Aside0.mk q1
   clear q1 qk
   have c2 := HS.out.c2
   cases hbd : tq.bad with
   | true =>
    have b0 := bdI_bad HS.out.ok2 hbd
    have b1 := eq_true b0; have b2 := decide_eq_true b0; have b3 : (bdI E tq < 0) = False := eq_false (by omega); have b4 : decide (bdI E tq < 0) = false := decide_eq_false (by omega)
    clear b0
    have HBD := Aside0.mk hbd
    clear hbd
    obtain ⟨z2_0, f2_0, z2_1, f2_1, z2_2, f2_2, z2_3, f2_3⟩ := cf4 H2.out
    go_wp2
    refine fin94 H2.out (fun _ F1_ F2_ => ?_)
    exact ⟨⟨0, 0, ⟨#[]⟩, []⟩, _, tq, rfl, ⟨none, 0, rfl, Nat.le_refl 0, F.nil _ _ _ _ _⟩, HS.out.only H2.out (zDDq3) (zDDq3) (Nat.le_trans HSB.out G2.out) F2_, HK.out.only G2.out F2_, Step.cast (stop Tq.out.1 HBD.out _) HQ.out, Tq.out.2.1, Tq.out.2.2⟩
   | false =>
    rw [bdI_good hbd] at c2
    have HBD := Aside0.mk hbd
    clear hbd
    have HN2 := Aside0.mk (show Ne tq ((ex tq.i).bind fun e j => (mustP E ⟨#[41]⟩ j).bind fun _ l => .ok e l []) from Ne.next (s := s) (x := ()) (f := fun _ j => (ex j).bind fun e j => (mustP E ⟨#[41]⟩ j).bind fun _ l => .ok e l []) (fun hb e => HN.out hb ((HQ.out hb).trans e)) Tq.out.1)
    go_wp2_with (fail)
    have hW := HIH.out tq _ HS.out HBD.out (bind_out (HN2.out HBD.out))
    have Lx := Aside0.mk (And.intro HK.out.2 (blk_lt H2.out))
    refine hW.mono ?_
    clear hW
    rintro e wx ⟨x, vx, tx, rfl, ⟨Ax, cx, rfl, lx, rx⟩, q1, qk, hst, hti, hps⟩
    have Tx := Aside0.mk (And.intro hst (And.intro hti hps))
    clear hst hti hps
    replace H2 := mvK qk HS H2
    replace HK := kkT HK qk
    replace HS := Aside0.mk q1
    clear q1 qk
    have Rx := Aside0.mk rx
    clear rx
    clear c2
    go_upto_region 9 with (first | ((with_reducible refine gate_dst (N := 3) rfl ?_); refine bbX (N := 3) z94v 94 ?hr ?_; (case hr => first | (go_simp; done) | (go_simp; rfl)); intro g3 hg_ w3 hbox_ hq_; obtain ⟨z0_, f0_, z1_, f1_, z2_, f2_, z3_, f3_⟩ := cf4 hbox_))
    obtain ⟨F1_, F2_⟩ := fill94 hbox_ (.int .i64 x.f0) (.int .i64 x.f1) (.string x.f2) (.slice Ax x.f3.length cx) _ rfl
    replace hq_ := hq_.trans (F2_.below.mono (Nat.le_of_eq hg_.out.symm))
    have G3 := Aside0.mk (show w.heap.size ≤ g3 from by rw [hg_.out]; exact HK.out.2)
    have N2_3 := Aside0.mk (ne_new H2.out hg_.out); have LT2_3 := Aside0.mk (lt_new H2.out hg_.out)
    clear hg_ hbox_ F2_ z0_ f0_ z1_ f1_ z2_ f2_ z3_ f3_
    generalize (((w3.setCell ⟨g3, 0, none⟩ (.int .i64 x.f0)).setCell ⟨g3, 1, none⟩ (.int .i64 x.f1)).setCell ⟨g3, 2, none⟩ (.string x.f2)).setCell ⟨g3, 3, none⟩ (.slice Ax x.f3.length cx) = v3 at F1_ hq_ ⊢
    have H3 := Aside0.mk F1_
    replace H2 := mvB hq_ H2
    replace Rx := ffB Rx hq_
    replace HK := kkB HK hq_
    replace HS := ssM HS hq_
    clear F1_ hq_
    go_wp2_with (fail)
    have hW := must_c E tx ⟨#[41]⟩ _ HS.out
    refine hW.mono ?_
    clear hW
    rintro e wy ⟨_, vy, ty, rfl, rfl, q1, qk, hst, hti, hps⟩
    have Ty := Aside0.mk (And.intro hst (And.intro hti hps))
    clear hst hti hps
    replace H2 := mvK qk HS H2
    replace H3 := mvK qk HS H3
    replace Rx := ffK Rx qk
    replace HK := kkT HK qk
    replace HS := Aside0.mk q1
    clear q1 qk
    obtain ⟨z3_0, z3_1, z3_2, z3_3⟩ := cn4 H3.out
    obtain ⟨z2_0, f2_0, z2_1, f2_1, z2_2, f2_2, z2_3, f2_3⟩ := cf4 H2.out
    go_wp2
    refine fin94 H2.out (fun _ F1_ F2_ => ?_)
    exact ⟨x, _, ty, rfl, ⟨Ax, cx, rfl, lx, (F.lower (F.only Rx.out F2_ (Or.inl Lx.out.2)) Lx.out.1)⟩, HS.out.only H2.out (zDDq3) (zDDq3) (Nat.le_trans HSB.out G2.out) F2_, HK.out.only G2.out F2_, Step.cast (Tq.out.1.bind (f := fun _ j => (ex j).bind fun e j => (mustP E ⟨#[41]⟩ j).bind fun _ l => .ok e l []) (Tx.out.1.bind (Ty.out.1.bind (Step.pure ty x)))) HQ.out, Nat.le_trans Tq.out.2.1 (Nat.le_trans Tx.out.2.1 Ty.out.2.1), Ty.out.2.2.trans (Tx.out.2.2.trans Tq.out.2.2)⟩
def sumT.T7 : Bool × List (List Nat × List Nat) := (true, [([], []), ([], []), ([], []), ([2], [2]), ([1, 3], [1, 3]), ([0, 4], [0, 4]), ([5, 3, 0, 1, 2, 3, 4, 5], [5])])
def sumT.B7 : List Nat := [0, 0, 0, 4, 14, 31, 63]
theorem sumT.tab7 : rtab .any (opsOf Try.f101 7) = sumT.T7 := by kernel_rfl
theorem sumT.bits7 : waitsOk sumT.T7.2 sumT.B7 = true := by kernel_rfl
set_option maxHeartbeats 8000000 in
set_option maxRecDepth 100000 in
theorem sum_c (E : Env) (ex : Nat → Res S94) (IH : GoodAt E ex) (s : Cs) (w : World) (h : ST E s w) (hn : Ne s (sumP E ex s.i)) : Calls Try.prog 101 #[.pointer (some ⟨E.g, 0, none⟩)] w (Got E s w (sumP E ex s.i) (VE E w)) := by
 have hu65 := Try.underlying65
 have hu94 := Try.underlying94
 have HN := Aside0.mk hn
 have HIH := Aside0.mk IH
 clear hn IH
 have HSB := Aside0.mk (show E.w0.heap.size ≤ w.heap.size from h.below.size)
 have HS := Aside0.mk h
 have HK := Aside0.mk (KP.refl E w)
 clear h
 go_enter Try.func101, Try.ntmps101
 go_wp2_with ((with_reducible refine gate_dst (N := 2) rfl ?_); refine bbX (N := 2) z94v 94 ?hr ?_; (case hr => first | (go_simp; done) | (go_simp; rfl)); intro g2 hg_ w2 hbox_ hq_; have G2 := Aside0.mk (show w.heap.size ≤ g2 from by rw [hg_.out]; exact HK.out.2); have H2 := Aside0.mk hbox_; replace HK := kkB HK hq_; replace HS := ssM HS hq_; clear hg_ hbox_ hq_)
 go_wp2_with (fail)
 have hW := atom_c E ex HIH.out s _ HS.out (Ne.first HN.out)
 have Lx := Aside0.mk (And.intro HK.out.2 (blk_lt H2.out))
 refine hW.mono ?_
 clear hW
 rintro e wx ⟨x, vx, tx, rfl, ⟨Ax, cx, rfl, lx, rx⟩, q1, qk, hst, hti, hps⟩
 have Tx := Aside0.mk (And.intro hst (And.intro hti hps))
 clear hst hti hps
 replace H2 := mvK qk HS H2
 replace HK := kkT HK qk
 replace HS := Aside0.mk q1
 clear q1 qk
 have Rx := Aside0.mk rx
 clear rx
 go_wp2_with ((with_reducible refine gate_dst (N := 3) rfl ?_); refine bbX (N := 3) z94v 94 ?hr ?_; (case hr => first | (go_simp; done) | (go_simp; rfl)); intro g3 hg_ w3 hbox_ hq_; obtain ⟨z0_, f0_, z1_, f1_, z2_, f2_, z3_, f3_⟩ := cf4 hbox_)
 obtain ⟨F1_, F2_⟩ := fill94 hbox_ (.int .i64 x.f0) (.int .i64 x.f1) (.string x.f2) (.slice Ax x.f3.length cx) _ rfl
 replace hq_ := hq_.trans (F2_.below.mono (Nat.le_of_eq hg_.out.symm))
 have LT3 := Aside0.mk (show _ ≤ g3 from Nat.le_of_eq hg_.out.symm)
 have G3 := Aside0.mk (show w.heap.size ≤ g3 from by rw [hg_.out]; exact HK.out.2)
 have N2_3 := Aside0.mk (ne_new H2.out hg_.out); have LT2_3 := Aside0.mk (lt_new H2.out hg_.out)
 clear F2_ hbox_ z0_ f0_ z1_ f1_ z2_ f2_ z3_ f3_
 generalize (((w3.setCell ⟨g3, 0, none⟩ (.int .i64 x.f0)).setCell ⟨g3, 1, none⟩ (.int .i64 x.f1)).setCell ⟨g3, 2, none⟩ (.string x.f2)).setCell ⟨g3, 3, none⟩ (.slice Ax x.f3.length cx) = v3 at F1_ hq_ ⊢
 have H3 := Aside0.mk F1_
 replace Rx := Aside0.mk (F.lower (F.skip Rx.out (Nat.le_of_eq hg_.out.symm)) Lx.out.2)
 replace H2 := mvB hq_ H2
 replace Rx := ffB Rx hq_
 replace HK := kkB HK hq_
 replace HS := ssM HS hq_
 clear F1_ hq_ hg_
 go_loopg [] (E.ts.length + 1) (fun kq w' => ∃ (sc : Cs) (x : S94) (A : Option Addr) (c : Nat), Aside0 (ST E sc w') ∧ Aside0 (KP E w w') ∧ Aside0 (w'.heap[g2]? = some (.cells z94v 94 (0, 0))) ∧ Aside0 (w'.heap[g3]? = some (.cells #[.int .i64 x.f0, .int .i64 x.f1, .string x.f2, .slice A x.f3.length c] 94 (0, 0))) ∧ x.f3.length ≤ c ∧ Aside0 (Kd.F k94 w' (GD E g3 (g2 + 1) w') A x.f3.length x.f3) ∧ Aside0 (Ne sc (sumL E (atomP E ex) kq x sc.i)) ∧ Aside0 (∀ y u, Step sc (sumL E (atomP E ex) kq x sc.i) y u → Step s (sumP E ex s.i) y u) ∧ Aside0 (s.i ≤ sc.i ∧ sc.ps = s.ps))
 case atStart => exact ⟨tx, x, Ax, cx, HS, HK, H2, H3, lx, Rx, ⟨Ne.next HN.out Tx.out.1⟩, ⟨fun y u q => Tx.out.1.bind q⟩, ⟨Tx.out.2⟩⟩
 case round =>
  clear HS HK H2 H3 Rx Tx Lx lx
  obtain ⟨sc, y, Ay, cy, HS, HK, H2, H3, ly, Ry, HNe, HC, HLE⟩ := hrel
  go_wp2_with (fail)
  have hW := is_d E sc ⟨#[43]⟩ _ HS.out
  refine hW.mono ?_
  clear hW
  rintro e wi ⟨rfl, qb⟩
  replace H2 := mvB qb H2
  replace H3 := mvB qb H3
  replace Ry := ffB Ry qb
  replace HK := kkB HK qb
  replace HS := ssM HS qb
  clear qb
  cases hB : isB E sc ⟨#[43]⟩ with
  | true =>
   have HO := Aside0.mk (is_ok hB)
   have HBD := Aside0.mk HO.out.1
   have HE := Aside0.mk (isB_good HBD.out _ hB)
   have HN2 := Aside0.mk (isB_ne (b := ⟨#[45]⟩) hB (by rw [Go.Lib.toList_data, Go.Lib.toList_data]; decide))
   clear hB
   go_wp2_with (fail)
   have hW := is_d E sc ⟨#[45]⟩ _ HS.out
   refine hW.mono ?_
   clear hW
   rintro e wi ⟨rfl, qb⟩
   replace H2 := mvB qb H2
   replace H3 := mvB qb H3
   replace Ry := ffB Ry qb
   replace HK := kkB HK qb
   replace HS := ssM HS qb
   clear qb
   rw [HN2.out]
   clear HN2
   have HI_ := Aside0.mk (HS.out.inc HBD.out HO.out.2)
   have c1 := HS.out.c1; have cf1 := HS.out.fz 1
   go_upto_region 7 with (fail)
   (first | rw [HI_.out.1] | skip)
   obtain ⟨-, q1, qk⟩ := HI_.out
   generalize hW_ : World.setCell _ ⟨E.g, 1, none⟩ _ = wq at q1 qk ⊢
   clear hW_ HI_ c1 cf1
   replace H2 := mvK qk HS H2
   replace H3 := mvK qk HS H3
   replace Ry := ffK Ry qk
   replace HK := kkT HK qk
   replace HS := Aside0.mk q1
   clear q1 qk
   replace H2 := mvB (below_drew (Below.refl wq.heap.size wq)) H2
   replace H3 := mvB (below_drew (Below.refl wq.heap.size wq)) H3
   replace Ry := ffB Ry (below_drew (Below.refl wq.heap.size wq))
   replace HK := kkB HK (below_drew (Below.refl wq.heap.size wq))
   replace HS := ssM HS (below_drew (Below.refl wq.heap.size wq))
   refine start_ (n := 7) (S := fun w' => w'.cell? ⟨g3, 0, none⟩ = some (.int .i64 y.f0) ∧ w'.cell? ⟨g3, 1, none⟩ = some (.int .i64 y.f1) ∧ w'.cell? ⟨g3, 2, none⟩ = some (.string y.f2) ∧ w'.cell? ⟨g3, 3, none⟩ = some (.slice Ay y.f3.length cy)) (ds := [6]) #[Z,Z,Z,Z,Z,Z,Z] (zDDq2) rfl rfl ⟨(blk_celln H3.out 0 _ rfl), (blk_celln H3.out 1 _ rfl), (blk_celln H3.out 2 _ rfl), (blk_celln H3.out 3 _ rfl)⟩ (fun hHeld => ?_)
   refine with_tabW sumT.tab7 sumT.bits7 (fun HT_ HW_ => ?_)
   generalize World.drew _ = wd at HS HK H2 H3 Ry hHeld ⊢
   refine ppU (i := 0) (N := some 22) #[Y,Z,Z,Z,Z,Z,Z] HT_ ?_
   refine take_ (i := 1) (N := some 23) (v := ?_) (a' := ?_) #[Y,Y,Z,Z,Z,Z,Z] rfl rfl (take_ofW HT_.out HW_.out (zDDq2)) (fun _ _ _ h => h) (Or.inl ⟨by rfl, ?_⟩) hHeld ?_ ?_
   rotate_left
   ·rintro w' ⟨s0, s1, s2, s3⟩
    go_simp
    with_reducible rfl
   rotate_left
   ·simp only [Act.put, pA, pB, pC, i64_w, i32_w]
    rfl
   refine ppU (i := 2) (N := some 24) #[Y,Y,Y,Z,Z,Z,Z] HT_ ?_
   refine one_ (i := 3) (N := some 25) #[Y,Y,Y,Y,Z,Z,Z] rfl rfl (one_of HT_.out (zDDq2)) (zDDq3) (fun K hK => ?_)
   refine goes_ Try.func106 (zDDq2) rfl #[.pointer (some ⟨E.g, 0, none⟩)] (by rfl) rfl rfl (zDDq1) ?_
   have hW := atom_c E ex HIH.out ⟨sc.i + 1, false, sc.ps⟩ _ HS.out (fun _ => sum_ne HNe.out HBD.out (.inl HE.out))
   refine hW.mono ?_
   clear hW
   rintro e wc ⟨f, vf, t2, rfl, ⟨Af, cf, rfl, lf, rf⟩, q1, qk, hst, hti, hps⟩
   have RF := Aside0.mk (F.lower (F.free rf (show g3 < _ from blk_lt H3.out)) (show g2 + 1 ≤ _ from blk_lt H2.out))
   clear rf
   have TF := Aside0.mk (And.intro hst (And.intro hti hps))
   clear hst hti hps
   replace H2 := mvK qk HS H2
   replace H3 := mvK qk HS H3
   replace Ry := ffK Ry qk
   replace HK := kkT HK qk
   replace HS := Aside0.mk q1
   clear q1 qk
   refine ⟨_, rfl, ?_⟩
   refine hK.out _ _ ⟨(blk_celln H3.out 0 _ rfl), (blk_celln H3.out 1 _ rfl), (blk_celln H3.out 2 _ rfl), (blk_celln H3.out 3 _ rfl)⟩ (fun hHeld => ?_)
   clear hK K
   refine norm_ (a' := ?_) ?_ ?_
   rotate_left
   ·show Act.put _ (some 25) _ = _
    simp only [Act.put, pA, pB, pC, i64_w, i32_w]
    rfl
   refine one_ (i := 4) (N := some 26) #[Y,Y,Y,Y,Y,Z,Z] rfl rfl (one_of HT_.out (zDDq2)) (zDDq3) (fun K hK => ?_)
   refine lit_step ?hg (N := 26) ?hd (n := 2) (cs := ⟨[.int .i64 y.f0, .int .i64 y.f1, .string y.f2, .slice Ay y.f3.length cy] ++ [.int .i64 f.f0, .int .i64 f.f1, .string f.f2, .slice Af f.f3.length cf]⟩) (t := 94) ?hr ?_; (case hd => rfl); (case hg => rfl); (case hr => first | (go_simp; done) | (go_simp; rfl))
   intro gk2 hg_ w9 hbox_ hq_
   have hgk := Aside0.mk (show g3 < gk2 ∧ g2 < gk2 from ⟨by rw [hg_]; exact blk_lt H3.out, by rw [hg_]; exact blk_lt H2.out⟩)
   replace H2 := mvB hq_ H2
   replace H3 := mvB hq_ H3
   replace Ry := ffB Ry hq_
   replace RF := ffB RF hq_
   replace HK := kkB HK hq_
   replace HS := ssM HS hq_
   have RR := Aside0.mk (F.two hbox_ (GD.at hbox_ HS.out hgk.out.2 (Nat.ne_of_gt hgk.out.1) (zDDq3) (zDDq3)) (FK94 ly Ry.out) (FK94 lf RF.out))
   clear hg_ hbox_ hq_
   refine hK.out _ _ ⟨(blk_celln H3.out 0 _ rfl), (blk_celln H3.out 1 _ rfl), (blk_celln H3.out 2 _ rfl), (blk_celln H3.out 3 _ rfl)⟩ (fun hHeld => ?_)
   clear hK K
   refine norm_ (a' := ?_) ?_ ?_
   rotate_left
   ·show Act.put _ (some 26) _ = _
    simp only [Act.put, pA, pB, pC, i64_w, i32_w]
    rfl
   refine ppU (i := 5) (N := some 27) #[Y,Y,Y,Y,Y,Y,Z] HT_ ?_
   refine last_ (i := 6) (N := none) #[Y,Y,Y,Y,Y,Y,Y] rfl rfl (one_of HT_.out (zDDq2)) (zDDq3) (fun K hK => ?_)
   obtain ⟨se0, sf0, se1, sf1, se2, sf2, se3, sf3⟩ := cf4 H3.out
   refine skip_ (w1 := ?_) (by rfl) rfl ?_ ?_
   rotate_left
   ·go_simp
    rfl
   refine hK.out _ _ ?_
   clear hK K
   refine done_ (done_of HT_.out (zDDq2)) ?_
   clear hHeld
   obtain ⟨F1_, F2_⟩ := fill94 H3.out (.int .i64 3) (.int .i64 0) (.string ⟨#[]⟩) (.slice (some ⟨gk2, 0, none⟩) 2 2) _ rfl
   have HJ2 := Aside0.mk (sum_go HBD.out HNe.out (op := 3) (.inl ⟨HE.out, rfl⟩) TF.out.1)
   obtain ⟨m, hm, hj1, hj2⟩ := HJ2.out
   have K1 := Aside0.mk (HS.out.only H3.out (zDDq3) (zDDq3) (Nat.le_trans HSB.out G3.out) F2_)
   have K2 := Aside0.mk (HK.out.only G3.out F2_)
   have K3 := Aside0.mk ((F2_.block g2 N2_3.out).trans H2.out)
   have K4 := Aside0.mk F1_
   have K5 := Aside0.mk (F.only RR.out F2_ (Or.inr rfl))
   have K6 := Aside0.mk hj1
   have K7 := Aside0.mk (show ∀ z u, Step t2 (sumL E (atomP E ex) m ⟨3, 0, ⟨#[]⟩, [y, f]⟩ t2.i) z u → Step s (sumP E ex s.i) z u from fun z u q => HC.out z u (hj2 z u q))
   have K8 := Aside0.mk (show s.i ≤ t2.i ∧ t2.ps = s.ps from ⟨Nat.le_trans HLE.out.1 (Nat.le_trans (Nat.le_succ _) TF.out.2.1), TF.out.2.2.trans HLE.out.2⟩)
   have HM := Aside0.mk hm
   clear hj1 hj2 F1_ F2_ HJ2 HC HLE TF RR RF Ry HS HK H2 H3 hm hgk HE HO HBD HNe
   go_wp2
   go_roundg m
   case measure => rw [HM.out]; exact Nat.lt_succ_self _
   case rel => exact ⟨t2, ⟨3, 0, ⟨#[]⟩, [y, f]⟩, some ⟨gk2, 0, none⟩, 2, K1, K2, K3, K4, Nat.le_refl 2, K5, K6, K7, K8⟩
  | false =>
   have HF := Aside0.mk hB
   clear hB
   go_wp2_with (fail)
   have hW := is_d E sc ⟨#[45]⟩ _ HS.out
   refine hW.mono ?_
   clear hW
   rintro e wi ⟨rfl, qb⟩
   replace H2 := mvB qb H2
   replace H3 := mvB qb H3
   replace Ry := ffB Ry qb
   replace HK := kkB HK qb
   replace HS := ssM HS qb
   clear qb
   cases hB : isB E sc ⟨#[45]⟩ with
   | true =>
    have HX := Aside0.mk hB
    have HO := Aside0.mk (is_ok hB)
    have HBD := Aside0.mk HO.out.1
    have HE := Aside0.mk (isB_good HBD.out _ hB)
    clear hB
    go_wp2_with (fail)
    have hW := is_d E sc ⟨#[45]⟩ _ HS.out
    refine hW.mono ?_
    clear hW
    rintro e wi ⟨rfl, qb⟩
    replace H2 := mvB qb H2
    replace H3 := mvB qb H3
    replace Ry := ffB Ry qb
    replace HK := kkB HK qb
    replace HS := ssM HS qb
    clear qb
    rw [HX.out]
    clear HX
    have HI_ := Aside0.mk (HS.out.inc HBD.out HO.out.2)
    have c1 := HS.out.c1; have cf1 := HS.out.fz 1
    go_upto_region 7 with (fail)
    (first | rw [HI_.out.1] | skip)
    obtain ⟨-, q1, qk⟩ := HI_.out
    generalize hW_ : World.setCell _ ⟨E.g, 1, none⟩ _ = wq at q1 qk ⊢
    clear hW_ HI_ c1 cf1
    replace H2 := mvK qk HS H2
    replace H3 := mvK qk HS H3
    replace Ry := ffK Ry qk
    replace HK := kkT HK qk
    replace HS := Aside0.mk q1
    clear q1 qk
    replace H2 := mvB (below_drew (Below.refl wq.heap.size wq)) H2
    replace H3 := mvB (below_drew (Below.refl wq.heap.size wq)) H3
    replace Ry := ffB Ry (below_drew (Below.refl wq.heap.size wq))
    replace HK := kkB HK (below_drew (Below.refl wq.heap.size wq))
    replace HS := ssM HS (below_drew (Below.refl wq.heap.size wq))
    refine start_ (n := 7) (S := fun w' => w'.cell? ⟨g3, 0, none⟩ = some (.int .i64 y.f0) ∧ w'.cell? ⟨g3, 1, none⟩ = some (.int .i64 y.f1) ∧ w'.cell? ⟨g3, 2, none⟩ = some (.string y.f2) ∧ w'.cell? ⟨g3, 3, none⟩ = some (.slice Ay y.f3.length cy)) (ds := [6]) #[Z,Z,Z,Z,Z,Z,Z] (zDDq2) rfl rfl ⟨(blk_celln H3.out 0 _ rfl), (blk_celln H3.out 1 _ rfl), (blk_celln H3.out 2 _ rfl), (blk_celln H3.out 3 _ rfl)⟩ (fun hHeld => ?_)
    refine with_tabW sumT.tab7 sumT.bits7 (fun HT_ HW_ => ?_)
    generalize World.drew _ = wd at HS HK H2 H3 Ry hHeld ⊢
    refine ppU (i := 0) (N := some 22) #[Y,Z,Z,Z,Z,Z,Z] HT_ ?_
    refine take_ (i := 1) (N := some 23) (v := ?_) (a' := ?_) #[Y,Y,Z,Z,Z,Z,Z] rfl rfl (take_ofW HT_.out HW_.out (zDDq2)) (fun _ _ _ h => h) (Or.inl ⟨by rfl, ?_⟩) hHeld ?_ ?_
    rotate_left
    ·rintro w' ⟨s0, s1, s2, s3⟩
     go_simp
     with_reducible rfl
    rotate_left
    ·simp only [Act.put, pA, pB, pC, i64_w, i32_w]
     rfl
    refine ppU (i := 2) (N := some 24) #[Y,Y,Y,Z,Z,Z,Z] HT_ ?_
    refine one_ (i := 3) (N := some 25) #[Y,Y,Y,Y,Z,Z,Z] rfl rfl (one_of HT_.out (zDDq2)) (zDDq3) (fun K hK => ?_)
    refine goes_ Try.func106 (zDDq2) rfl #[.pointer (some ⟨E.g, 0, none⟩)] (by rfl) rfl rfl (zDDq1) ?_
    have hW := atom_c E ex HIH.out ⟨sc.i + 1, false, sc.ps⟩ _ HS.out (fun _ => sum_ne HNe.out HBD.out (.inr HE.out))
    refine hW.mono ?_
    clear hW
    rintro e wc ⟨f, vf, t2, rfl, ⟨Af, cf, rfl, lf, rf⟩, q1, qk, hst, hti, hps⟩
    have RF := Aside0.mk (F.lower (F.free rf (show g3 < _ from blk_lt H3.out)) (show g2 + 1 ≤ _ from blk_lt H2.out))
    clear rf
    have TF := Aside0.mk (And.intro hst (And.intro hti hps))
    clear hst hti hps
    replace H2 := mvK qk HS H2
    replace H3 := mvK qk HS H3
    replace Ry := ffK Ry qk
    replace HK := kkT HK qk
    replace HS := Aside0.mk q1
    clear q1 qk
    refine ⟨_, rfl, ?_⟩
    refine hK.out _ _ ⟨(blk_celln H3.out 0 _ rfl), (blk_celln H3.out 1 _ rfl), (blk_celln H3.out 2 _ rfl), (blk_celln H3.out 3 _ rfl)⟩ (fun hHeld => ?_)
    clear hK K
    refine norm_ (a' := ?_) ?_ ?_
    rotate_left
    ·show Act.put _ (some 25) _ = _
     simp only [Act.put, pA, pB, pC, i64_w, i32_w]
     rfl
    refine one_ (i := 4) (N := some 26) #[Y,Y,Y,Y,Y,Z,Z] rfl rfl (one_of HT_.out (zDDq2)) (zDDq3) (fun K hK => ?_)
    refine lit_step ?hg (N := 26) ?hd (n := 2) (cs := ⟨[.int .i64 y.f0, .int .i64 y.f1, .string y.f2, .slice Ay y.f3.length cy] ++ [.int .i64 f.f0, .int .i64 f.f1, .string f.f2, .slice Af f.f3.length cf]⟩) (t := 94) ?hr ?_; (case hd => rfl); (case hg => rfl); (case hr => first | (go_simp; done) | (go_simp; rfl))
    intro gk2 hg_ w9 hbox_ hq_
    have hgk := Aside0.mk (show g3 < gk2 ∧ g2 < gk2 from ⟨by rw [hg_]; exact blk_lt H3.out, by rw [hg_]; exact blk_lt H2.out⟩)
    replace H2 := mvB hq_ H2
    replace H3 := mvB hq_ H3
    replace Ry := ffB Ry hq_
    replace RF := ffB RF hq_
    replace HK := kkB HK hq_
    replace HS := ssM HS hq_
    have RR := Aside0.mk (F.two hbox_ (GD.at hbox_ HS.out hgk.out.2 (Nat.ne_of_gt hgk.out.1) (zDDq3) (zDDq3)) (FK94 ly Ry.out) (FK94 lf RF.out))
    clear hg_ hbox_ hq_
    refine hK.out _ _ ⟨(blk_celln H3.out 0 _ rfl), (blk_celln H3.out 1 _ rfl), (blk_celln H3.out 2 _ rfl), (blk_celln H3.out 3 _ rfl)⟩ (fun hHeld => ?_)
    clear hK K
    refine norm_ (a' := ?_) ?_ ?_
    rotate_left
    ·show Act.put _ (some 26) _ = _
     simp only [Act.put, pA, pB, pC, i64_w, i32_w]
     rfl
    refine ppU (i := 5) (N := some 27) #[Y,Y,Y,Y,Y,Y,Z] HT_ ?_
    refine last_ (i := 6) (N := none) #[Y,Y,Y,Y,Y,Y,Y] rfl rfl (one_of HT_.out (zDDq2)) (zDDq3) (fun K hK => ?_)
    obtain ⟨se0, sf0, se1, sf1, se2, sf2, se3, sf3⟩ := cf4 H3.out
    refine skip_ (w1 := ?_) (by rfl) rfl ?_ ?_
    rotate_left
    ·go_simp
     rfl
    refine hK.out _ _ ?_
    clear hK K
    refine done_ (done_of HT_.out (zDDq2)) ?_
    clear hHeld
    obtain ⟨F1_, F2_⟩ := fill94 H3.out (.int .i64 4) (.int .i64 0) (.string ⟨#[]⟩) (.slice (some ⟨gk2, 0, none⟩) 2 2) _ rfl
    have HJ2 := Aside0.mk (sum_go HBD.out HNe.out (op := 4) (.inr ⟨isB_good HBD.out _ HF.out, HE.out, rfl⟩) TF.out.1)
    obtain ⟨m, hm, hj1, hj2⟩ := HJ2.out
    have K1 := Aside0.mk (HS.out.only H3.out (zDDq3) (zDDq3) (Nat.le_trans HSB.out G3.out) F2_)
    have K2 := Aside0.mk (HK.out.only G3.out F2_)
    have K3 := Aside0.mk ((F2_.block g2 N2_3.out).trans H2.out)
    have K4 := Aside0.mk F1_
    have K5 := Aside0.mk (F.only RR.out F2_ (Or.inr rfl))
    have K6 := Aside0.mk hj1
    have K7 := Aside0.mk (show ∀ z u, Step t2 (sumL E (atomP E ex) m ⟨4, 0, ⟨#[]⟩, [y, f]⟩ t2.i) z u → Step s (sumP E ex s.i) z u from fun z u q => HC.out z u (hj2 z u q))
    have K8 := Aside0.mk (show s.i ≤ t2.i ∧ t2.ps = s.ps from ⟨Nat.le_trans HLE.out.1 (Nat.le_trans (Nat.le_succ _) TF.out.2.1), TF.out.2.2.trans HLE.out.2⟩)
    have HM := Aside0.mk hm
    clear hj1 hj2 F1_ F2_ HJ2 HC HLE TF RR RF Ry HS HK H2 H3 hm hgk HE HO HBD HNe HF
    go_wp2
    go_roundg m
    case measure => rw [HM.out]; exact Nat.lt_succ_self _
    case rel => exact ⟨t2, ⟨4, 0, ⟨#[]⟩, [y, f]⟩, some ⟨gk2, 0, none⟩, 2, K1, K2, K3, K4, Nat.le_refl 2, K5, K6, K7, K8⟩
   | false =>
    have HF2 := Aside0.mk hB
    clear hB
    obtain ⟨z3_0, z3_1, z3_2, z3_3⟩ := cn4 H3.out
    obtain ⟨z2_0, f2_0, z2_1, f2_1, z2_2, f2_2, z2_3, f2_3⟩ := cf4 H2.out
    go_wp2
    refine fin94 H2.out (fun _ F1_ F2_ => ?_)
    exact ⟨y, _, sc, rfl, ⟨Ay, cy, rfl, ly, F.any (F.lower (F.only Ry.out F2_ (Or.inl (Nat.lt_succ_self _))) (Nat.le_succ_of_le G2.out))⟩, HS.out.only H2.out (zDDq3) (zDDq3) (Nat.le_trans HSB.out G2.out) F2_, HK.out.only G2.out F2_, HC.out _ _ (sum_stop HNe.out HF.out HF2.out), HLE.out.1, HLE.out.2⟩
def exprT.T7 : Bool × List (List Nat × List Nat) := (true, [([], []), ([], []), ([], []), ([2], [2]), ([1, 3], [1, 3]), ([0, 4], [0, 4]), ([5, 3, 0, 1, 2, 3, 4, 5], [5])])
def exprT.B7 : List Nat := [0, 0, 0, 4, 14, 31, 63]
theorem exprT.tab7 : rtab .any (opsOf Try.f89 7) = exprT.T7 := by kernel_rfl
theorem exprT.bits7 : waitsOk exprT.T7.2 exprT.B7 = true := by kernel_rfl
set_option maxHeartbeats 8000000 in
set_option maxRecDepth 100000 in
theorem exprQ_c (E : Env) (ex : Nat → Res S94) (IH : GoodAt E ex) (s : Cs) (w : World) (h : ST E s w) (hn : Ne s (exprQ E ex s.i)) : Calls Try.prog 89 #[.pointer (some ⟨E.g, 0, none⟩)] w (Got E s w (exprQ E ex s.i) (VE E w)) := by
 have hu65 := Try.underlying65
 have hu94 := Try.underlying94
 have HN := Aside0.mk hn
 have HIH := Aside0.mk IH
 clear hn IH
 have HSB := Aside0.mk (show E.w0.heap.size ≤ w.heap.size from h.below.size)
 have HS := Aside0.mk h
 have HK := Aside0.mk (KP.refl E w)
 clear h
 go_enter Try.func89, Try.ntmps89
 go_wp2_with ((with_reducible refine gate_dst (N := 2) rfl ?_); refine bbX (N := 2) z94v 94 ?hr ?_; (case hr => first | (go_simp; done) | (go_simp; rfl)); intro g2 hg_ w2 hbox_ hq_; have G2 := Aside0.mk (show w.heap.size ≤ g2 from by rw [hg_.out]; exact HK.out.2); have H2 := Aside0.mk hbox_; replace HK := kkB HK hq_; replace HS := ssM HS hq_; clear hg_ hbox_ hq_)
 go_wp2_with (fail)
 have hW := sum_c E ex HIH.out s _ HS.out (Ne.first HN.out)
 have Lx := Aside0.mk (And.intro HK.out.2 (blk_lt H2.out))
 refine hW.mono ?_
 clear hW
 rintro e wx ⟨x, vx, tx, rfl, ⟨Ax, cx, rfl, lx, rx⟩, q1, qk, hst, hti, hps⟩
 have Tx := Aside0.mk (And.intro hst (And.intro hti hps))
 clear hst hti hps
 replace H2 := mvK qk HS H2
 replace HK := kkT HK qk
 replace HS := Aside0.mk q1
 clear q1 qk
 have Rx := Aside0.mk rx
 clear rx
 go_upto_region 2 with (first | ((with_reducible refine gate_dst (N := 3) rfl ?_); refine bbX (N := 3) z94v 94 ?hr ?_; (case hr => first | (go_simp; done) | (go_simp; rfl)); intro g3 hg_ w3 hbox_ hq_; obtain ⟨z0_, f0_, z1_, f1_, z2_, f2_, z3_, f3_⟩ := cf4 hbox_))
 obtain ⟨F1_, F2_⟩ := fill94 hbox_ (.int .i64 x.f0) (.int .i64 x.f1) (.string x.f2) (.slice Ax x.f3.length cx) _ rfl
 replace hq_ := hq_.trans (F2_.below.mono (Nat.le_of_eq hg_.out.symm))
 have G3 := Aside0.mk (show w.heap.size ≤ g3 from by rw [hg_.out]; exact HK.out.2)
 have N2_3 := Aside0.mk (ne_new H2.out hg_.out); have LT2_3 := Aside0.mk (lt_new H2.out hg_.out)
 replace Rx := Aside0.mk (F.lower (F.skip Rx.out (Nat.le_of_eq hg_.out.symm)) Lx.out.2); clear hg_ hbox_ F2_ z0_ f0_ z1_ f1_ z2_ f2_ z3_ f3_
 generalize (((w3.setCell ⟨g3, 0, none⟩ (.int .i64 x.f0)).setCell ⟨g3, 1, none⟩ (.int .i64 x.f1)).setCell ⟨g3, 2, none⟩ (.string x.f2)).setCell ⟨g3, 3, none⟩ (.slice Ax x.f3.length cx) = v3 at F1_ hq_ ⊢
 have H3 := Aside0.mk F1_
 replace H2 := mvB hq_ H2
 replace Rx := ffB Rx hq_
 replace HK := kkB HK hq_
 replace HS := ssM HS hq_
 clear F1_ hq_
 have HNe := Aside0.mk (show Ne tx (cmpP E (sumP E ex) x tx.i) from Ne.next HN.out Tx.out.1)
 clear HN
 go_wp2_with (fail)
 have hW := is_d E tx ⟨#[61, 61]⟩ _ HS.out
 refine hW.mono ?_
 clear hW
 rintro e wi ⟨rfl, qb⟩
 replace H2 := mvB qb H2
 replace H3 := mvB qb H3
 replace Rx := ffB Rx qb
 replace HK := kkB HK qb
 replace HS := ssM HS qb
 clear qb
 cases hB : isB E tx ⟨#[61, 61]⟩ with
 | true =>
  have HO := Aside0.mk (is_ok hB)
  have HBD := Aside0.mk HO.out.1
  have HE := Aside0.mk (isB_good HBD.out _ hB)
  have HN2 := Aside0.mk (isB_ne (b := ⟨#[60]⟩) hB (by rw [Go.Lib.toList_data, Go.Lib.toList_data]; decide))
  clear hB
  go_wp2_with (fail)
  have hW := is_d E tx ⟨#[60]⟩ _ HS.out
  refine hW.mono ?_
  clear hW
  rintro e wi ⟨rfl, qb⟩
  replace H2 := mvB qb H2
  replace H3 := mvB qb H3
  replace Rx := ffB Rx qb
  replace HK := kkB HK qb
  replace HS := ssM HS qb
  clear qb
  rw [HN2.out]
  clear HN2
  have HI_ := Aside0.mk (HS.out.inc HBD.out HO.out.2)
  have c1 := HS.out.c1; have cf1 := HS.out.fz 1
  go_upto_region 7 with (fail)
  (first | rw [HI_.out.1] | skip)
  obtain ⟨-, q1, qk⟩ := HI_.out
  generalize hW_ : World.setCell _ ⟨E.g, 1, none⟩ _ = wq at q1 qk ⊢
  clear hW_ HI_ c1 cf1
  replace H2 := mvK qk HS H2
  replace H3 := mvK qk HS H3
  replace Rx := ffK Rx qk
  replace HK := kkT HK qk
  replace HS := Aside0.mk q1
  clear q1 qk
  replace H2 := mvB (below_drew (Below.refl wq.heap.size wq)) H2
  replace H3 := mvB (below_drew (Below.refl wq.heap.size wq)) H3
  replace Rx := ffB Rx (below_drew (Below.refl wq.heap.size wq))
  replace HK := kkB HK (below_drew (Below.refl wq.heap.size wq))
  replace HS := ssM HS (below_drew (Below.refl wq.heap.size wq))
  refine start_ (n := 7) (S := fun w' => w'.cell? ⟨g3, 0, none⟩ = some (.int .i64 x.f0) ∧ w'.cell? ⟨g3, 1, none⟩ = some (.int .i64 x.f1) ∧ w'.cell? ⟨g3, 2, none⟩ = some (.string x.f2) ∧ w'.cell? ⟨g3, 3, none⟩ = some (.slice Ax x.f3.length cx)) (ds := [6]) #[Z,Z,Z,Z,Z,Z,Z] (zDDq2) rfl rfl ⟨(blk_celln H3.out 0 _ rfl), (blk_celln H3.out 1 _ rfl), (blk_celln H3.out 2 _ rfl), (blk_celln H3.out 3 _ rfl)⟩ (fun hHeld => ?_)
  refine with_tabW exprT.tab7 exprT.bits7 (fun HT_ HW_ => ?_)
  generalize World.drew _ = wd at HS HK H2 H3 Rx hHeld ⊢
  refine ppU (i := 0) (N := some 22) #[Y,Z,Z,Z,Z,Z,Z] HT_ ?_
  refine take_ (i := 1) (N := some 23) (v := ?_) (a' := ?_) #[Y,Y,Z,Z,Z,Z,Z] rfl rfl (take_ofW HT_.out HW_.out (zDDq2)) (fun _ _ _ h => h) (Or.inl ⟨by rfl, ?_⟩) hHeld ?_ ?_
  rotate_left
  ·rintro w' ⟨s0, s1, s2, s3⟩
   go_simp
   with_reducible rfl
  rotate_left
  ·simp only [Act.put, pA, pB, pC, i64_w, i32_w]
   rfl
  refine ppU (i := 2) (N := some 24) #[Y,Y,Y,Z,Z,Z,Z] HT_ ?_
  refine one_ (i := 3) (N := some 25) #[Y,Y,Y,Y,Z,Z,Z] rfl rfl (one_of HT_.out (zDDq2)) (zDDq3) (fun K hK => ?_)
  refine goes_ Try.func101 (zDDq2) rfl #[.pointer (some ⟨E.g, 0, none⟩)] (by rfl) rfl rfl (zDDq1) ?_
  have hW := sum_c E ex HIH.out ⟨tx.i + 1, false, tx.ps⟩ _ HS.out (fun _ => cmp_ne HNe.out HBD.out (.inl HE.out))
  refine hW.mono ?_
  clear hW
  rintro e wc ⟨f, vf, t2, rfl, ⟨Af, cf, rfl, lf, rf⟩, q1, qk, hst, hti, hps⟩
  have RF := Aside0.mk (F.lower (F.free rf (show g3 < _ from blk_lt H3.out)) (show g2 + 1 ≤ _ from blk_lt H2.out))
  clear rf
  have TF := Aside0.mk (And.intro hst (And.intro hti hps))
  clear hst hti hps
  replace H2 := mvK qk HS H2
  replace H3 := mvK qk HS H3
  replace Rx := ffK Rx qk
  replace HK := kkT HK qk
  replace HS := Aside0.mk q1
  clear q1 qk
  refine ⟨_, rfl, ?_⟩
  refine hK.out _ _ ⟨(blk_celln H3.out 0 _ rfl), (blk_celln H3.out 1 _ rfl), (blk_celln H3.out 2 _ rfl), (blk_celln H3.out 3 _ rfl)⟩ (fun hHeld => ?_)
  clear hK K
  refine norm_ (a' := ?_) ?_ ?_
  rotate_left
  ·show Act.put _ (some 25) _ = _
   simp only [Act.put, pA, pB, pC, i64_w, i32_w]
   rfl
  refine one_ (i := 4) (N := some 26) #[Y,Y,Y,Y,Y,Z,Z] rfl rfl (one_of HT_.out (zDDq2)) (zDDq3) (fun K hK => ?_)
  refine lit_step ?hg (N := 26) ?hd (n := 2) (cs := ⟨[.int .i64 x.f0, .int .i64 x.f1, .string x.f2, .slice Ax x.f3.length cx] ++ [.int .i64 f.f0, .int .i64 f.f1, .string f.f2, .slice Af f.f3.length cf]⟩) (t := 94) ?hr ?_; (case hd => rfl); (case hg => rfl); (case hr => first | (go_simp; done) | (go_simp; rfl))
  intro gk2 hg_ w9 hbox_ hq_
  have hgk := Aside0.mk (show g3 < gk2 ∧ g2 < gk2 from ⟨by rw [hg_]; exact blk_lt H3.out, by rw [hg_]; exact blk_lt H2.out⟩)
  replace H2 := mvB hq_ H2
  replace H3 := mvB hq_ H3
  replace Rx := ffB Rx hq_
  replace RF := ffB RF hq_
  replace HK := kkB HK hq_
  replace HS := ssM HS hq_
  have RR := Aside0.mk (F.two hbox_ (GD.at hbox_ HS.out hgk.out.2 (Nat.ne_of_gt hgk.out.1) (zDDq3) (zDDq3)) (FK94 lx Rx.out) (FK94 lf RF.out))
  clear hg_ hbox_ hq_
  refine hK.out _ _ ⟨(blk_celln H3.out 0 _ rfl), (blk_celln H3.out 1 _ rfl), (blk_celln H3.out 2 _ rfl), (blk_celln H3.out 3 _ rfl)⟩ (fun hHeld => ?_)
  clear hK K
  refine norm_ (a' := ?_) ?_ ?_
  rotate_left
  ·show Act.put _ (some 26) _ = _
   simp only [Act.put, pA, pB, pC, i64_w, i32_w]
   rfl
  refine ppU (i := 5) (N := some 27) #[Y,Y,Y,Y,Y,Y,Z] HT_ ?_
  refine last_ (i := 6) (N := none) #[Y,Y,Y,Y,Y,Y,Y] rfl rfl (one_of HT_.out (zDDq2)) (zDDq3) (fun K hK => ?_)
  obtain ⟨se0, sf0, se1, sf1, se2, sf2, se3, sf3⟩ := cf4 H3.out
  refine skip_ (w1 := ?_) (by rfl) rfl ?_ ?_
  rotate_left
  ·go_simp
   rfl
  refine hK.out _ _ ?_
  clear hK K
  refine done_ (done_of HT_.out (zDDq2)) ?_
  clear hHeld
  obtain ⟨F1_, F2_⟩ := fill94 H3.out (.int .i64 5) (.int .i64 0) (.string ⟨#[]⟩) (.slice (some ⟨gk2, 0, none⟩) 2 2) _ rfl
  have K1 := Aside0.mk (HS.out.only H3.out (zDDq3) (zDDq3) (Nat.le_trans HSB.out G3.out) F2_)
  have K2 := Aside0.mk (HK.out.only G3.out F2_)
  have K3 := Aside0.mk ((F2_.block g2 N2_3.out).trans H2.out)
  have K4 := Aside0.mk F1_
  have K5 := Aside0.mk (F.only RR.out F2_ (Or.inr rfl))
  generalize hW_ : World.setCell (World.setCell (World.setCell (World.setCell _ ⟨g3, 0, none⟩ _) ⟨g3, 1, none⟩ _) ⟨g3, 2, none⟩ _) ⟨g3, 3, none⟩ _ = wz at K1 K2 K3 K4 K5 ⊢
  clear hW_ F1_ F2_ HS HK H2 H3 RF RR Rx
  have HS := K1; have HK := K2; have H2 := K3; have H3 := K4; have RR := K5
  clear K1 K2 K3 K4 K5
  have HJ := Aside0.mk (cmp_step (x := x) (x' := ⟨5, 0, ⟨#[]⟩, [x, f]⟩) (r := true) (.inr ⟨rfl, HBD.out, f, 5, .inl ⟨HE.out, rfl⟩, TF.out.1, rfl, TF.out.2.1, TF.out.2.2⟩))
  obtain ⟨z3_0, z3_1, z3_2, z3_3⟩ := cn4 H3.out
  obtain ⟨z2_0, f2_0, z2_1, f2_1, z2_2, f2_2, z2_3, f2_3⟩ := cf4 H2.out
  go_wp2
  refine fin94 H2.out (fun _ F1_ F2_ => ?_)
  exact ⟨⟨5, 0, ⟨#[]⟩, [x, f]⟩, _, t2, rfl, ⟨some ⟨gk2, 0, none⟩, 2, rfl, Nat.le_refl 2, F.any (F.lower (F.only RR.out F2_ (Or.inl (Nat.lt_succ_self _))) (Nat.le_succ_of_le G2.out))⟩, HS.out.only H2.out (zDDq3) (zDDq3) (Nat.le_trans HSB.out G2.out) F2_, HK.out.only G2.out F2_, Tx.out.1.bind HJ.out.1, Nat.le_trans Tx.out.2.1 HJ.out.2.1, HJ.out.2.2.trans Tx.out.2.2⟩
 | false =>
  have HF := Aside0.mk hB
  clear hB
  go_wp2_with (fail)
  have hW := is_d E tx ⟨#[60]⟩ _ HS.out
  refine hW.mono ?_
  clear hW
  rintro e wi ⟨rfl, qb⟩
  replace H2 := mvB qb H2
  replace H3 := mvB qb H3
  replace Rx := ffB Rx qb
  replace HK := kkB HK qb
  replace HS := ssM HS qb
  clear qb
  cases hB : isB E tx ⟨#[60]⟩ with
  | true =>
   have HX := Aside0.mk hB
   have HO := Aside0.mk (is_ok hB)
   have HBD := Aside0.mk HO.out.1
   have HE := Aside0.mk (isB_good HBD.out _ hB)
   clear hB
   go_wp2_with (fail)
   have hW := is_d E tx ⟨#[60]⟩ _ HS.out
   refine hW.mono ?_
   clear hW
   rintro e wi ⟨rfl, qb⟩
   replace H2 := mvB qb H2
   replace H3 := mvB qb H3
   replace Rx := ffB Rx qb
   replace HK := kkB HK qb
   replace HS := ssM HS qb
   clear qb
   rw [HX.out]
   clear HX
   have HI_ := Aside0.mk (HS.out.inc HBD.out HO.out.2)
   have c1 := HS.out.c1; have cf1 := HS.out.fz 1
   go_upto_region 7 with (fail)
   (first | rw [HI_.out.1] | skip)
   obtain ⟨-, q1, qk⟩ := HI_.out
   generalize hW_ : World.setCell _ ⟨E.g, 1, none⟩ _ = wq at q1 qk ⊢
   clear hW_ HI_ c1 cf1
   replace H2 := mvK qk HS H2
   replace H3 := mvK qk HS H3
   replace Rx := ffK Rx qk
   replace HK := kkT HK qk
   replace HS := Aside0.mk q1
   clear q1 qk
   replace H2 := mvB (below_drew (Below.refl wq.heap.size wq)) H2
   replace H3 := mvB (below_drew (Below.refl wq.heap.size wq)) H3
   replace Rx := ffB Rx (below_drew (Below.refl wq.heap.size wq))
   replace HK := kkB HK (below_drew (Below.refl wq.heap.size wq))
   replace HS := ssM HS (below_drew (Below.refl wq.heap.size wq))
   refine start_ (n := 7) (S := fun w' => w'.cell? ⟨g3, 0, none⟩ = some (.int .i64 x.f0) ∧ w'.cell? ⟨g3, 1, none⟩ = some (.int .i64 x.f1) ∧ w'.cell? ⟨g3, 2, none⟩ = some (.string x.f2) ∧ w'.cell? ⟨g3, 3, none⟩ = some (.slice Ax x.f3.length cx)) (ds := [6]) #[Z,Z,Z,Z,Z,Z,Z] (zDDq2) rfl rfl ⟨(blk_celln H3.out 0 _ rfl), (blk_celln H3.out 1 _ rfl), (blk_celln H3.out 2 _ rfl), (blk_celln H3.out 3 _ rfl)⟩ (fun hHeld => ?_)
   refine with_tabW exprT.tab7 exprT.bits7 (fun HT_ HW_ => ?_)
   generalize World.drew _ = wd at HS HK H2 H3 Rx hHeld ⊢
   refine ppU (i := 0) (N := some 22) #[Y,Z,Z,Z,Z,Z,Z] HT_ ?_
   refine take_ (i := 1) (N := some 23) (v := ?_) (a' := ?_) #[Y,Y,Z,Z,Z,Z,Z] rfl rfl (take_ofW HT_.out HW_.out (zDDq2)) (fun _ _ _ h => h) (Or.inl ⟨by rfl, ?_⟩) hHeld ?_ ?_
   rotate_left
   ·rintro w' ⟨s0, s1, s2, s3⟩
    go_simp
    with_reducible rfl
   rotate_left
   ·simp only [Act.put, pA, pB, pC, i64_w, i32_w]
    rfl
   refine ppU (i := 2) (N := some 24) #[Y,Y,Y,Z,Z,Z,Z] HT_ ?_
   refine one_ (i := 3) (N := some 25) #[Y,Y,Y,Y,Z,Z,Z] rfl rfl (one_of HT_.out (zDDq2)) (zDDq3) (fun K hK => ?_)
   refine goes_ Try.func101 (zDDq2) rfl #[.pointer (some ⟨E.g, 0, none⟩)] (by rfl) rfl rfl (zDDq1) ?_
   have hW := sum_c E ex HIH.out ⟨tx.i + 1, false, tx.ps⟩ _ HS.out (fun _ => cmp_ne HNe.out HBD.out (.inr HE.out))
   refine hW.mono ?_
   clear hW
   rintro e wc ⟨f, vf, t2, rfl, ⟨Af, cf, rfl, lf, rf⟩, q1, qk, hst, hti, hps⟩
   have RF := Aside0.mk (F.lower (F.free rf (show g3 < _ from blk_lt H3.out)) (show g2 + 1 ≤ _ from blk_lt H2.out))
   clear rf
   have TF := Aside0.mk (And.intro hst (And.intro hti hps))
   clear hst hti hps
   replace H2 := mvK qk HS H2
   replace H3 := mvK qk HS H3
   replace Rx := ffK Rx qk
   replace HK := kkT HK qk
   replace HS := Aside0.mk q1
   clear q1 qk
   refine ⟨_, rfl, ?_⟩
   refine hK.out _ _ ⟨(blk_celln H3.out 0 _ rfl), (blk_celln H3.out 1 _ rfl), (blk_celln H3.out 2 _ rfl), (blk_celln H3.out 3 _ rfl)⟩ (fun hHeld => ?_)
   clear hK K
   refine norm_ (a' := ?_) ?_ ?_
   rotate_left
   ·show Act.put _ (some 25) _ = _
    simp only [Act.put, pA, pB, pC, i64_w, i32_w]
    rfl
   refine one_ (i := 4) (N := some 26) #[Y,Y,Y,Y,Y,Z,Z] rfl rfl (one_of HT_.out (zDDq2)) (zDDq3) (fun K hK => ?_)
   refine lit_step ?hg (N := 26) ?hd (n := 2) (cs := ⟨[.int .i64 x.f0, .int .i64 x.f1, .string x.f2, .slice Ax x.f3.length cx] ++ [.int .i64 f.f0, .int .i64 f.f1, .string f.f2, .slice Af f.f3.length cf]⟩) (t := 94) ?hr ?_; (case hd => rfl); (case hg => rfl); (case hr => first | (go_simp; done) | (go_simp; rfl))
   intro gk2 hg_ w9 hbox_ hq_
   have hgk := Aside0.mk (show g3 < gk2 ∧ g2 < gk2 from ⟨by rw [hg_]; exact blk_lt H3.out, by rw [hg_]; exact blk_lt H2.out⟩)
   replace H2 := mvB hq_ H2
   replace H3 := mvB hq_ H3
   replace Rx := ffB Rx hq_
   replace RF := ffB RF hq_
   replace HK := kkB HK hq_
   replace HS := ssM HS hq_
   have RR := Aside0.mk (F.two hbox_ (GD.at hbox_ HS.out hgk.out.2 (Nat.ne_of_gt hgk.out.1) (zDDq3) (zDDq3)) (FK94 lx Rx.out) (FK94 lf RF.out))
   clear hg_ hbox_ hq_
   refine hK.out _ _ ⟨(blk_celln H3.out 0 _ rfl), (blk_celln H3.out 1 _ rfl), (blk_celln H3.out 2 _ rfl), (blk_celln H3.out 3 _ rfl)⟩ (fun hHeld => ?_)
   clear hK K
   refine norm_ (a' := ?_) ?_ ?_
   rotate_left
   ·show Act.put _ (some 26) _ = _
    simp only [Act.put, pA, pB, pC, i64_w, i32_w]
    rfl
   refine ppU (i := 5) (N := some 27) #[Y,Y,Y,Y,Y,Y,Z] HT_ ?_
   refine last_ (i := 6) (N := none) #[Y,Y,Y,Y,Y,Y,Y] rfl rfl (one_of HT_.out (zDDq2)) (zDDq3) (fun K hK => ?_)
   obtain ⟨se0, sf0, se1, sf1, se2, sf2, se3, sf3⟩ := cf4 H3.out
   refine skip_ (w1 := ?_) (by rfl) rfl ?_ ?_
   rotate_left
   ·go_simp
    rfl
   refine hK.out _ _ ?_
   clear hK K
   refine done_ (done_of HT_.out (zDDq2)) ?_
   clear hHeld
   obtain ⟨F1_, F2_⟩ := fill94 H3.out (.int .i64 6) (.int .i64 0) (.string ⟨#[]⟩) (.slice (some ⟨gk2, 0, none⟩) 2 2) _ rfl
   have K1 := Aside0.mk (HS.out.only H3.out (zDDq3) (zDDq3) (Nat.le_trans HSB.out G3.out) F2_)
   have K2 := Aside0.mk (HK.out.only G3.out F2_)
   have K3 := Aside0.mk ((F2_.block g2 N2_3.out).trans H2.out)
   have K4 := Aside0.mk F1_
   have K5 := Aside0.mk (F.only RR.out F2_ (Or.inr rfl))
   generalize hW_ : World.setCell (World.setCell (World.setCell (World.setCell _ ⟨g3, 0, none⟩ _) ⟨g3, 1, none⟩ _) ⟨g3, 2, none⟩ _) ⟨g3, 3, none⟩ _ = wz at K1 K2 K3 K4 K5 ⊢
   clear hW_ F1_ F2_ HS HK H2 H3 RF RR Rx
   have HS := K1; have HK := K2; have H2 := K3; have H3 := K4; have RR := K5
   clear K1 K2 K3 K4 K5
   have HJ := Aside0.mk (cmp_step (x := x) (x' := ⟨6, 0, ⟨#[]⟩, [x, f]⟩) (r := true) (.inr ⟨rfl, HBD.out, f, 6, .inr ⟨isB_good HBD.out _ HF.out, HE.out, rfl⟩, TF.out.1, rfl, TF.out.2.1, TF.out.2.2⟩))
   obtain ⟨z3_0, z3_1, z3_2, z3_3⟩ := cn4 H3.out
   obtain ⟨z2_0, f2_0, z2_1, f2_1, z2_2, f2_2, z2_3, f2_3⟩ := cf4 H2.out
   go_wp2
   refine fin94 H2.out (fun _ F1_ F2_ => ?_)
   exact ⟨⟨6, 0, ⟨#[]⟩, [x, f]⟩, _, t2, rfl, ⟨some ⟨gk2, 0, none⟩, 2, rfl, Nat.le_refl 2, F.any (F.lower (F.only RR.out F2_ (Or.inl (Nat.lt_succ_self _))) (Nat.le_succ_of_le G2.out))⟩, HS.out.only H2.out (zDDq3) (zDDq3) (Nat.le_trans HSB.out G2.out) F2_, HK.out.only G2.out F2_, Tx.out.1.bind HJ.out.1, Nat.le_trans Tx.out.2.1 HJ.out.2.1, HJ.out.2.2.trans Tx.out.2.2⟩
  | false =>
   have HF2 := Aside0.mk hB
   clear hB
   have HJ := Aside0.mk (cmp_step (E := E) (rt := sumP E ex) (s := tx) (t := tx) (x := x) (x' := x) (r := false) (.inl ⟨rfl, rfl, rfl, HF.out, HF2.out⟩))
   obtain ⟨z3_0, z3_1, z3_2, z3_3⟩ := cn4 H3.out
   obtain ⟨z2_0, f2_0, z2_1, f2_1, z2_2, f2_2, z2_3, f2_3⟩ := cf4 H2.out
   go_wp2
   refine fin94 H2.out (fun _ F1_ F2_ => ?_)
   exact ⟨x, _, tx, rfl, ⟨Ax, cx, rfl, lx, F.any (F.lower (F.only Rx.out F2_ (Or.inl (Nat.lt_succ_self _))) (Nat.le_succ_of_le G2.out))⟩, HS.out.only H2.out (zDDq3) (zDDq3) (Nat.le_trans HSB.out G2.out) F2_, HK.out.only G2.out F2_, Tx.out.1.bind HJ.out.1, Tx.out.2.1, Tx.out.2.2⟩
theorem expr_c (E : Env) : ∀ k s w, ST E s w → Ne s (exprP E k s.i) → Calls Try.prog 89 #[.pointer (some ⟨E.g, 0, none⟩)] w (Got E s w (exprP E k s.i) (VE E w))
 | 0, s, w, h, hn => by
  have hb : s.bad = true := by
   cases hbad : s.bad with
   | true => rfl
   | false => exact absurd rfl (hn hbad)
  refine (exprQ_c E (fun _ => .out) (fun s w _ _ h => absurd rfl h) s w h (fun h => by rw [hb] at h; cases h)).mono ?_
  rintro e w' ⟨x, v, t, h1, h2, h3, h4, h5, h6⟩
  obtain ⟨a, b⟩ := h5.1 hb
  exact ⟨x, v, t, h1, h2, h3, h4, Step.bad hb a b, h6⟩
 | k + 1, s, w, h, hn => exprQ_c E (exprP E k) (fun s w h hb hn => expr_c E k s w h (fun _ => hn)) s w h hn
end Go.Proofs.Ytinnldfmbeafiaa.PA.D
