/- Conditions: list, cond, both, one walked by hand. -/
import Derived.Test.YtinnldfmbeafiaaQF
namespace Go.Proofs.Ytinnldfmbeafiaa.PA
open Go.RowKit Go.Proofs.YtinnldfmbeafiaaW.PrintWords Go.Proofs.YtinnldfmbeafiaaW.PrintLast Go.Proofs.YtinnldfmbeafiaaW.PrintMore
set_option linter.unusedVariables false
set_option linter.unusedSimpArgs false
attribute [local go_sem] cell_set_some fld53_0 fld53_1 fld53_2 fld53_3
theorem zQGq1 {p : Prop} (h : p := by rw [hg_.out]; exact HK.out.2) : p := h
theorem Step.cast {α : Type} {s t : Cs} {r r' : Res α} {x : α} (h : Step s r x t) (e : s.bad = false → r' = r) : Step s r' x t :=
 ⟨h.1, fun hb => by rw [e hb]; exact h.2 hb⟩
theorem Ne.cast {α : Type} {s : Cs} {r r' : Res α} (h : Ne s r') (e : s.bad = false → r' = r) : Ne s r := fun hb => by rw [← e hb]; exact h hb
/-- A cell of a block stored. -/
theorem set1 {w : World} {g : Nat} {t : TypeId} {cs : Array Value} (h : w.heap[g]? = some (.cells cs t (0, 0))) (j : Nat) (v : Value) {cs' : Array Value} (e : cs.setIfInBounds j v = cs') :
 (w.setCell ⟨g, j, none⟩ v).heap[g]? = some (.cells cs' t (0, 0)) ∧ Only g w (w.setCell ⟨g, j, none⟩ v) := ⟨blk_put h j v e, (Only.refl g w).set j v⟩
theorem set2 {w : World} {g : Nat} {t : TypeId} {cs : Array Value} (h : w.heap[g]? = some (.cells cs t (0, 0))) (j j2 : Nat) (v v2 : Value) {cs' : Array Value} (e : (cs.setIfInBounds j v).setIfInBounds j2 v2 = cs') :
 ((w.setCell ⟨g, j, none⟩ v).setCell ⟨g, j2, none⟩ v2).heap[g]? = some (.cells cs' t (0, 0)) ∧ Only g w ((w.setCell ⟨g, j, none⟩ v).setCell ⟨g, j2, none⟩ v2) := ⟨blk_put (blk_put h j v rfl) j2 v2 e, ((Only.refl g w).set j v).set j2 v2⟩
/-- A condition that is handed back: its rows are new. -/
def VC (E : Env) (w : World) (w' : World) (x : S27) (v : Value) : Prop := ∃ A c, v = .agg #[.int .i64 x.f0, .int .i64 x.f1, .string x.f2, .int .i64 x.f3, .slice A x.f4.length c] ∧ x.f4.length ≤ c ∧ Kd.F k27 w' (GD E E.g w.heap.size w') A x.f4.length x.f4
def listL (E : Env) (t : ByteArray) (op : Int) (one : Nat → Res S27) : Nat → S27 → Nat → Res S27
 | 0, _, _ => .out
 | m + 1, e, i => if isT E i t = true then (one (i + 1)).bind fun f j => listL E t op one m ⟨op, 0, ⟨#[]⟩, 0, [e, f]⟩ j else .ok e i []
def listP (E : Env) (t : ByteArray) (op : Int) (one : Nat → Res S27) (i : Nat) : Res S27 := (one i).bind fun e j => listL E t op one (E.ts.length + 1) e j
def bothQ (E : Env) (one : Nat → Res S27) (i : Nat) : Res S27 := listP E ⟨#[97, 110, 100]⟩ 4 one i
def condQ (E : Env) (one : Nat → Res S27) (i : Nat) : Res S27 := listP E ⟨#[111, 114]⟩ 5 (bothQ E one) i
def restP (E : Env) (op th : Int) (i : Nat) : Res S27 := (nameP E i).bind fun nm j => (mustP E ⟨#[61, 61]⟩ j).bind fun _ l => (numP E l).bind fun n m => .ok ⟨op, th, nm, n, []⟩ m []
def oneP (E : Env) (one : Nat → Res S27) (i : Nat) : Res S27 :=
 if isT E i ⟨#[110, 111, 116]⟩ = true then (one (i + 1)).bind fun x j => .ok ⟨3, 0, ⟨#[]⟩, 0, [x]⟩ j []
 else if isT E i ⟨#[40]⟩ = true then (condQ E one (i + 1)).bind fun x j => (mustP E ⟨#[41]⟩ j).bind fun _ l => .ok x l []
 else if decide ((E.tk i).f0 = 2) = true then (numP E i).bind fun n j => (mustP E ⟨#[58]⟩ j).bind fun _ l => restP E 2 n l
 else restP E 1 0 i
def oneF (E : Env) : Nat → Nat → Res S27
 | 0, _ => .out
 | k + 1, i => oneP E (oneF E k) i
theorem list_stop {E : Env} {t : ByteArray} {op : Int} {one : Nat → Res S27} {s : Cs} {m : Nat} {x : S27} (h : Ne s (listL E t op one m x s.i)) (ha : isB E s t = false) : Step s (listL E t op one m x s.i) x s := by
 cases hbad : s.bad with
 | true => exact Step.bad hbad hbad rfl
 | false =>
  have a := isB_good hbad _ ha
  cases m with
  | zero => exact absurd rfl (h hbad)
  | succ m =>
   unfold listL
   rw [if_neg (by rw [a]; decide)]
   exact Step.pure s x
theorem list_go {E : Env} {t : ByteArray} {op : Int} {one : Nat → Res S27} {s : Cs} {m : Nat} {x : S27} (hb : s.bad = false) (h : Ne s (listL E t op one m x s.i)) (ho : isT E s.i t = true) :
 one (s.i + 1) ≠ .out ∧ ∃ m', m = m' + 1 ∧ ∀ f u, Step ⟨s.i + 1, false, s.ps⟩ (one (s.i + 1)) f u → Ne u (listL E t op one m' ⟨op, 0, ⟨#[]⟩, 0, [x, f]⟩ u.i) ∧ ∀ y v, Step u (listL E t op one m' ⟨op, 0, ⟨#[]⟩, 0, [x, f]⟩ u.i) y v → Step s (listL E t op one m x s.i) y v := by
 cases m with
 | zero => exact absurd rfl (h hb)
 | succ m =>
  have e : listL E t op one (m + 1) x s.i = (one (s.i + 1)).bind fun f j => listL E t op one m ⟨op, 0, ⟨#[]⟩, 0, [x, f]⟩ j := by
   rw [listL, if_pos ho]
  rw [e] at h ⊢
  exact ⟨bind_out (h hb), m, rfl, fun f u hs => ⟨Ne.next (s := ⟨s.i + 1, false, s.ps⟩) (x := f) (f := fun f j => listL E t op one m ⟨op, 0, ⟨#[]⟩, 0, [x, f]⟩ j) (fun _ => h hb) hs, fun y v k => Step.at hb (hs.bind k)⟩⟩
/-- What is known of conditions further in. -/
def GoodC (E : Env) (fn : Nat) (ex : Nat → Res S27) : Prop := ∀ s w, ST E s w → s.bad = false → ex s.i ≠ .out → Calls Try.prog fn #[.pointer (some ⟨E.g, 0, none⟩)] w (Got E s w (ex s.i) (VC E w))
def FullC (E : Env) (fn : Nat) (ex : Nat → Res S27) : Prop := ∀ s w, ST E s w → Ne s (ex s.i) → Calls Try.prog fn #[.pointer (some ⟨E.g, 0, none⟩)] w (Got E s w (ex s.i) (VC E w))
def listT99.T3 : Bool × List (List Nat × List Nat) := (true, [([], []), ([], []), ([], []), ([2], [2]), ([1, 3], [1, 3]), ([0, 4], [0, 4]), ([5, 3, 0, 1, 2, 3, 4, 5], [5])])
def listT99.B3 : List Nat := [0, 0, 0, 4, 14, 31, 63]
theorem listT99.tab3 : rtab .any (opsOf Try.f85 3) = listT99.T3 := by kernel_rfl
theorem listT99.bits3 : waitsOk listT99.T3.2 listT99.B3 = true := by kernel_rfl
set_option maxHeartbeats 8000000 in
set_option maxRecDepth 100000 in
theorem list_one (E : Env) (t : ByteArray) (op : Int) (one : Nat → Res S27) (IH : FullC E 99 one) (s : Cs) (w : World) (h : ST E s w) (hn : Ne s (listP E t op one s.i)) : Calls Try.prog 85 #[.pointer (some ⟨E.g, 0, none⟩), .string t, .int .i64 op, .func (.func 99) #[.pointer (some ⟨E.g, 0, none⟩)] #[]] w (Got E s w (listP E t op one s.i) (VC E w)) := by
 have HN := Aside0.mk hn
 have HIH := Aside0.mk IH
 clear hn IH
 have HSB := Aside0.mk (show E.w0.heap.size ≤ w.heap.size from h.below.size)
 have HS := Aside0.mk h
 have HK := Aside0.mk (KP.refl E w)
 clear h
 go_enter Try.func85, Try.ntmps85
 go_wp2_with ((with_reducible refine gate_dst (N := 8) rfl ?_); refine bbX (N := 8) z27v 27 ?hr ?_; (case hr => first | (go_simp; done) | (go_simp; rfl)); intro g8 hg_ w8 hbox_ hq_; have G8 := Aside0.mk (show w.heap.size ≤ g8 from zQGq1); have H8 := Aside0.mk hbox_; replace HK := kkB HK hq_; replace HS := ssM HS hq_; clear hg_ hbox_ hq_)
 have hW := HIH.out s _ HS.out (Ne.first HN.out)
 have Lx := Aside0.mk (And.intro HK.out.2 (blk_lt H8.out))
 refine hW.mono ?_
 clear hW
 rintro e wx ⟨x, vx, tx, rfl, ⟨Ax, cx, rfl, lx, rx⟩, q1, qk, hst, hti, hps⟩
 have Tx := Aside0.mk (And.intro hst (And.intro hti hps))
 clear hst hti hps
 replace H8 := mvK qk HS H8
 replace HK := kkT HK qk
 replace HS := Aside0.mk q1
 clear q1 qk
 have Rx := Aside0.mk rx
 clear rx
 go_wp2_with ((with_reducible refine gate_dst (N := 9) rfl ?_); refine bbX (N := 9) z27v 27 ?hr ?_; (case hr => first | (go_simp; done) | (go_simp; rfl)); intro g9 hg_ w9 hbox_ hq_; obtain ⟨z0_, f0_, z1_, f1_, z2_, f2_, z3_, f3_, z4_, f4_⟩ := cf5 hbox_)
 obtain ⟨F1_, F2_⟩ := fill27 hbox_ (.int .i64 x.f0) (.int .i64 x.f1) (.string x.f2) (.int .i64 x.f3) (.slice Ax x.f4.length cx) _ rfl
 replace hq_ := hq_.trans (F2_.below.mono (Nat.le_of_eq hg_.out.symm))
 have G9 := Aside0.mk (show w.heap.size ≤ g9 from zQGq1)
 have N8_9 := Aside0.mk (ne_new H8.out hg_.out); have LT8_9 := Aside0.mk (lt_new H8.out hg_.out)
 clear F2_ hbox_ z0_ f0_ z1_ f1_ z2_ f2_ z3_ f3_ z4_ f4_
 generalize ((((w9.setCell ⟨g9, 0, none⟩ (.int .i64 x.f0)).setCell ⟨g9, 1, none⟩ (.int .i64 x.f1)).setCell ⟨g9, 2, none⟩ (.string x.f2)).setCell ⟨g9, 3, none⟩ (.int .i64 x.f3)).setCell ⟨g9, 4, none⟩ (.slice Ax x.f4.length cx) = v9 at F1_ hq_ ⊢
 have H9 := Aside0.mk F1_
 replace Rx := Aside0.mk (F.lower (F.skip Rx.out (Nat.le_of_eq hg_.out.symm)) Lx.out.2)
 replace H8 := mvB hq_ H8
 replace Rx := ffB Rx hq_
 replace HK := kkB HK hq_
 replace HS := ssM HS hq_
 clear F1_ hq_ hg_
 go_loopg [] (E.ts.length + 1) (fun kq w' => ∃ (sc : Cs) (x : S27) (A : Option Addr) (c : Nat), Aside0 (ST E sc w') ∧ Aside0 (KP E w w') ∧ Aside0 (w'.heap[g8]? = some (.cells z27v 27 (0, 0))) ∧ Aside0 (w'.heap[g9]? = some (.cells #[.int .i64 x.f0, .int .i64 x.f1, .string x.f2, .int .i64 x.f3, .slice A x.f4.length c] 27 (0, 0))) ∧ x.f4.length ≤ c ∧ Aside0 (Kd.F k27 w' (GD E g9 (g8 + 1) w') A x.f4.length x.f4) ∧ Aside0 (Ne sc (listL E t op one kq x sc.i)) ∧ Aside0 (∀ y u, Step sc (listL E t op one kq x sc.i) y u → Step s (listP E t op one s.i) y u) ∧ Aside0 (s.i ≤ sc.i ∧ sc.ps = s.ps))
 case atStart => exact ⟨tx, x, Ax, cx, HS, HK, H8, H9, lx, Rx, ⟨Ne.next HN.out Tx.out.1⟩, ⟨fun y u q => Tx.out.1.bind q⟩, ⟨Tx.out.2⟩⟩
 case round =>
  clear HS HK H8 H9 Rx Tx Lx lx
  obtain ⟨sc, y, Ay, cy, HS, HK, H8, H9, ly, Ry, HNe, HC, HLE⟩ := hrel
  go_wp2_with (fail)
  cases hB : isB E sc t with
  | false =>
   have HF := Aside0.mk hB
   have hW := took_c E sc t _ HS.out false hB
   refine hW.mono ?_
   clear hW hB
   rintro e wt ⟨rfl, q1, qk⟩
   replace q1 : ST E sc wt := q1
   replace H8 := mvK qk HS H8
   replace H9 := mvK qk HS H9
   replace Ry := ffK Ry qk
   replace HK := kkT HK qk
   replace HS := Aside0.mk q1
   clear q1 qk
   obtain ⟨z9_0, z9_1, z9_2, z9_3, z9_4⟩ := cn5 H9.out
   obtain ⟨z8_0, f8_0, z8_1, f8_1, z8_2, f8_2, z8_3, f8_3, z8_4, f8_4⟩ := cf5 H8.out
   go_wp2
   refine fin27 H8.out (fun _ F1_ F2_ => ?_)
   exact ⟨y, _, sc, rfl, ⟨Ay, cy, rfl, ly, F.any (F.lower (F.only Ry.out F2_ (Or.inl (Nat.lt_succ_self _))) (Nat.le_succ_of_le G8.out))⟩, HS.out.only H8.out (by decide) (by decide) (Nat.le_trans HSB.out G8.out) F2_, HK.out.only G8.out F2_, HC.out _ _ (list_stop HNe.out HF.out), HLE.out.1, HLE.out.2⟩
  | true =>
   obtain ⟨hbad, _⟩ := is_ok hB
   have HE := Aside0.mk (isB_good hbad _ hB)
   have HBD := Aside0.mk hbad
   have hW := took_c E sc t _ HS.out true hB
   refine hW.mono ?_
   clear hW hB hbad
   rintro e wt ⟨rfl, q1, qk⟩
   replace q1 : ST E ⟨sc.i + 1, false, sc.ps⟩ wt := by
    have e : tkS sc true = ⟨sc.i + 1, false, sc.ps⟩ := by
     unfold tkS
     rw [if_pos rfl, HBD.out]
    rw [← e]
    exact q1
   replace H8 := mvK qk HS H8
   replace H9 := mvK qk HS H9
   replace Ry := ffK Ry qk
   replace HK := kkT HK qk
   replace HS := Aside0.mk q1
   clear q1 qk
   have HG := Aside0.mk (list_go HBD.out HNe.out HE.out)
   clear HNe
   go_upto_region 3 with (fail)
   replace H8 := mvB (below_drew (Below.refl wt.heap.size wt)) H8
   replace H9 := mvB (below_drew (Below.refl wt.heap.size wt)) H9
   replace Ry := ffB Ry (below_drew (Below.refl wt.heap.size wt))
   replace HK := kkB HK (below_drew (Below.refl wt.heap.size wt))
   replace HS := ssM HS (below_drew (Below.refl wt.heap.size wt))
   refine start_ (n := 7) (S := fun w' => w'.cell? ⟨g9, 0, none⟩ = some (.int .i64 y.f0) ∧ w'.cell? ⟨g9, 1, none⟩ = some (.int .i64 y.f1) ∧ w'.cell? ⟨g9, 2, none⟩ = some (.string y.f2) ∧ w'.cell? ⟨g9, 3, none⟩ = some (.int .i64 y.f3) ∧ w'.cell? ⟨g9, 4, none⟩ = some (.slice Ay y.f4.length cy)) (ds := [6]) #[Z,Z,Z,Z,Z,Z,Z] (by kernel_rfl) rfl rfl ⟨(blk_celln H9.out 0 _ rfl), (blk_celln H9.out 1 _ rfl), (blk_celln H9.out 2 _ rfl), (blk_celln H9.out 3 _ rfl), (blk_celln H9.out 4 _ rfl)⟩ (fun hHeld => ?_)
   refine with_tabW listT99.tab3 listT99.bits3 (fun HT_ HW_ => ?_)
   generalize World.drew _ = wd at HS HK H8 H9 Ry hHeld ⊢
   refine ppU (i := 0) (N := some 15) #[Y,Z,Z,Z,Z,Z,Z] HT_ ?_
   refine take_ (i := 1) (N := some 16) (v := ?_) (a' := ?_) #[Y,Y,Z,Z,Z,Z,Z] rfl rfl (take_ofW HT_.out HW_.out (by kernel_rfl)) (fun _ _ _ h => h) (Or.inl ⟨by rfl, ?_⟩) hHeld ?_ ?_
   rotate_left
   ·rintro w' ⟨s0, s1, s2, s3, s4⟩
    go_simp
    with_reducible rfl
   rotate_left
   ·simp only [Act.put, pA, pB, pC, i64_w, i32_w]
    rfl
   refine ppU (i := 2) (N := some 17) #[Y,Y,Y,Z,Z,Z,Z] HT_ ?_
   refine one_ (i := 3) (N := some 18) #[Y,Y,Y,Y,Z,Z,Z] rfl rfl (one_of HT_.out (by kernel_rfl)) (by decide) (fun K hK => ?_)
   refine goesM_ Try.func99 (by kernel_rfl) rfl (by rfl) rfl rfl rfl ?_
   have hW := HIH.out ⟨sc.i + 1, false, sc.ps⟩ _ HS.out (fun _ => HG.out.1)
   refine hW.mono ?_
   clear hW
   rintro e wc ⟨f, vf, t2, rfl, ⟨Af, cf, rfl, lf, rf⟩, q1, qk, hst, hti, hps⟩
   have RF := Aside0.mk (F.lower (F.free rf (show g9 < _ from blk_lt H9.out)) (show g8 + 1 ≤ _ from blk_lt H8.out))
   clear rf
   have TF := Aside0.mk (And.intro hst (And.intro hti hps))
   clear hst hti hps
   replace H8 := mvK qk HS H8
   replace H9 := mvK qk HS H9
   replace Ry := ffK Ry qk
   replace HK := kkT HK qk
   replace HS := Aside0.mk q1
   clear q1 qk
   refine ⟨_, rfl, ?_⟩
   refine hK.out _ _ ⟨(blk_celln H9.out 0 _ rfl), (blk_celln H9.out 1 _ rfl), (blk_celln H9.out 2 _ rfl), (blk_celln H9.out 3 _ rfl), (blk_celln H9.out 4 _ rfl)⟩ (fun hHeld => ?_)
   clear hK K
   refine norm_ (a' := ?_) ?_ ?_
   rotate_left
   ·show Act.put _ (some 18) _ = _
    simp only [Act.put, pA, pB, pC, i64_w, i32_w]
    rfl
   refine one_ (i := 4) (N := some 19) #[Y,Y,Y,Y,Y,Z,Z] rfl rfl (one_of HT_.out (by kernel_rfl)) (by decide) (fun K hK => ?_)
   refine lit_step ?hg (N := 19) ?hd (n := 2) (cs := ⟨[.int .i64 y.f0, .int .i64 y.f1, .string y.f2, .int .i64 y.f3, .slice Ay y.f4.length cy] ++ [.int .i64 f.f0, .int .i64 f.f1, .string f.f2, .int .i64 f.f3, .slice Af f.f4.length cf]⟩) (t := 27) ?hr ?_; (case hd => rfl); (case hg => rfl); (case hr => first | (go_simp; done) | (go_simp; rfl))
   intro gk2 hg_ w9 hbox_ hq_
   have hgk := Aside0.mk (show g9 < gk2 ∧ g8 < gk2 from ⟨by rw [hg_]; exact blk_lt H9.out, by rw [hg_]; exact blk_lt H8.out⟩)
   replace H8 := mvB hq_ H8
   replace H9 := mvB hq_ H9
   replace Ry := ffB Ry hq_
   replace RF := ffB RF hq_
   replace HK := kkB HK hq_
   replace HS := ssM HS hq_
   have RR := Aside0.mk (F.two hbox_ (GD.at hbox_ HS.out hgk.out.2 (Nat.ne_of_gt hgk.out.1) (by decide) (by decide)) (FK27 ly Ry.out) (FK27 lf RF.out))
   clear hg_ hbox_ hq_
   refine hK.out _ _ ⟨(blk_celln H9.out 0 _ rfl), (blk_celln H9.out 1 _ rfl), (blk_celln H9.out 2 _ rfl), (blk_celln H9.out 3 _ rfl), (blk_celln H9.out 4 _ rfl)⟩ (fun hHeld => ?_)
   clear hK K
   refine norm_ (a' := ?_) ?_ ?_
   rotate_left
   ·show Act.put _ (some 19) _ = _
    simp only [Act.put, pA, pB, pC, i64_w, i32_w]
    rfl
   refine ppU (i := 5) (N := some 20) #[Y,Y,Y,Y,Y,Y,Z] HT_ ?_
   refine last_ (i := 6) (N := none) #[Y,Y,Y,Y,Y,Y,Y] rfl rfl (one_of HT_.out (by kernel_rfl)) (by decide) (fun K hK => ?_)
   obtain ⟨se0, sf0, se1, sf1, se2, sf2, se3, sf3, se4, sf4⟩ := cf5 H9.out
   refine skip_ (w1 := ?_) (by rfl) rfl ?_ ?_
   rotate_left
   ·go_simp
    rfl
   refine hK.out _ _ ?_
   clear hK K
   refine done_ (done_of HT_.out (by kernel_rfl)) ?_
   clear hHeld
   go_wp2
   obtain ⟨m, hm, hgo⟩ := HG.out.2
   obtain ⟨j1, j2⟩ := hgo f t2 TF.out.1
   obtain ⟨F1_, F2_⟩ := fill27 H9.out (.int .i64 op) (.int .i64 0) (.string ⟨#[]⟩) (.int .i64 0) (.slice (some ⟨gk2, 0, none⟩) 2 2) _ rfl
   have K1 := Aside0.mk (HS.out.only H9.out (by decide) (by decide) (Nat.le_trans HSB.out G9.out) F2_)
   have K2 := Aside0.mk (HK.out.only G9.out F2_)
   have K3 := Aside0.mk ((F2_.block g8 N8_9.out).trans H8.out)
   have K4 := Aside0.mk F1_
   have K5 := Aside0.mk (F.only RR.out F2_ (Or.inr rfl))
   have K6 := Aside0.mk j1
   have K7 := Aside0.mk (show ∀ y u, _ → Step s (listP E t op one s.i) y u from fun y u q => HC.out y u (j2 y u q))
   have K8 := Aside0.mk (show s.i ≤ t2.i ∧ t2.ps = s.ps from ⟨Nat.le_trans HLE.out.1 (Nat.le_trans (Nat.le_succ _) TF.out.2.1), TF.out.2.2.trans HLE.out.2⟩)
   have HM := Aside0.mk hm
   clear hgo j1 j2 F1_ F2_ HG HC HLE TF RR RF Ry HS HK H8 H9 hm hgk
   go_roundg m
   case measure => rw [HM.out]; exact Nat.lt_succ_self _
   case rel => exact ⟨t2, ⟨op, 0, ⟨#[]⟩, 0, [y, f]⟩, some ⟨gk2, 0, none⟩, 2, K1, K2, K3, K4, Nat.le_refl 2, K5, K6, K7, K8⟩
def listT86.T3 : Bool × List (List Nat × List Nat) := (true, [([], []), ([], []), ([], []), ([2], [2]), ([1, 3], [1, 3]), ([0, 4], [0, 4]), ([5, 3, 0, 1, 2, 3, 4, 5], [5])])
def listT86.B3 : List Nat := [0, 0, 0, 4, 14, 31, 63]
theorem listT86.tab3 : rtab .any (opsOf Try.f85 3) = listT86.T3 := by kernel_rfl
theorem listT86.bits3 : waitsOk listT86.T3.2 listT86.B3 = true := by kernel_rfl
set_option maxHeartbeats 8000000 in
set_option maxRecDepth 100000 in
theorem list_both (E : Env) (t : ByteArray) (op : Int) (one : Nat → Res S27) (IH : FullC E 86 one) (s : Cs) (w : World) (h : ST E s w) (hn : Ne s (listP E t op one s.i)) : Calls Try.prog 85 #[.pointer (some ⟨E.g, 0, none⟩), .string t, .int .i64 op, .func (.func 86) #[.pointer (some ⟨E.g, 0, none⟩)] #[]] w (Got E s w (listP E t op one s.i) (VC E w)) := by
 have HN := Aside0.mk hn
 have HIH := Aside0.mk IH
 clear hn IH
 have HSB := Aside0.mk (show E.w0.heap.size ≤ w.heap.size from h.below.size)
 have HS := Aside0.mk h
 have HK := Aside0.mk (KP.refl E w)
 clear h
 go_enter Try.func85, Try.ntmps85
 go_wp2_with ((with_reducible refine gate_dst (N := 8) rfl ?_); refine bbX (N := 8) z27v 27 ?hr ?_; (case hr => first | (go_simp; done) | (go_simp; rfl)); intro g8 hg_ w8 hbox_ hq_; have G8 := Aside0.mk (show w.heap.size ≤ g8 from zQGq1); have H8 := Aside0.mk hbox_; replace HK := kkB HK hq_; replace HS := ssM HS hq_; clear hg_ hbox_ hq_)
 have hW := HIH.out s _ HS.out (Ne.first HN.out)
 have Lx := Aside0.mk (And.intro HK.out.2 (blk_lt H8.out))
 refine hW.mono ?_
 clear hW
 rintro e wx ⟨x, vx, tx, rfl, ⟨Ax, cx, rfl, lx, rx⟩, q1, qk, hst, hti, hps⟩
 have Tx := Aside0.mk (And.intro hst (And.intro hti hps))
 clear hst hti hps
 replace H8 := mvK qk HS H8
 replace HK := kkT HK qk
 replace HS := Aside0.mk q1
 clear q1 qk
 have Rx := Aside0.mk rx
 clear rx
 go_wp2_with ((with_reducible refine gate_dst (N := 9) rfl ?_); refine bbX (N := 9) z27v 27 ?hr ?_; (case hr => first | (go_simp; done) | (go_simp; rfl)); intro g9 hg_ w9 hbox_ hq_; obtain ⟨z0_, f0_, z1_, f1_, z2_, f2_, z3_, f3_, z4_, f4_⟩ := cf5 hbox_)
 obtain ⟨F1_, F2_⟩ := fill27 hbox_ (.int .i64 x.f0) (.int .i64 x.f1) (.string x.f2) (.int .i64 x.f3) (.slice Ax x.f4.length cx) _ rfl
 replace hq_ := hq_.trans (F2_.below.mono (Nat.le_of_eq hg_.out.symm))
 have G9 := Aside0.mk (show w.heap.size ≤ g9 from zQGq1)
 have N8_9 := Aside0.mk (ne_new H8.out hg_.out); have LT8_9 := Aside0.mk (lt_new H8.out hg_.out)
 clear F2_ hbox_ z0_ f0_ z1_ f1_ z2_ f2_ z3_ f3_ z4_ f4_
 generalize ((((w9.setCell ⟨g9, 0, none⟩ (.int .i64 x.f0)).setCell ⟨g9, 1, none⟩ (.int .i64 x.f1)).setCell ⟨g9, 2, none⟩ (.string x.f2)).setCell ⟨g9, 3, none⟩ (.int .i64 x.f3)).setCell ⟨g9, 4, none⟩ (.slice Ax x.f4.length cx) = v9 at F1_ hq_ ⊢
 have H9 := Aside0.mk F1_
 replace Rx := Aside0.mk (F.lower (F.skip Rx.out (Nat.le_of_eq hg_.out.symm)) Lx.out.2)
 replace H8 := mvB hq_ H8
 replace Rx := ffB Rx hq_
 replace HK := kkB HK hq_
 replace HS := ssM HS hq_
 clear F1_ hq_ hg_
 go_loopg [] (E.ts.length + 1) (fun kq w' => ∃ (sc : Cs) (x : S27) (A : Option Addr) (c : Nat), Aside0 (ST E sc w') ∧ Aside0 (KP E w w') ∧ Aside0 (w'.heap[g8]? = some (.cells z27v 27 (0, 0))) ∧ Aside0 (w'.heap[g9]? = some (.cells #[.int .i64 x.f0, .int .i64 x.f1, .string x.f2, .int .i64 x.f3, .slice A x.f4.length c] 27 (0, 0))) ∧ x.f4.length ≤ c ∧ Aside0 (Kd.F k27 w' (GD E g9 (g8 + 1) w') A x.f4.length x.f4) ∧ Aside0 (Ne sc (listL E t op one kq x sc.i)) ∧ Aside0 (∀ y u, Step sc (listL E t op one kq x sc.i) y u → Step s (listP E t op one s.i) y u) ∧ Aside0 (s.i ≤ sc.i ∧ sc.ps = s.ps))
 case atStart => exact ⟨tx, x, Ax, cx, HS, HK, H8, H9, lx, Rx, ⟨Ne.next HN.out Tx.out.1⟩, ⟨fun y u q => Tx.out.1.bind q⟩, ⟨Tx.out.2⟩⟩
 case round =>
  clear HS HK H8 H9 Rx Tx Lx lx
  obtain ⟨sc, y, Ay, cy, HS, HK, H8, H9, ly, Ry, HNe, HC, HLE⟩ := hrel
  go_wp2_with (fail)
  cases hB : isB E sc t with
  | false =>
   have HF := Aside0.mk hB
   have hW := took_c E sc t _ HS.out false hB
   refine hW.mono ?_
   clear hW hB
   rintro e wt ⟨rfl, q1, qk⟩
   replace q1 : ST E sc wt := q1
   replace H8 := mvK qk HS H8
   replace H9 := mvK qk HS H9
   replace Ry := ffK Ry qk
   replace HK := kkT HK qk
   replace HS := Aside0.mk q1
   clear q1 qk
   obtain ⟨z9_0, z9_1, z9_2, z9_3, z9_4⟩ := cn5 H9.out
   obtain ⟨z8_0, f8_0, z8_1, f8_1, z8_2, f8_2, z8_3, f8_3, z8_4, f8_4⟩ := cf5 H8.out
   go_wp2
   refine fin27 H8.out (fun _ F1_ F2_ => ?_)
   exact ⟨y, _, sc, rfl, ⟨Ay, cy, rfl, ly, F.any (F.lower (F.only Ry.out F2_ (Or.inl (Nat.lt_succ_self _))) (Nat.le_succ_of_le G8.out))⟩, HS.out.only H8.out (by decide) (by decide) (Nat.le_trans HSB.out G8.out) F2_, HK.out.only G8.out F2_, HC.out _ _ (list_stop HNe.out HF.out), HLE.out.1, HLE.out.2⟩
  | true =>
   obtain ⟨hbad, _⟩ := is_ok hB
   have HE := Aside0.mk (isB_good hbad _ hB)
   have HBD := Aside0.mk hbad
   have hW := took_c E sc t _ HS.out true hB
   refine hW.mono ?_
   clear hW hB hbad
   rintro e wt ⟨rfl, q1, qk⟩
   replace q1 : ST E ⟨sc.i + 1, false, sc.ps⟩ wt := by
    have e : tkS sc true = ⟨sc.i + 1, false, sc.ps⟩ := by
     unfold tkS
     rw [if_pos rfl, HBD.out]
    rw [← e]
    exact q1
   replace H8 := mvK qk HS H8
   replace H9 := mvK qk HS H9
   replace Ry := ffK Ry qk
   replace HK := kkT HK qk
   replace HS := Aside0.mk q1
   clear q1 qk
   have HG := Aside0.mk (list_go HBD.out HNe.out HE.out)
   clear HNe
   go_upto_region 3 with (fail)
   replace H8 := mvB (below_drew (Below.refl wt.heap.size wt)) H8
   replace H9 := mvB (below_drew (Below.refl wt.heap.size wt)) H9
   replace Ry := ffB Ry (below_drew (Below.refl wt.heap.size wt))
   replace HK := kkB HK (below_drew (Below.refl wt.heap.size wt))
   replace HS := ssM HS (below_drew (Below.refl wt.heap.size wt))
   refine start_ (n := 7) (S := fun w' => w'.cell? ⟨g9, 0, none⟩ = some (.int .i64 y.f0) ∧ w'.cell? ⟨g9, 1, none⟩ = some (.int .i64 y.f1) ∧ w'.cell? ⟨g9, 2, none⟩ = some (.string y.f2) ∧ w'.cell? ⟨g9, 3, none⟩ = some (.int .i64 y.f3) ∧ w'.cell? ⟨g9, 4, none⟩ = some (.slice Ay y.f4.length cy)) (ds := [6]) #[Z,Z,Z,Z,Z,Z,Z] (by kernel_rfl) rfl rfl ⟨(blk_celln H9.out 0 _ rfl), (blk_celln H9.out 1 _ rfl), (blk_celln H9.out 2 _ rfl), (blk_celln H9.out 3 _ rfl), (blk_celln H9.out 4 _ rfl)⟩ (fun hHeld => ?_)
   refine with_tabW listT86.tab3 listT86.bits3 (fun HT_ HW_ => ?_)
   generalize World.drew _ = wd at HS HK H8 H9 Ry hHeld ⊢
   refine ppU (i := 0) (N := some 15) #[Y,Z,Z,Z,Z,Z,Z] HT_ ?_
   refine take_ (i := 1) (N := some 16) (v := ?_) (a' := ?_) #[Y,Y,Z,Z,Z,Z,Z] rfl rfl (take_ofW HT_.out HW_.out (by kernel_rfl)) (fun _ _ _ h => h) (Or.inl ⟨by rfl, ?_⟩) hHeld ?_ ?_
   rotate_left
   ·rintro w' ⟨s0, s1, s2, s3, s4⟩
    go_simp
    with_reducible rfl
   rotate_left
   ·simp only [Act.put, pA, pB, pC, i64_w, i32_w]
    rfl
   refine ppU (i := 2) (N := some 17) #[Y,Y,Y,Z,Z,Z,Z] HT_ ?_
   refine one_ (i := 3) (N := some 18) #[Y,Y,Y,Y,Z,Z,Z] rfl rfl (one_of HT_.out (by kernel_rfl)) (by decide) (fun K hK => ?_)
   refine goesM_ Try.func86 (by kernel_rfl) rfl (by rfl) rfl rfl rfl ?_
   have hW := HIH.out ⟨sc.i + 1, false, sc.ps⟩ _ HS.out (fun _ => HG.out.1)
   refine hW.mono ?_
   clear hW
   rintro e wc ⟨f, vf, t2, rfl, ⟨Af, cf, rfl, lf, rf⟩, q1, qk, hst, hti, hps⟩
   have RF := Aside0.mk (F.lower (F.free rf (show g9 < _ from blk_lt H9.out)) (show g8 + 1 ≤ _ from blk_lt H8.out))
   clear rf
   have TF := Aside0.mk (And.intro hst (And.intro hti hps))
   clear hst hti hps
   replace H8 := mvK qk HS H8
   replace H9 := mvK qk HS H9
   replace Ry := ffK Ry qk
   replace HK := kkT HK qk
   replace HS := Aside0.mk q1
   clear q1 qk
   refine ⟨_, rfl, ?_⟩
   refine hK.out _ _ ⟨(blk_celln H9.out 0 _ rfl), (blk_celln H9.out 1 _ rfl), (blk_celln H9.out 2 _ rfl), (blk_celln H9.out 3 _ rfl), (blk_celln H9.out 4 _ rfl)⟩ (fun hHeld => ?_)
   clear hK K
   refine norm_ (a' := ?_) ?_ ?_
   rotate_left
   ·show Act.put _ (some 18) _ = _
    simp only [Act.put, pA, pB, pC, i64_w, i32_w]
    rfl
   refine one_ (i := 4) (N := some 19) #[Y,Y,Y,Y,Y,Z,Z] rfl rfl (one_of HT_.out (by kernel_rfl)) (by decide) (fun K hK => ?_)
   refine lit_step ?hg (N := 19) ?hd (n := 2) (cs := ⟨[.int .i64 y.f0, .int .i64 y.f1, .string y.f2, .int .i64 y.f3, .slice Ay y.f4.length cy] ++ [.int .i64 f.f0, .int .i64 f.f1, .string f.f2, .int .i64 f.f3, .slice Af f.f4.length cf]⟩) (t := 27) ?hr ?_; (case hd => rfl); (case hg => rfl); (case hr => first | (go_simp; done) | (go_simp; rfl))
   intro gk2 hg_ w9 hbox_ hq_
   have hgk := Aside0.mk (show g9 < gk2 ∧ g8 < gk2 from ⟨by rw [hg_]; exact blk_lt H9.out, by rw [hg_]; exact blk_lt H8.out⟩)
   replace H8 := mvB hq_ H8
   replace H9 := mvB hq_ H9
   replace Ry := ffB Ry hq_
   replace RF := ffB RF hq_
   replace HK := kkB HK hq_
   replace HS := ssM HS hq_
   have RR := Aside0.mk (F.two hbox_ (GD.at hbox_ HS.out hgk.out.2 (Nat.ne_of_gt hgk.out.1) (by decide) (by decide)) (FK27 ly Ry.out) (FK27 lf RF.out))
   clear hg_ hbox_ hq_
   refine hK.out _ _ ⟨(blk_celln H9.out 0 _ rfl), (blk_celln H9.out 1 _ rfl), (blk_celln H9.out 2 _ rfl), (blk_celln H9.out 3 _ rfl), (blk_celln H9.out 4 _ rfl)⟩ (fun hHeld => ?_)
   clear hK K
   refine norm_ (a' := ?_) ?_ ?_
   rotate_left
   ·show Act.put _ (some 19) _ = _
    simp only [Act.put, pA, pB, pC, i64_w, i32_w]
    rfl
   refine ppU (i := 5) (N := some 20) #[Y,Y,Y,Y,Y,Y,Z] HT_ ?_
   refine last_ (i := 6) (N := none) #[Y,Y,Y,Y,Y,Y,Y] rfl rfl (one_of HT_.out (by kernel_rfl)) (by decide) (fun K hK => ?_)
   obtain ⟨se0, sf0, se1, sf1, se2, sf2, se3, sf3, se4, sf4⟩ := cf5 H9.out
   refine skip_ (w1 := ?_) (by rfl) rfl ?_ ?_
   rotate_left
   ·go_simp
    rfl
   refine hK.out _ _ ?_
   clear hK K
   refine done_ (done_of HT_.out (by kernel_rfl)) ?_
   clear hHeld
   go_wp2
   obtain ⟨m, hm, hgo⟩ := HG.out.2
   obtain ⟨j1, j2⟩ := hgo f t2 TF.out.1
   obtain ⟨F1_, F2_⟩ := fill27 H9.out (.int .i64 op) (.int .i64 0) (.string ⟨#[]⟩) (.int .i64 0) (.slice (some ⟨gk2, 0, none⟩) 2 2) _ rfl
   have K1 := Aside0.mk (HS.out.only H9.out (by decide) (by decide) (Nat.le_trans HSB.out G9.out) F2_)
   have K2 := Aside0.mk (HK.out.only G9.out F2_)
   have K3 := Aside0.mk ((F2_.block g8 N8_9.out).trans H8.out)
   have K4 := Aside0.mk F1_
   have K5 := Aside0.mk (F.only RR.out F2_ (Or.inr rfl))
   have K6 := Aside0.mk j1
   have K7 := Aside0.mk (show ∀ y u, _ → Step s (listP E t op one s.i) y u from fun y u q => HC.out y u (j2 y u q))
   have K8 := Aside0.mk (show s.i ≤ t2.i ∧ t2.ps = s.ps from ⟨Nat.le_trans HLE.out.1 (Nat.le_trans (Nat.le_succ _) TF.out.2.1), TF.out.2.2.trans HLE.out.2⟩)
   have HM := Aside0.mk hm
   clear hgo j1 j2 F1_ F2_ HG HC HLE TF RR RF Ry HS HK H8 H9 hm hgk
   go_roundg m
   case measure => rw [HM.out]; exact Nat.lt_succ_self _
   case rel => exact ⟨t2, ⟨op, 0, ⟨#[]⟩, 0, [y, f]⟩, some ⟨gk2, 0, none⟩, 2, K1, K2, K3, K4, Nat.le_refl 2, K5, K6, K7, K8⟩
set_option maxHeartbeats 8000000 in
set_option maxRecDepth 100000 in
theorem both_c (E : Env) (one : Nat → Res S27) (IH : FullC E 99 one) : FullC E 86 (fun i => listP E ⟨#[97, 110, 100]⟩ 4 one i) := by
 intro s w h hn
 have HN := Aside0.mk hn
 have HIH := Aside0.mk IH
 clear hn IH
 have HSB := Aside0.mk (show E.w0.heap.size ≤ w.heap.size from h.below.size)
 have HS := Aside0.mk h
 have HK := Aside0.mk (KP.refl E w)
 clear h
 go_enter Try.func86, Try.ntmps86
 go_wp2_with ((with_reducible refine gate_dst (N := 2) rfl ?_); refine bbX (N := 2) z27v 27 ?hr ?_; (case hr => first | (go_simp; done) | (go_simp; rfl)); intro g2 hg_ w2 hbox_ hq_; have G2 := Aside0.mk (show w.heap.size ≤ g2 from zQGq1); have H2 := Aside0.mk hbox_; replace HK := kkB HK hq_; replace HS := ssM HS hq_; clear hg_ hbox_ hq_)
 have hW := list_one E ⟨#[97, 110, 100]⟩ 4 one HIH.out s _ HS.out HN.out
 have Lx := Aside0.mk (And.intro HK.out.2 (blk_lt H2.out))
 refine hW.mono ?_
 clear hW
 rintro e wx ⟨x, vx, tx, rfl, ⟨Ax, cx, rfl, lx, rx⟩, q1, qk, hst, hti, hps⟩
 have Tx := Aside0.mk (And.intro hst (And.intro hti hps))
 clear hst hti hps
 replace H2 := mvK qk HS H2
 replace HK := kkT HK qk
 replace HS := Aside0.mk q1
 clear q1 qk
 have Rx := Aside0.mk rx
 clear rx
 obtain ⟨z2_0, f2_0, z2_1, f2_1, z2_2, f2_2, z2_3, f2_3, z2_4, f2_4⟩ := cf5 H2.out
 go_wp2
 refine fin27 H2.out (fun _ F1_ F2_ => ?_)
 exact ⟨x, _, tx, rfl, ⟨Ax, cx, rfl, lx, (F.lower (F.only Rx.out F2_ (Or.inl Lx.out.2)) Lx.out.1)⟩, HS.out.only H2.out (by decide) (by decide) (Nat.le_trans HSB.out G2.out) F2_, HK.out.only G2.out F2_, Tx.out.1, Tx.out.2.1, Tx.out.2.2⟩
set_option maxHeartbeats 8000000 in
set_option maxRecDepth 100000 in
theorem cond_c (E : Env) (one : Nat → Res S27) (IH : FullC E 86 one) : FullC E 60 (fun i => listP E ⟨#[111, 114]⟩ 5 one i) := by
 intro s w h hn
 have HN := Aside0.mk hn
 have HIH := Aside0.mk IH
 clear hn IH
 have HSB := Aside0.mk (show E.w0.heap.size ≤ w.heap.size from h.below.size)
 have HS := Aside0.mk h
 have HK := Aside0.mk (KP.refl E w)
 clear h
 go_enter Try.func60, Try.ntmps60
 go_wp2_with ((with_reducible refine gate_dst (N := 2) rfl ?_); refine bbX (N := 2) z27v 27 ?hr ?_; (case hr => first | (go_simp; done) | (go_simp; rfl)); intro g2 hg_ w2 hbox_ hq_; have G2 := Aside0.mk (show w.heap.size ≤ g2 from zQGq1); have H2 := Aside0.mk hbox_; replace HK := kkB HK hq_; replace HS := ssM HS hq_; clear hg_ hbox_ hq_)
 have hW := list_both E ⟨#[111, 114]⟩ 5 one HIH.out s _ HS.out HN.out
 have Lx := Aside0.mk (And.intro HK.out.2 (blk_lt H2.out))
 refine hW.mono ?_
 clear hW
 rintro e wx ⟨x, vx, tx, rfl, ⟨Ax, cx, rfl, lx, rx⟩, q1, qk, hst, hti, hps⟩
 have Tx := Aside0.mk (And.intro hst (And.intro hti hps))
 clear hst hti hps
 replace H2 := mvK qk HS H2
 replace HK := kkT HK qk
 replace HS := Aside0.mk q1
 clear q1 qk
 have Rx := Aside0.mk rx
 clear rx
 obtain ⟨z2_0, f2_0, z2_1, f2_1, z2_2, f2_2, z2_3, f2_3, z2_4, f2_4⟩ := cf5 H2.out
 go_wp2
 refine fin27 H2.out (fun _ F1_ F2_ => ?_)
 exact ⟨x, _, tx, rfl, ⟨Ax, cx, rfl, lx, (F.lower (F.only Rx.out F2_ (Or.inl Lx.out.2)) Lx.out.1)⟩, HS.out.only H2.out (by decide) (by decide) (Nat.le_trans HSB.out G2.out) F2_, HK.out.only G2.out F2_, Tx.out.1, Tx.out.2.1, Tx.out.2.2⟩
set_option maxHeartbeats 8000000 in
set_option maxRecDepth 100000 in
theorem one_c (E : Env) (one : Nat → Res S27) (IH : GoodC E 99 one) (IH2 : GoodC E 60 (condQ E one)) (s : Cs) (w : World) (h : ST E s w) (hn : Ne s (oneP E one s.i)) : Calls Try.prog 99 #[.pointer (some ⟨E.g, 0, none⟩)] w (Got E s w (oneP E one s.i) (VC E w)) := by
 have HN := Aside0.mk hn
 have HIH := Aside0.mk IH
 have HIH2 := Aside0.mk IH2
 clear hn IH IH2
 have HSB := Aside0.mk (show E.w0.heap.size ≤ w.heap.size from h.below.size)
 have HS := Aside0.mk h
 have HK := Aside0.mk (KP.refl E w)
 clear h
 go_enter Try.func99, Try.ntmps99
 go_wp2_with ((with_reducible refine gate_dst (N := 2) rfl ?_); refine bbX (N := 2) z27v 27 ?hr ?_; (case hr => first | (go_simp; done) | (go_simp; rfl)); intro g2 hg_ w2 hbox_ hq_; have G2 := Aside0.mk (show w.heap.size ≤ g2 from zQGq1); have H2 := Aside0.mk hbox_; replace HK := kkB HK hq_; replace HS := ssM HS hq_; clear hg_ hbox_ hq_)
 cases hB : isB E s ⟨#[110, 111, 116]⟩ with
 | true =>
  obtain ⟨hbad, _⟩ := is_ok hB
  have HE := Aside0.mk (isB_good hbad _ hB)
  have HBD := Aside0.mk hbad
  have hW := took_c E s ⟨#[110, 111, 116]⟩ _ HS.out true hB
  refine hW.mono ?_
  clear hW hB hbad
  rintro e wt ⟨rfl, q1, qk⟩
  replace q1 : ST E ⟨s.i + 1, false, s.ps⟩ wt := by
   have e : tkS s true = ⟨s.i + 1, false, s.ps⟩ := by
    unfold tkS
    rw [if_pos rfl, HBD.out]
   rw [← e]
   exact q1
  replace H2 := mvK qk HS H2
  replace HK := kkT HK qk
  replace HS := Aside0.mk q1
  clear q1 qk
  have HQ := Aside0.mk (show oneP E one s.i = (one (s.i + 1)).bind fun x j => .ok ⟨3, 0, ⟨#[]⟩, 0, [x]⟩ j [] from by unfold oneP; rw [if_pos HE.out])
  go_wp2_with (fail)
  have hW := HIH.out ⟨s.i + 1, false, s.ps⟩ _ HS.out rfl (by have := HN.out HBD.out; rw [HQ.out] at this; exact bind_out this)
  have Lx := Aside0.mk (And.intro HK.out.2 (blk_lt H2.out))
  refine hW.mono ?_
  clear hW
  rintro e wx ⟨x, vx, tx, rfl, ⟨Ax, cx, rfl, lx, rx⟩, q1, qk, hst, hti, hps⟩
  have Tx := Aside0.mk (And.intro hst (And.intro hti hps))
  clear hst hti hps
  replace H2 := mvK qk HS H2
  replace HK := kkT HK qk
  replace HS := Aside0.mk q1
  clear q1 qk
  have Rx := Aside0.mk rx
  clear rx
  replace Rx := Aside0.mk (F.lower Rx.out (show g2 + 1 ≤ _ from Lx.out.2))
  go_wp2_with ((with_reducible refine gate_dst (N := 10) rfl ?_); refine lit_event ?hg (N := 10) ?hd (n := 1) (cs := ⟨[.int .i64 x.f0, .int .i64 x.f1, .string x.f2, .int .i64 x.f3, .slice Ax x.f4.length cx]⟩) (t := 27) ?hr ?_; (case hd => rfl); (case hg => rfl); (case hr => first | (go_simp; done) | (go_simp; rfl)); intro gk hg_ w9 hbox_ hq_; have hgk := Aside0.mk (show g2 < gk from by rw [hg_]; exact blk_lt H2.out); replace H2 := mvB hq_ H2; replace Rx := ffB Rx hq_; replace HK := kkB HK hq_; replace HS := ssM HS hq_; have RR := Aside0.mk (F.one hbox_ (GD.at hbox_ HS.out hgk.out (HS.out.ne hbox_ (by decide)) (by decide) (by decide)) (FK27 lx Rx.out)); have zz2 := blk_celln H2.out 0 _ rfl; have zz3 := blk_frozen H2.out 0; have z2_0 := blk_celln H2.out 0 _ rfl; have f2_0 := blk_frozen H2.out 0; have z2_1 := blk_celln H2.out 1 _ rfl; have f2_1 := blk_frozen H2.out 1; have z2_2 := blk_celln H2.out 2 _ rfl; have f2_2 := blk_frozen H2.out 2; have z2_3 := blk_celln H2.out 3 _ rfl; have f2_3 := blk_frozen H2.out 3; have z2_4 := blk_celln H2.out 4 _ rfl; have f2_4 := blk_frozen H2.out 4; clear hg_ hbox_ hq_)
  go_wp2
  refine fin27 H2.out (fun _ F1_ F2_ => ?_)
  exact ⟨⟨3, 0, ⟨#[]⟩, 0, [x]⟩, _, tx, rfl, ⟨some ⟨gk, 0, none⟩, 1, rfl, Nat.le_refl 1, F.lower (F.only RR.out F2_ (Or.inl (Nat.lt_succ_self _))) (Nat.le_succ_of_le G2.out)⟩, HS.out.only H2.out (by decide) (by decide) (Nat.le_trans HSB.out G2.out) F2_, HK.out.only G2.out F2_, (by rw [HQ.out]; exact Step.at HBD.out (Tx.out.1.bind (Step.pure tx _))), Nat.le_trans (Nat.le_succ _) Tx.out.2.1, Tx.out.2.2⟩
 | false =>
  have HF1 := Aside0.mk hB
  have hW := took_c E s ⟨#[110, 111, 116]⟩ _ HS.out false hB
  refine hW.mono ?_
  clear hW hB
  rintro e wt ⟨rfl, q1, qk⟩
  replace q1 : ST E s wt := q1
  replace H2 := mvK qk HS H2
  replace HK := kkT HK qk
  replace HS := Aside0.mk q1
  clear q1 qk
  go_wp2_with (fail)
  cases hB : isB E s ⟨#[40]⟩ with
  | true =>
   obtain ⟨hbad, _⟩ := is_ok hB
   have HE := Aside0.mk (isB_good hbad _ hB)
   have HBD := Aside0.mk hbad
   have hW := took_c E s ⟨#[40]⟩ _ HS.out true hB
   refine hW.mono ?_
   clear hW hB hbad
   rintro e wu ⟨rfl, q1, qk⟩
   replace q1 : ST E ⟨s.i + 1, false, s.ps⟩ wu := by
    have e : tkS s true = ⟨s.i + 1, false, s.ps⟩ := by
     unfold tkS
     rw [if_pos rfl, HBD.out]
    rw [← e]
    exact q1
   replace H2 := mvK qk HS H2
   replace HK := kkT HK qk
   replace HS := Aside0.mk q1
   clear q1 qk
   have HQ := Aside0.mk (show oneP E one s.i = (condQ E one (s.i + 1)).bind fun x j => (mustP E ⟨#[41]⟩ j).bind fun _ l => .ok x l [] from by unfold oneP; rw [if_neg (by rw [isB_good HBD.out _ HF1.out]; decide), if_pos HE.out])
   go_wp2_with (fail)
   have hW := HIH2.out ⟨s.i + 1, false, s.ps⟩ _ HS.out rfl (by have := HN.out HBD.out; rw [HQ.out] at this; exact bind_out this)
   have Lx := Aside0.mk (And.intro HK.out.2 (blk_lt H2.out))
   refine hW.mono ?_
   clear hW
   rintro e wx ⟨x, vx, tx, rfl, ⟨Ax, cx, rfl, lx, rx⟩, q1, qk, hst, hti, hps⟩
   have Tx := Aside0.mk (And.intro hst (And.intro hti hps))
   clear hst hti hps
   replace H2 := mvK qk HS H2
   replace HK := kkT HK qk
   replace HS := Aside0.mk q1
   clear q1 qk
   have Rx := Aside0.mk rx
   clear rx
   go_upto_region 5 with (first | ((with_reducible refine gate_dst (N := 3) rfl ?_); refine bbX (N := 3) z27v 27 ?hr ?_; (case hr => first | (go_simp; done) | (go_simp; rfl)); intro g3 hg_ w3 hbox_ hq_; obtain ⟨z0_, f0_, z1_, f1_, z2_, f2_, z3_, f3_, z4_, f4_⟩ := cf5 hbox_))
   obtain ⟨F1_, F2_⟩ := fill27 hbox_ (.int .i64 x.f0) (.int .i64 x.f1) (.string x.f2) (.int .i64 x.f3) (.slice Ax x.f4.length cx) _ rfl
   replace hq_ := hq_.trans (F2_.below.mono (Nat.le_of_eq hg_.out.symm))
   have G3 := Aside0.mk (show w.heap.size ≤ g3 from zQGq1)
   have N2_3 := Aside0.mk (ne_new H2.out hg_.out); have LT2_3 := Aside0.mk (lt_new H2.out hg_.out)
   clear hg_ hbox_ F2_ z0_ f0_ z1_ f1_ z2_ f2_ z3_ f3_ z4_ f4_
   generalize ((((w3.setCell ⟨g3, 0, none⟩ (.int .i64 x.f0)).setCell ⟨g3, 1, none⟩ (.int .i64 x.f1)).setCell ⟨g3, 2, none⟩ (.string x.f2)).setCell ⟨g3, 3, none⟩ (.int .i64 x.f3)).setCell ⟨g3, 4, none⟩ (.slice Ax x.f4.length cx) = v3 at F1_ hq_ ⊢
   have H3 := Aside0.mk F1_
   replace H2 := mvB hq_ H2
   replace Rx := ffB Rx hq_
   replace HK := kkB HK hq_
   replace HS := ssM HS hq_
   clear F1_ hq_
   go_wp2_with (fail)
   have hW := must_c E tx ⟨#[41]⟩ _ HS.out
   refine hW.mono ?_
   clear hW
   rintro e wd ⟨_, vy, ty, rfl, rfl, q1, qk, hst, hti, hps⟩
   have TY := Aside0.mk (And.intro hst (And.intro hti hps))
   clear hst hti hps
   replace H2 := mvK qk HS H2
   replace H3 := mvK qk HS H3
   replace Rx := ffK Rx qk
   replace HK := kkT HK qk
   replace HS := Aside0.mk q1
   clear q1 qk
   obtain ⟨z3_0, z3_1, z3_2, z3_3, z3_4⟩ := cn5 H3.out
   obtain ⟨z2_0, f2_0, z2_1, f2_1, z2_2, f2_2, z2_3, f2_3, z2_4, f2_4⟩ := cf5 H2.out
   go_wp2
   refine fin27 H2.out (fun _ F1_ F2_ => ?_)
   exact ⟨x, _, ty, rfl, ⟨Ax, cx, rfl, lx, (F.lower (F.only Rx.out F2_ (Or.inl Lx.out.2)) Lx.out.1)⟩, HS.out.only H2.out (by decide) (by decide) (Nat.le_trans HSB.out G2.out) F2_, HK.out.only G2.out F2_, (by rw [HQ.out]; exact Step.at HBD.out (Tx.out.1.bind (TY.out.1.bind (Step.pure ty x)))), Nat.le_trans (Nat.le_succ _) (Nat.le_trans Tx.out.2.1 TY.out.2.1), TY.out.2.2.trans Tx.out.2.2⟩
  | false =>
   have HF2 := Aside0.mk hB
   have hW := took_c E s ⟨#[40]⟩ _ HS.out false hB
   refine hW.mono ?_
   clear hW hB
   rintro e wu ⟨rfl, q1, qk⟩
   replace q1 : ST E s wu := q1
   replace H2 := mvK qk HS H2
   replace HK := kkT HK qk
   replace HS := Aside0.mk q1
   clear q1 qk
   go_upto_region 8 with (first | ((with_reducible refine gate_dst (N := 4) rfl ?_); refine bbX (N := 4) z27v 27 ?hr ?_; (case hr => first | (go_simp; done) | (go_simp; rfl)); intro g4 hg_ w4 hbox_ hq_; obtain ⟨z0_, f0_, z1_, f1_, z2_, f2_, z3_, f3_, z4_, f4_⟩ := cf5 hbox_))
   obtain ⟨F1_, F2_⟩ := fill27 hbox_ (.int .i64 1) (.int .i64 0) (.string ⟨#[]⟩) (.int .i64 0) (.slice none 0 0) _ rfl
   replace hq_ := hq_.trans (F2_.below.mono (Nat.le_of_eq hg_.out.symm))
   have G4 := Aside0.mk (show w.heap.size ≤ g4 from zQGq1)
   have N2_4 := Aside0.mk (ne_new H2.out hg_.out); have LT2_4 := Aside0.mk (lt_new H2.out hg_.out)
   clear hg_ hbox_ F2_ z0_ f0_ z1_ f1_ z2_ f2_ z3_ f3_ z4_ f4_
   generalize ((((w4.setCell ⟨g4, 0, none⟩ (.int .i64 1)).setCell ⟨g4, 1, none⟩ (.int .i64 0)).setCell ⟨g4, 2, none⟩ (.string ⟨#[]⟩)).setCell ⟨g4, 3, none⟩ (.int .i64 0)).setCell ⟨g4, 4, none⟩ (.slice none 0 0) = v4 at F1_ hq_ ⊢
   have H4 := Aside0.mk F1_
   replace H2 := mvB hq_ H2
   replace HK := kkB HK hq_
   replace HS := ssM HS hq_
   clear F1_ hq_
   go_wp2_with (fail)
   have hW := isNumber_c E s _ HS.out
   refine hW.mono ?_
   clear hW
   rintro e wv ⟨rfl, qb⟩
   replace H2 := mvB qb H2
   replace H4 := mvB qb H4
   replace HK := kkB HK qb
   replace HS := ssM HS qb
   clear qb
   cases hB : nuB E s with
   | true =>
    have HB := Aside0.mk hB
    clear hB
    go_wp2_with (fail)
    have hW := number_c E s _ HS.out
    refine hW.mono ?_
    clear hW
    rintro e wh ⟨h, vh, th, rfl, rfl, q1, qk, hst, hti, hps⟩
    have Th := Aside0.mk (And.intro hst (And.intro hti hps))
    clear hst hti hps
    replace H2 := mvK qk HS H2
    replace H4 := mvK qk HS H4
    replace HK := kkT HK qk
    replace HS := Aside0.mk q1
    clear q1 qk
    obtain ⟨z4_0, f4_0, z4_1, f4_1, z4_2, f4_2, z4_3, f4_3, z4_4, f4_4⟩ := cf5 H4.out
    go_upto_region 10 with (fail)
    obtain ⟨F1_, F2_⟩ := set2 H4.out 0 1 (.int .i64 2) (.int .i64 h) (cs' := #[.int .i64 2, .int .i64 h, .string ⟨#[]⟩, .int .i64 0, .slice none 0 0]) rfl
    generalize hW_ : World.setCell (World.setCell _ ⟨g4, 0, none⟩ (.int .i64 2)) ⟨g4, 1, none⟩ (.int .i64 h) = wq at F1_ F2_ ⊢
    clear hW_
    replace HS := ssO HS H4 HSB G4 F2_
    replace HK := kkO HK G4 F2_
    replace H2 := Aside0.mk ((F2_.block g2 (N2_4.out)).trans H2.out)
    replace H4 := Aside0.mk F1_
    clear F1_ F2_
    clear z4_0 f4_0 z4_1 f4_1 z4_2 f4_2 z4_3 f4_3 z4_4 f4_4
    go_wp2_with (fail)
    have hW := must_c E th ⟨#[58]⟩ _ HS.out
    refine hW.mono ?_
    clear hW
    rintro e wk ⟨k, vk, tk, rfl, rfl, q1, qk, hst, hti, hps⟩
    have Tk := Aside0.mk (And.intro hst (And.intro hti hps))
    clear hst hti hps
    replace H2 := mvK qk HS H2
    replace H4 := mvK qk HS H4
    replace HK := kkT HK qk
    replace HS := Aside0.mk q1
    clear q1 qk
    go_wp2_with (fail)
    have hW := name_c E tk _ HS.out
    refine hW.mono ?_
    clear hW
    rintro e wn ⟨n, vn, tn, rfl, rfl, q1, qk, hst, hti, hps⟩
    have Tn := Aside0.mk (And.intro hst (And.intro hti hps))
    clear hst hti hps
    replace H2 := mvK qk HS H2
    replace H4 := mvK qk HS H4
    replace HK := kkT HK qk
    replace HS := Aside0.mk q1
    clear q1 qk
    obtain ⟨z4_0, f4_0, z4_1, f4_1, z4_2, f4_2, z4_3, f4_3, z4_4, f4_4⟩ := cf5 H4.out
    go_upto_region 12 with (fail)
    obtain ⟨F1_, F2_⟩ := set1 H4.out 2 (.string n) (cs' := #[.int .i64 2, .int .i64 h, .string n, .int .i64 0, .slice none 0 0]) rfl
    generalize hW_ : World.setCell _ ⟨g4, 2, none⟩ (.string n) = wq at F1_ F2_ ⊢
    clear hW_
    replace HS := ssO HS H4 HSB G4 F2_
    replace HK := kkO HK G4 F2_
    replace H2 := Aside0.mk ((F2_.block g2 (N2_4.out)).trans H2.out)
    replace H4 := Aside0.mk F1_
    clear F1_ F2_
    clear z4_0 f4_0 z4_1 f4_1 z4_2 f4_2 z4_3 f4_3 z4_4 f4_4
    go_wp2_with (fail)
    have hW := must_c E tn ⟨#[61, 61]⟩ _ HS.out
    refine hW.mono ?_
    clear hW
    rintro e wq ⟨q, vq, tq, rfl, rfl, q1, qk, hst, hti, hps⟩
    have Tq := Aside0.mk (And.intro hst (And.intro hti hps))
    clear hst hti hps
    replace H2 := mvK qk HS H2
    replace H4 := mvK qk HS H4
    replace HK := kkT HK qk
    replace HS := Aside0.mk q1
    clear q1 qk
    go_wp2_with (fail)
    have hW := number_c E tq _ HS.out
    refine hW.mono ?_
    clear hW
    rintro e wm ⟨m, vm, tm, rfl, rfl, q1, qk, hst, hti, hps⟩
    have Tm := Aside0.mk (And.intro hst (And.intro hti hps))
    clear hst hti hps
    replace H2 := mvK qk HS H2
    replace H4 := mvK qk HS H4
    replace HK := kkT HK qk
    replace HS := Aside0.mk q1
    clear q1 qk
    obtain ⟨z4_0, f4_0, z4_1, f4_1, z4_2, f4_2, z4_3, f4_3, z4_4, f4_4⟩ := cf5 H4.out
    go_upto_region 14 with (fail)
    obtain ⟨F1_, F2_⟩ := set1 H4.out 3 (.int .i64 m) (cs' := #[.int .i64 2, .int .i64 h, .string n, .int .i64 m, .slice none 0 0]) rfl
    generalize hW_ : World.setCell _ ⟨g4, 3, none⟩ (.int .i64 m) = wq at F1_ F2_ ⊢
    clear hW_
    replace HS := ssO HS H4 HSB G4 F2_
    replace HK := kkO HK G4 F2_
    replace H2 := Aside0.mk ((F2_.block g2 (N2_4.out)).trans H2.out)
    replace H4 := Aside0.mk F1_
    clear F1_ F2_
    clear z4_0 f4_0 z4_1 f4_1 z4_2 f4_2 z4_3 f4_3 z4_4 f4_4
    obtain ⟨z4_0, z4_1, z4_2, z4_3, z4_4⟩ := cn5 H4.out
    obtain ⟨z2_0, f2_0, z2_1, f2_1, z2_2, f2_2, z2_3, f2_3, z2_4, f2_4⟩ := cf5 H2.out
    go_wp2
    refine fin27 H2.out (fun _ F1_ F2_ => ?_)
    exact ⟨⟨2, h, n, m, []⟩, _, tm, rfl, ⟨none, 0, rfl, Nat.le_refl 0, F.nil _ _ _ _ _⟩, HS.out.only H2.out (by decide) (by decide) (Nat.le_trans HSB.out G2.out) F2_, HK.out.only G2.out F2_, (Step.cast (Th.out.1.bind (Tk.out.1.bind (f := fun _ l => restP E 2 h l) (Tn.out.1.bind (Tq.out.1.bind (Tm.out.1.bind (Step.pure tm _)))))) (fun hbad => by have h1 := nu_ok HB.out; have h2 : decide ((E.tk s.i).f0 = 2) = true := (by have := HB.out; simp [nuB] at this; simp [this.2]); unfold oneP; rw [if_neg (by rw [isB_good hbad _ HF1.out]; decide), if_neg (by rw [isB_good hbad _ HF2.out]; decide), if_pos h2])), Nat.le_trans Th.out.2.1 (Nat.le_trans Tk.out.2.1 (Nat.le_trans Tn.out.2.1 (Nat.le_trans Tq.out.2.1 Tm.out.2.1))), Tm.out.2.2.trans (Tq.out.2.2.trans (Tn.out.2.2.trans (Tk.out.2.2.trans Th.out.2.2)))⟩
   | false =>
    have HB := Aside0.mk hB
    clear hB
    go_wp2_with (fail)
    have hW := name_c E s _ HS.out
    refine hW.mono ?_
    clear hW
    rintro e wn ⟨n, vn, tn, rfl, rfl, q1, qk, hst, hti, hps⟩
    have Tn := Aside0.mk (And.intro hst (And.intro hti hps))
    clear hst hti hps
    replace H2 := mvK qk HS H2
    replace H4 := mvK qk HS H4
    replace HK := kkT HK qk
    replace HS := Aside0.mk q1
    clear q1 qk
    obtain ⟨z4_0, f4_0, z4_1, f4_1, z4_2, f4_2, z4_3, f4_3, z4_4, f4_4⟩ := cf5 H4.out
    go_upto_region 12 with (fail)
    obtain ⟨F1_, F2_⟩ := set1 H4.out 2 (.string n) (cs' := #[.int .i64 1, .int .i64 0, .string n, .int .i64 0, .slice none 0 0]) rfl
    generalize hW_ : World.setCell _ ⟨g4, 2, none⟩ (.string n) = wq at F1_ F2_ ⊢
    clear hW_
    replace HS := ssO HS H4 HSB G4 F2_
    replace HK := kkO HK G4 F2_
    replace H2 := Aside0.mk ((F2_.block g2 (N2_4.out)).trans H2.out)
    replace H4 := Aside0.mk F1_
    clear F1_ F2_
    clear z4_0 f4_0 z4_1 f4_1 z4_2 f4_2 z4_3 f4_3 z4_4 f4_4
    go_wp2_with (fail)
    have hW := must_c E tn ⟨#[61, 61]⟩ _ HS.out
    refine hW.mono ?_
    clear hW
    rintro e wq ⟨q, vq, tq, rfl, rfl, q1, qk, hst, hti, hps⟩
    have Tq := Aside0.mk (And.intro hst (And.intro hti hps))
    clear hst hti hps
    replace H2 := mvK qk HS H2
    replace H4 := mvK qk HS H4
    replace HK := kkT HK qk
    replace HS := Aside0.mk q1
    clear q1 qk
    go_wp2_with (fail)
    have hW := number_c E tq _ HS.out
    refine hW.mono ?_
    clear hW
    rintro e wm ⟨m, vm, tm, rfl, rfl, q1, qk, hst, hti, hps⟩
    have Tm := Aside0.mk (And.intro hst (And.intro hti hps))
    clear hst hti hps
    replace H2 := mvK qk HS H2
    replace H4 := mvK qk HS H4
    replace HK := kkT HK qk
    replace HS := Aside0.mk q1
    clear q1 qk
    obtain ⟨z4_0, f4_0, z4_1, f4_1, z4_2, f4_2, z4_3, f4_3, z4_4, f4_4⟩ := cf5 H4.out
    go_upto_region 14 with (fail)
    obtain ⟨F1_, F2_⟩ := set1 H4.out 3 (.int .i64 m) (cs' := #[.int .i64 1, .int .i64 0, .string n, .int .i64 m, .slice none 0 0]) rfl
    generalize hW_ : World.setCell _ ⟨g4, 3, none⟩ (.int .i64 m) = wq at F1_ F2_ ⊢
    clear hW_
    replace HS := ssO HS H4 HSB G4 F2_
    replace HK := kkO HK G4 F2_
    replace H2 := Aside0.mk ((F2_.block g2 (N2_4.out)).trans H2.out)
    replace H4 := Aside0.mk F1_
    clear F1_ F2_
    clear z4_0 f4_0 z4_1 f4_1 z4_2 f4_2 z4_3 f4_3 z4_4 f4_4
    obtain ⟨z4_0, z4_1, z4_2, z4_3, z4_4⟩ := cn5 H4.out
    obtain ⟨z2_0, f2_0, z2_1, f2_1, z2_2, f2_2, z2_3, f2_3, z2_4, f2_4⟩ := cf5 H2.out
    go_wp2
    refine fin27 H2.out (fun _ F1_ F2_ => ?_)
    exact ⟨⟨1, 0, n, m, []⟩, _, tm, rfl, ⟨none, 0, rfl, Nat.le_refl 0, F.nil _ _ _ _ _⟩, HS.out.only H2.out (by decide) (by decide) (Nat.le_trans HSB.out G2.out) F2_, HK.out.only G2.out F2_, (Step.cast (r := restP E 1 0 s.i) (Tn.out.1.bind (Tq.out.1.bind (Tm.out.1.bind (Step.pure tm _)))) (fun hbad => by have h1 := HB.out; unfold nuB at h1; rw [hbad] at h1; unfold oneP; rw [if_neg (by rw [isB_good hbad _ HF1.out]; decide), if_neg (by rw [isB_good hbad _ HF2.out]; decide), if_neg (by simpa using h1)])), Nat.le_trans Tn.out.2.1 (Nat.le_trans Tq.out.2.1 Tm.out.2.1), Tm.out.2.2.trans (Tq.out.2.2.trans Tn.out.2.2)⟩
theorem one_all (E : Env) : ∀ k, FullC E 99 (oneF E k)
 | 0 => fun s w h hn => by
  have hb : s.bad = true := by
   cases hbad : s.bad with
   | true => rfl
   | false => exact absurd rfl (hn hbad)
  refine (one_c E (fun _ => .out) (fun _ _ _ _ h => absurd rfl h) (fun _ _ _ _ h => absurd rfl h) s w h (fun h => by rw [hb] at h; cases h)).mono ?_
  rintro e w' ⟨x, v, t, h1, h2, h3, h4, h5, h6, h7⟩
  obtain ⟨a, b⟩ := h5.1 hb
  exact ⟨x, v, t, h1, h2, h3, h4, Step.bad hb a b, h6, h7⟩
 | k + 1 => fun s w h hn => by
  have i1 := one_all E k
  exact one_c E (oneF E k) (fun s w h hb hne => i1 s w h (fun _ => hne)) (fun s w h hb hne => cond_c E (bothQ E (oneF E k)) (both_c E (oneF E k) i1) s w h (fun _ => hne)) s w h hn
theorem cond_all (E : Env) (k : Nat) : FullC E 60 (condQ E (oneF E k)) := cond_c E (bothQ E (oneF E k)) (both_c E (oneF E k) (one_all E k))
end Go.Proofs.Ytinnldfmbeafiaa.PA
