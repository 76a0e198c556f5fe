/- Expressions: what reading them comes to; joined, atom, sum, expr walked by hand. -/
import Derived.Test.YtinnldfmbeafiaaQD
namespace Go.Proofs.Ytinnldfmbeafiaa.PA
open Go.RowKit Go.Proofs.YtinnldfmbeafiaaW.PrintWords Go.Proofs.YtinnldfmbeafiaaW.PrintLast Go.Proofs.YtinnldfmbeafiaaW.PrintMore
set_option linter.unusedVariables false
set_option linter.unusedSimpArgs false
attribute [local go_sem] cell_set_some fld53_0 fld53_1 fld53_2 fld53_3
theorem zQEq1 {p : Prop} (h : p := by have := HE.out; rw [isB_eq, HBD.out] at this; simpa using this) : p := h
theorem zQEq2 {p : Prop} (h : p := by kernel_rfl) : p := h
section
variable {P : Program} {Q : Exit → Act → World → Prop} {ops : Array Oper}
/-- A method value without arguments is called. -/
theorem goesM_ {oi : Oper} {N : Option Tmp} {a : Act} {w : World} {K : Act → World → Prop} {f : FuncId} {fn : Func} {x : Operand} {ts : Array TypeId} {r : Value} (hf : P.funcs[f]? = some fn) (hname : (fn.name == "runtime.NumGoroutine") = false) (hb : fn.body.isSome = true)
 (hw : Region.wanted oi (yielded ops a.tmps) = true) (hN : oi.dst = N) (hop : oi.op = .call { callee := .value x, args := #[], argTypes := ts }) (hx : a.eval x = .func (.func f) #[r] #[])
 (h : Calls P f #[r] w fun e w' => ∃ v, e = .returned v ∧ K (a.put N v) w') : if Region.wanted oi (yielded ops a.tmps) = true then Oper.wp P oi a w K Q else K (a.put N undef) w := by
 refine call_ f #[r] hw hN ?_ h
 have he := enters_ hf hname hb #[r] w
 unfold execOp
 simp [hop, resolve, Deferred.ofValue, invoke, hx, he]
end
/-- All but a block stands. -/
def KP2 (E : Env) (g : Nat) (w w1 : World) : Prop := (∀ k o, w.heap[k]? = some o → k ≠ E.g → k ≠ g → (∀ c fz, o ≠ .cells c 3 fz) → w1.heap[k]? = some o) ∧ w.heap.size ≤ w1.heap.size
section
variable {E : Env} {s : Cs} {w w1 w2 : World} {g : Nat}
theorem KP.to2 (h : KP E w w1) : KP2 E g w w1 := ⟨fun k o hk h1 _ h3 => h.1 k o hk (fun e => h1 (Option.some.inj e)) h3, h.2⟩
theorem KP2.only (h : KP2 E g w w1) (ho : Only g w1 w2) : KP2 E g w w2 := ⟨fun k o hk h1 h2 h3 => (ho.block k h2).trans (h.1 k o hk h1 h2 h3), Nat.le_trans h.2 ho.below.size⟩
theorem KP.two {wi : World} (h : KP E wi w) (k2 : KP2 E g w w1) (hg : wi.heap.size ≤ g) : KP E wi w1 :=
 ⟨fun k o hk h1 h3 => k2.1 k o (h.1 k o hk h1 h3) (fun e => h1 (by rw [e])) (fun e => by
  have := (Array.getElem?_eq_some_iff.1 hk).1
  omega) h3, Nat.le_trans h.2 k2.2⟩
theorem KP2.blk (h : KP2 E g w w1) {k : Nat} {cs : Array Value} {t : TypeId} (hk : w.heap[k]? = some (.cells cs t (0, 0))) (hne : k ≠ E.g) (hg : k ≠ g) (ht : t ≠ 3) : w1.heap[k]? = some (.cells cs t (0, 0)) :=
 h.1 k _ hk hne hg (fun c fz e => by
  injection e with _ e2
  exact ht e2)
end
/-- An expression that is handed back: its rows are new. -/
def VE (E : Env) (w : World) (w' : World) (x : S94) (v : Value) : Prop := ∃ A c, v = .agg #[.int .i64 x.f0, .int .i64 x.f1, .string x.f2, .slice A x.f3.length c] ∧ x.f3.length ≤ c ∧ Kd.F k94 w' (GD E E.g w.heap.size w') A x.f3.length x.f3
/-- One of two signs, and what stands behind it. -/
def Join (E : Env) (s : Cs) (a b : ByteArray) (oa ob : Int) (rt : Nat → Res S94) (e x : S94) (t : Cs) (r : Bool) : Prop :=
 (r = false ∧ t = s ∧ x = e ∧ isB E s a = false ∧ isB E s b = false) ∨
 (r = true ∧ s.bad = false ∧ ∃ f op, ((isT E s.i a = true ∧ op = oa) ∨ (isT E s.i a = false ∧ isT E s.i b = true ∧ op = ob)) ∧ Step ⟨s.i + 1, false, s.ps⟩ (rt (s.i + 1)) f t ∧ x = ⟨op, 0, ⟨#[]⟩, [e, f]⟩ ∧ s.i + 1 ≤ t.i ∧ t.ps = s.ps)
/-- Rounds enough for what stands behind the sign. -/
def NeJ (E : Env) (s : Cs) (a b : ByteArray) (rt : Nat → Res S94) : Prop := s.bad = false → (isT E s.i a = true ∨ isT E s.i b = true) → rt (s.i + 1) ≠ .out
def GotJ (E : Env) (s : Cs) (w : World) (ge bb : Nat) (a b : ByteArray) (oa ob : Int) (rt : Nat → Res S94) (x0 : S94) (e : Ending) (w' : World) : Prop :=
 ∃ r x t A c, e = .returned (.bool r) ∧ ST E t w' ∧ KP2 E ge w w' ∧ Join E s a b oa ob rt x0 x t r ∧ w'.heap[ge]? = some (.cells #[.int .i64 x.f0, .int .i64 x.f1, .string x.f2, .slice A x.f3.length c] 94 (0, 0)) ∧ x.f3.length ≤ c ∧ Kd.F k94 w' (GD E ge bb w') A x.f3.length x.f3
def joinT109.T5 : Bool × List (List Nat × List Nat) := (true, [([], []), ([], []), ([1], [1]), ([], []), ([3], [3]), ([4], [4]), ([], []), ([6], [6]), ([5, 7], [5, 7]), ([2, 8], [2, 8]), ([0, 0, 1, 2, 3, 4, 5, 6, 7, 8, 9], [0]), ([10, 9, 7, 0, 1, 2, 3, 4, 5, 6, 7, 8, 9], [9, 10])])
def joinT109.B5 : List Nat := [0, 0, 2, 0, 8, 24, 0, 64, 248, 510, 1023, 2047]
theorem joinT109.tab5 : rtab .any (opsOf Try.f110 5) = joinT109.T5 := by kernel_rfl
theorem joinT109.bits5 : waitsOk joinT109.T5.2 joinT109.B5 = true := by kernel_rfl
set_option maxHeartbeats 8000000 in
set_option maxRecDepth 100000 in
theorem joined_sum (E : Env) (s : Cs) (w : World) (ge gc bb : Nat) (x0 : S94) (A0 : Option Addr) (c0 : Nat) (a b : ByteArray) (oa ob : Int) (rt : Nat → Res S94) (h : ST E s w) (he : w.heap[ge]? = some (.cells #[.int .i64 x0.f0, .int .i64 x0.f1, .string x0.f2, .slice A0 x0.f3.length c0] 94 (0, 0))) (hl0 : x0.f3.length ≤ c0) (hr0 : Kd.F k94 w (GD E ge bb w) A0 x0.f3.length x0.f3)
 (hge : E.w0.heap.size ≤ ge) (hbb : bb ≤ ge) (hc : w.heap[gc]? = some (.cells #[.string a, .int .i64 oa, .string b, .int .i64 ob] 126 (0, 0))) (hne : NeJ E s a b rt) (IH : ∀ s w, ST E s w → Ne s (rt s.i) → Calls Try.prog 109 #[.pointer (some ⟨E.g, 0, none⟩)] w (Got E s w (rt s.i) (VE E w))) :
 Calls Try.prog 110 #[.pointer (some ⟨E.g, 0, none⟩), .pointer (some ⟨ge, 0, none⟩), .slice (some ⟨gc, 0, none⟩) 2 2, .func (.func 109) #[.pointer (some ⟨E.g, 0, none⟩)] #[]] w (GotJ E s w ge bb a b oa ob rt x0) := by
 have hu126 := Try.underlying126
 have hu94 := Try.underlying94
 have He := Aside0.mk he
 have Hc := Aside0.mk hc
 have HR := Aside0.mk hr0
 have HNE := Aside0.mk hne
 have HIH := Aside0.mk IH
 have HGE := Aside0.mk hge
 have HBB := Aside0.mk hbb
 clear he hc hr0 hne IH hge hbb
 have HSB := Aside0.mk (show E.w0.heap.size ≤ w.heap.size from h.below.size)
 have HS := Aside0.mk h
 have HK := Aside0.mk (KP.refl E w)
 clear h
 go_enter Try.func110, Try.ntmps110
 go_wp2
 go_loopg [13] 2 (fun kq v13 w' => ∃ i : Nat, v13 = .int .i64 (i : Int) ∧ Aside0 (i + kq = 2) ∧ Aside0 (ST E s w') ∧ Aside0 (KP E w w') ∧ Aside0 (w'.heap[ge]? = some (.cells #[.int .i64 x0.f0, .int .i64 x0.f1, .string x0.f2, .slice A0 x0.f3.length c0] 94 (0, 0))) ∧ Aside0 (w'.heap[gc]? = some (.cells #[.string a, .int .i64 oa, .string b, .int .i64 ob] 126 (0, 0))) ∧ Aside0 (Kd.F k94 w' (GD E ge bb w') A0 x0.f3.length x0.f3) ∧ Aside0 ((1 ≤ i → isB E s a = false) ∧ (2 ≤ i → isB E s b = false)))
 case atStart => exact ⟨0, rfl, ⟨rfl⟩, HS, HK, He, Hc, HR, ⟨by omega, by omega⟩⟩
 case round =>
  clear HS HK He Hc HR
  obtain ⟨i, rfl, HI, HS, HK, He, Hc, HR, HBF⟩ := hrel
  have hi0 := HI.out
  cases gk with
  | zero =>
   obtain rfl : i = 2 := by omega
   go_wp2
   go_ret
   exact ⟨false, x0, s, A0, c0, rfl, HS.out, HK.out.to2, .inl ⟨rfl, rfl, rfl, HBF.out.1 (by omega), HBF.out.2 (by omega)⟩, He.out, hl0, HR.out⟩
  | succ k1 =>
   rcases (by omega : i = 0 ∨ i = 1) with rfl | rfl
   ·skip
    obtain rfl : k1 = 1 := by omega
    clear hi0
    obtain ⟨y0, y1, y2, y3⟩ := cn4 Hc.out
    go_upto_region 4 with (first | ((with_reducible refine gate_dst (N := 10) rfl ?_); refine bbX (N := 10) #[.string ⟨#[]⟩, .int .i64 0] 126 ?hr ?_; (case hr => first | (go_simp; done) | (go_simp; rfl)); intro gx hg_ wx hbox_ hq_; obtain ⟨z0_, f0_, z1_, f1_⟩ := cf2 hbox_))
    obtain ⟨F1_, F2_⟩ := fill126 hbox_ (.string a) (.int .i64 oa) _ rfl
    replace hq_ := hq_.trans (F2_.below.mono (Nat.le_of_eq hg_.out.symm))
    have Gx := Aside0.mk (show w.heap.size ≤ gx from by rw [hg_.out]; exact HK.out.2)
    have Ne_x := Aside0.mk (ne_new He.out hg_.out); have LTe_x := Aside0.mk (lt_new He.out hg_.out)
    have Nc_x := Aside0.mk (ne_new Hc.out hg_.out); have LTc_x := Aside0.mk (lt_new Hc.out hg_.out)
    clear hg_ hbox_ F2_ z0_ f0_ z1_ f1_
    generalize (wx.setCell ⟨gx, 0, none⟩ (.string a)).setCell ⟨gx, 1, none⟩ (.int .i64 oa) = vx at F1_ hq_ ⊢
    have Hx := Aside0.mk F1_
    replace He := mvB hq_ He
    replace Hc := mvB hq_ Hc
    replace HR := Aside0.mk (F.kp HR.out (KP.below hq_))
    replace HK := kkB HK hq_
    replace HS := ssM HS hq_
    clear F1_ hq_
    clear y0 y1 y2 y3
    have zx_0 := blk_celln Hx.out 0 _ rfl
    go_wp2_with (fail)
    cases hB : isB E s a with
    | false =>
     have HE := Aside0.mk hB
     have hW := took_c E s a _ HS.out false hB
     refine hW.mono ?_
     clear hW hB
     rintro e wb ⟨rfl, q1, qk⟩
     replace q1 : ST E s wb := q1
     replace He := mvK qk HS He
     replace Hc := mvK qk HS Hc
     replace Hx := mvK qk HS Hx
     replace HR := Aside0.mk (F.kp HR.out qk)
     replace HK := kkT HK qk
     replace HS := Aside0.mk q1
     clear q1 qk
     clear zx_0
     go_wp2
     clear HGE HBB HNE HIH HI Hx Gx Ne_x Nc_x
     go_roundg 1
     case measure => exact Nat.lt_succ_self _
     case rel => exact ⟨1, (by first | rfl | (simp; done)), ⟨rfl⟩, HS, HK, He, Hc, HR, ⟨fun _ => HE.out, by omega⟩⟩
    | true =>
     obtain ⟨hbad, _⟩ := is_ok hB
     have HE := Aside0.mk hB
     have HBD := Aside0.mk hbad
     have hW := took_c E s a _ HS.out true hB
     refine hW.mono ?_
     clear hW hB hbad
     rintro e wb ⟨rfl, q1, qk⟩
     replace q1 : ST E ⟨s.i + 1, false, s.ps⟩ wb := by
      have e : tkS s true = ⟨s.i + 1, false, s.ps⟩ := by
       unfold tkS
       rw [if_pos rfl, HBD.out]
      rw [← e]
      exact q1
     replace He := mvK qk HS He
     replace Hc := mvK qk HS Hc
     replace Hx := mvK qk HS Hx
     replace HR := Aside0.mk (F.kp HR.out qk)
     replace HK := kkT HK qk
     replace HS := Aside0.mk q1
     clear q1 qk
     clear zx_0
     go_upto_region 5 with (fail)
     replace He := mvB (below_drew (Below.refl wb.heap.size wb)) He
     replace Hc := mvB (below_drew (Below.refl wb.heap.size wb)) Hc
     replace Hx := mvB (below_drew (Below.refl wb.heap.size wb)) Hx
     replace HR := Aside0.mk (F.kp HR.out (KP.below (below_drew (Below.refl wb.heap.size wb))))
     replace HK := kkB HK (below_drew (Below.refl wb.heap.size wb))
     replace HS := ssM HS (below_drew (Below.refl wb.heap.size wb))
     refine start_ (n := 12) (S := fun w' => w'.cell? ⟨gx, 1, none⟩ = some (.int .i64 oa) ∧ w'.cell? ⟨ge, 0, none⟩ = some (.int .i64 x0.f0) ∧ w'.cell? ⟨ge, 1, none⟩ = some (.int .i64 x0.f1) ∧ w'.cell? ⟨ge, 2, none⟩ = some (.string x0.f2) ∧ w'.cell? ⟨ge, 3, none⟩ = some (.slice A0 x0.f3.length c0)) (ds := [11]) #[Z,Z,Z,Z,Z,Z,Z,Z,Z,Z,Z,Z] (zQEq2) rfl rfl ⟨(blk_celln Hx.out 1 _ rfl), (blk_celln He.out 0 _ rfl), (blk_celln He.out 1 _ rfl), (blk_celln He.out 2 _ rfl), (blk_celln He.out 3 _ rfl)⟩ (fun hHeld => ?_)
     refine with_tabW joinT109.tab5 joinT109.bits5 (fun HT_ HW_ => ?_)
     generalize World.drew _ = wd at HS HK He Hc HR Hx hHeld ⊢
     refine ppU (i := 0) (N := some 21) #[Y,Z,Z,Z,Z,Z,Z,Z,Z,Z,Z,Z] HT_ ?_
     refine ppU (i := 1) (N := some 22) #[Y,Y,Z,Z,Z,Z,Z,Z,Z,Z,Z,Z] HT_ ?_
     refine take_ (i := 2) (N := some 23) (v := ?_) (a' := ?_) #[Y,Y,Y,Z,Z,Z,Z,Z,Z,Z,Z,Z] rfl rfl (take_ofW HT_.out HW_.out (zQEq2)) (fun _ _ _ h => h) (Or.inl ⟨by rfl, ?_⟩) hHeld ?_ ?_
     rotate_left
     ·rintro w' ⟨s0, s1, s2, s3, s4⟩
      go_simp
      with_reducible rfl
     rotate_left
     ·simp only [Act.put, pA, pB, pC, i64_w, i32_w]
      rfl
     refine ppU (i := 3) (N := some 24) #[Y,Y,Y,Y,Z,Z,Z,Z,Z,Z,Z,Z] HT_ ?_
     refine ppU (i := 4) (N := some 25) #[Y,Y,Y,Y,Y,Z,Z,Z,Z,Z,Z,Z] HT_ ?_
     refine take_ (i := 5) (N := some 26) (v := ?_) (a' := ?_) #[Y,Y,Y,Y,Y,Y,Z,Z,Z,Z,Z,Z] rfl rfl (take_ofW HT_.out HW_.out (zQEq2)) (fun _ _ _ h => h) (Or.inl ⟨by rfl, ?_⟩) hHeld ?_ ?_
     rotate_left
     ·rintro w' ⟨s0, s1, s2, s3, s4⟩
      go_simp
      with_reducible rfl
     rotate_left
     ·simp only [Act.put, pA, pB, pC, i64_w, i32_w]
      rfl
     refine ppU (i := 6) (N := some 27) #[Y,Y,Y,Y,Y,Y,Y,Z,Z,Z,Z,Z] HT_ ?_
     refine one_ (i := 7) (N := some 28) #[Y,Y,Y,Y,Y,Y,Y,Y,Z,Z,Z,Z] rfl rfl (one_of HT_.out (zQEq2)) (by decide) (fun K hK => ?_)
     refine goesM_ Try.func109 (zQEq2) rfl (by rfl) rfl rfl rfl ?_
     have hW := HIH.out ⟨s.i + 1, false, s.ps⟩ _ HS.out (fun _ => HNE.out HBD.out (Or.inl (zQEq1)))
     refine hW.mono ?_
     clear hW
     rintro e wc ⟨f, vf, t, rfl, ⟨Af, cf, rfl, lf, rf⟩, q1, qk, hst, hti, hps⟩
     have RF := Aside0.mk (F.lower (F.free rf (show ge < _ from blk_lt He.out)) (Nat.le_trans HBB.out (Nat.le_of_lt (blk_lt He.out))))
     clear rf
     have HST := Aside0.mk hst
     have HTI := Aside0.mk hti
     have HPS := Aside0.mk hps
     clear hst hti hps
     replace He := mvK qk HS He
     replace Hc := mvK qk HS Hc
     replace Hx := mvK qk HS Hx
     replace HR := Aside0.mk (F.kp HR.out qk)
     replace HK := kkT HK qk
     replace HS := Aside0.mk q1
     clear q1 qk
     refine ⟨_, rfl, ?_⟩
     refine hK.out _ _ ⟨(blk_celln Hx.out 1 _ rfl), (blk_celln He.out 0 _ rfl), (blk_celln He.out 1 _ rfl), (blk_celln He.out 2 _ rfl), (blk_celln He.out 3 _ rfl)⟩ (fun hHeld => ?_)
     clear hK K
     refine norm_ (a' := ?_) ?_ ?_
     rotate_left
     ·show Act.put _ (some 28) _ = _
      simp only [Act.put, pA, pB, pC, i64_w, i32_w]
      rfl
     refine one_ (i := 8) (N := some 29) #[Y,Y,Y,Y,Y,Y,Y,Y,Y,Z,Z,Z] rfl rfl (one_of HT_.out (zQEq2)) (by decide) (fun K hK => ?_)
     refine lit_step ?hg (N := 29) ?hd (n := 2) (cs := ⟨[.int .i64 x0.f0, .int .i64 x0.f1, .string x0.f2, .slice A0 x0.f3.length c0] ++ [.int .i64 f.f0, .int .i64 f.f1, .string f.f2, .slice Af f.f3.length cf]⟩) (t := 94) ?hr ?_; (case hd => rfl); (case hg => rfl); (case hr => first | (go_simp; done) | (go_simp; rfl))
     intro gk hg_ w9 hbox_ hq_
     have hgk := Aside0.mk (show ge < gk from by rw [hg_]; exact blk_lt He.out)
     replace He := mvB hq_ He
     replace Hc := mvB hq_ Hc
     replace Hx := mvB hq_ Hx
     replace HR := Aside0.mk (F.kp HR.out (KP.below hq_))
     replace RF := ffB RF hq_
     replace HK := kkB HK hq_
     replace HS := ssM HS hq_
     have RR := Aside0.mk (F.two hbox_ (GD.at hbox_ HS.out (Nat.le_trans HBB.out (Nat.le_of_lt hgk.out)) (Nat.ne_of_gt hgk.out) (by decide) (by decide)) (FK94 hl0 HR.out) (FK94 lf RF.out))
     clear hg_ hbox_ hq_
     refine hK.out _ _ ⟨(blk_celln Hx.out 1 _ rfl), (blk_celln He.out 0 _ rfl), (blk_celln He.out 1 _ rfl), (blk_celln He.out 2 _ rfl), (blk_celln He.out 3 _ rfl)⟩ (fun hHeld => ?_)
     clear hK K
     refine norm_ (a' := ?_) ?_ ?_
     rotate_left
     ·show Act.put _ (some 29) _ = _
      simp only [Act.put, pA, pB, pC, i64_w, i32_w]
      rfl
     refine ppU (i := 9) (N := some 30) #[Y,Y,Y,Y,Y,Y,Y,Y,Y,Y,Z,Z] HT_ ?_
     refine ppU (i := 10) (N := some 31) #[Y,Y,Y,Y,Y,Y,Y,Y,Y,Y,Y,Z] HT_ ?_
     refine last_ (i := 11) (N := none) #[Y,Y,Y,Y,Y,Y,Y,Y,Y,Y,Y,Y] rfl rfl (one_of HT_.out (zQEq2)) (by decide) (fun K hK => ?_)
     obtain ⟨se0, sf0, se1, sf1, se2, sf2, se3, sf3⟩ := cf4 He.out
     refine skip_ (w1 := ?_) (by rfl) rfl ?_ ?_
     rotate_left
     ·go_simp
      rfl
     refine hK.out _ _ ?_
     clear hK K
     refine done_ (done_of HT_.out (zQEq2)) ?_
     clear hHeld
     go_wp2
     go_ret
     obtain ⟨F1_, F2_⟩ := fill94 He.out (.int .i64 oa) (.int .i64 0) (.string ⟨#[]⟩) (.slice (some ⟨gk, 0, none⟩) 2 2) _ rfl
     exact ⟨true, ⟨oa, 0, ⟨#[]⟩, [x0, f]⟩, t, some ⟨gk, 0, none⟩, 2, rfl, HS.out.only He.out (by decide) (by decide) HGE.out F2_, HK.out.to2.only F2_, .inr ⟨rfl, HBD.out, f, oa, .inl ⟨zQEq1, rfl⟩, HST.out, rfl, HTI.out, HPS.out⟩, F1_, Nat.le_refl 2, F.only RR.out F2_ (Or.inr rfl)⟩
   ·skip
    obtain rfl : k1 = 0 := by omega
    clear hi0
    obtain ⟨y0, y1, y2, y3⟩ := cn4 Hc.out
    go_upto_region 4 with (first | ((with_reducible refine gate_dst (N := 10) rfl ?_); refine bbX (N := 10) #[.string ⟨#[]⟩, .int .i64 0] 126 ?hr ?_; (case hr => first | (go_simp; done) | (go_simp; rfl)); intro gx hg_ wx hbox_ hq_; obtain ⟨z0_, f0_, z1_, f1_⟩ := cf2 hbox_))
    obtain ⟨F1_, F2_⟩ := fill126 hbox_ (.string b) (.int .i64 ob) _ rfl
    replace hq_ := hq_.trans (F2_.below.mono (Nat.le_of_eq hg_.out.symm))
    have Gx := Aside0.mk (show w.heap.size ≤ gx from by rw [hg_.out]; exact HK.out.2)
    have Ne_x := Aside0.mk (ne_new He.out hg_.out); have LTe_x := Aside0.mk (lt_new He.out hg_.out)
    have Nc_x := Aside0.mk (ne_new Hc.out hg_.out); have LTc_x := Aside0.mk (lt_new Hc.out hg_.out)
    clear hg_ hbox_ F2_ z0_ f0_ z1_ f1_
    generalize (wx.setCell ⟨gx, 0, none⟩ (.string b)).setCell ⟨gx, 1, none⟩ (.int .i64 ob) = vx at F1_ hq_ ⊢
    have Hx := Aside0.mk F1_
    replace He := mvB hq_ He
    replace Hc := mvB hq_ Hc
    replace HR := Aside0.mk (F.kp HR.out (KP.below hq_))
    replace HK := kkB HK hq_
    replace HS := ssM HS hq_
    clear F1_ hq_
    clear y0 y1 y2 y3
    have zx_0 := blk_celln Hx.out 0 _ rfl
    go_wp2_with (fail)
    cases hB : isB E s b with
    | false =>
     have HE := Aside0.mk hB
     have hW := took_c E s b _ HS.out false hB
     refine hW.mono ?_
     clear hW hB
     rintro e wb ⟨rfl, q1, qk⟩
     replace q1 : ST E s wb := q1
     replace He := mvK qk HS He
     replace Hc := mvK qk HS Hc
     replace Hx := mvK qk HS Hx
     replace HR := Aside0.mk (F.kp HR.out qk)
     replace HK := kkT HK qk
     replace HS := Aside0.mk q1
     clear q1 qk
     clear zx_0
     go_wp2
     clear HGE HBB HNE HIH HI Hx Gx Ne_x Nc_x
     go_roundg 0
     case measure => exact Nat.lt_succ_self _
     case rel => exact ⟨2, (by first | rfl | (simp; done)), ⟨rfl⟩, HS, HK, He, Hc, HR, ⟨fun _ => HBF.out.1 (by omega), fun _ => HE.out⟩⟩
    | true =>
     obtain ⟨hbad, _⟩ := is_ok hB
     have HE := Aside0.mk hB
     have HBD := Aside0.mk hbad
     have hW := took_c E s b _ HS.out true hB
     refine hW.mono ?_
     clear hW hB hbad
     rintro e wb ⟨rfl, q1, qk⟩
     replace q1 : ST E ⟨s.i + 1, false, s.ps⟩ wb := by
      have e : tkS s true = ⟨s.i + 1, false, s.ps⟩ := by
       unfold tkS
       rw [if_pos rfl, HBD.out]
      rw [← e]
      exact q1
     replace He := mvK qk HS He
     replace Hc := mvK qk HS Hc
     replace Hx := mvK qk HS Hx
     replace HR := Aside0.mk (F.kp HR.out qk)
     replace HK := kkT HK qk
     replace HS := Aside0.mk q1
     clear q1 qk
     clear zx_0
     go_upto_region 5 with (fail)
     replace He := mvB (below_drew (Below.refl wb.heap.size wb)) He
     replace Hc := mvB (below_drew (Below.refl wb.heap.size wb)) Hc
     replace Hx := mvB (below_drew (Below.refl wb.heap.size wb)) Hx
     replace HR := Aside0.mk (F.kp HR.out (KP.below (below_drew (Below.refl wb.heap.size wb))))
     replace HK := kkB HK (below_drew (Below.refl wb.heap.size wb))
     replace HS := ssM HS (below_drew (Below.refl wb.heap.size wb))
     refine start_ (n := 12) (S := fun w' => w'.cell? ⟨gx, 1, none⟩ = some (.int .i64 ob) ∧ w'.cell? ⟨ge, 0, none⟩ = some (.int .i64 x0.f0) ∧ w'.cell? ⟨ge, 1, none⟩ = some (.int .i64 x0.f1) ∧ w'.cell? ⟨ge, 2, none⟩ = some (.string x0.f2) ∧ w'.cell? ⟨ge, 3, none⟩ = some (.slice A0 x0.f3.length c0)) (ds := [11]) #[Z,Z,Z,Z,Z,Z,Z,Z,Z,Z,Z,Z] (zQEq2) rfl rfl ⟨(blk_celln Hx.out 1 _ rfl), (blk_celln He.out 0 _ rfl), (blk_celln He.out 1 _ rfl), (blk_celln He.out 2 _ rfl), (blk_celln He.out 3 _ rfl)⟩ (fun hHeld => ?_)
     refine with_tabW joinT109.tab5 joinT109.bits5 (fun HT_ HW_ => ?_)
     generalize World.drew _ = wd at HS HK He Hc HR Hx hHeld ⊢
     refine ppU (i := 0) (N := some 21) #[Y,Z,Z,Z,Z,Z,Z,Z,Z,Z,Z,Z] HT_ ?_
     refine ppU (i := 1) (N := some 22) #[Y,Y,Z,Z,Z,Z,Z,Z,Z,Z,Z,Z] HT_ ?_
     refine take_ (i := 2) (N := some 23) (v := ?_) (a' := ?_) #[Y,Y,Y,Z,Z,Z,Z,Z,Z,Z,Z,Z] rfl rfl (take_ofW HT_.out HW_.out (zQEq2)) (fun _ _ _ h => h) (Or.inl ⟨by rfl, ?_⟩) hHeld ?_ ?_
     rotate_left
     ·rintro w' ⟨s0, s1, s2, s3, s4⟩
      go_simp
      with_reducible rfl
     rotate_left
     ·simp only [Act.put, pA, pB, pC, i64_w, i32_w]
      rfl
     refine ppU (i := 3) (N := some 24) #[Y,Y,Y,Y,Z,Z,Z,Z,Z,Z,Z,Z] HT_ ?_
     refine ppU (i := 4) (N := some 25) #[Y,Y,Y,Y,Y,Z,Z,Z,Z,Z,Z,Z] HT_ ?_
     refine take_ (i := 5) (N := some 26) (v := ?_) (a' := ?_) #[Y,Y,Y,Y,Y,Y,Z,Z,Z,Z,Z,Z] rfl rfl (take_ofW HT_.out HW_.out (zQEq2)) (fun _ _ _ h => h) (Or.inl ⟨by rfl, ?_⟩) hHeld ?_ ?_
     rotate_left
     ·rintro w' ⟨s0, s1, s2, s3, s4⟩
      go_simp
      with_reducible rfl
     rotate_left
     ·simp only [Act.put, pA, pB, pC, i64_w, i32_w]
      rfl
     refine ppU (i := 6) (N := some 27) #[Y,Y,Y,Y,Y,Y,Y,Z,Z,Z,Z,Z] HT_ ?_
     refine one_ (i := 7) (N := some 28) #[Y,Y,Y,Y,Y,Y,Y,Y,Z,Z,Z,Z] rfl rfl (one_of HT_.out (zQEq2)) (by decide) (fun K hK => ?_)
     refine goesM_ Try.func109 (zQEq2) rfl (by rfl) rfl rfl rfl ?_
     have hW := HIH.out ⟨s.i + 1, false, s.ps⟩ _ HS.out (fun _ => HNE.out HBD.out (Or.inr (zQEq1)))
     refine hW.mono ?_
     clear hW
     rintro e wc ⟨f, vf, t, rfl, ⟨Af, cf, rfl, lf, rf⟩, q1, qk, hst, hti, hps⟩
     have RF := Aside0.mk (F.lower (F.free rf (show ge < _ from blk_lt He.out)) (Nat.le_trans HBB.out (Nat.le_of_lt (blk_lt He.out))))
     clear rf
     have HST := Aside0.mk hst
     have HTI := Aside0.mk hti
     have HPS := Aside0.mk hps
     clear hst hti hps
     replace He := mvK qk HS He
     replace Hc := mvK qk HS Hc
     replace Hx := mvK qk HS Hx
     replace HR := Aside0.mk (F.kp HR.out qk)
     replace HK := kkT HK qk
     replace HS := Aside0.mk q1
     clear q1 qk
     refine ⟨_, rfl, ?_⟩
     refine hK.out _ _ ⟨(blk_celln Hx.out 1 _ rfl), (blk_celln He.out 0 _ rfl), (blk_celln He.out 1 _ rfl), (blk_celln He.out 2 _ rfl), (blk_celln He.out 3 _ rfl)⟩ (fun hHeld => ?_)
     clear hK K
     refine norm_ (a' := ?_) ?_ ?_
     rotate_left
     ·show Act.put _ (some 28) _ = _
      simp only [Act.put, pA, pB, pC, i64_w, i32_w]
      rfl
     refine one_ (i := 8) (N := some 29) #[Y,Y,Y,Y,Y,Y,Y,Y,Y,Z,Z,Z] rfl rfl (one_of HT_.out (zQEq2)) (by decide) (fun K hK => ?_)
     refine lit_step ?hg (N := 29) ?hd (n := 2) (cs := ⟨[.int .i64 x0.f0, .int .i64 x0.f1, .string x0.f2, .slice A0 x0.f3.length c0] ++ [.int .i64 f.f0, .int .i64 f.f1, .string f.f2, .slice Af f.f3.length cf]⟩) (t := 94) ?hr ?_; (case hd => rfl); (case hg => rfl); (case hr => first | (go_simp; done) | (go_simp; rfl))
     intro gk hg_ w9 hbox_ hq_
     have hgk := Aside0.mk (show ge < gk from by rw [hg_]; exact blk_lt He.out)
     replace He := mvB hq_ He
     replace Hc := mvB hq_ Hc
     replace Hx := mvB hq_ Hx
     replace HR := Aside0.mk (F.kp HR.out (KP.below hq_))
     replace RF := ffB RF hq_
     replace HK := kkB HK hq_
     replace HS := ssM HS hq_
     have RR := Aside0.mk (F.two hbox_ (GD.at hbox_ HS.out (Nat.le_trans HBB.out (Nat.le_of_lt hgk.out)) (Nat.ne_of_gt hgk.out) (by decide) (by decide)) (FK94 hl0 HR.out) (FK94 lf RF.out))
     clear hg_ hbox_ hq_
     refine hK.out _ _ ⟨(blk_celln Hx.out 1 _ rfl), (blk_celln He.out 0 _ rfl), (blk_celln He.out 1 _ rfl), (blk_celln He.out 2 _ rfl), (blk_celln He.out 3 _ rfl)⟩ (fun hHeld => ?_)
     clear hK K
     refine norm_ (a' := ?_) ?_ ?_
     rotate_left
     ·show Act.put _ (some 29) _ = _
      simp only [Act.put, pA, pB, pC, i64_w, i32_w]
      rfl
     refine ppU (i := 9) (N := some 30) #[Y,Y,Y,Y,Y,Y,Y,Y,Y,Y,Z,Z] HT_ ?_
     refine ppU (i := 10) (N := some 31) #[Y,Y,Y,Y,Y,Y,Y,Y,Y,Y,Y,Z] HT_ ?_
     refine last_ (i := 11) (N := none) #[Y,Y,Y,Y,Y,Y,Y,Y,Y,Y,Y,Y] rfl rfl (one_of HT_.out (zQEq2)) (by decide) (fun K hK => ?_)
     obtain ⟨se0, sf0, se1, sf1, se2, sf2, se3, sf3⟩ := cf4 He.out
     refine skip_ (w1 := ?_) (by rfl) rfl ?_ ?_
     rotate_left
     ·go_simp
      rfl
     refine hK.out _ _ ?_
     clear hK K
     refine done_ (done_of HT_.out (zQEq2)) ?_
     clear hHeld
     go_wp2
     go_ret
     obtain ⟨F1_, F2_⟩ := fill94 He.out (.int .i64 ob) (.int .i64 0) (.string ⟨#[]⟩) (.slice (some ⟨gk, 0, none⟩) 2 2) _ rfl
     exact ⟨true, ⟨ob, 0, ⟨#[]⟩, [x0, f]⟩, t, some ⟨gk, 0, none⟩, 2, rfl, HS.out.only He.out (by decide) (by decide) HGE.out F2_, HK.out.to2.only F2_, .inr ⟨rfl, HBD.out, f, ob, .inr ⟨by have := HBF.out.1 (by omega); rw [isB_eq, HBD.out] at this; simpa using this, zQEq1, rfl⟩, HST.out, rfl, HTI.out, HPS.out⟩, F1_, Nat.le_refl 2, F.only RR.out F2_ (Or.inr rfl)⟩
def joinT111.T5 : Bool × List (List Nat × List Nat) := (true, [([], []), ([], []), ([1], [1]), ([], []), ([3], [3]), ([4], [4]), ([], []), ([6], [6]), ([5, 7], [5, 7]), ([2, 8], [2, 8]), ([0, 0, 1, 2, 3, 4, 5, 6, 7, 8, 9], [0]), ([10, 9, 7, 0, 1, 2, 3, 4, 5, 6, 7, 8, 9], [9, 10])])
def joinT111.B5 : List Nat := [0, 0, 2, 0, 8, 24, 0, 64, 248, 510, 1023, 2047]
theorem joinT111.tab5 : rtab .any (opsOf Try.f110 5) = joinT111.T5 := by kernel_rfl
theorem joinT111.bits5 : waitsOk joinT111.T5.2 joinT111.B5 = true := by kernel_rfl
set_option maxHeartbeats 8000000 in
set_option maxRecDepth 100000 in
theorem joined_atom (E : Env) (s : Cs) (w : World) (ge gc bb : Nat) (x0 : S94) (A0 : Option Addr) (c0 : Nat) (a b : ByteArray) (oa ob : Int) (rt : Nat → Res S94) (h : ST E s w) (he : w.heap[ge]? = some (.cells #[.int .i64 x0.f0, .int .i64 x0.f1, .string x0.f2, .slice A0 x0.f3.length c0] 94 (0, 0))) (hl0 : x0.f3.length ≤ c0) (hr0 : Kd.F k94 w (GD E ge bb w) A0 x0.f3.length x0.f3)
 (hge : E.w0.heap.size ≤ ge) (hbb : bb ≤ ge) (hc : w.heap[gc]? = some (.cells #[.string a, .int .i64 oa, .string b, .int .i64 ob] 126 (0, 0))) (hne : NeJ E s a b rt) (IH : ∀ s w, ST E s w → Ne s (rt s.i) → Calls Try.prog 111 #[.pointer (some ⟨E.g, 0, none⟩)] w (Got E s w (rt s.i) (VE E w))) :
 Calls Try.prog 110 #[.pointer (some ⟨E.g, 0, none⟩), .pointer (some ⟨ge, 0, none⟩), .slice (some ⟨gc, 0, none⟩) 2 2, .func (.func 111) #[.pointer (some ⟨E.g, 0, none⟩)] #[]] w (GotJ E s w ge bb a b oa ob rt x0) := by
 have hu126 := Try.underlying126
 have hu94 := Try.underlying94
 have He := Aside0.mk he
 have Hc := Aside0.mk hc
 have HR := Aside0.mk hr0
 have HNE := Aside0.mk hne
 have HIH := Aside0.mk IH
 have HGE := Aside0.mk hge
 have HBB := Aside0.mk hbb
 clear he hc hr0 hne IH hge hbb
 have HSB := Aside0.mk (show E.w0.heap.size ≤ w.heap.size from h.below.size)
 have HS := Aside0.mk h
 have HK := Aside0.mk (KP.refl E w)
 clear h
 go_enter Try.func110, Try.ntmps110
 go_wp2
 go_loopg [13] 2 (fun kq v13 w' => ∃ i : Nat, v13 = .int .i64 (i : Int) ∧ Aside0 (i + kq = 2) ∧ Aside0 (ST E s w') ∧ Aside0 (KP E w w') ∧ Aside0 (w'.heap[ge]? = some (.cells #[.int .i64 x0.f0, .int .i64 x0.f1, .string x0.f2, .slice A0 x0.f3.length c0] 94 (0, 0))) ∧ Aside0 (w'.heap[gc]? = some (.cells #[.string a, .int .i64 oa, .string b, .int .i64 ob] 126 (0, 0))) ∧ Aside0 (Kd.F k94 w' (GD E ge bb w') A0 x0.f3.length x0.f3) ∧ Aside0 ((1 ≤ i → isB E s a = false) ∧ (2 ≤ i → isB E s b = false)))
 case atStart => exact ⟨0, rfl, ⟨rfl⟩, HS, HK, He, Hc, HR, ⟨by omega, by omega⟩⟩
 case round =>
  clear HS HK He Hc HR
  obtain ⟨i, rfl, HI, HS, HK, He, Hc, HR, HBF⟩ := hrel
  have hi0 := HI.out
  cases gk with
  | zero =>
   obtain rfl : i = 2 := by omega
   go_wp2
   go_ret
   exact ⟨false, x0, s, A0, c0, rfl, HS.out, HK.out.to2, .inl ⟨rfl, rfl, rfl, HBF.out.1 (by omega), HBF.out.2 (by omega)⟩, He.out, hl0, HR.out⟩
  | succ k1 =>
   rcases (by omega : i = 0 ∨ i = 1) with rfl | rfl
   ·skip
    obtain rfl : k1 = 1 := by omega
    clear hi0
    obtain ⟨y0, y1, y2, y3⟩ := cn4 Hc.out
    go_upto_region 4 with (first | ((with_reducible refine gate_dst (N := 10) rfl ?_); refine bbX (N := 10) #[.string ⟨#[]⟩, .int .i64 0] 126 ?hr ?_; (case hr => first | (go_simp; done) | (go_simp; rfl)); intro gx hg_ wx hbox_ hq_; obtain ⟨z0_, f0_, z1_, f1_⟩ := cf2 hbox_))
    obtain ⟨F1_, F2_⟩ := fill126 hbox_ (.string a) (.int .i64 oa) _ rfl
    replace hq_ := hq_.trans (F2_.below.mono (Nat.le_of_eq hg_.out.symm))
    have Gx := Aside0.mk (show w.heap.size ≤ gx from by rw [hg_.out]; exact HK.out.2)
    have Ne_x := Aside0.mk (ne_new He.out hg_.out); have LTe_x := Aside0.mk (lt_new He.out hg_.out)
    have Nc_x := Aside0.mk (ne_new Hc.out hg_.out); have LTc_x := Aside0.mk (lt_new Hc.out hg_.out)
    clear hg_ hbox_ F2_ z0_ f0_ z1_ f1_
    generalize (wx.setCell ⟨gx, 0, none⟩ (.string a)).setCell ⟨gx, 1, none⟩ (.int .i64 oa) = vx at F1_ hq_ ⊢
    have Hx := Aside0.mk F1_
    replace He := mvB hq_ He
    replace Hc := mvB hq_ Hc
    replace HR := Aside0.mk (F.kp HR.out (KP.below hq_))
    replace HK := kkB HK hq_
    replace HS := ssM HS hq_
    clear F1_ hq_
    clear y0 y1 y2 y3
    have zx_0 := blk_celln Hx.out 0 _ rfl
    go_wp2_with (fail)
    cases hB : isB E s a with
    | false =>
     have HE := Aside0.mk hB
     have hW := took_c E s a _ HS.out false hB
     refine hW.mono ?_
     clear hW hB
     rintro e wb ⟨rfl, q1, qk⟩
     replace q1 : ST E s wb := q1
     replace He := mvK qk HS He
     replace Hc := mvK qk HS Hc
     replace Hx := mvK qk HS Hx
     replace HR := Aside0.mk (F.kp HR.out qk)
     replace HK := kkT HK qk
     replace HS := Aside0.mk q1
     clear q1 qk
     clear zx_0
     go_wp2
     clear HGE HBB HNE HIH HI Hx Gx Ne_x Nc_x
     go_roundg 1
     case measure => exact Nat.lt_succ_self _
     case rel => exact ⟨1, (by first | rfl | (simp; done)), ⟨rfl⟩, HS, HK, He, Hc, HR, ⟨fun _ => HE.out, by omega⟩⟩
    | true =>
     obtain ⟨hbad, _⟩ := is_ok hB
     have HE := Aside0.mk hB
     have HBD := Aside0.mk hbad
     have hW := took_c E s a _ HS.out true hB
     refine hW.mono ?_
     clear hW hB hbad
     rintro e wb ⟨rfl, q1, qk⟩
     replace q1 : ST E ⟨s.i + 1, false, s.ps⟩ wb := by
      have e : tkS s true = ⟨s.i + 1, false, s.ps⟩ := by
       unfold tkS
       rw [if_pos rfl, HBD.out]
      rw [← e]
      exact q1
     replace He := mvK qk HS He
     replace Hc := mvK qk HS Hc
     replace Hx := mvK qk HS Hx
     replace HR := Aside0.mk (F.kp HR.out qk)
     replace HK := kkT HK qk
     replace HS := Aside0.mk q1
     clear q1 qk
     clear zx_0
     go_upto_region 5 with (fail)
     replace He := mvB (below_drew (Below.refl wb.heap.size wb)) He
     replace Hc := mvB (below_drew (Below.refl wb.heap.size wb)) Hc
     replace Hx := mvB (below_drew (Below.refl wb.heap.size wb)) Hx
     replace HR := Aside0.mk (F.kp HR.out (KP.below (below_drew (Below.refl wb.heap.size wb))))
     replace HK := kkB HK (below_drew (Below.refl wb.heap.size wb))
     replace HS := ssM HS (below_drew (Below.refl wb.heap.size wb))
     refine start_ (n := 12) (S := fun w' => w'.cell? ⟨gx, 1, none⟩ = some (.int .i64 oa) ∧ w'.cell? ⟨ge, 0, none⟩ = some (.int .i64 x0.f0) ∧ w'.cell? ⟨ge, 1, none⟩ = some (.int .i64 x0.f1) ∧ w'.cell? ⟨ge, 2, none⟩ = some (.string x0.f2) ∧ w'.cell? ⟨ge, 3, none⟩ = some (.slice A0 x0.f3.length c0)) (ds := [11]) #[Z,Z,Z,Z,Z,Z,Z,Z,Z,Z,Z,Z] (zQEq2) rfl rfl ⟨(blk_celln Hx.out 1 _ rfl), (blk_celln He.out 0 _ rfl), (blk_celln He.out 1 _ rfl), (blk_celln He.out 2 _ rfl), (blk_celln He.out 3 _ rfl)⟩ (fun hHeld => ?_)
     refine with_tabW joinT111.tab5 joinT111.bits5 (fun HT_ HW_ => ?_)
     generalize World.drew _ = wd at HS HK He Hc HR Hx hHeld ⊢
     refine ppU (i := 0) (N := some 21) #[Y,Z,Z,Z,Z,Z,Z,Z,Z,Z,Z,Z] HT_ ?_
     refine ppU (i := 1) (N := some 22) #[Y,Y,Z,Z,Z,Z,Z,Z,Z,Z,Z,Z] HT_ ?_
     refine take_ (i := 2) (N := some 23) (v := ?_) (a' := ?_) #[Y,Y,Y,Z,Z,Z,Z,Z,Z,Z,Z,Z] rfl rfl (take_ofW HT_.out HW_.out (zQEq2)) (fun _ _ _ h => h) (Or.inl ⟨by rfl, ?_⟩) hHeld ?_ ?_
     rotate_left
     ·rintro w' ⟨s0, s1, s2, s3, s4⟩
      go_simp
      with_reducible rfl
     rotate_left
     ·simp only [Act.put, pA, pB, pC, i64_w, i32_w]
      rfl
     refine ppU (i := 3) (N := some 24) #[Y,Y,Y,Y,Z,Z,Z,Z,Z,Z,Z,Z] HT_ ?_
     refine ppU (i := 4) (N := some 25) #[Y,Y,Y,Y,Y,Z,Z,Z,Z,Z,Z,Z] HT_ ?_
     refine take_ (i := 5) (N := some 26) (v := ?_) (a' := ?_) #[Y,Y,Y,Y,Y,Y,Z,Z,Z,Z,Z,Z] rfl rfl (take_ofW HT_.out HW_.out (zQEq2)) (fun _ _ _ h => h) (Or.inl ⟨by rfl, ?_⟩) hHeld ?_ ?_
     rotate_left
     ·rintro w' ⟨s0, s1, s2, s3, s4⟩
      go_simp
      with_reducible rfl
     rotate_left
     ·simp only [Act.put, pA, pB, pC, i64_w, i32_w]
      rfl
     refine ppU (i := 6) (N := some 27) #[Y,Y,Y,Y,Y,Y,Y,Z,Z,Z,Z,Z] HT_ ?_
     refine one_ (i := 7) (N := some 28) #[Y,Y,Y,Y,Y,Y,Y,Y,Z,Z,Z,Z] rfl rfl (one_of HT_.out (zQEq2)) (by decide) (fun K hK => ?_)
     refine goesM_ Try.func111 (zQEq2) rfl (by rfl) rfl rfl rfl ?_
     have hW := HIH.out ⟨s.i + 1, false, s.ps⟩ _ HS.out (fun _ => HNE.out HBD.out (Or.inl (zQEq1)))
     refine hW.mono ?_
     clear hW
     rintro e wc ⟨f, vf, t, rfl, ⟨Af, cf, rfl, lf, rf⟩, q1, qk, hst, hti, hps⟩
     have RF := Aside0.mk (F.lower (F.free rf (show ge < _ from blk_lt He.out)) (Nat.le_trans HBB.out (Nat.le_of_lt (blk_lt He.out))))
     clear rf
     have HST := Aside0.mk hst
     have HTI := Aside0.mk hti
     have HPS := Aside0.mk hps
     clear hst hti hps
     replace He := mvK qk HS He
     replace Hc := mvK qk HS Hc
     replace Hx := mvK qk HS Hx
     replace HR := Aside0.mk (F.kp HR.out qk)
     replace HK := kkT HK qk
     replace HS := Aside0.mk q1
     clear q1 qk
     refine ⟨_, rfl, ?_⟩
     refine hK.out _ _ ⟨(blk_celln Hx.out 1 _ rfl), (blk_celln He.out 0 _ rfl), (blk_celln He.out 1 _ rfl), (blk_celln He.out 2 _ rfl), (blk_celln He.out 3 _ rfl)⟩ (fun hHeld => ?_)
     clear hK K
     refine norm_ (a' := ?_) ?_ ?_
     rotate_left
     ·show Act.put _ (some 28) _ = _
      simp only [Act.put, pA, pB, pC, i64_w, i32_w]
      rfl
     refine one_ (i := 8) (N := some 29) #[Y,Y,Y,Y,Y,Y,Y,Y,Y,Z,Z,Z] rfl rfl (one_of HT_.out (zQEq2)) (by decide) (fun K hK => ?_)
     refine lit_step ?hg (N := 29) ?hd (n := 2) (cs := ⟨[.int .i64 x0.f0, .int .i64 x0.f1, .string x0.f2, .slice A0 x0.f3.length c0] ++ [.int .i64 f.f0, .int .i64 f.f1, .string f.f2, .slice Af f.f3.length cf]⟩) (t := 94) ?hr ?_; (case hd => rfl); (case hg => rfl); (case hr => first | (go_simp; done) | (go_simp; rfl))
     intro gk hg_ w9 hbox_ hq_
     have hgk := Aside0.mk (show ge < gk from by rw [hg_]; exact blk_lt He.out)
     replace He := mvB hq_ He
     replace Hc := mvB hq_ Hc
     replace Hx := mvB hq_ Hx
     replace HR := Aside0.mk (F.kp HR.out (KP.below hq_))
     replace RF := ffB RF hq_
     replace HK := kkB HK hq_
     replace HS := ssM HS hq_
     have RR := Aside0.mk (F.two hbox_ (GD.at hbox_ HS.out (Nat.le_trans HBB.out (Nat.le_of_lt hgk.out)) (Nat.ne_of_gt hgk.out) (by decide) (by decide)) (FK94 hl0 HR.out) (FK94 lf RF.out))
     clear hg_ hbox_ hq_
     refine hK.out _ _ ⟨(blk_celln Hx.out 1 _ rfl), (blk_celln He.out 0 _ rfl), (blk_celln He.out 1 _ rfl), (blk_celln He.out 2 _ rfl), (blk_celln He.out 3 _ rfl)⟩ (fun hHeld => ?_)
     clear hK K
     refine norm_ (a' := ?_) ?_ ?_
     rotate_left
     ·show Act.put _ (some 29) _ = _
      simp only [Act.put, pA, pB, pC, i64_w, i32_w]
      rfl
     refine ppU (i := 9) (N := some 30) #[Y,Y,Y,Y,Y,Y,Y,Y,Y,Y,Z,Z] HT_ ?_
     refine ppU (i := 10) (N := some 31) #[Y,Y,Y,Y,Y,Y,Y,Y,Y,Y,Y,Z] HT_ ?_
     refine last_ (i := 11) (N := none) #[Y,Y,Y,Y,Y,Y,Y,Y,Y,Y,Y,Y] rfl rfl (one_of HT_.out (zQEq2)) (by decide) (fun K hK => ?_)
     obtain ⟨se0, sf0, se1, sf1, se2, sf2, se3, sf3⟩ := cf4 He.out
     refine skip_ (w1 := ?_) (by rfl) rfl ?_ ?_
     rotate_left
     ·go_simp
      rfl
     refine hK.out _ _ ?_
     clear hK K
     refine done_ (done_of HT_.out (zQEq2)) ?_
     clear hHeld
     go_wp2
     go_ret
     obtain ⟨F1_, F2_⟩ := fill94 He.out (.int .i64 oa) (.int .i64 0) (.string ⟨#[]⟩) (.slice (some ⟨gk, 0, none⟩) 2 2) _ rfl
     exact ⟨true, ⟨oa, 0, ⟨#[]⟩, [x0, f]⟩, t, some ⟨gk, 0, none⟩, 2, rfl, HS.out.only He.out (by decide) (by decide) HGE.out F2_, HK.out.to2.only F2_, .inr ⟨rfl, HBD.out, f, oa, .inl ⟨zQEq1, rfl⟩, HST.out, rfl, HTI.out, HPS.out⟩, F1_, Nat.le_refl 2, F.only RR.out F2_ (Or.inr rfl)⟩
   ·skip
    obtain rfl : k1 = 0 := by omega
    clear hi0
    obtain ⟨y0, y1, y2, y3⟩ := cn4 Hc.out
    go_upto_region 4 with (first | ((with_reducible refine gate_dst (N := 10) rfl ?_); refine bbX (N := 10) #[.string ⟨#[]⟩, .int .i64 0] 126 ?hr ?_; (case hr => first | (go_simp; done) | (go_simp; rfl)); intro gx hg_ wx hbox_ hq_; obtain ⟨z0_, f0_, z1_, f1_⟩ := cf2 hbox_))
    obtain ⟨F1_, F2_⟩ := fill126 hbox_ (.string b) (.int .i64 ob) _ rfl
    replace hq_ := hq_.trans (F2_.below.mono (Nat.le_of_eq hg_.out.symm))
    have Gx := Aside0.mk (show w.heap.size ≤ gx from by rw [hg_.out]; exact HK.out.2)
    have Ne_x := Aside0.mk (ne_new He.out hg_.out); have LTe_x := Aside0.mk (lt_new He.out hg_.out)
    have Nc_x := Aside0.mk (ne_new Hc.out hg_.out); have LTc_x := Aside0.mk (lt_new Hc.out hg_.out)
    clear hg_ hbox_ F2_ z0_ f0_ z1_ f1_
    generalize (wx.setCell ⟨gx, 0, none⟩ (.string b)).setCell ⟨gx, 1, none⟩ (.int .i64 ob) = vx at F1_ hq_ ⊢
    have Hx := Aside0.mk F1_
    replace He := mvB hq_ He
    replace Hc := mvB hq_ Hc
    replace HR := Aside0.mk (F.kp HR.out (KP.below hq_))
    replace HK := kkB HK hq_
    replace HS := ssM HS hq_
    clear F1_ hq_
    clear y0 y1 y2 y3
    have zx_0 := blk_celln Hx.out 0 _ rfl
    go_wp2_with (fail)
    cases hB : isB E s b with
    | false =>
     have HE := Aside0.mk hB
     have hW := took_c E s b _ HS.out false hB
     refine hW.mono ?_
     clear hW hB
     rintro e wb ⟨rfl, q1, qk⟩
     replace q1 : ST E s wb := q1
     replace He := mvK qk HS He
     replace Hc := mvK qk HS Hc
     replace Hx := mvK qk HS Hx
     replace HR := Aside0.mk (F.kp HR.out qk)
     replace HK := kkT HK qk
     replace HS := Aside0.mk q1
     clear q1 qk
     clear zx_0
     go_wp2
     clear HGE HBB HNE HIH HI Hx Gx Ne_x Nc_x
     go_roundg 0
     case measure => exact Nat.lt_succ_self _
     case rel => exact ⟨2, (by first | rfl | (simp; done)), ⟨rfl⟩, HS, HK, He, Hc, HR, ⟨fun _ => HBF.out.1 (by omega), fun _ => HE.out⟩⟩
    | true =>
     obtain ⟨hbad, _⟩ := is_ok hB
     have HE := Aside0.mk hB
     have HBD := Aside0.mk hbad
     have hW := took_c E s b _ HS.out true hB
     refine hW.mono ?_
     clear hW hB hbad
     rintro e wb ⟨rfl, q1, qk⟩
     replace q1 : ST E ⟨s.i + 1, false, s.ps⟩ wb := by
      have e : tkS s true = ⟨s.i + 1, false, s.ps⟩ := by
       unfold tkS
       rw [if_pos rfl, HBD.out]
      rw [← e]
      exact q1
     replace He := mvK qk HS He
     replace Hc := mvK qk HS Hc
     replace Hx := mvK qk HS Hx
     replace HR := Aside0.mk (F.kp HR.out qk)
     replace HK := kkT HK qk
     replace HS := Aside0.mk q1
     clear q1 qk
     clear zx_0
     go_upto_region 5 with (fail)
     replace He := mvB (below_drew (Below.refl wb.heap.size wb)) He
     replace Hc := mvB (below_drew (Below.refl wb.heap.size wb)) Hc
     replace Hx := mvB (below_drew (Below.refl wb.heap.size wb)) Hx
     replace HR := Aside0.mk (F.kp HR.out (KP.below (below_drew (Below.refl wb.heap.size wb))))
     replace HK := kkB HK (below_drew (Below.refl wb.heap.size wb))
     replace HS := ssM HS (below_drew (Below.refl wb.heap.size wb))
     refine start_ (n := 12) (S := fun w' => w'.cell? ⟨gx, 1, none⟩ = some (.int .i64 ob) ∧ w'.cell? ⟨ge, 0, none⟩ = some (.int .i64 x0.f0) ∧ w'.cell? ⟨ge, 1, none⟩ = some (.int .i64 x0.f1) ∧ w'.cell? ⟨ge, 2, none⟩ = some (.string x0.f2) ∧ w'.cell? ⟨ge, 3, none⟩ = some (.slice A0 x0.f3.length c0)) (ds := [11]) #[Z,Z,Z,Z,Z,Z,Z,Z,Z,Z,Z,Z] (zQEq2) rfl rfl ⟨(blk_celln Hx.out 1 _ rfl), (blk_celln He.out 0 _ rfl), (blk_celln He.out 1 _ rfl), (blk_celln He.out 2 _ rfl), (blk_celln He.out 3 _ rfl)⟩ (fun hHeld => ?_)
     refine with_tabW joinT111.tab5 joinT111.bits5 (fun HT_ HW_ => ?_)
     generalize World.drew _ = wd at HS HK He Hc HR Hx hHeld ⊢
     refine ppU (i := 0) (N := some 21) #[Y,Z,Z,Z,Z,Z,Z,Z,Z,Z,Z,Z] HT_ ?_
     refine ppU (i := 1) (N := some 22) #[Y,Y,Z,Z,Z,Z,Z,Z,Z,Z,Z,Z] HT_ ?_
     refine take_ (i := 2) (N := some 23) (v := ?_) (a' := ?_) #[Y,Y,Y,Z,Z,Z,Z,Z,Z,Z,Z,Z] rfl rfl (take_ofW HT_.out HW_.out (zQEq2)) (fun _ _ _ h => h) (Or.inl ⟨by rfl, ?_⟩) hHeld ?_ ?_
     rotate_left
     ·rintro w' ⟨s0, s1, s2, s3, s4⟩
      go_simp
      with_reducible rfl
     rotate_left
     ·simp only [Act.put, pA, pB, pC, i64_w, i32_w]
      rfl
     refine ppU (i := 3) (N := some 24) #[Y,Y,Y,Y,Z,Z,Z,Z,Z,Z,Z,Z] HT_ ?_
     refine ppU (i := 4) (N := some 25) #[Y,Y,Y,Y,Y,Z,Z,Z,Z,Z,Z,Z] HT_ ?_
     refine take_ (i := 5) (N := some 26) (v := ?_) (a' := ?_) #[Y,Y,Y,Y,Y,Y,Z,Z,Z,Z,Z,Z] rfl rfl (take_ofW HT_.out HW_.out (zQEq2)) (fun _ _ _ h => h) (Or.inl ⟨by rfl, ?_⟩) hHeld ?_ ?_
     rotate_left
     ·rintro w' ⟨s0, s1, s2, s3, s4⟩
      go_simp
      with_reducible rfl
     rotate_left
     ·simp only [Act.put, pA, pB, pC, i64_w, i32_w]
      rfl
     refine ppU (i := 6) (N := some 27) #[Y,Y,Y,Y,Y,Y,Y,Z,Z,Z,Z,Z] HT_ ?_
     refine one_ (i := 7) (N := some 28) #[Y,Y,Y,Y,Y,Y,Y,Y,Z,Z,Z,Z] rfl rfl (one_of HT_.out (zQEq2)) (by decide) (fun K hK => ?_)
     refine goesM_ Try.func111 (zQEq2) rfl (by rfl) rfl rfl rfl ?_
     have hW := HIH.out ⟨s.i + 1, false, s.ps⟩ _ HS.out (fun _ => HNE.out HBD.out (Or.inr (zQEq1)))
     refine hW.mono ?_
     clear hW
     rintro e wc ⟨f, vf, t, rfl, ⟨Af, cf, rfl, lf, rf⟩, q1, qk, hst, hti, hps⟩
     have RF := Aside0.mk (F.lower (F.free rf (show ge < _ from blk_lt He.out)) (Nat.le_trans HBB.out (Nat.le_of_lt (blk_lt He.out))))
     clear rf
     have HST := Aside0.mk hst
     have HTI := Aside0.mk hti
     have HPS := Aside0.mk hps
     clear hst hti hps
     replace He := mvK qk HS He
     replace Hc := mvK qk HS Hc
     replace Hx := mvK qk HS Hx
     replace HR := Aside0.mk (F.kp HR.out qk)
     replace HK := kkT HK qk
     replace HS := Aside0.mk q1
     clear q1 qk
     refine ⟨_, rfl, ?_⟩
     refine hK.out _ _ ⟨(blk_celln Hx.out 1 _ rfl), (blk_celln He.out 0 _ rfl), (blk_celln He.out 1 _ rfl), (blk_celln He.out 2 _ rfl), (blk_celln He.out 3 _ rfl)⟩ (fun hHeld => ?_)
     clear hK K
     refine norm_ (a' := ?_) ?_ ?_
     rotate_left
     ·show Act.put _ (some 28) _ = _
      simp only [Act.put, pA, pB, pC, i64_w, i32_w]
      rfl
     refine one_ (i := 8) (N := some 29) #[Y,Y,Y,Y,Y,Y,Y,Y,Y,Z,Z,Z] rfl rfl (one_of HT_.out (zQEq2)) (by decide) (fun K hK => ?_)
     refine lit_step ?hg (N := 29) ?hd (n := 2) (cs := ⟨[.int .i64 x0.f0, .int .i64 x0.f1, .string x0.f2, .slice A0 x0.f3.length c0] ++ [.int .i64 f.f0, .int .i64 f.f1, .string f.f2, .slice Af f.f3.length cf]⟩) (t := 94) ?hr ?_; (case hd => rfl); (case hg => rfl); (case hr => first | (go_simp; done) | (go_simp; rfl))
     intro gk hg_ w9 hbox_ hq_
     have hgk := Aside0.mk (show ge < gk from by rw [hg_]; exact blk_lt He.out)
     replace He := mvB hq_ He
     replace Hc := mvB hq_ Hc
     replace Hx := mvB hq_ Hx
     replace HR := Aside0.mk (F.kp HR.out (KP.below hq_))
     replace RF := ffB RF hq_
     replace HK := kkB HK hq_
     replace HS := ssM HS hq_
     have RR := Aside0.mk (F.two hbox_ (GD.at hbox_ HS.out (Nat.le_trans HBB.out (Nat.le_of_lt hgk.out)) (Nat.ne_of_gt hgk.out) (by decide) (by decide)) (FK94 hl0 HR.out) (FK94 lf RF.out))
     clear hg_ hbox_ hq_
     refine hK.out _ _ ⟨(blk_celln Hx.out 1 _ rfl), (blk_celln He.out 0 _ rfl), (blk_celln He.out 1 _ rfl), (blk_celln He.out 2 _ rfl), (blk_celln He.out 3 _ rfl)⟩ (fun hHeld => ?_)
     clear hK K
     refine norm_ (a' := ?_) ?_ ?_
     rotate_left
     ·show Act.put _ (some 29) _ = _
      simp only [Act.put, pA, pB, pC, i64_w, i32_w]
      rfl
     refine ppU (i := 9) (N := some 30) #[Y,Y,Y,Y,Y,Y,Y,Y,Y,Y,Z,Z] HT_ ?_
     refine ppU (i := 10) (N := some 31) #[Y,Y,Y,Y,Y,Y,Y,Y,Y,Y,Y,Z] HT_ ?_
     refine last_ (i := 11) (N := none) #[Y,Y,Y,Y,Y,Y,Y,Y,Y,Y,Y,Y] rfl rfl (one_of HT_.out (zQEq2)) (by decide) (fun K hK => ?_)
     obtain ⟨se0, sf0, se1, sf1, se2, sf2, se3, sf3⟩ := cf4 He.out
     refine skip_ (w1 := ?_) (by rfl) rfl ?_ ?_
     rotate_left
     ·go_simp
      rfl
     refine hK.out _ _ ?_
     clear hK K
     refine done_ (done_of HT_.out (zQEq2)) ?_
     clear hHeld
     go_wp2
     go_ret
     obtain ⟨F1_, F2_⟩ := fill94 He.out (.int .i64 ob) (.int .i64 0) (.string ⟨#[]⟩) (.slice (some ⟨gk, 0, none⟩) 2 2) _ rfl
     exact ⟨true, ⟨ob, 0, ⟨#[]⟩, [x0, f]⟩, t, some ⟨gk, 0, none⟩, 2, rfl, HS.out.only He.out (by decide) (by decide) HGE.out F2_, HK.out.to2.only F2_, .inr ⟨rfl, HBD.out, f, ob, .inr ⟨by have := HBF.out.1 (by omega); rw [isB_eq, HBD.out] at this; simpa using this, zQEq1, rfl⟩, HST.out, rfl, HTI.out, HPS.out⟩, F1_, Nat.le_refl 2, F.only RR.out F2_ (Or.inr rfl)⟩
end Go.Proofs.Ytinnldfmbeafiaa.PA
