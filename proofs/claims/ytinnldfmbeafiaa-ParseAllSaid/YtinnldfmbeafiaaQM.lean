/- A program; walked by hand. -/
import Derived.Test.YtinnldfmbeafiaaQL
namespace Go.Proofs.Ytinnldfmbeafiaa.PA
open Go.RowKit Go.Proofs.YtinnldfmbeafiaaW.PrintWords Go.Proofs.YtinnldfmbeafiaaW.PrintLast Go.Proofs.YtinnldfmbeafiaaW.PrintMore
set_option linter.unusedVariables false
set_option linter.unusedSimpArgs false
attribute [local go_sem] cell_set_some fld53_0 fld53_1 fld53_2 fld53_3
theorem zQMq1 {p : Prop} (h : p := by (try simp only [List.map_toArray, List.map_cons, List.map_nil]); first | done | rfl) : p := h
theorem info68 : (Try.prog.info? 68).map (fun i => (i.zero, i.size, i.bytes)) = some (some (.agg #[.string ⟨#[]⟩, .int .i64 0]), 2, 24) := by kernel_rfl
theorem info56 : (Try.prog.info? 56).map (fun i => (i.zero, i.size, i.bytes)) = some (some (.slice none 0 0), 1, 24) := by kernel_rfl
/-- A program. -/
structure PR where
 nm : ByteArray
 vals : Int
 init : List S68
 thr : List (List S62)
 ask : Int
 cnd : S27
/-- A part begins. -/
def markP (E : Env) (i : Nat) : Res Unit := .ok () i [(E.tk i).f3]
def initL (E : Env) : Nat → List S68 → Nat → Res (List S68)
 | 0, _, _ => .out
 | m + 1, l, i => if isT E i ⟨#[105, 110, 105, 116]⟩ = true then (markP E i).bind fun _ j => (nameP E (j + 1)).bind fun x j => (numP E j).bind fun n j => initL E m (l ++ [⟨x, n⟩]) j else .ok l i []
def thrL (E : Env) (blk : Nat → Res (List S62)) : Nat → List (List S62) → Nat → Res (List (List S62))
 | 0, _, _ => .out
 | m + 1, l, i => if isT E i ⟨#[116, 104, 114, 101, 97, 100]⟩ = true then (blk (i + 1)).bind fun b j => thrL E blk m (l ++ [b]) j else .ok l i []
def askQ (E : Env) (i : Nat) : Res Int := if isT E i ⟨#[101, 120, 105, 115, 116, 115]⟩ = true then .ok 1 (i + 1) [] else (mustP E ⟨#[102, 111, 114, 97, 108, 108]⟩ i).bind fun _ j => .ok 2 j []
def endP (E : Env) (i : Nat) : Res Unit := if (E.tk i).f0 = 4 then .ok () i [] else .fail i
/-- What stands behind the threads. -/
def last4 (E : Env) (nm : ByteArray) (v : Int) (ini : List S68) (th : List (List S62)) (a : Int) (c : S27) (i : Nat) : Res PR := (endP E i).bind fun _ i => .ok ⟨nm, v, ini, th, a, c⟩ i []
def last3 (E : Env) (kc : Nat) (nm : ByteArray) (v : Int) (ini : List S68) (th : List (List S62)) (a : Int) (i : Nat) : Res PR := (condQ E (oneF E kc) i).bind fun c i => last4 E nm v ini th a c i
def last2 (E : Env) (kc : Nat) (nm : ByteArray) (v : Int) (ini : List S68) (th : List (List S62)) (i : Nat) : Res PR := (askQ E i).bind fun a i => last3 E kc nm v ini th a i
def lastP (E : Env) (kc : Nat) (nm : ByteArray) (v : Int) (ini : List S68) (th : List (List S62)) (i : Nat) : Res PR := (markP E i).bind fun _ i => last2 E kc nm v ini th i
def mid2 (E : Env) (kc ke kb : Nat) (nm : ByteArray) (v : Int) (ini : List S68) (i : Nat) : Res PR := (thrL E (blockF E ke kb) (E.ts.length + 1) [] i).bind fun th i => lastP E kc nm v ini th i
def midP (E : Env) (kc ke kb : Nat) (nm : ByteArray) (v : Int) (i : Nat) : Res PR := (initL E (E.ts.length + 1) [] i).bind fun ini i => mid2 E kc ke kb nm v ini i
def prog5 (E : Env) (kc ke kb : Nat) (nm : ByteArray) (i : Nat) : Res PR := (numP E i).bind fun v i => midP E kc ke kb nm v i
def prog4 (E : Env) (kc ke kb : Nat) (nm : ByteArray) (i : Nat) : Res PR := (mustP E ⟨#[118, 97, 108, 117, 101, 115]⟩ i).bind fun _ i => prog5 E kc ke kb nm i
def prog3 (E : Env) (kc ke kb : Nat) (i : Nat) : Res PR := (nameP E i).bind fun nm i => prog4 E kc ke kb nm i
def prog2 (E : Env) (kc ke kb : Nat) (i : Nat) : Res PR := (mustP E ⟨#[108, 105, 116, 109, 117, 115]⟩ i).bind fun _ i => prog3 E kc ke kb i
def progP (E : Env) (kc ke kb : Nat) (i : Nat) : Res PR := (markP E i).bind fun _ i => prog2 E kc ke kb i
section
variable {E : Env} {s t : Cs} {w w1 : World} {α : Type} {d : Kd α} {z b tt n : Nat} {A : Option Addr} {xs : List α} {row : Option Nat}
theorem FT.to (h : Kd.F d w (fun k => GD E z b w k ∧ k < tt) A n xs) (hm : ∀ k, GD E z b w k → k < tt → k < w.heap.size → w1.heap[k]? = w.heap[k]?) : Kd.F d w1 (fun k => GD E z b w1 k ∧ k < tt) A n xs :=
 Kd.F_mono (Kd.F_step (Kd.F_bound h) (fun k hk _ => hm k hk.1.1 hk.1.2 hk.2)) (fun k hk => ⟨⟨hk.1.1.1, hk.1.1.2.1, fun c fz => (by rw [hm k hk.1.1 hk.1.2 hk.2]; exact hk.1.1.2.2.1 c fz), hk.1.1.2.2.2⟩, hk.1.2⟩)
theorem FT.kp (h : Kd.F d w (fun k => GD E z b w k ∧ k < tt) A n xs) (hk : KP E w w1) : Kd.F d w1 (fun k => GD E z b w1 k ∧ k < tt) A n xs := FT.to h (fun k a _ c => hk.gd k a c)
theorem FT.only {g : Nat} (h : Kd.F d w (fun k => GD E z b w k ∧ k < tt) A n xs) (ho : Only g w w1) (hg : g < b ∨ g = z) : Kd.F d w1 (fun k => GD E z b w1 k ∧ k < tt) A n xs := FT.to h (fun k a _ c => ho.gd hg k a c)
theorem FT.grown (h : Kd.F d w (fun k => GD E z b w k ∧ k < tt) A n xs) (hg : w.grownBy w1 row) (hr : ∀ g, row = some g → tt ≤ g) : Kd.F d w1 (fun k => GD E z b w1 k ∧ k < tt) A n xs := FT.to h (fun k _ b c => hg.block k c (fun e => by
 have := hr k e.symm
 omega))
theorem Step.endT (h : (E.tk s.i).f0 = 4) : Step s (endP E s.i) () s := by
 cases hb : s.bad with
 | true => exact Step.bad hb hb rfl
 | false => exact Step.good (j := s.i) (q := []) hb (by unfold endP; rw [if_pos h]) (by rw [← hb]; simp)
theorem Step.endF (h : (E.tk s.i).f0 ≠ 4) : Step s (endP E s.i) () ⟨s.i, true, s.ps⟩ := Step.fail (fun _ => by unfold endP; rw [if_neg h]) rfl rfl
theorem Step.ask1 (hb : s.bad = false) (h : isT E s.i ⟨#[101, 120, 105, 115, 116, 115]⟩ = true) : Step s (askQ E s.i) 1 ⟨s.i + 1, false, s.ps⟩ :=
 Step.good (j := s.i + 1) (q := []) hb (by unfold askQ; rw [if_pos h]) (by simp)
theorem Step.ask2 (h : isB E s ⟨#[101, 120, 105, 115, 116, 115]⟩ = false) (k : Step s (mustP E ⟨#[102, 111, 114, 97, 108, 108]⟩ s.i) () t) : Step s (askQ E s.i) 2 t :=
 Step.cast (k.bind (f := fun _ j => .ok 2 j []) (Step.pure t 2)) (fun hb => by unfold askQ; rw [if_neg (by rw [isB_good hb _ h]; decide)])
end
/-- A program that is handed back: its rows are new. -/
def VP (E : Env) (w : World) (w' : World) (x : PR) (v : Value) : Prop := ∃ AI cI AT cT AC cC, v = .agg #[.string x.nm, .int .i64 x.vals, .slice AI x.init.length cI, .slice AT x.thr.length cT, .int .i64 x.ask, .int .i64 x.cnd.f0, .int .i64 x.cnd.f1, .string x.cnd.f2, .int .i64 x.cnd.f3, .slice AC x.cnd.f4.length cC] ∧
 x.init.length ≤ cI ∧ Kd.F k68 w' (GD E E.g w.heap.size w') AI x.init.length x.init ∧ x.thr.length ≤ cT ∧ Kd.F (Kd.slice 62 k62) w' (GD E E.g w.heap.size w') AT x.thr.length x.thr ∧ x.cnd.f4.length ≤ cC ∧ Kd.F k27 w' (GD E E.g w.heap.size w') AC x.cnd.f4.length x.cnd.f4
/-- What a program's reading comes to. -/
def GotP (E : Env) (s : Cs) (w : World) (r : Res PR) (e : Ending) (w' : World) : Prop :=
 ∃ x v t, e = .returned v ∧ VP E w w' x v ∧ ST E t w' ∧ KP E w w' ∧ Step s r x t
theorem Step.mark (E : Env) (s : Cs) : Step s (markP E s.i) () ⟨s.i, s.bad, s.ps ++ [(E.tk s.i).f3]⟩ :=
 ⟨fun h => ⟨h, rfl⟩, fun h => .inr ⟨s.i, [(E.tk s.i).f3], rfl, by rw [h]⟩⟩
theorem init_stop {E : Env} {s : Cs} {m : Nat} {l : List S68} (h : Ne s (initL E m l s.i)) (ha : isB E s ⟨#[105, 110, 105, 116]⟩ = false) : Step s (initL E m l s.i) l s := by
 cases hbad : s.bad with
 | true => exact Step.bad hbad hbad rfl
 | false =>
  have a := isB_good hbad _ ha
  cases m with
  | zero => exact absurd rfl (h hbad)
  | succ m =>
   rw [initL, if_neg (by rw [a]; decide)]
   exact Step.pure s l
theorem init_go {E : Env} {i : Nat} {ps : List Int} {m : Nat} {l : List S68} (h : Ne ⟨i, false, ps⟩ (initL E m l i)) (ho : isT E i ⟨#[105, 110, 105, 116]⟩ = true) :
 ∃ m', m = m' + 1 ∧ ∀ x n t u, Step ⟨i + 1, false, ps ++ [(E.tk i).f3]⟩ (nameP E (i + 1)) x t → Step t (numP E t.i) n u → Ne u (initL E m' (l ++ [⟨x, n⟩]) u.i) ∧ ∀ y v, Step u (initL E m' (l ++ [⟨x, n⟩]) u.i) y v → Step ⟨i, false, ps⟩ (initL E m l i) y v := by
 cases m with
 | zero => exact absurd rfl (h rfl)
 | succ m =>
  have e : initL E (m + 1) l i = (markP E i).bind fun _ j => (nameP E (j + 1)).bind fun x j => (numP E j).bind fun n j => initL E m (l ++ [⟨x, n⟩]) j := by
   rw [initL, if_pos ho]
  rw [e] at h ⊢
  refine ⟨m, rfl, fun x n t u h1 h2 => ?_⟩
  have h3 : Ne (⟨i, false, ps ++ [(E.tk i).f3]⟩ : Cs) ((nameP E (i + 1)).bind fun x j => (numP E j).bind fun n j => initL E m (l ++ [⟨x, n⟩]) j) := Ne.next (f := fun _ j => (nameP E (j + 1)).bind fun x j => (numP E j).bind fun n j => initL E m (l ++ [⟨x, n⟩]) j) h (Step.mark E ⟨i, false, ps⟩)
  have h4 : Ne t ((numP E t.i).bind fun n j => initL E m (l ++ [⟨x, n⟩]) j) := Ne.next (s := ⟨i + 1, false, ps ++ [(E.tk i).f3]⟩) (x := x) (f := fun x j => (numP E j).bind fun n j => initL E m (l ++ [⟨x, n⟩]) j) (fun _ => h3 rfl) h1
  refine ⟨Ne.next (x := n) (f := fun n j => initL E m (l ++ [⟨x, n⟩]) j) h4 h2, fun y v k => ?_⟩
  exact Step.bind (Step.mark E ⟨i, false, ps⟩) (Step.at (s := ⟨i, false, ps ++ [(E.tk i).f3]⟩) (j := i + 1) rfl (h1.bind (h2.bind k)))
theorem thr_stop {E : Env} {blk : Nat → Res (List S62)} {s : Cs} {m : Nat} {l : List (List S62)} (h : Ne s (thrL E blk m l s.i)) (ha : isB E s ⟨#[116, 104, 114, 101, 97, 100]⟩ = false) : Step s (thrL E blk m l s.i) l s := by
 cases hbad : s.bad with
 | true => exact Step.bad hbad hbad rfl
 | false =>
  have a := isB_good hbad _ ha
  cases m with
  | zero => exact absurd rfl (h hbad)
  | succ m =>
   rw [thrL, if_neg (by rw [a]; decide)]
   exact Step.pure s l
theorem thr_go {E : Env} {blk : Nat → Res (List S62)} {s : Cs} {m : Nat} {l : List (List S62)} (hb : s.bad = false) (h : Ne s (thrL E blk m l s.i)) (ho : isT E s.i ⟨#[116, 104, 114, 101, 97, 100]⟩ = true) :
 blk (s.i + 1) ≠ .out ∧ ∃ m', m = m' + 1 ∧ ∀ b u, Step ⟨s.i + 1, false, s.ps⟩ (blk (s.i + 1)) b u → Ne u (thrL E blk m' (l ++ [b]) u.i) ∧ ∀ y v, Step u (thrL E blk m' (l ++ [b]) u.i) y v → Step s (thrL E blk m l s.i) y v := by
 cases m with
 | zero => exact absurd rfl (h hb)
 | succ m =>
  have e : thrL E blk (m + 1) l s.i = (blk (s.i + 1)).bind fun b j => thrL E blk m (l ++ [b]) j := by
   rw [thrL, if_pos ho]
  rw [e] at h ⊢
  exact ⟨bind_out (h hb), m, rfl, fun b u hs => ⟨Ne.next (s := ⟨s.i + 1, false, s.ps⟩) (x := b) (f := fun b j => thrL E blk m (l ++ [b]) j) (fun _ => h hb) hs, fun y v k => Step.at hb (hs.bind k)⟩⟩
theorem fillc {w : World} {g : Nat} {e0 e1 e2 e3 e4 e5 e6 e7 e8 e9 : Value} (h : w.heap[g]? = some (.cells #[e0, e1, e2, e3, e4, e5, e6, e7, e8, e9] 29 (0, 0))) (v5 v6 v7 v8 v9 : Value) (W : World) (hW : W = ((((w.setCell ⟨g, 5, none⟩ v5).setCell ⟨g, 6, none⟩ v6).setCell ⟨g, 7, none⟩ v7).setCell ⟨g, 8, none⟩ v8).setCell ⟨g, 9, none⟩ v9) :
 W.heap[g]? = some (.cells #[e0, e1, e2, e3, e4, v5, v6, v7, v8, v9] 29 (0, 0)) ∧ Only g w W := by
 subst hW
 have b5 := blk_put (cs' := #[e0, e1, e2, e3, e4, v5, e6, e7, e8, e9]) h 5 v5 (by simp)
 have b6 := blk_put (cs' := #[e0, e1, e2, e3, e4, v5, v6, e7, e8, e9]) b5 6 v6 (by simp)
 have b7 := blk_put (cs' := #[e0, e1, e2, e3, e4, v5, v6, v7, e8, e9]) b6 7 v7 (by simp)
 have b8 := blk_put (cs' := #[e0, e1, e2, e3, e4, v5, v6, v7, v8, e9]) b7 8 v8 (by simp)
 have b9 := blk_put (cs' := #[e0, e1, e2, e3, e4, v5, v6, v7, v8, v9]) b8 9 v9 (by simp)
 exact ⟨b9, ((((((Only.refl g w).set 5 _).set 6 _).set 7 _).set 8 _).set 9 _)⟩
theorem pl_few {E : Env} {s : Cs} {w : World} (h : Pl s) (hS : ST E s w) : s.ps.length ≤ 1000000 := by
 have h1 := hS.lt
 have h2 := hS.ok.few
 unfold Pl at h
 have h3 : s.bad.toNat ≤ 1 := by cases s.bad <;> simp
 omega
def progT.T10 : Bool × List (List Nat × List Nat) := (true, [([], []), ([0], [0]), ([], []), ([2], [2]), ([], []), ([4, 3], [4]), ([3, 5], [3, 5]), ([6], [6]), ([1, 7, 5], [1, 7]), ([0, 1, 2, 3, 4, 5, 6, 7, 8], []), ([9, 8, 8, 0, 1, 2, 3, 4, 5, 6, 7, 8], [8, 9])])
def progT.B10 : List Nat := [0, 1, 0, 4, 0, 28, 60, 124, 255, 511, 1023]
theorem progT.tab10 : rtab .any (opsOf Try.f33 10) = progT.T10 := by kernel_rfl
theorem progT.bits10 : waitsOk progT.T10.2 progT.B10 = true := by kernel_rfl
def progT.T12 : Bool × List (List Nat × List Nat) := (true, [([], []), ([0], [0]), ([], []), ([2], [2]), ([3], [3]), ([1, 4, 3], [1, 4]), ([0, 1, 2, 3, 4, 5], []), ([6, 5, 5, 0, 1, 2, 3, 4, 5], [5, 6])])
def progT.B12 : List Nat := [0, 1, 0, 4, 12, 31, 63, 127]
theorem progT.tab12 : rtab .any (opsOf Try.f33 12) = progT.T12 := by kernel_rfl
theorem progT.bits12 : waitsOk progT.T12.2 progT.B12 = true := by kernel_rfl
set_option maxHeartbeats 8000000 in
set_option maxRecDepth 100000 in
theorem prog_c (E : Env) (kc ke kb : Nat) (w : World) (h : ST E ⟨0, false, []⟩ w) (hn : Ne ⟨0, false, []⟩ (progP E kc ke kb 0)) : Calls Try.prog 33 #[.pointer (some ⟨E.g, 0, none⟩)] w (GotP E ⟨0, false, []⟩ w (progP E kc ke kb 0)) := by
 have hu85 := Try.underlying85
 have hu29 := Try.underlying29
 have HN := Aside0.mk hn
 clear hn
 have HSB := Aside0.mk (show E.w0.heap.size ≤ w.heap.size from h.below.size)
 have HS := Aside0.mk h
 have HK := Aside0.mk (KP.refl E w)
 clear h
 go_enter Try.func33, Try.ntmps33
 go_wp2_with (first | ((with_reducible refine gate_dst (N := 2) rfl ?_); refine bbX (N := 2) z29v 29 ?hr ?_; (case hr => first | (go_simp; done) | (go_simp; rfl)); intro g2 hg_ w2 hbox_ hq_; have G2 := Aside0.mk (show w.heap.size ≤ g2 from by rw [hg_.out]; exact HK.out.2); have H2 := Aside0.mk hbox_; replace HK := kkB HK hq_; replace HS := ssM HS hq_; clear hg_ hbox_ hq_) | ((with_reducible refine gate_dst (N := 3) rfl ?_); refine bbX (N := 3) z29v 29 ?hr ?_; (case hr => first | (go_simp; done) | (go_simp; rfl)); intro g3 hg_ w3 hbox_ hq_; have G3 := Aside0.mk (show w.heap.size ≤ g3 from by rw [hg_.out]; exact HK.out.2); have N2_3 := Aside0.mk (ne_new H2.out hg_.out); have LT2_3 := Aside0.mk (lt_new H2.out hg_.out); have H3 := Aside0.mk hbox_; replace H2 := mvB hq_ H2; replace HK := kkB HK hq_; replace HS := ssM HS hq_; clear hg_ hbox_ hq_))
 go_wp2_with (fail)
 have hW := part_c E ⟨0, false, []⟩ _ HS.out (by decide)
 refine hW.mono ?_
 clear hW
 rintro e wa ⟨rfl, q1, qk⟩
 replace H2 := mvK qk HS H2
 replace H3 := mvK qk HS H3
 replace HK := kkT HK qk
 replace HS := Aside0.mk q1
 clear q1 qk
 obtain ⟨p0, hp0⟩ : ∃ p0, (E.tk 0).f3 = p0 := ⟨_, rfl⟩
 have HP0 := Aside0.mk hp0
 replace HS : Aside0 (ST E ⟨0, false, [p0]⟩ wa) := ⟨hp0 ▸ HS.out⟩
 have S1 := Aside0.mk (show Step ⟨0, false, []⟩ (markP E 0) () ⟨0, false, [p0]⟩ from hp0 ▸ Step.mark E ⟨0, false, []⟩)
 clear hp0 HP0
 replace HN := Aside0.mk (show Ne ⟨0, false, [p0]⟩ (prog2 E kc ke kb 0) from Ne.next (f := fun _ i => prog2 E kc ke kb i) HN.out S1.out)
 have HPL := Aside0.mk (show Pl ⟨0, false, [p0]⟩ from by show 1 ≤ 0 + 1 + 0; decide)
 go_wp2_with (fail)
 have hW := must_c E ⟨0, false, [p0]⟩ ⟨#[108, 105, 116, 109, 117, 115]⟩ _ HS.out
 refine hW.mono ?_
 clear hW
 rintro e wa ⟨_, va, ta, rfl, rfl, q1, qk, hst, hti, hps⟩
 have Ta := Aside0.mk (And.intro hst (And.intro hti hps))
 clear hst hti hps
 replace H2 := mvK qk HS H2
 replace H3 := mvK qk HS H3
 replace HK := kkT HK qk
 replace HS := Aside0.mk q1
 clear q1 qk
 replace HN := Aside0.mk (show Ne ta (prog3 E kc ke kb ta.i) from Ne.next (f := fun _ i => prog3 E kc ke kb i) HN.out Ta.out.1)
 replace HPL := Aside0.mk (Pl.got HPL.out Ta.out.1 Ta.out.2.1 Ta.out.2.2)
 go_wp2_with (fail)
 have hW := name_c E ta _ HS.out
 refine hW.mono ?_
 clear hW
 rintro e wn ⟨n, vn, tn, rfl, rfl, q1, qk, hst, hti, hps⟩
 have Tn := Aside0.mk (And.intro hst (And.intro hti hps))
 clear hst hti hps
 replace H2 := mvK qk HS H2
 replace H3 := mvK qk HS H3
 replace HK := kkT HK qk
 replace HS := Aside0.mk q1
 clear q1 qk
 replace HN := Aside0.mk (show Ne tn (prog4 E kc ke kb n tn.i) from Ne.next (f := fun n i => prog4 E kc ke kb n i) HN.out Tn.out.1)
 replace HPL := Aside0.mk (Pl.got HPL.out Tn.out.1 Tn.out.2.1 Tn.out.2.2)
 have zk := blk_celln H3.out 0 _ rfl; have fk := blk_frozen H3.out 0
 go_upto_region 5 with (fail)
 obtain ⟨F1_, F2_⟩ := set1 H3.out 0 (.string n) (cs' := #[.string n, .int .i64 0, .slice none 0 0, .slice none 0 0, .int .i64 0, .int .i64 0, .int .i64 0, .string ⟨#[]⟩, .int .i64 0, .slice none 0 0]) rfl
 generalize hW_ : World.setCell _ ⟨g3, 0, none⟩ (.string n) = wq at F1_ F2_ ⊢
 clear hW_ zk fk
 replace HS := ssO HS H3 HSB G3 F2_
 replace HK := kkO HK G3 F2_
 replace H2 := Aside0.mk ((F2_.block g2 (N2_3.out)).trans H2.out)
 replace H3 := Aside0.mk F1_
 clear F1_ F2_
 go_wp2_with (fail)
 have hW := must_c E tn ⟨#[118, 97, 108, 117, 101, 115]⟩ _ HS.out
 refine hW.mono ?_
 clear hW
 rintro e wb ⟨_, vb, tb, rfl, rfl, q1, qk, hst, hti, hps⟩
 have Tb := Aside0.mk (And.intro hst (And.intro hti hps))
 clear hst hti hps
 replace H2 := mvK qk HS H2
 replace H3 := mvK qk HS H3
 replace HK := kkT HK qk
 replace HS := Aside0.mk q1
 clear q1 qk
 replace HN := Aside0.mk (show Ne tb (prog5 E kc ke kb n tb.i) from Ne.next (f := fun _ i => prog5 E kc ke kb n i) HN.out Tb.out.1)
 replace HPL := Aside0.mk (Pl.got HPL.out Tb.out.1 Tb.out.2.1 Tb.out.2.2)
 go_wp2_with (fail)
 have hW := number_c E tb _ HS.out
 refine hW.mono ?_
 clear hW
 rintro e wv ⟨v, vv, tv, rfl, rfl, q1, qk, hst, hti, hps⟩
 have Tv := Aside0.mk (And.intro hst (And.intro hti hps))
 clear hst hti hps
 replace H2 := mvK qk HS H2
 replace H3 := mvK qk HS H3
 replace HK := kkT HK qk
 replace HS := Aside0.mk q1
 clear q1 qk
 replace HN := Aside0.mk (show Ne tv (midP E kc ke kb n v tv.i) from Ne.next (f := fun v i => midP E kc ke kb n v i) HN.out Tv.out.1)
 replace HPL := Aside0.mk (Pl.got HPL.out Tv.out.1 Tv.out.2.1 Tv.out.2.2)
 have zk := blk_celln H3.out 1 _ rfl; have fk := blk_frozen H3.out 1
 go_wp2_with (fail)
 obtain ⟨F1_, F2_⟩ := set1 H3.out 1 (.int .i64 v) (cs' := #[.string n, .int .i64 v, .slice none 0 0, .slice none 0 0, .int .i64 0, .int .i64 0, .int .i64 0, .string ⟨#[]⟩, .int .i64 0, .slice none 0 0]) rfl
 generalize hW_ : World.setCell _ ⟨g3, 1, none⟩ (.int .i64 v) = wq at F1_ F2_ ⊢
 clear hW_ zk fk
 replace HS := ssO HS H3 HSB G3 F2_
 replace HK := kkO HK G3 F2_
 replace H2 := Aside0.mk ((F2_.block g2 (N2_3.out)).trans H2.out)
 replace H3 := Aside0.mk F1_
 clear F1_ F2_
 have S5 := Aside0.mk (show ∀ y u, Step tv (midP E kc ke kb n v tv.i) y u → Step ⟨0, false, []⟩ (progP E kc ke kb 0) y u from fun y u q => Step.bind (f := fun _ i => prog2 E kc ke kb i) S1.out (Ta.out.1.bind (f := fun _ i => prog3 E kc ke kb i) (Tn.out.1.bind (f := fun n i => prog4 E kc ke kb n i) (Tb.out.1.bind (f := fun _ i => prog5 E kc ke kb n i) (Tv.out.1.bind (f := fun v i => midP E kc ke kb n v i) q)))))
 clear S1 Ta Tn Tb Tv
 go_loopg [] (E.ts.length + 1) (fun kq w' => ∃ (sc : Cs) (l : List S68) (A1 : Option Addr) (c1 : Nat), Aside0 (ST E sc w') ∧ Aside0 (KP E w w') ∧ Aside0 (w'.heap[g2]? = some (.cells z29v 29 (0, 0))) ∧ Aside0 (w'.heap[g3]? = some (.cells #[.string n, .int .i64 v, .slice A1 l.length c1, .slice none 0 0, .int .i64 0, .int .i64 0, .int .i64 0, .string ⟨#[]⟩, .int .i64 0, .slice none 0 0] 29 (0, 0))) ∧ Aside0 (Kd.N k68 68 w' (g3 + 1) (GD E E.g (g3 + 1) w') (.slice A1 l.length c1) l) ∧ Aside0 (Ne sc (initL E kq l sc.i)) ∧ Aside0 (∀ y u, Step sc (initL E kq l sc.i) y u → Step tv (initL E (E.ts.length + 1) [] tv.i) y u) ∧ Aside0 (l.length ≤ sc.i + sc.bad.toNat ∧ Pl sc))
 case atStart => exact ⟨tv, [], none, 0, HS, HK, H2, H3, ⟨Kd.N_nil _ _ _ _ _⟩, ⟨Ne.first HN.out⟩, ⟨fun y u q => q⟩, ⟨Nat.zero_le _, HPL.out⟩⟩
 case round =>
  clear HS HK H2 H3 HPL
  obtain ⟨sc, l, A1, c1, HS, HK, H2, H3, RN, HNe, HC, HLE⟩ := hrel
  go_wp2_with (fail)
  have hW := is_c E sc ⟨#[105, 110, 105, 116]⟩ _ HS.out
  refine hW.mono ?_
  clear hW
  rintro e wi ⟨rfl, qb⟩
  replace H2 := mvB qb H2
  replace H3 := mvB qb H3
  replace RN := Aside0.mk (NG.kp RN.out (KP.below qb))
  replace HK := kkB HK qb
  replace HS := ssM HS qb
  clear qb
  cases hB : isB E sc ⟨#[105, 110, 105, 116]⟩ with
  | true =>
   obtain ⟨hbad, hne⟩ := is_ok hB
   have HE := Aside0.mk (isB_good hbad _ hB)
   obtain ⟨i, bad, ps⟩ := sc
   simp only at hbad hne
   subst hbad
   have HX := Aside0.mk hne
   obtain ⟨p1, hp1⟩ : ∃ p1, (E.tk i).f3 = p1 := ⟨_, rfl⟩
   have HG := Aside0.mk (init_go HNe.out HE.out)
   have HPS := Aside0.mk (pl_few HLE.out.2 HS.out)
   skip
   clear hB hne
   go_wp2_with (fail)
   have hW := part_c E ⟨i, false, ps⟩ _ HS.out HPS.out
   refine hW.mono ?_
   clear hW
   rintro e wj ⟨rfl, q1, qk⟩
   replace H2 := mvK qk HS H2
   replace H3 := mvK qk HS H3
   replace RN := Aside0.mk (NG.kp RN.out qk)
   replace HK := kkT HK qk
   replace HS := Aside0.mk q1
   clear q1 qk
   replace HS : Aside0 (ST E ⟨i, false, ps ++ [p1]⟩ wj) := ⟨hp1 ▸ HS.out⟩
   replace HG := hp1 ▸ HG
   clear hp1
   go_wp2_with (fail)
   have hW := next_c E ⟨i, false, ps ++ [p1]⟩ _ HS.out
   refine hW.mono ?_
   clear hW
   rintro e wk ⟨rfl, q1, qk⟩
   replace H2 := mvK qk HS H2
   replace H3 := mvK qk HS H3
   replace RN := Aside0.mk (NG.kp RN.out qk)
   replace HK := kkT HK qk
   replace HS := Aside0.mk q1
   clear q1 qk
   rw [show nx E ⟨i, false, ps ++ [p1]⟩ = ⟨i + 1, false, ps ++ [p1]⟩ from if_pos ⟨rfl, HX.out⟩] at HS
   go_upto_region 10 with (fail)
   replace H2 := mvB (below_drew (Below.refl wk.heap.size wk)) H2
   replace H3 := mvB (below_drew (Below.refl wk.heap.size wk)) H3
   replace RN := Aside0.mk (NG.kp RN.out (KP.below (below_drew (Below.refl wk.heap.size wk))))
   replace HK := kkB HK (below_drew (Below.refl wk.heap.size wk))
   replace HS := ssM HS (below_drew (Below.refl wk.heap.size wk))
   have HLT := Aside0.mk (show i + 1 < E.ts.length from HS.out.lt)
   refine start_ (n := 11) (S := fun w' => w'.cell? ⟨g3, 2, none⟩ = some (.slice A1 l.length c1)) (ds := [8, 10]) #[Z,Z,Z,Z,Z,Z,Z,Z,Z,Z,Z] (by kernel_rfl) rfl rfl (blk_celln H3.out 2 _ rfl) (fun hHeld => ?_)
   refine with_tabW progT.tab10 progT.bits10 (fun HT_ HW_ => ?_)
   generalize World.drew _ = wd at HS HK H2 H3 RN hHeld ⊢
   refine ppU (i := 0) (N := some 22) #[Y,Z,Z,Z,Z,Z,Z,Z,Z,Z,Z] HT_ ?_
   refine take_ (i := 1) (N := some 23) (v := ?_) (a' := ?_) #[Y,Y,Z,Z,Z,Z,Z,Z,Z,Z,Z] rfl rfl (take_ofW HT_.out HW_.out (by kernel_rfl)) (fun _ _ _ h => h) (Or.inl ⟨by rfl, ?_⟩) hHeld ?_ ?_
   rotate_left
   ·rintro w' s0
    go_simp
    with_reducible rfl
   rotate_left
   ·simp only [Act.put, pA, pB, pC, i64_w, i32_w]
    rfl
   refine ppU (i := 2) (N := some 24) #[Y,Y,Y,Z,Z,Z,Z,Z,Z,Z,Z] HT_ ?_
   refine ppU (i := 4) (N := some 26) #[Y,Y,Y,Z,Y,Z,Z,Z,Z,Z,Z] HT_ ?_
   refine one_ (i := 3) (N := some 25) #[Y,Y,Y,Y,Y,Z,Z,Z,Z,Z,Z] rfl rfl (one_of HT_.out (by kernel_rfl)) (by decide) (fun K hK => ?_)
   refine goes_ Try.func54 (by kernel_rfl) rfl #[.pointer (some ⟨E.g, 0, none⟩)] (by rfl) rfl rfl (zQMq1) ?_
   have hW := name_c E ⟨i + 1, false, ps ++ [p1]⟩ _ HS.out
   refine hW.mono ?_
   clear hW
   rintro e wx ⟨x, vx, tx, rfl, rfl, q1, qk, hst, hti, hps⟩
   have Tx := Aside0.mk (And.intro hst (And.intro hti hps))
   clear hst hti hps
   refine ⟨_, rfl, ?_⟩
   replace H2 := mvK qk HS H2
   replace H3 := mvK qk HS H3
   replace RN := Aside0.mk (NG.kp RN.out qk)
   replace HK := kkT HK qk
   replace HS := Aside0.mk q1
   clear q1 qk
   refine hK.out _ _ (blk_celln H3.out 2 _ rfl) (fun hHeld => ?_)
   clear hK K
   refine norm_ (a' := ?_) ?_ ?_
   rotate_left
   ·show Act.put _ (some 25) _ = _
    simp only [Act.put, pA, pB, pC, i64_w, i32_w]
    rfl
   refine one_ (i := 5) (N := some 27) #[Y,Y,Y,Y,Y,Y,Z,Z,Z,Z,Z] rfl rfl (one_of HT_.out (by kernel_rfl)) (by decide) (fun K hK => ?_)
   refine goes_ Try.func55 (by kernel_rfl) rfl #[.pointer (some ⟨E.g, 0, none⟩)] (by rfl) rfl rfl (zQMq1) ?_
   have hW := number_c E tx _ HS.out
   refine hW.mono ?_
   clear hW
   rintro e wy ⟨y, vy, ty, rfl, rfl, q1, qk, hst, hti, hps⟩
   have Ty := Aside0.mk (And.intro hst (And.intro hti hps))
   clear hst hti hps
   refine ⟨_, rfl, ?_⟩
   replace H2 := mvK qk HS H2
   replace H3 := mvK qk HS H3
   replace RN := Aside0.mk (NG.kp RN.out qk)
   replace HK := kkT HK qk
   replace HS := Aside0.mk q1
   clear q1 qk
   refine hK.out _ _ (blk_celln H3.out 2 _ rfl) (fun hHeld => ?_)
   clear hK K
   refine norm_ (a' := ?_) ?_ ?_
   rotate_left
   ·show Act.put _ (some 27) _ = _
    simp only [Act.put, pA, pB, pC, i64_w, i32_w]
    rfl
   refine ppU (i := 6) (N := some 28) #[Y,Y,Y,Y,Y,Y,Y,Z,Z,Z,Z] HT_ ?_
   refine one_ (i := 7) (N := some 29) #[Y,Y,Y,Y,Y,Y,Y,Y,Z,Z,Z] rfl rfl (one_of HT_.out (by kernel_rfl)) (by decide) (fun K hK => ?_)
   refine value_ (w1 := ?_) (v := ?_) (by rfl) rfl ?_ ?_
   rotate_left 2
   ·go_simp
    constructor
    ·rfl
    ·rfl
   refine hK.out _ _ ((World.cell?_alloc_lt _ _ _ (World.block_lt_of_cell? _ _ (blk_celln H3.out 2 _ rfl))).trans (blk_celln H3.out 2 _ rfl)) (fun hHeld => ?_)
   clear hK K
   refine norm_ (a' := ?_) ?_ ?_
   rotate_left
   ·show Act.put _ (some 29) _ = _
    simp only [Act.put, pA, pB, pC, i64_w, i32_w]
    rfl
   refine last_ (i := 8) (N := some 30) #[Y,Y,Y,Y,Y,Y,Y,Y,Y,Z,Z] rfl rfl (one_of HT_.out (by kernel_rfl)) (by decide) (fun K hK => ?_)
   have hll : (l.length + 1) * 24 ≤ 140737488355328 := by
    have h1 := HLE.out.1
    have h2 := HLT.out
    have h3 := HS.out.ok.few
    simp only [Bool.toNat_false] at h1
    omega
   refine NG_append_step (E := E) (s' := ty) (z := E.g) k68 (w0 := wy) (g3 + 1) (by rfl) (.tmp 23) (.tmp 29) 23 68 (.agg #[.string ⟨#[]⟩, .int .i64 0]) 24 rfl Try.underlying23 info68 rfl (by decide) (by decide) (.slice A1 l.length c1) l ⟨x, y⟩ [.string x, .int .i64 y] rfl rfl (k68_mkF _ _ ⟨x, y⟩) HS.out (by decide) (by decide) rfl RN.out (Below.refl _ _) (show g3 + 1 ≤ _ from blk_lt H3.out) hll ?_
   intro va w2 q1 q2 q3 _
   obtain ⟨Aa, ca, rfl⟩ := Kd.N_slice q1
   rw [show (l ++ [(⟨x, y⟩ : S68)]).length = l.length + 1 from by simp] at q1 ⊢
   refine hK.out _ _ ?_
   clear hK K
   refine norm_ (a' := ?_) ?_ ?_
   rotate_left
   ·show Act.put _ (some 30) _ = _
    simp only [Act.put, pA, pB, pC, i64_w, i32_w]
    rfl
   refine ppU (i := 9) (N := some 31) #[Y,Y,Y,Y,Y,Y,Y,Y,Y,Y,Z] HT_ ?_
   refine last_ (i := 10) (N := none) #[Y,Y,Y,Y,Y,Y,Y,Y,Y,Y,Y] rfl rfl (one_of HT_.out (by kernel_rfl)) (by decide) (fun K hK => ?_)
   have hb3 := blk_grown H3.out q3 (Kd.N_ne RN.out H3.out (by decide))
   have hs3 := blk_celln hb3 2 _ rfl
   have hf3 := blk_frozen hb3 2
   refine skip_ (w1 := ?_) (by rfl) rfl ?_ ?_
   rotate_left
   ·go_simp
    rfl
   refine hK.out _ _ ?_
   clear hK K
   refine done_ (done_of HT_.out (by kernel_rfl)) ?_
   have typ := Kd.N_typed RN.out
   replace HS := Aside0.mk (ST.grown HS.out q3 (HS.out.below.trans (q2.mono (Nat.le_succ_of_le (Nat.le_trans HSB.out G3.out)))) (fun g hg => by obtain ⟨c, hc⟩ := typ g hg; exact ⟨c, 68, hc, by decide, by decide⟩))
   replace HK := Aside0.mk (KP.grown HK.out q3 (fun g hg => by have h1 := Kd.N_base RN.out g hg; have h2 := G3.out; omega))
   replace H2 := Aside0.mk (blk_grown H2.out q3 (Kd.N_ne RN.out H2.out (by decide)))
   replace H3 := Aside0.mk hb3
   clear hHeld typ hs3 hf3 hll
   go_wp2
   obtain ⟨F1_, F2_⟩ := set1 H3.out 2 (.slice Aa (l.length + 1) ca) (cs' := #[.string n, .int .i64 v, .slice Aa (l.length + 1) ca, .slice none 0 0, .int .i64 0, .int .i64 0, .int .i64 0, .string ⟨#[]⟩, .int .i64 0, .slice none 0 0]) rfl
   have K1 := Aside0.mk (HS.out.only H3.out (by decide) (by decide) (Nat.le_trans HSB.out G3.out) F2_)
   have K2 := Aside0.mk (HK.out.only G3.out F2_)
   have K3 := Aside0.mk ((F2_.block g2 N2_3.out).trans H2.out)
   have K4 := Aside0.mk F1_
   have K5 := Aside0.mk (NG.only q1 F2_ (Or.inl (Nat.lt_succ_self _)))
   obtain ⟨m, hm, hgo⟩ := HG.out
   obtain ⟨j1, j2⟩ := hgo x y tx ty Tx.out.1 Ty.out.1
   have K6 := Aside0.mk j1
   have K7 := Aside0.mk (show ∀ z u, Step ty (initL E m (l ++ [⟨x, y⟩]) ty.i) z u → Step tv (initL E (E.ts.length + 1) [] tv.i) z u from fun z u q => HC.out z u (j2 z u q))
   have hpt := Pl.got (Pl.got (Pl.part (x := p1) HLE.out.2) Tx.out.1 Tx.out.2.1 Tx.out.2.2) Ty.out.1 Ty.out.2.1 Ty.out.2.2
   have K8 := Aside0.mk (show (l ++ [(⟨x, y⟩ : S68)]).length ≤ ty.i + ty.bad.toNat ∧ Pl ty from ⟨by have h1 := HLE.out.1; have h2 := Tx.out.2.1; have h3 := Ty.out.2.1; simp only [Bool.toNat_false] at h1; simp only [List.length_append, List.length_cons, List.length_nil]; omega, hpt⟩)
   have HM := Aside0.mk hm
   clear hgo j1 j2 hm hpt HG HC HLE Tx Ty HN RN HS HK H2 H3 HE HX HPS HLT HNe q1 q2 q3 F1_ F2_ hb3 S5
   generalize hW_ : World.setCell w2 ⟨g3, 2, none⟩ (.slice Aa (l.length + 1) ca) = wz at K1 K2 K3 K4 K5 ⊢
   have e1 : l.length + 1 = (l ++ [(⟨x, y⟩ : S68)]).length := by simp
   rw [e1] at K4 K5
   clear hW_ e1
   go_roundg m
   case measure => rw [HM.out]; exact Nat.lt_succ_self _
   case rel => exact ⟨ty, l ++ [⟨x, y⟩], Aa, ca, K1, K2, K3, K4, K5, K6, K7, K8⟩
  | false =>
   have SI := Aside0.mk (HC.out _ _ (init_stop HNe.out hB))
   replace HN := Aside0.mk (show Ne sc (mid2 E kc ke kb n v l sc.i) from Ne.next (f := fun ini i => mid2 E kc ke kb n v ini i) HN.out SI.out)
   replace S5 := Aside0.mk (show ∀ y u, Step sc (mid2 E kc ke kb n v l sc.i) y u → Step ⟨0, false, []⟩ (progP E kc ke kb 0) y u from fun y u q => S5.out y u (SI.out.bind (f := fun ini i => mid2 E kc ke kb n v ini i) q))
   have HPL := Aside0.mk HLE.out.2
   have hcI := Aside0.mk (Kd.N_reads' RN.out).2.1
   clear hB HC HNe SI HLE
   obtain ⟨b2, hb2⟩ : ∃ b2, wi.heap.size = b2 := ⟨_, rfl⟩
   have RI := Aside0.mk (Kd.F_bound (Kd.N_F RN.out))
   rw [hb2] at RI
   have HB2 := Aside0.mk (Nat.le_of_eq hb2.symm)
   have LB := Aside0.mk (show g3 < b2 from hb2 ▸ blk_lt H3.out)
   clear hb2 RN
   go_wp2_with (fail)
   go_loopg [] (E.ts.length + 1) (fun kq w' => ∃ (sd : Cs) (l2 : List (List S62)) (A2 : Option Addr) (c2 : Nat), Aside0 (ST E sd w') ∧ Aside0 (KP E w w') ∧ Aside0 (w'.heap[g2]? = some (.cells z29v 29 (0, 0))) ∧ Aside0 (w'.heap[g3]? = some (.cells #[.string n, .int .i64 v, .slice A1 l.length c1, .slice A2 l2.length c2, .int .i64 0, .int .i64 0, .int .i64 0, .string ⟨#[]⟩, .int .i64 0, .slice none 0 0] 29 (0, 0))) ∧ Aside0 (Kd.F k68 w' (fun k => GD E E.g (g3 + 1) w' k ∧ k < b2) A1 l.length l) ∧ Aside0 (Kd.N (Kd.slice 62 k62) 56 w' b2 (GD E E.g b2 w') (.slice A2 l2.length c2) l2) ∧ Aside0 (b2 ≤ w'.heap.size) ∧ Aside0 (Ne sd (thrL E (blockF E ke kb) kq l2 sd.i)) ∧ Aside0 (∀ y u, Step sd (thrL E (blockF E ke kb) kq l2 sd.i) y u → Step sc (thrL E (blockF E ke kb) (E.ts.length + 1) [] sc.i) y u) ∧ Aside0 (l2.length ≤ sd.i + sd.bad.toNat ∧ Pl sd))
   case atStart => exact ⟨sc, [], none, 0, HS, HK, H2, H3, RI, ⟨Kd.N_nil _ _ _ _ _⟩, HB2, ⟨Ne.first HN.out⟩, ⟨fun y u q => q⟩, ⟨Nat.zero_le _, HPL.out⟩⟩
   case round =>
    clear HS HK H2 H3 RI HB2 HPL
    obtain ⟨sd, l2, A2, c2, HS, HK, H2, H3, RI, RT, HB2, HNe, HC, HLE⟩ := hrel
    go_wp2_with (fail)
    cases hB : isB E sd ⟨#[116, 104, 114, 101, 97, 100]⟩ with
    | true =>
     obtain ⟨hbad, _⟩ := is_ok hB
     have HE := Aside0.mk (isB_good hbad _ hB)
     have HBD := Aside0.mk hbad
     have hW := took_c E sd ⟨#[116, 104, 114, 101, 97, 100]⟩ _ HS.out true hB
     refine hW.mono ?_
     clear hW hB hbad
     rintro e wt ⟨rfl, q1, qk⟩
     replace q1 : ST E ⟨sd.i + 1, false, sd.ps⟩ wt := by
      have e : tkS sd true = ⟨sd.i + 1, false, sd.ps⟩ := by
       unfold tkS
       rw [if_pos rfl, HBD.out]
      rw [← e]
      exact q1
     replace H2 := mvK qk HS H2
     replace H3 := mvK qk HS H3
     replace RI := Aside0.mk (FT.kp RI.out qk)
     replace RT := Aside0.mk (NG.kp RT.out qk)
     replace HK := kkT HK qk
     replace HS := Aside0.mk q1
     replace HB2 := Aside0.mk (Nat.le_trans HB2.out (qk).2)
     clear q1 qk
     have HG := Aside0.mk (thr_go HBD.out HNe.out HE.out)
     have HPT := Aside0.mk (Pl.step HLE.out.2 HBD.out)
     clear HNe
     go_upto_region 12 with (fail)
     replace H2 := mvB (below_drew (Below.refl wt.heap.size wt)) H2
     replace H3 := mvB (below_drew (Below.refl wt.heap.size wt)) H3
     replace RI := Aside0.mk (FT.kp RI.out (KP.below (below_drew (Below.refl wt.heap.size wt))))
     replace RT := Aside0.mk (NG.kp RT.out (KP.below (below_drew (Below.refl wt.heap.size wt))))
     replace HK := kkB HK (below_drew (Below.refl wt.heap.size wt))
     replace HS := ssM HS (below_drew (Below.refl wt.heap.size wt))
     replace HB2 := Aside0.mk (Nat.le_trans HB2.out ((below_drew (Below.refl wt.heap.size wt))).size)
     have HLT := Aside0.mk (show sd.i + 1 < E.ts.length from HS.out.lt)
     refine start_ (n := 8) (S := fun w' => w'.cell? ⟨g3, 3, none⟩ = some (.slice A2 l2.length c2)) (ds := [5, 7]) #[Z,Z,Z,Z,Z,Z,Z,Z] (by kernel_rfl) rfl rfl (blk_celln H3.out 3 _ rfl) (fun hHeld => ?_)
     refine with_tabW progT.tab12 progT.bits12 (fun HT_ HW_ => ?_)
     generalize World.drew _ = wd at HS HK H2 H3 RI RT HB2 hHeld ⊢
     refine ppU (i := 0) (N := some 34) #[Y,Z,Z,Z,Z,Z,Z,Z] HT_ ?_
     refine take_ (i := 1) (N := some 35) (v := ?_) (a' := ?_) #[Y,Y,Z,Z,Z,Z,Z,Z] rfl rfl (take_ofW HT_.out HW_.out (by kernel_rfl)) (fun _ _ _ h => h) (Or.inl ⟨by rfl, ?_⟩) hHeld ?_ ?_
     rotate_left
     ·rintro w' s0
      go_simp
      with_reducible rfl
     rotate_left
     ·simp only [Act.put, pA, pB, pC, i64_w, i32_w]
      rfl
     refine ppU (i := 2) (N := some 36) #[Y,Y,Y,Z,Z,Z,Z,Z] HT_ ?_
     refine one_ (i := 3) (N := some 37) #[Y,Y,Y,Y,Z,Z,Z,Z] rfl rfl (one_of HT_.out (by kernel_rfl)) (by decide) (fun K hK => ?_)
     refine goes_ Try.func59 (by kernel_rfl) rfl #[.pointer (some ⟨E.g, 0, none⟩)] (by rfl) rfl rfl (zQMq1) ?_
     have hW := block_all E ke kb ⟨sd.i + 1, false, sd.ps⟩ _ HS.out HPT.out (fun _ => HG.out.1)
     have Lv := Aside0.mk (And.intro HB2.out (Kd.N_lt RT.out))
     refine hW.mono ?_
     clear hW
     rintro e wb ⟨y, vy, ty, rfl, ⟨Ay, cy, rfl, ly, ry⟩, q1, qk, hst, hti, hpl⟩
     have Ty := Aside0.mk (And.intro hst (And.intro hti hpl))
     clear hst hti hpl
     refine ⟨_, rfl, ?_⟩
     replace H2 := mvK qk HS H2
     replace H3 := mvK qk HS H3
     replace RI := Aside0.mk (FT.kp RI.out qk)
     replace RT := Aside0.mk (NG.kp RT.out qk)
     replace HK := kkT HK qk
     replace HS := Aside0.mk q1
     replace HB2 := Aside0.mk (Nat.le_trans HB2.out (qk).2)
     have Ry := Aside0.mk ry
     clear q1 qk ry
     refine hK.out _ _ (blk_celln H3.out 3 _ rfl) (fun hHeld => ?_)
     clear hK K
     refine norm_ (a' := ?_) ?_ ?_
     rotate_left
     ·show Act.put _ (some 37) _ = _
      simp only [Act.put, pA, pB, pC, i64_w, i32_w]
      rfl
     refine one_ (i := 4) (N := some 38) #[Y,Y,Y,Y,Y,Z,Z,Z] rfl rfl (one_of HT_.out (by kernel_rfl)) (by decide) (fun K hK => ?_)
     refine value_ (w1 := ?_) (v := ?_) (by rfl) rfl ?_ ?_
     rotate_left 2
     ·go_simp
      constructor
      ·rfl
      ·rfl
     refine hK.out _ _ ((World.cell?_alloc_lt _ _ _ (World.block_lt_of_cell? _ _ (blk_celln H3.out 3 _ rfl))).trans (blk_celln H3.out 3 _ rfl)) (fun hHeld => ?_)
     clear hK K
     refine norm_ (a' := ?_) ?_ ?_
     rotate_left
     ·show Act.put _ (some 38) _ = _
      simp only [Act.put, pA, pB, pC, i64_w, i32_w]
      rfl
     refine last_ (i := 5) (N := some 39) #[Y,Y,Y,Y,Y,Y,Z,Z] rfl rfl (one_of HT_.out (by kernel_rfl)) (by decide) (fun K hK => ?_)
     have hll : (l2.length + 1) * 24 ≤ 140737488355328 := by
      have h1 := HLE.out.1
      have h2 := HLT.out
      have h3 := HS.out.ok.few
      rw [HBD.out] at h1
      simp only [Bool.toNat_false] at h1 h2
      omega
     refine NG_append_step (E := E) (s' := ty) (z := E.g) (Kd.slice 62 k62) (w0 := wb) b2 (by rfl) (.tmp 35) (.tmp 38) 24 56 (.slice none 0 0) 24 rfl Try.underlying24 info56 rfl (by decide) (by decide) (.slice A2 l2.length c2) l2 y [.slice Ay y.length cy] rfl rfl (Kd.FK_mono (Kd.FK_slice_mk ly Ry.out) (fun k hk => ⟨GD.lower Lv.out.1 hk, fun e => by have h1 := Lv.out.2 k e.symm; have h2 := hk.1; omega⟩)) HS.out (by decide) (by decide) rfl RT.out (Below.refl _ _) HB2.out hll ?_
     intro va w2 q1 q2 q3 _
     obtain ⟨Aa, ca, rfl⟩ := Kd.N_slice q1
     rw [show (l2 ++ [y]).length = l2.length + 1 from by simp] at q1 ⊢
     refine hK.out _ _ ?_
     clear hK K
     refine norm_ (a' := ?_) ?_ ?_
     rotate_left
     ·show Act.put _ (some 39) _ = _
      simp only [Act.put, pA, pB, pC, i64_w, i32_w]
      rfl
     refine ppU (i := 6) (N := some 40) #[Y,Y,Y,Y,Y,Y,Y,Z] HT_ ?_
     refine last_ (i := 7) (N := none) #[Y,Y,Y,Y,Y,Y,Y,Y] rfl rfl (one_of HT_.out (by kernel_rfl)) (by decide) (fun K hK => ?_)
     have hb3 := blk_grown H3.out q3 (Kd.N_ne RT.out H3.out (by decide))
     have hs3 := blk_celln hb3 3 _ rfl
     have hf3 := blk_frozen hb3 3
     refine skip_ (w1 := ?_) (by rfl) rfl ?_ ?_
     rotate_left
     ·go_simp
      rfl
     refine hK.out _ _ ?_
     clear hK K
     refine done_ (done_of HT_.out (by kernel_rfl)) ?_
     have typ := Kd.N_typed RT.out
     replace HS := Aside0.mk (ST.grown HS.out q3 (HS.out.below.trans (q2.mono (Nat.le_trans (Nat.le_trans HSB.out G3.out) (Nat.le_of_lt LB.out)))) (fun g hg => by obtain ⟨c, hc⟩ := typ g hg; exact ⟨c, 56, hc, by decide, by decide⟩))
     replace HK := Aside0.mk (KP.grown HK.out q3 (fun g hg => by have h1 := Kd.N_base RT.out g hg; have h2 := G3.out; have h3 := LB.out; omega))
     replace H2 := Aside0.mk (blk_grown H2.out q3 (Kd.N_ne RT.out H2.out (by decide)))
     replace H3 := Aside0.mk hb3
     replace RI := Aside0.mk (FT.grown RI.out q3 (fun g hg => Kd.N_base RT.out g hg))
     replace HB2 := Aside0.mk (Nat.le_trans HB2.out q3.size)
     clear hHeld typ hs3 hf3 hll
     go_wp2
     obtain ⟨F1_, F2_⟩ := set1 H3.out 3 (.slice Aa (l2.length + 1) ca) (cs' := #[.string n, .int .i64 v, .slice A1 l.length c1, .slice Aa (l2.length + 1) ca, .int .i64 0, .int .i64 0, .int .i64 0, .string ⟨#[]⟩, .int .i64 0, .slice none 0 0]) rfl
     have K1 := Aside0.mk (HS.out.only H3.out (by decide) (by decide) (Nat.le_trans HSB.out G3.out) F2_)
     have K2 := Aside0.mk (HK.out.only G3.out F2_)
     have K3 := Aside0.mk ((F2_.block g2 N2_3.out).trans H2.out)
     have K4 := Aside0.mk F1_
     have K5 := Aside0.mk (FT.only RI.out F2_ (Or.inl (Nat.lt_succ_self _)))
     have K6 := Aside0.mk (NG.only q1 F2_ (Or.inl LB.out))
     have K7 := Aside0.mk (Nat.le_trans HB2.out F2_.below.size)
     obtain ⟨m, hm, hgo⟩ := HG.out.2
     obtain ⟨j1, j2⟩ := hgo y ty Ty.out.1
     have K8 := Aside0.mk j1
     have K9 := Aside0.mk (show ∀ z u, Step ty (thrL E (blockF E ke kb) m (l2 ++ [y]) ty.i) z u → Step sc (thrL E (blockF E ke kb) (E.ts.length + 1) [] sc.i) z u from fun z u q => HC.out z u (j2 z u q))
     have KA := Aside0.mk (show (l2 ++ [y]).length ≤ ty.i + ty.bad.toNat ∧ Pl ty from ⟨by have h1 := HLE.out.1; have h2 := Ty.out.2.1; rw [HBD.out] at h1; simp only [Bool.toNat_false] at h1; simp only [List.length_append, List.length_cons, List.length_nil] at h2 ⊢; omega, Ty.out.2.2⟩)
     have HM := Aside0.mk hm
     clear hgo j1 j2 hm HG HC HLE Ty HN RI RT HB2 HS HK H2 H3 HE HBD HPT HLT Ry Lv q1 q2 q3 F1_ F2_ hb3 S5 hcI
     generalize hW_ : World.setCell w2 ⟨g3, 3, none⟩ (.slice Aa (l2.length + 1) ca) = wz at K1 K2 K3 K4 K5 K6 K7 ⊢
     have e1 : l2.length + 1 = (l2 ++ [y]).length := by simp
     rw [e1] at K4 K6
     clear hW_ e1
     go_roundg m
     case measure => rw [HM.out]; exact Nat.lt_succ_self _
     case rel => exact ⟨ty, l2 ++ [y], Aa, ca, K1, K2, K3, K4, K5, K6, K7, K8, K9, KA⟩
    | false =>
     have SI := Aside0.mk (HC.out _ _ (thr_stop HNe.out hB))
     replace HN := Aside0.mk (show Ne sd (lastP E kc n v l l2 sd.i) from Ne.next (f := fun th i => lastP E kc n v l th i) HN.out SI.out)
     replace S5 := Aside0.mk (show ∀ y u, Step sd (lastP E kc n v l l2 sd.i) y u → Step ⟨0, false, []⟩ (progP E kc ke kb 0) y u from fun y u q => S5.out y u (SI.out.bind (f := fun th i => lastP E kc n v l th i) q))
     have hcT := Aside0.mk (Kd.N_reads' RT.out).2.1
     clear HC HNe SI
     have HF := Aside0.mk hB
     have hW := took_c E sd ⟨#[116, 104, 114, 101, 97, 100]⟩ _ HS.out false hB
     refine hW.mono ?_
     clear hW hB
     rintro e wt ⟨rfl, q1, qk⟩
     replace q1 : ST E sd wt := q1
     replace H2 := mvK qk HS H2
     replace H3 := mvK qk HS H3
     replace RI := Aside0.mk (FT.kp RI.out qk)
     replace RT := Aside0.mk (NG.kp RT.out qk)
     replace HK := kkT HK qk
     replace HS := Aside0.mk q1
     replace HB2 := Aside0.mk (Nat.le_trans HB2.out (qk).2)
     clear q1 qk
     have HPS := Aside0.mk (pl_few HLE.out.2 HS.out)
     clear HF HLE
     go_wp2_with (fail)
     have hW := part_c E sd _ HS.out HPS.out
     refine hW.mono ?_
     clear hW
     rintro e wp ⟨rfl, q1, qk⟩
     replace H2 := mvK qk HS H2
     replace H3 := mvK qk HS H3
     replace RI := Aside0.mk (FT.kp RI.out qk)
     replace RT := Aside0.mk (NG.kp RT.out qk)
     replace HK := kkT HK qk
     replace HS := Aside0.mk q1
     replace HB2 := Aside0.mk (Nat.le_trans HB2.out (qk).2)
     clear q1 qk
     obtain ⟨sf, hsf⟩ : ∃ sf : Cs, (⟨sd.i, sd.bad, sd.ps ++ [(E.tk sd.i).f3]⟩ : Cs) = sf := ⟨_, rfl⟩
     have SM := Aside0.mk (show Step sd (markP E sd.i) () sf from hsf ▸ Step.mark E sd)
     replace HS : Aside0 (ST E sf wp) := ⟨hsf ▸ HS.out⟩
     clear hsf HPS
     replace HN := Aside0.mk (show Ne sf (last2 E kc n v l l2 sf.i) from Ne.next (f := fun _ i => last2 E kc n v l l2 i) HN.out SM.out)
     replace S5 := Aside0.mk (show ∀ y u, Step sf (last2 E kc n v l l2 sf.i) y u → Step ⟨0, false, []⟩ (progP E kc ke kb 0) y u from fun y u q => S5.out y u (SM.out.bind (f := fun _ i => last2 E kc n v l l2 i) q))
     clear SM
     have zk := blk_celln H3.out 4 _ rfl; have fk := blk_frozen H3.out 4
     go_upto_region 15 with (fail)
     obtain ⟨F1_, F2_⟩ := set1 H3.out 4 (.int .i64 1) (cs' := #[.string n, .int .i64 v, .slice A1 l.length c1, .slice A2 l2.length c2, .int .i64 1, .int .i64 0, .int .i64 0, .string ⟨#[]⟩, .int .i64 0, .slice none 0 0]) rfl
     generalize hW_ : World.setCell _ ⟨g3, 4, none⟩ (.int .i64 1) = wq at F1_ F2_ ⊢
     clear hW_ zk fk
     replace HS := ssO HS H3 HSB G3 F2_
     replace HK := kkO HK G3 F2_
     replace H2 := Aside0.mk ((F2_.block g2 (N2_3.out)).trans H2.out)
     replace RI := Aside0.mk (FT.only RI.out F2_ (Or.inl (Nat.lt_succ_self _)))
     replace RT := Aside0.mk (NG.only RT.out F2_ (Or.inl LB.out))
     replace H3 := Aside0.mk F1_
     replace HB2 := Aside0.mk (Nat.le_trans HB2.out F2_.below.size)
     clear F1_ F2_
     go_wp2_with (fail)
     cases hB : isB E sf ⟨#[101, 120, 105, 115, 116, 115]⟩ with
     | true =>
      obtain ⟨hbad, _⟩ := is_ok hB
      have HE := Aside0.mk (isB_good hbad _ hB)
      have HBD := Aside0.mk hbad
      have hW := took_c E sf ⟨#[101, 120, 105, 115, 116, 115]⟩ _ HS.out true hB
      refine hW.mono ?_
      clear hW hB hbad
      rintro e wt ⟨rfl, q1, qk⟩
      replace q1 : ST E ⟨sf.i + 1, false, sf.ps⟩ wt := by
       have e : tkS sf true = ⟨sf.i + 1, false, sf.ps⟩ := by
        unfold tkS
        rw [if_pos rfl, HBD.out]
       rw [← e]
       exact q1
      replace H2 := mvK qk HS H2
      replace H3 := mvK qk HS H3
      replace RI := Aside0.mk (FT.kp RI.out qk)
      replace RT := Aside0.mk (NG.kp RT.out qk)
      replace HK := kkT HK qk
      replace HS := Aside0.mk q1
      replace HB2 := Aside0.mk (Nat.le_trans HB2.out (qk).2)
      clear q1 qk
      have SA := Aside0.mk (Step.ask1 HBD.out HE.out)
      replace HN := Aside0.mk (show Ne (⟨sf.i + 1, false, sf.ps⟩ : Cs) (last3 E kc n v l l2 1 (⟨sf.i + 1, false, sf.ps⟩ : Cs).i) from Ne.next (f := fun a i => last3 E kc n v l l2 a i) HN.out SA.out)
      replace S5 := Aside0.mk (show ∀ y u, Step (⟨sf.i + 1, false, sf.ps⟩ : Cs) (last3 E kc n v l l2 1 (⟨sf.i + 1, false, sf.ps⟩ : Cs).i) y u → Step ⟨0, false, []⟩ (progP E kc ke kb 0) y u from fun y u q => S5.out y u (SA.out.bind (f := fun a i => last3 E kc n v l l2 a i) q))
      clear SA
      go_wp2_with (fail)
      have hW := cond_all E kc (⟨sf.i + 1, false, sf.ps⟩ : Cs) _ HS.out (Ne.first HN.out)
      have Lc := Aside0.mk (And.intro HK.out.2 (blk_lt H3.out))
      refine hW.mono ?_
      clear hW
      rintro e wc ⟨c, vc, tc, rfl, ⟨Ac, cc, rfl, lc, rc⟩, q1, qk, hst, hti, hps⟩
      have Tc := Aside0.mk (And.intro hst (And.intro hti hps))
      clear hst hti hps
      replace H2 := mvK qk HS H2
      replace H3 := mvK qk HS H3
      replace RI := Aside0.mk (FT.kp RI.out qk)
      replace RT := Aside0.mk (NG.kp RT.out qk)
      replace HK := kkT HK qk
      replace HS := Aside0.mk q1
      replace HB2 := Aside0.mk (Nat.le_trans HB2.out (qk).2)
      clear q1 qk
      have Rc := Aside0.mk rc
      clear rc
      have zk5 := blk_celln H3.out 5 _ rfl; have fk5 := blk_frozen H3.out 5; have zk6 := blk_celln H3.out 6 _ rfl; have fk6 := blk_frozen H3.out 6; have zk7 := blk_celln H3.out 7 _ rfl; have fk7 := blk_frozen H3.out 7; have zk8 := blk_celln H3.out 8 _ rfl; have fk8 := blk_frozen H3.out 8; have zk9 := blk_celln H3.out 9 _ rfl; have fk9 := blk_frozen H3.out 9
      go_upto_region 19 with (fail)
      obtain ⟨F1_, F2_⟩ := fillc H3.out (.int .i64 c.f0) (.int .i64 c.f1) (.string c.f2) (.int .i64 c.f3) (.slice Ac c.f4.length cc) _ rfl
      generalize hW_ : World.setCell (World.setCell (World.setCell (World.setCell (World.setCell _ ⟨g3, 5, none⟩ _) ⟨g3, 6, none⟩ _) ⟨g3, 7, none⟩ _) ⟨g3, 8, none⟩ _) ⟨g3, 9, none⟩ _ = wq2 at F1_ F2_ ⊢
      clear hW_ zk5 fk5 zk6 fk6 zk7 fk7 zk8 fk8 zk9 fk9
      replace HS := ssO HS H3 HSB G3 F2_
      replace HK := kkO HK G3 F2_
      replace H2 := Aside0.mk ((F2_.block g2 (N2_3.out)).trans H2.out)
      replace RI := Aside0.mk (FT.only RI.out F2_ (Or.inl (Nat.lt_succ_self _)))
      replace RT := Aside0.mk (NG.only RT.out F2_ (Or.inl LB.out))
      replace Rc := Aside0.mk (F.only Rc.out F2_ (Or.inl Lc.out.2))
      replace H3 := Aside0.mk F1_
      replace HB2 := Aside0.mk (Nat.le_trans HB2.out F2_.below.size)
      clear F1_ F2_
      replace HN := Aside0.mk (show Ne tc (last4 E n v l l2 1 c tc.i) from Ne.next (f := fun c i => last4 E n v l l2 1 c i) HN.out Tc.out.1)
      replace S5 := Aside0.mk (show ∀ y u, Step tc (last4 E n v l l2 1 c tc.i) y u → Step ⟨0, false, []⟩ (progP E kc ke kb 0) y u from fun y u q => S5.out y u (Tc.out.1.bind (f := fun c i => last4 E n v l l2 1 c i) q))
      clear Tc HN
      go_wp2_with (fail)
      have hW := here_c E tc _ HS.out
      refine hW.mono ?_
      clear hW
      rintro e wh ⟨rfl, qb⟩
      replace H2 := mvB qb H2
      replace H3 := mvB qb H3
      replace RI := Aside0.mk (FT.kp RI.out (KP.below qb))
      replace RT := Aside0.mk (NG.kp RT.out (KP.below qb))
      replace Rc := ffB Rc qb
      replace HK := kkB HK qb
      replace HS := ssM HS qb
      replace HB2 := Aside0.mk (Nat.le_trans HB2.out (qb).size)
      clear qb
      by_cases hk : (E.tk tc.i).f0 = 4
      ·have k1 : ((E.tk tc.i).f0 == 4) = true := beq_iff_eq.mpr hk
       have k2 : decide ((E.tk tc.i).f0 = 4) = true := decide_eq_true hk
       have k3 := eq_true hk
       have SE := Aside0.mk (Step.endT (s := tc) hk)
       clear hk
       obtain ⟨z3_0, z3_1, z3_2, z3_3, z3_4, z3_5, z3_6, z3_7, z3_8, z3_9⟩ := cn10 H3.out
       obtain ⟨z2_0, f2_0, z2_1, f2_1, z2_2, f2_2, z2_3, f2_3, z2_4, f2_4, z2_5, f2_5, z2_6, f2_6, z2_7, f2_7, z2_8, f2_8, z2_9, f2_9⟩ := cf10 H2.out
       go_wp2
       refine fin29 H2.out (fun _ F1_ F2_ => ?_)
       exact ⟨⟨n, v, l, l2, 1, c⟩, _, tc, rfl, ⟨A1, c1, A2, c2, Ac, cc, rfl, hcI.out, F.lower (Kd.F_mono (FT.only RI.out F2_ (Or.inl (Nat.lt_succ_of_lt LT2_3.out))) (fun _ hk => hk.1)) (Nat.le_succ_of_le G3.out), hcT.out, F.lower (Kd.N_F (NG.only RT.out F2_ (Or.inl (Nat.lt_trans LT2_3.out LB.out)))) (Nat.le_trans G3.out (Nat.le_of_lt LB.out)), lc, F.lower (F.only Rc.out F2_ (Or.inl (Nat.lt_trans LT2_3.out Lc.out.2))) Lc.out.1⟩, HS.out.only H2.out (by decide) (by decide) (Nat.le_trans HSB.out G2.out) F2_, HK.out.only G2.out F2_, S5.out _ _ (SE.out.bind (f := fun _ i => .ok (⟨n, v, l, l2, 1, c⟩ : PR) i []) (Step.pure _ _))⟩
      ·have k1 : ((E.tk tc.i).f0 == 4) = false := beq_eq_false_iff_ne.mpr hk
       have k2 : decide ((E.tk tc.i).f0 = 4) = false := decide_eq_false hk
       have k3 := eq_false hk
       have SE := Aside0.mk (Step.endF (s := tc) hk)
       clear hk
       go_wp2_with (fail)
       have hW := fail_c E tc _ HS.out
       refine hW.mono ?_
       clear hW
       rintro e wl ⟨rfl, q1, qk⟩
       replace H2 := mvK qk HS H2
       replace H3 := mvK qk HS H3
       replace RI := Aside0.mk (FT.kp RI.out qk)
       replace RT := Aside0.mk (NG.kp RT.out qk)
       replace Rc := ffK Rc qk
       replace HK := kkT HK qk
       replace HS := Aside0.mk q1
       replace HB2 := Aside0.mk (Nat.le_trans HB2.out (qk).2)
       clear q1 qk
       obtain ⟨z3_0, z3_1, z3_2, z3_3, z3_4, z3_5, z3_6, z3_7, z3_8, z3_9⟩ := cn10 H3.out
       obtain ⟨z2_0, f2_0, z2_1, f2_1, z2_2, f2_2, z2_3, f2_3, z2_4, f2_4, z2_5, f2_5, z2_6, f2_6, z2_7, f2_7, z2_8, f2_8, z2_9, f2_9⟩ := cf10 H2.out
       go_wp2
       refine fin29 H2.out (fun _ F1_ F2_ => ?_)
       exact ⟨⟨n, v, l, l2, 1, c⟩, _, ⟨tc.i, true, tc.ps⟩, rfl, ⟨A1, c1, A2, c2, Ac, cc, rfl, hcI.out, F.lower (Kd.F_mono (FT.only RI.out F2_ (Or.inl (Nat.lt_succ_of_lt LT2_3.out))) (fun _ hk => hk.1)) (Nat.le_succ_of_le G3.out), hcT.out, F.lower (Kd.N_F (NG.only RT.out F2_ (Or.inl (Nat.lt_trans LT2_3.out LB.out)))) (Nat.le_trans G3.out (Nat.le_of_lt LB.out)), lc, F.lower (F.only Rc.out F2_ (Or.inl (Nat.lt_trans LT2_3.out Lc.out.2))) Lc.out.1⟩, HS.out.only H2.out (by decide) (by decide) (Nat.le_trans HSB.out G2.out) F2_, HK.out.only G2.out F2_, S5.out _ _ (SE.out.bind (f := fun _ i => .ok (⟨n, v, l, l2, 1, c⟩ : PR) i []) (Step.pure _ _))⟩
     | false =>
      have HF := Aside0.mk hB
      have hW := took_c E sf ⟨#[101, 120, 105, 115, 116, 115]⟩ _ HS.out false hB
      refine hW.mono ?_
      clear hW hB
      rintro e wt ⟨rfl, q1, qk⟩
      replace q1 : ST E sf wt := q1
      replace H2 := mvK qk HS H2
      replace H3 := mvK qk HS H3
      replace RI := Aside0.mk (FT.kp RI.out qk)
      replace RT := Aside0.mk (NG.kp RT.out qk)
      replace HK := kkT HK qk
      replace HS := Aside0.mk q1
      replace HB2 := Aside0.mk (Nat.le_trans HB2.out (qk).2)
      clear q1 qk
      go_wp2_with (fail)
      have hW := must_c E sf ⟨#[102, 111, 114, 97, 108, 108]⟩ _ HS.out
      refine hW.mono ?_
      clear hW
      rintro e wf ⟨_, vf, tf, rfl, rfl, q1, qk, hst, hti, hps⟩
      have Tf := Aside0.mk (And.intro hst (And.intro hti hps))
      clear hst hti hps
      replace H2 := mvK qk HS H2
      replace H3 := mvK qk HS H3
      replace RI := Aside0.mk (FT.kp RI.out qk)
      replace RT := Aside0.mk (NG.kp RT.out qk)
      replace HK := kkT HK qk
      replace HS := Aside0.mk q1
      replace HB2 := Aside0.mk (Nat.le_trans HB2.out (qk).2)
      clear q1 qk
      have zk := blk_celln H3.out 4 _ rfl; have fk := blk_frozen H3.out 4
      go_upto_region 18 with (fail)
      obtain ⟨F1_, F2_⟩ := set1 H3.out 4 (.int .i64 2) (cs' := #[.string n, .int .i64 v, .slice A1 l.length c1, .slice A2 l2.length c2, .int .i64 2, .int .i64 0, .int .i64 0, .string ⟨#[]⟩, .int .i64 0, .slice none 0 0]) rfl
      generalize hW_ : World.setCell _ ⟨g3, 4, none⟩ (.int .i64 2) = wq at F1_ F2_ ⊢
      clear hW_ zk fk
      replace HS := ssO HS H3 HSB G3 F2_
      replace HK := kkO HK G3 F2_
      replace H2 := Aside0.mk ((F2_.block g2 (N2_3.out)).trans H2.out)
      replace RI := Aside0.mk (FT.only RI.out F2_ (Or.inl (Nat.lt_succ_self _)))
      replace RT := Aside0.mk (NG.only RT.out F2_ (Or.inl LB.out))
      replace H3 := Aside0.mk F1_
      replace HB2 := Aside0.mk (Nat.le_trans HB2.out F2_.below.size)
      clear F1_ F2_
      have SA := Aside0.mk (Step.ask2 HF.out Tf.out.1)
      replace HN := Aside0.mk (show Ne tf (last3 E kc n v l l2 2 tf.i) from Ne.next (f := fun a i => last3 E kc n v l l2 a i) HN.out SA.out)
      replace S5 := Aside0.mk (show ∀ y u, Step tf (last3 E kc n v l l2 2 tf.i) y u → Step ⟨0, false, []⟩ (progP E kc ke kb 0) y u from fun y u q => S5.out y u (SA.out.bind (f := fun a i => last3 E kc n v l l2 a i) q))
      clear SA
      go_wp2_with (fail)
      have hW := cond_all E kc tf _ HS.out (Ne.first HN.out)
      have Lc := Aside0.mk (And.intro HK.out.2 (blk_lt H3.out))
      refine hW.mono ?_
      clear hW
      rintro e wc ⟨c, vc, tc, rfl, ⟨Ac, cc, rfl, lc, rc⟩, q1, qk, hst, hti, hps⟩
      have Tc := Aside0.mk (And.intro hst (And.intro hti hps))
      clear hst hti hps
      replace H2 := mvK qk HS H2
      replace H3 := mvK qk HS H3
      replace RI := Aside0.mk (FT.kp RI.out qk)
      replace RT := Aside0.mk (NG.kp RT.out qk)
      replace HK := kkT HK qk
      replace HS := Aside0.mk q1
      replace HB2 := Aside0.mk (Nat.le_trans HB2.out (qk).2)
      clear q1 qk
      have Rc := Aside0.mk rc
      clear rc
      have zk5 := blk_celln H3.out 5 _ rfl; have fk5 := blk_frozen H3.out 5; have zk6 := blk_celln H3.out 6 _ rfl; have fk6 := blk_frozen H3.out 6; have zk7 := blk_celln H3.out 7 _ rfl; have fk7 := blk_frozen H3.out 7; have zk8 := blk_celln H3.out 8 _ rfl; have fk8 := blk_frozen H3.out 8; have zk9 := blk_celln H3.out 9 _ rfl; have fk9 := blk_frozen H3.out 9
      go_upto_region 19 with (fail)
      obtain ⟨F1_, F2_⟩ := fillc H3.out (.int .i64 c.f0) (.int .i64 c.f1) (.string c.f2) (.int .i64 c.f3) (.slice Ac c.f4.length cc) _ rfl
      generalize hW_ : World.setCell (World.setCell (World.setCell (World.setCell (World.setCell _ ⟨g3, 5, none⟩ _) ⟨g3, 6, none⟩ _) ⟨g3, 7, none⟩ _) ⟨g3, 8, none⟩ _) ⟨g3, 9, none⟩ _ = wq2 at F1_ F2_ ⊢
      clear hW_ zk5 fk5 zk6 fk6 zk7 fk7 zk8 fk8 zk9 fk9
      replace HS := ssO HS H3 HSB G3 F2_
      replace HK := kkO HK G3 F2_
      replace H2 := Aside0.mk ((F2_.block g2 (N2_3.out)).trans H2.out)
      replace RI := Aside0.mk (FT.only RI.out F2_ (Or.inl (Nat.lt_succ_self _)))
      replace RT := Aside0.mk (NG.only RT.out F2_ (Or.inl LB.out))
      replace Rc := Aside0.mk (F.only Rc.out F2_ (Or.inl Lc.out.2))
      replace H3 := Aside0.mk F1_
      replace HB2 := Aside0.mk (Nat.le_trans HB2.out F2_.below.size)
      clear F1_ F2_
      replace HN := Aside0.mk (show Ne tc (last4 E n v l l2 2 c tc.i) from Ne.next (f := fun c i => last4 E n v l l2 2 c i) HN.out Tc.out.1)
      replace S5 := Aside0.mk (show ∀ y u, Step tc (last4 E n v l l2 2 c tc.i) y u → Step ⟨0, false, []⟩ (progP E kc ke kb 0) y u from fun y u q => S5.out y u (Tc.out.1.bind (f := fun c i => last4 E n v l l2 2 c i) q))
      clear Tc HN
      go_wp2_with (fail)
      have hW := here_c E tc _ HS.out
      refine hW.mono ?_
      clear hW
      rintro e wh ⟨rfl, qb⟩
      replace H2 := mvB qb H2
      replace H3 := mvB qb H3
      replace RI := Aside0.mk (FT.kp RI.out (KP.below qb))
      replace RT := Aside0.mk (NG.kp RT.out (KP.below qb))
      replace Rc := ffB Rc qb
      replace HK := kkB HK qb
      replace HS := ssM HS qb
      replace HB2 := Aside0.mk (Nat.le_trans HB2.out (qb).size)
      clear qb
      by_cases hk : (E.tk tc.i).f0 = 4
      ·have k1 : ((E.tk tc.i).f0 == 4) = true := beq_iff_eq.mpr hk
       have k2 : decide ((E.tk tc.i).f0 = 4) = true := decide_eq_true hk
       have k3 := eq_true hk
       have SE := Aside0.mk (Step.endT (s := tc) hk)
       clear hk
       obtain ⟨z3_0, z3_1, z3_2, z3_3, z3_4, z3_5, z3_6, z3_7, z3_8, z3_9⟩ := cn10 H3.out
       obtain ⟨z2_0, f2_0, z2_1, f2_1, z2_2, f2_2, z2_3, f2_3, z2_4, f2_4, z2_5, f2_5, z2_6, f2_6, z2_7, f2_7, z2_8, f2_8, z2_9, f2_9⟩ := cf10 H2.out
       go_wp2
       refine fin29 H2.out (fun _ F1_ F2_ => ?_)
       exact ⟨⟨n, v, l, l2, 2, c⟩, _, tc, rfl, ⟨A1, c1, A2, c2, Ac, cc, rfl, hcI.out, F.lower (Kd.F_mono (FT.only RI.out F2_ (Or.inl (Nat.lt_succ_of_lt LT2_3.out))) (fun _ hk => hk.1)) (Nat.le_succ_of_le G3.out), hcT.out, F.lower (Kd.N_F (NG.only RT.out F2_ (Or.inl (Nat.lt_trans LT2_3.out LB.out)))) (Nat.le_trans G3.out (Nat.le_of_lt LB.out)), lc, F.lower (F.only Rc.out F2_ (Or.inl (Nat.lt_trans LT2_3.out Lc.out.2))) Lc.out.1⟩, HS.out.only H2.out (by decide) (by decide) (Nat.le_trans HSB.out G2.out) F2_, HK.out.only G2.out F2_, S5.out _ _ (SE.out.bind (f := fun _ i => .ok (⟨n, v, l, l2, 2, c⟩ : PR) i []) (Step.pure _ _))⟩
      ·have k1 : ((E.tk tc.i).f0 == 4) = false := beq_eq_false_iff_ne.mpr hk
       have k2 : decide ((E.tk tc.i).f0 = 4) = false := decide_eq_false hk
       have k3 := eq_false hk
       have SE := Aside0.mk (Step.endF (s := tc) hk)
       clear hk
       go_wp2_with (fail)
       have hW := fail_c E tc _ HS.out
       refine hW.mono ?_
       clear hW
       rintro e wl ⟨rfl, q1, qk⟩
       replace H2 := mvK qk HS H2
       replace H3 := mvK qk HS H3
       replace RI := Aside0.mk (FT.kp RI.out qk)
       replace RT := Aside0.mk (NG.kp RT.out qk)
       replace Rc := ffK Rc qk
       replace HK := kkT HK qk
       replace HS := Aside0.mk q1
       replace HB2 := Aside0.mk (Nat.le_trans HB2.out (qk).2)
       clear q1 qk
       obtain ⟨z3_0, z3_1, z3_2, z3_3, z3_4, z3_5, z3_6, z3_7, z3_8, z3_9⟩ := cn10 H3.out
       obtain ⟨z2_0, f2_0, z2_1, f2_1, z2_2, f2_2, z2_3, f2_3, z2_4, f2_4, z2_5, f2_5, z2_6, f2_6, z2_7, f2_7, z2_8, f2_8, z2_9, f2_9⟩ := cf10 H2.out
       go_wp2
       refine fin29 H2.out (fun _ F1_ F2_ => ?_)
       exact ⟨⟨n, v, l, l2, 2, c⟩, _, ⟨tc.i, true, tc.ps⟩, rfl, ⟨A1, c1, A2, c2, Ac, cc, rfl, hcI.out, F.lower (Kd.F_mono (FT.only RI.out F2_ (Or.inl (Nat.lt_succ_of_lt LT2_3.out))) (fun _ hk => hk.1)) (Nat.le_succ_of_le G3.out), hcT.out, F.lower (Kd.N_F (NG.only RT.out F2_ (Or.inl (Nat.lt_trans LT2_3.out LB.out)))) (Nat.le_trans G3.out (Nat.le_of_lt LB.out)), lc, F.lower (F.only Rc.out F2_ (Or.inl (Nat.lt_trans LT2_3.out Lc.out.2))) Lc.out.1⟩, HS.out.only H2.out (by decide) (by decide) (Nat.le_trans HSB.out G2.out) F2_, HK.out.only G2.out F2_, S5.out _ _ (SE.out.bind (f := fun _ i => .ok (⟨n, v, l, l2, 2, c⟩ : PR) i []) (Step.pure _ _))⟩
end Go.Proofs.Ytinnldfmbeafiaa.PA
