/- A block of statements; walked by hand. -/
import Derived.Test.YtinnldfmbeafiaaQJ
namespace Go.Proofs.Ytinnldfmbeafiaa.PA
open Go.RowKit Go.Proofs.YtinnldfmbeafiaaW.PrintWords Go.Proofs.YtinnldfmbeafiaaW.PrintLast Go.Proofs.YtinnldfmbeafiaaW.PrintMore
set_option linter.unusedVariables false
set_option linter.unusedSimpArgs false
attribute [local go_sem] cell_set_some fld53_0 fld53_1 fld53_2 fld53_3
/-- How many statements there are yet. -/
def Ll (s : Cs) (n : Nat) : Prop := n ≤ s.i + s.bad.toNat
theorem block_stop {E : Env} {st : Nat → Res S62} {s : Cs} {m : Nat} {l : List S62} (h : Ne s (blockL E st m l s.i)) (ha : s.bad = false → isT E s.i ⟨#[125]⟩ = true) : Step s (blockL E st m l s.i) l s := by
 cases hbad : s.bad with
 | true => exact Step.bad hbad hbad rfl
 | false =>
  cases m with
  | zero => exact absurd rfl (h hbad)
  | succ m =>
   rw [blockL, if_pos (ha hbad)]
   exact Step.pure s l
theorem block_go {E : Env} {st : Nat → Res S62} {s : Cs} {m : Nat} {l : List S62} (hb : s.bad = false) (h : Ne s (blockL E st m l s.i)) (ho : isT E s.i ⟨#[125]⟩ = false) :
 st s.i ≠ .out ∧ ∃ m', m = m' + 1 ∧ ∀ f u, Step s (st s.i) f u → Ne u (blockL E st m' (l ++ [f]) u.i) ∧ ∀ y v, Step u (blockL E st m' (l ++ [f]) u.i) y v → Step s (blockL E st m l s.i) y v := by
 cases m with
 | zero => exact absurd rfl (h hb)
 | succ m =>
  have e : blockL E st (m + 1) l s.i = (st s.i).bind fun x j => blockL E st m (l ++ [x]) j := by
   rw [blockL, if_neg (by rw [ho]; decide)]
  rw [e] at h ⊢
  exact ⟨bind_out (h hb), m, rfl, fun f u hs => ⟨Ne.next (x := f) (f := fun x j => blockL E st m (l ++ [x]) j) h hs, fun y v k => hs.bind k⟩⟩
theorem Ll.next {E : Env} {st : Nat → Res S62} {s t : Cs} {n : Nat} {x : S62} (h : Ll s n) (hb : s.bad = false) (hs : Step s (st s.i) x t) (hi : s.i ≤ t.i) (ha : ∀ i x j q, st i = .ok x j q → i < j) : Ll t (n + 1) := by
 unfold Ll at *
 rw [hb] at h
 simp only [Bool.toNat_false] at h
 rcases hs.2 hb with ⟨p, _, h1, _⟩ | ⟨j, q, hj, rfl⟩
 ·rw [h1]
  simp only [Bool.toNat_true]
  omega
 ·have := ha _ _ _ _ hj
  simp only [Bool.toNat_false]
  omega
set_option maxHeartbeats 8000000 in
set_option maxRecDepth 100000 in
theorem block_c (E : Env) (st : Nat → Res S62) (IH : StAt E st) (AD : ∀ i x j q, st i = .ok x j q → i < j) (s : Cs) (w : World) (h : ST E s w) (hp : Pl s) (hn : Ne s (blockP E st s.i)) : Calls Try.prog 59 #[.pointer (some ⟨E.g, 0, none⟩)] w (GotB E s w (blockP E st s.i) (VB E w)) := by
 have hu85 := Try.underlying85
 have HN := Aside0.mk hn
 have HIH := Aside0.mk IH
 have HAD := Aside0.mk AD
 have HP := Aside0.mk hp
 clear hn IH AD hp
 have HSB := Aside0.mk (show E.w0.heap.size ≤ w.heap.size from h.below.size)
 have HS := Aside0.mk h
 have HK := Aside0.mk (KP.refl E w)
 clear h
 go_enter Try.func59, Try.ntmps59
 go_wp2_with (fail)
 have hW := must_c E s ⟨#[123]⟩ _ HS.out
 refine hW.mono ?_
 clear hW
 rintro e wa ⟨_, va, ta, rfl, rfl, q1, qk, hst, hti, hps⟩
 have Ta := Aside0.mk (And.intro hst (And.intro hti hps))
 clear hst hti hps
 replace HK := kkT HK qk
 replace HS := Aside0.mk q1
 clear q1 qk
 have N1 := Aside0.mk (show Ne ta ((blockL E st (E.ts.length + 1) [] ta.i).bind fun l j => (mustP E ⟨#[125]⟩ j).bind fun _ j => .ok l j []) from Ne.next (f := fun _ j => (blockL E st (E.ts.length + 1) [] j).bind fun l j => (mustP E ⟨#[125]⟩ j).bind fun _ j => .ok l j []) HN.out Ta.out.1)
 have Pa := Aside0.mk (Pl.got HP.out Ta.out.1 Ta.out.2.1 Ta.out.2.2)
 go_wp2
 go_loopg [3] (E.ts.length + 1) (fun kq v3 w' => ∃ (sc : Cs) (l : List S62) (A : Option Addr) (c : Nat), v3 = .slice A l.length c ∧ Aside0 (ST E sc w') ∧ Aside0 (KP E w w') ∧ Aside0 (Kd.N k62 62 w' w.heap.size (GD E E.g w.heap.size w') (.slice A l.length c) l) ∧ Aside0 (Ne sc (blockL E st kq l sc.i)) ∧ Aside0 (∀ y u, Step sc (blockL E st kq l sc.i) y u → Step ta (blockL E st (E.ts.length + 1) [] ta.i) y u) ∧ Aside0 (ta.i ≤ sc.i ∧ Pl sc ∧ Ll sc l.length))
 case atStart => exact ⟨ta, [], none, 0, rfl, HS, HK, ⟨Kd.N_nil _ _ _ _ _⟩, ⟨Ne.first N1.out⟩, ⟨fun y u q => q⟩, ⟨Nat.le_refl _, Pa.out, Nat.zero_le _⟩⟩
 case round =>
  clear HS HK
  obtain ⟨sc, l, Al, cl, rfl, HS, HK, RN, HNe, HC, HLE⟩ := hrel
  have HC2 := Aside0.mk HS.out.lt; have HFW := Aside0.mk HS.out.ok.few
  obtain ⟨i, bad, ps⟩ := sc
  have c2 := HS.out.c2
  cases bad with
  | true =>
   go_wp2_with (fail)
   have hW := must_c E ⟨i, true, ps⟩ ⟨#[125]⟩ _ HS.out
   refine hW.mono ?_
   clear hW
   rintro e wq ⟨_, vq, tq, rfl, rfl, q1, qk, hst, hti, hps⟩
   have Tq := Aside0.mk (And.intro hst (And.intro hti hps))
   clear hst hti hps
   replace RN := Aside0.mk (NG.kp RN.out qk)
   replace HK := kkT HK qk
   replace HS := Aside0.mk q1
   clear q1 qk
   go_wp2
   go_ret
   exact ⟨l, _, tq, rfl, ⟨Al, cl, rfl, (Kd.N_reads' RN.out).2.1, Kd.N_F RN.out⟩, HS.out, HK.out, Ta.out.1.bind (f := fun _ j => (blockL E st (E.ts.length + 1) [] j).bind fun l j => (mustP E ⟨#[125]⟩ j).bind fun _ j => .ok l j []) ((HC.out _ _ (block_stop HNe.out (fun h => by cases h))).bind (f := fun l j => (mustP E ⟨#[125]⟩ j).bind fun _ j => .ok l j []) (Tq.out.1.bind (Step.pure tq l))), Nat.le_trans Ta.out.2.1 (Nat.le_trans HLE.out.1 Tq.out.2.1), Pl.got HLE.out.2.1 Tq.out.1 Tq.out.2.1 Tq.out.2.2⟩
  | false =>
   go_wp2_with (fail)
   have hW := is_c E ⟨i, false, ps⟩ ⟨#[125]⟩ _ HS.out
   refine hW.mono ?_
   clear hW
   rintro e wi ⟨rfl, qb⟩
   replace RN := Aside0.mk (NG.kp RN.out (KP.below qb))
   replace HK := kkB HK qb
   replace HS := ssM HS qb
   clear qb c2
   cases hB : isB E ⟨i, false, ps⟩ ⟨#[125]⟩ with
   | true =>
    have HE := Aside0.mk (isB_good (s := ⟨i, false, ps⟩) rfl _ hB)
    clear hB
    go_wp2_with (fail)
    have hW := must_c E ⟨i, false, ps⟩ ⟨#[125]⟩ _ HS.out
    refine hW.mono ?_
    clear hW
    rintro e wq ⟨_, vq, tq, rfl, rfl, q1, qk, hst, hti, hps⟩
    have Tq := Aside0.mk (And.intro hst (And.intro hti hps))
    clear hst hti hps
    replace RN := Aside0.mk (NG.kp RN.out qk)
    replace HK := kkT HK qk
    replace HS := Aside0.mk q1
    clear q1 qk
    go_wp2
    go_ret
    exact ⟨l, _, tq, rfl, ⟨Al, cl, rfl, (Kd.N_reads' RN.out).2.1, Kd.N_F RN.out⟩, HS.out, HK.out, Ta.out.1.bind (f := fun _ j => (blockL E st (E.ts.length + 1) [] j).bind fun l j => (mustP E ⟨#[125]⟩ j).bind fun _ j => .ok l j []) ((HC.out _ _ (block_stop HNe.out (fun _ => HE.out))).bind (f := fun l j => (mustP E ⟨#[125]⟩ j).bind fun _ j => .ok l j []) (Tq.out.1.bind (Step.pure tq l))), Nat.le_trans Ta.out.2.1 (Nat.le_trans HLE.out.1 Tq.out.2.1), Pl.got HLE.out.2.1 Tq.out.1 Tq.out.2.1 Tq.out.2.2⟩
   | false =>
    have HE := Aside0.mk (isB_good (s := ⟨i, false, ps⟩) rfl _ hB)
    have HG := Aside0.mk (block_go (s := ⟨i, false, ps⟩) rfl HNe.out HE.out)
    clear hB HNe
    go_wp2_with (fail)
    have hW := HIH.out ⟨i, false, ps⟩ _ HS.out rfl HLE.out.2.1 HG.out.1
    have Lv := Aside0.mk (And.intro HK.out.2 (Kd.N_lt RN.out))
    refine hW.mono ?_
    clear hW
    rintro e wy ⟨y, vy, t2, rfl, ⟨A4, c4, A5, c5, A6, c6, rfl, l4, r4, l5, r5, l6, r6⟩, q1, qk, hst, hti, hpl⟩
    have Ty := Aside0.mk (And.intro hst (And.intro hti hpl))
    clear hst hti hpl
    replace RN := Aside0.mk (NG.kp RN.out qk)
    replace HK := kkT HK qk
    replace HS := Aside0.mk q1
    have FY := Aside0.mk (FK62 l4 r4 l5 r5 l6 r6)
    clear q1 qk r4 r5 r6
    have hll : (l.length + 1) * 120 ≤ 140737488355328 := by
     have h1 := HLE.out.2.2
     have h2 := HC2.out
     have h3 := HFW.out
     unfold Ll at h1
     simp only [Bool.toNat_false] at h1 h2
     omega
    have HLL := Aside0.mk hll
    clear hll
    go_wp2_with ((with_reducible refine gate_builtin (b := .append) (xs := #[.tmp 16, .tmp 19]) rfl ?_); at_builtin; refine NG_append (E := E) (s' := t2) (z := E.g) k62 (w0 := wy) w.heap.size rfl (.tmp 16) (.tmp 19) 56 62 (.agg z62v) 120 rfl Try.underlying56 info62 rfl (by decide) (by decide) (.slice Al l.length cl) l y [.int .i64 y.f0, .int .i64 y.f1, .string y.f2, .string y.f3, .slice A4 y.f4.length c4, .slice A5 y.f5.length c5, .slice A6 y.f6.length c6] rfl (by first | (go_simp; done) | (go_simp; rfl)) (Kd.FK_mono FY.out (fun k hk => ⟨GD.lower Lv.out.1 hk, fun e => by have h1 := Lv.out.2 k e.symm; have h2 := hk.1; omega⟩)) HS.out (by decide) (by decide) rfl RN.out (Below.refl _ _) HK.out.2 HLL.out ?_; intro va w2 q1 q2 q3 _; obtain ⟨Aa, ca, rfl⟩ := Kd.N_slice q1; have K1 := Aside0.mk q1; have typ := Kd.N_typed RN.out; have K2 := Aside0.mk (ST.grown HS.out q3 (HS.out.below.trans (q2.mono HSB.out)) (fun g hg => by obtain ⟨c, hc⟩ := typ g hg; exact ⟨c, 62, hc, by decide, by decide⟩)); have K3 := Aside0.mk (KP.grown HK.out q3 (fun g hg => Kd.N_base RN.out g hg)); clear q1 q2 q3 typ)
    obtain ⟨m, hm, hgo⟩ := HG.out.2
    obtain ⟨j1, j2⟩ := hgo y t2 Ty.out.1
    have K4 := Aside0.mk j1
    have K5 := Aside0.mk (show ∀ y u, _ → Step ta (blockL E st (E.ts.length + 1) [] ta.i) y u from fun y u q => HC.out y u (j2 y u q))
    have K6 := Aside0.mk (show ta.i ≤ t2.i ∧ Pl t2 ∧ Ll t2 (l ++ [y]).length from ⟨Nat.le_trans HLE.out.1 Ty.out.2.1, Ty.out.2.2, by rw [List.length_append]; exact Ll.next (E := E) (st := st) (s := ⟨i, false, ps⟩) HLE.out.2.2 rfl Ty.out.1 Ty.out.2.1 HAD.out⟩)
    have HM := Aside0.mk hm
    clear hgo j1 j2 HG HC HLE Ty FY Lv HE hm HIH HAD HN N1 RN HS HK HLL HC2 HFW
    go_roundg m
    case measure => rw [HM.out]; exact Nat.lt_succ_self _
    case rel => exact ⟨t2, l ++ [y], Aa, ca, (by first | rfl | (rw [List.length_append]; rfl)), K2, K3, K1, K4, K5, K6⟩
theorem block_bad (E : Env) (r : Nat → Res (List S62)) (s : Cs) (w : World) (h : ST E s w) (hp : Pl s) (hb : s.bad = true) : Calls Try.prog 59 #[.pointer (some ⟨E.g, 0, none⟩)] w (GotB E s w (r s.i) (VB E w)) := by
 refine (block_c E (fun _ => .out) (fun _ _ _ _ _ h => absurd rfl h) (fun _ _ _ _ h => by cases h) s w h hp (fun h => by rw [hb] at h; cases h)).mono ?_
 rintro e w' ⟨x, v, t, h1, h2, h3, h4, h5, h6, h7⟩
 obtain ⟨a, b⟩ := h5.1 hb
 exact ⟨x, v, t, h1, h2, h3, h4, Step.bad hb a b, h6, h7⟩
theorem block_all (E : Env) (ke : Nat) : ∀ k, FullB E (blockF E ke k)
 | 0 => fun s w h hp hn => by
  have hb : s.bad = true := by
   cases hbad : s.bad with
   | true => rfl
   | false => exact absurd rfl (hn hbad)
  exact block_bad E (blockF E ke 0) s w h hp hb
 | k + 1 => fun s w h hp hn => block_c E (stmtQ E ke (blockF E ke k)) (stmt_c E ke (blockF E ke k) (block_all E ke k)) (stmt_adv' (block_adv E ke k)) s w h hp hn
end Go.Proofs.Ytinnldfmbeafiaa.PA
