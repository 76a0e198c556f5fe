-- made by fvprint.py over the kit's print
import Derived.Test.YtbgcmbnnkigjjaaDoorRows
import Derived.Test.YtbgcmbnnkigjjaaDoorGok
import Derived.Test.YtbgcmbnnkigjjaaDoorTie
import Derived.Test.YtbgcmbnnkigjjaaDoorCards
import Derived.SevenTiedAt
import Derived.JoinedOf
import Derived.Deep.Slices
import Derived.Test.YtbgcmbnnkigjjaaDoorPPx19
import Derived.Test.YtbgcmbnnkigjjaaDoorOpen
import Derived.Test.YtbgcmbnnkigjjaaDoorPurePostAll
import Derived.WalkKit
import Derived.ProofKit
import Derived.OpenShut
import Derived.ShutString
import Derived.ChangeOld
import Derived.Below
import Derived.SizedLaws
namespace Go.Proofs.YtbgcmbnnkigjjaaDoor.postAll
open Go.ChangeShapes Go.WideShapes Go.ChangeAt Go.RowKit Go.Proofs.YtbgcmbnnkigjjaaDoorW.PrintWords
open Go.ChangeMaps (open_string shut_string)
set_option linter.unusedVariables false
theorem own : ownKnob Tryd.prog.godebug = none := by kernel_rfl
theorem laidOut : laidOutB Tryd.prog = true := by kernel_rfl
set_option maxRecDepth 100000 in
theorem lifted (os : Os) (started : os.Started) (H : Type) (enc : TypeId × Value → H) :
    ReturnsInHanded {} Tryd.checked os 3 .any (fun w args => (Rows.postAllSpec.pre enc Tryd.prog Tryd.f3 Rows.postAllRow.domain false w args ∧ laidMet Tryd.prog [("math/bits.deBruijn32tab", Rows.laid_math_bits_deBruijn32tab), ("math/bits.deBruijn64tab", Rows.laid_math_bits_deBruijn64tab), ("internal/strconv.uint64pow10", Rows.laid_internal_strconv_uint64pow10)] w) ∧ sizedMet enc Tryd.prog Tryd.f3 (OpenSpec.ofChange Rows.postAllSpec) false w args) (Rows.postAllSpec.post enc Tryd.prog Tryd.f3 false true false false) := by
  refine returnsInHanded_of_change_and (C := Tryd.checked) (X := fun w _ => laidMet Tryd.prog [("math/bits.deBruijn32tab", Rows.laid_math_bits_deBruijn32tab), ("math/bits.deBruijn64tab", Rows.laid_math_bits_deBruijn64tab), ("internal/strconv.uint64pow10", Rows.laid_internal_strconv_uint64pow10)] w) (fun _ _ _ hh h => h.of_heap hh) own started (by kernel_rfl) Tryd.func3
    (ChangeSpec.witness_shaped (enc := enc) (C := Tryd.checked) (os := os) (X := fun w _ => laidMet Tryd.prog [("math/bits.deBruijn32tab", Rows.laid_math_bits_deBruijn32tab), ("math/bits.deBruijn64tab", Rows.laid_math_bits_deBruijn64tab), ("internal/strconv.uint64pow10", Rows.laid_internal_strconv_uint64pow10)] w) false (World.laidAll Tryd.prog os [("math/bits.deBruijn32tab", Rows.laid_math_bits_deBruijn32tab), ("math/bits.deBruijn64tab", Rows.laid_math_bits_deBruijn64tab), ("internal/strconv.uint64pow10", Rows.laid_internal_strconv_uint64pow10)]) #[.agg #[.int .i64 0, .int .i64 0, .string ByteArray.empty, .int .i64 0, .slice none 0 0], .slice none 0 0, .slice none 0 0, .agg #[.slice none 0 0, .slice none 0 0], .agg #[.slice none 0 0, .slice none 0 0]] 8 (World.laidAll_os _ _ _)
      (World.shaped_of_ZipB (by kernel_rfl) (by kernel_rfl)) (by kernel_rfl) (by kernel_rfl) (by kernel_rfl)
      (laidMet_laidAll _ (by kernel_rfl) (by kernel_rfl))) ?_
  intro W base args ds gs before hval0 hW hcnd hsz0 hLaid _
  have hsz : (DataW.weightsEach Tryd.prog (Tryd.f3.params.toList ++ Rows.postAllSpec.plain.varTypes Tryd.prog) (ds ++ gs)).all (· ≤ reachBytes) = true := hsz0
  have hval : ∀ (j : Nat) t v, Tryd.f3.params[j]? = some t → args[j]? = some v → Value.okWide Tryd.prog W .any base t v := hval0
  have hW' := hW
  obtain ⟨p, q, hA0, hV, rfl, hfz, hnd⟩ := hW
  have hA : DataW.TrodAll enc Tryd.prog W 0 (fun _ => true) true Tryd.f3.params.toList args.toList ds p := hA0
  rw [Tryd.params3] at hA hval hsz
  obtain ⟨v0, vs0, d0, ds0, p0, q0, hargs, rfl, rfl, h0, r0⟩ := trodAll_cons hA
  obtain ⟨v1, vs1, d1, ds1, p1, q1, rfl, rfl, rfl, h1, r1⟩ := trodAll_cons r0
  obtain ⟨v2, vs2, d2, ds2, p2, q2, rfl, rfl, rfl, h2, r2⟩ := trodAll_cons r1
  obtain ⟨v3, vs3, d3, ds3, p3, q3, rfl, rfl, rfl, h3, r3⟩ := trodAll_cons r2
  obtain ⟨v4, vs4, d4, ds4, p4, q4, rfl, rfl, rfl, h4, r4⟩ := trodAll_cons r3
  obtain ⟨rfl, rfl, rfl⟩ := trodAll_nil r4
  obtain rfl : args = #[v0, v1, v2, v3, v4] := by cases args; simp_all
  obtain ⟨rfl, rfl⟩ := trodVars_none hV
  have lt0 : ∀ x ∈ p0, x.block < W.heap.size := by obtain ⟨m, hm⟩ := h0; exact DataW.trod_lt m _ _ _ hm
  have lt1 : ∀ x ∈ p1, x.block < W.heap.size := by obtain ⟨m, hm⟩ := h1; exact DataW.trod_lt m _ _ _ hm
  have lt2 : ∀ x ∈ p2, x.block < W.heap.size := by obtain ⟨m, hm⟩ := h2; exact DataW.trod_lt m _ _ _ hm
  have lt3 : ∀ x ∈ p3, x.block < W.heap.size := by obtain ⟨m, hm⟩ := h3; exact DataW.trod_lt m _ _ _ hm
  have lt4 : ∀ x ∈ p4, x.block < W.heap.size := by obtain ⟨m, hm⟩ := h4; exact DataW.trod_lt m _ _ _ hm
  have k0 := h0
  have k1 := h1
  have k2 := h2
  have k3 := h3
  have k4 := h4
  obtain ⟨x, A0, c0, rfl, hc0, hr0⟩ := OpenK.open_cond (hval 0 24 v0 rfl rfl) h0
  obtain ⟨A1, c1, l1, rfl, hc1, hr1, _⟩ := OpenK.row_value (d := Kd.string) Tryd.underlying25 (by kernel_rfl) (OpenK.opens_string Tryd.underlying9) (hval 1 25 v1 rfl rfl) h1
  obtain ⟨A2, c2, l2, rfl, hc2, hr2, _⟩ := OpenK.row_value (d := Kd.slice 9 Kd.string) Tryd.underlying26 (by kernel_rfl) (fun m => OpenK.opens_slice Tryd.underlying25 (by kernel_rfl) m (fun q _ => OpenK.opens_string Tryd.underlying9 q) 9) (hval 2 26 v2 rfl rfl) h2
  obtain ⟨A3, B3, c3, e3, r3l, m3l, rfl, hc3, he3, hr3, hm3, w3, w3'⟩ := OpenK.open_out (hval 3 30 v3 rfl rfl) h3
  obtain ⟨A4, B4, c4, e4, r4l, m4l, rfl, hc4, he4, hr4, hm4, _, _⟩ := OpenK.open_out (hval 4 30 v4 rfl rfl) h4
  obtain ⟨rounds, hrounds⟩ := PA.PostAll x l1 l2 r3l m3l r4l m4l (fun o ho v hv => OpenK.wf_i64 (w3 o ho v hv)) (fun v hv => OpenK.wf_i64 (w3' v hv))
  clear hA0 hval0 hsz0 hsz
  have hG := gok_of_laid hLaid
  refine (PP.withelaw11_PostAll.calls rounds x.f0 x.f1 x.f2 x.f3 A0 c0 x.f4 A1 c1 l1 A2 c2 l2 A3 c3 r3l B3 e3 m3l A4 c4 r4l B4 e4 m4l true W hr0 hc0 hr1 hc1 hr2 hc2 hr3 hc3 hm3 he3 hr4 hc4 hm4 he4 hrounds (hG := hG)).mono fun e W' ⟨he, bel⟩ => ?_
  subst he
  exact ⟨_, rfl, _, _, _, [], _, [], hW', trodAll_mk1 (shut_bool Tryd.underlying4 _), (trodAll_cons_mk (Below.trod laidOut (by kernel_rfl) (of_decide_eq_true (by kernel_rfl)) k0 bel lt0) (trodAll_cons_mk (Below.trod laidOut (by kernel_rfl) (of_decide_eq_true (by kernel_rfl)) k1 bel lt1) (trodAll_cons_mk (Below.trod laidOut (by kernel_rfl) (of_decide_eq_true (by kernel_rfl)) k2 bel lt2) (trodAll_cons_mk (Below.trod laidOut (by kernel_rfl) (of_decide_eq_true (by kernel_rfl)) k3 bel lt3) (trodAll_cons_mk (Below.trod laidOut (by kernel_rfl) (of_decide_eq_true (by kernel_rfl)) k4 bel lt4) trodAll_mk0))))), rfl, bel.frame _, fun h => by cases h⟩
theorem over : Rows.postAllRow.holds Tryd.pinned (OpenSpec.ofChange Rows.postAllSpec) :=
  OpenClaim.holds_of_wide 3 Tryd.f3 rfl rfl rfl rfl rfl rfl rfl ⟨rfl, rfl, rfl, rfl, rfl⟩ rfl rfl rfl rfl rfl (by kernel_rfl) Tryd.func3 (by kernel_rfl)
    (of_decide_eq_true (by kernel_rfl)) (by unfold Func.isWrapper; first | (rw [if_pos (by decide +kernel)]; kernel_rfl) | (rw [if_neg (by decide +kernel)]; exact ⟨rfl, rfl⟩))
    (fun os started H enc _ => lifted os started H enc)
theorem proved : Rows.PostAllSaid := over
#print axioms proved
end Go.Proofs.YtbgcmbnnkigjjaaDoor.postAll
namespace Go.Proofs.YtbgcmbnnkigjjaaDoor
/-- The card, under a short name, for the claim. -/
theorem postAll_holds : Rows.PostAllCardSaid :=
  Claim7.holds_tied_plain_at .later [] [.data, .data, .data] true (true, "309239811d2f0f7ddb20e817c75de2051fea9e2da59af58e459c50a3d63953e0") false postAll.proved (fun _ h => by cases h) (by kernel_rfl) (fun _ h => by cases h) postAll_row_tie rfl ⟨rfl, rfl⟩ (by kernel_rfl) rfl
    (fun f fn hf hfn => by
      obtain rfl : f = 3 := Option.some.inj ((show Tryd.prog.funcNamed "withe/withelaw11.PostAll" = some 3 by kernel_rfl).symm.trans hf) |>.symm
      obtain rfl : fn = Tryd.f3 := (Option.some.inj (Tryd.func3.symm.trans hfn)).symm
      exact ⟨by kernel_rfl, fun j t ht => by
        have hall : (Tryd.f3.params.toList.all fun t => !Tryd.prog.wantsStandIn t) = true := by kernel_rfl
        have h1 := List.all_eq_true.mp hall t (Array.mem_toList_iff.mpr (Array.mem_of_getElem? ht))
        exact (show Tryd.prog.wantsStandIn t = false by simpa using h1)⟩)
    (by kernel_rfl)
#print axioms postAll_holds
end Go.Proofs.YtbgcmbnnkigjjaaDoor
