-- made by fvprint.py over the kit's print
import Derived.Test.YtbgcmbnnkigjjaaDoorRows
import Derived.Test.YtbgcmbnnkigjjaaDoorGokR
import Derived.Test.YtbgcmbnnkigjjaaDoorTie
import Derived.Test.YtbgcmbnnkigjjaaDoorCards
import Derived.SevenTiedAt
import Derived.JoinedOf
import Derived.Deep.Slices
import Derived.Test.YtbgcmbnnkigjjaaDoorOpenR
import Derived.Test.YtbgcmbnnkigjjaaDoorPurePostRules
import Derived.WalkKit
import Derived.ProofKit
import Derived.OpenShut
import Derived.ShutString
import Derived.ChangeOld
import Derived.Below
import Derived.SizedLaws
namespace Go.Proofs.YtbgcmbnnkigjjaaDoor.postRules
open Go.ChangeShapes Go.WideShapes Go.ChangeAt Go.RowKit Go.Proofs.YtbgcmbnnkigjjaaDoorW.PrintWords
open Go.ChangeMaps (open_string shut_string)
set_option linter.unusedVariables false
theorem own : ownKnob Tryd.prog.godebug = none := by kernel_rfl
theorem laidOut : laidOutB Tryd.prog = true := by kernel_rfl
/-- An array of six bytes, opened. -/
theorem open_six {H : Type} {enc : TypeId × Value → H} {P : Program} {w : World} {r : Reach} {b0 base : Nat} {spare : Nat → Bool} {held : Bool} {t i : TypeId} {v : Value} {d : DataW H} {ps : List MemPlace}
    (ht : P.underlying t = some (.array 6 i)) (hi : P.underlying i = some (.int .u8)) (ct : P.cellsOf t = 6) (ci : P.cellsOf i = 1) (hv : Value.okWide P w r b0 t v)
    (h : DataW.Trod enc P w base spare held t v d ps) : ∃ n0 n1 n2 n3 n4 n5 : Int, v = .agg #[.int .u8 n0, .int .u8 n1, .int .u8 n2, .int .u8 n3, .int .u8 n4, .int .u8 n5] := by
  simp only [Value.okWide, ht] at hv
  obtain ⟨cs, rfl, hs, _⟩ := hv
  obtain ⟨fuel, hf⟩ := h
  obtain ⟨xs, m, _, _, hl, hxl, hx⟩ := DataW.trod_array ht hf
  have each : ∀ j, j < 6 → ∃ n : Int, cs.toList[j]? = some (.int .u8 n) := by
    intro j hj
    have h1 := hx j hj
    rw [List.getElem?_eq_getElem (by omega)] at h1
    obtain ⟨n, e, _, _⟩ := DataW.trod_int hi h1
    refine ⟨n, ?_⟩
    have h2 := congrArg (·[0]?) e
    simpa [ci, List.getElem?_take, List.getElem?_drop, Value.cells] using h2
  rw [ct] at hs
  obtain ⟨n0, e0⟩ := each 0 (by omega)
  obtain ⟨n1, e1⟩ := each 1 (by omega)
  obtain ⟨n2, e2⟩ := each 2 (by omega)
  obtain ⟨n3, e3⟩ := each 3 (by omega)
  obtain ⟨n4, e4⟩ := each 4 (by omega)
  obtain ⟨n5, e5⟩ := each 5 (by omega)
  refine ⟨n0, n1, n2, n3, n4, n5, ?_⟩
  congr 1
  apply Array.ext'
  apply List.ext_getElem?
  intro j
  match j with
  | 0 => simpa using e0
  | 1 => simpa using e1
  | 2 => simpa using e2
  | 3 => simpa using e3
  | 4 => simpa using e4
  | 5 => simpa using e5
  | j + 6 => rw [List.getElem?_eq_none (by simp; omega), List.getElem?_eq_none (by simp)]
set_option maxRecDepth 100000 in
theorem lifted (os : Os) (started : os.Started) (H : Type) (enc : TypeId × Value → H) :
    ReturnsInHanded {} Tryd.checked os 4 .any (fun w args => (Rows.postRulesSpec.pre enc Tryd.prog Tryd.f4 Rows.postRulesRow.domain false w args ∧ laidMet Tryd.prog [("math/bits.deBruijn32tab", Rows.laid_math_bits_deBruijn32tab), ("math/bits.deBruijn64tab", Rows.laid_math_bits_deBruijn64tab), ("internal/strconv.uint64pow10", Rows.laid_internal_strconv_uint64pow10)] w) ∧ sizedMet enc Tryd.prog Tryd.f4 (OpenSpec.ofChange Rows.postRulesSpec) false w args) (Rows.postRulesSpec.post enc Tryd.prog Tryd.f4 false true false false) := by
  refine returnsInHanded_of_change_and (C := Tryd.checked) (X := fun w _ => laidMet Tryd.prog [("math/bits.deBruijn32tab", Rows.laid_math_bits_deBruijn32tab), ("math/bits.deBruijn64tab", Rows.laid_math_bits_deBruijn64tab), ("internal/strconv.uint64pow10", Rows.laid_internal_strconv_uint64pow10)] w) (fun _ _ _ hh h => h.of_heap hh) own started (by kernel_rfl) Tryd.func4
    (ChangeSpec.witness_shaped (enc := enc) (C := Tryd.checked) (os := os) (X := fun w _ => laidMet Tryd.prog [("math/bits.deBruijn32tab", Rows.laid_math_bits_deBruijn32tab), ("math/bits.deBruijn64tab", Rows.laid_math_bits_deBruijn64tab), ("internal/strconv.uint64pow10", Rows.laid_internal_strconv_uint64pow10)] w) false (World.laidAll Tryd.prog os [("math/bits.deBruijn32tab", Rows.laid_math_bits_deBruijn32tab), ("math/bits.deBruijn64tab", Rows.laid_math_bits_deBruijn64tab), ("internal/strconv.uint64pow10", Rows.laid_internal_strconv_uint64pow10)]) #[.slice none 0 0, .slice none 0 0, .agg #[.int .u8 0, .int .u8 0, .int .u8 0, .int .u8 0, .int .u8 0, .int .u8 0]] 8 (World.laidAll_os _ _ _)
      (World.shaped_of_ZipB (by kernel_rfl) (by kernel_rfl)) (by kernel_rfl) (by kernel_rfl) (by kernel_rfl)
      (laidMet_laidAll _ (by kernel_rfl) (by kernel_rfl))) ?_
  intro W base args ds gs before hval0 hW hcnd hsz0 hLaid _
  have hsz : (DataW.weightsEach Tryd.prog (Tryd.f4.params.toList ++ Rows.postRulesSpec.plain.varTypes Tryd.prog) (ds ++ gs)).all (· ≤ reachBytes) = true := hsz0
  have hval : ∀ (j : Nat) t v, Tryd.f4.params[j]? = some t → args[j]? = some v → Value.okWide Tryd.prog W .any base t v := hval0
  have hW' := hW
  obtain ⟨p, q, hA0, hV, rfl, hfz, hnd⟩ := hW
  have hA : DataW.TrodAll enc Tryd.prog W 0 (fun _ => true) true Tryd.f4.params.toList args.toList ds p := hA0
  rw [Tryd.params4] at hA hval hsz
  obtain ⟨v0, vs0, d0, ds0, p0, q0, hargs, rfl, rfl, h0, r0⟩ := trodAll_cons hA
  obtain ⟨v1, vs1, d1, ds1, p1, q1, rfl, rfl, rfl, h1, r1⟩ := trodAll_cons r0
  obtain ⟨v2, vs2, d2, ds2, p2, q2, rfl, rfl, rfl, h2, r2⟩ := trodAll_cons r1
  obtain ⟨rfl, rfl, rfl⟩ := trodAll_nil r2
  obtain rfl : args = #[v0, v1, v2] := by cases args; simp_all
  obtain ⟨rfl, rfl⟩ := trodVars_none hV
  have k0 := h0
  have lt0 : ∀ x ∈ p0, x.block < W.heap.size := by obtain ⟨m, hm⟩ := k0; exact DataW.trod_lt m _ _ _ hm
  have k1 := h1
  have lt1 : ∀ x ∈ p1, x.block < W.heap.size := by obtain ⟨m, hm⟩ := k1; exact DataW.trod_lt m _ _ _ hm
  have k2 := h2
  have lt2 : ∀ x ∈ p2, x.block < W.heap.size := by obtain ⟨m, hm⟩ := k2; exact DataW.trod_lt m _ _ _ hm
  obtain ⟨A0, c0, l0, rfl, hc0, hr0, _⟩ := OpenK.row_value (d := Kd.int .u8) Tryd.underlying40 (by kernel_rfl) (OpenK.opens_int Tryd.underlying5) (hval 0 40 v0 rfl rfl) h0
  obtain ⟨A1, c1, l1, rfl, hc1, hr1, _⟩ := OpenK.row_value (d := Kd.int .u8) Tryd.underlying40 (by kernel_rfl) (OpenK.opens_int Tryd.underlying5) (hval 1 40 v1 rfl rfl) h1
  obtain ⟨n0, n1, n2, n3, n4, n5, rfl⟩ := open_six Tryd.underlying41 Tryd.underlying5 (by kernel_rfl) (by kernel_rfl) (hval 2 41 v2 rfl rfl) h2
  obtain ⟨rounds, hrounds⟩ := RU.PostRules l0 l1 n0 n1 n2 n3 n4 n5
  clear hA0 hval0 hsz0 hsz
  have hG := gok_of_laid hLaid
  refine (PR.withelaw11_PostRules.calls rounds A0 c0 l0 A1 c1 l1 n0 n1 n2 n3 n4 n5 true W hr0 hc0 hr1 hc1 hrounds (hG := hG)).mono fun e W' ⟨he, bel⟩ => ?_
  subst he
  exact ⟨_, rfl, _, _, _, [], _, [], hW', trodAll_mk1 (shut_bool Tryd.underlying4 _), (trodAll_cons_mk (Below.trod laidOut (by kernel_rfl) (of_decide_eq_true (by kernel_rfl)) k0 bel lt0) (trodAll_cons_mk (Below.trod laidOut (by kernel_rfl) (of_decide_eq_true (by kernel_rfl)) k1 bel lt1) (trodAll_cons_mk (Below.trod laidOut (by kernel_rfl) (of_decide_eq_true (by kernel_rfl)) k2 bel lt2) trodAll_mk0))), rfl, bel.frame _, fun h => by cases h⟩
theorem over : Rows.postRulesRow.holds Tryd.pinned (OpenSpec.ofChange Rows.postRulesSpec) :=
  OpenClaim.holds_of_wide 4 Tryd.f4 rfl rfl rfl rfl rfl rfl rfl ⟨rfl, rfl, rfl, rfl, rfl⟩ rfl rfl rfl rfl rfl (by kernel_rfl) Tryd.func4 (by kernel_rfl)
    (of_decide_eq_true (by kernel_rfl)) (by unfold Func.isWrapper; first | (rw [if_pos (by decide +kernel)]; kernel_rfl) | (rw [if_neg (by decide +kernel)]; exact ⟨rfl, rfl⟩))
    (fun os started H enc _ => lifted os started H enc)
theorem proved : Rows.PostRulesSaid := over
#print axioms proved
end Go.Proofs.YtbgcmbnnkigjjaaDoor.postRules
namespace Go.Proofs.YtbgcmbnnkigjjaaDoor
/-- The card, under a short name, for the claim. -/
theorem postRules_holds : Rows.PostRulesCardSaid :=
  Claim7.holds_tied_plain_at .later [] [.data, .data, .data] true (true, "309239811d2f0f7ddb20e817c75de2051fea9e2da59af58e459c50a3d63953e0") false postRules.proved (fun _ h => by cases h) (by kernel_rfl) (fun _ h => by cases h) postRules_row_tie rfl ⟨rfl, rfl⟩ (by kernel_rfl) rfl
    (fun f fn hf hfn => by
      obtain rfl : f = 4 := Option.some.inj ((show Tryd.prog.funcNamed "withe/withelaw11.PostRules" = some 4 by kernel_rfl).symm.trans hf) |>.symm
      obtain rfl : fn = Tryd.f4 := (Option.some.inj (Tryd.func4.symm.trans hfn)).symm
      exact ⟨by kernel_rfl, fun j t ht => by
        have hall : (Tryd.f4.params.toList.all fun t => !Tryd.prog.wantsStandIn t) = true := by kernel_rfl
        have h1 := List.all_eq_true.mp hall t (Array.mem_toList_iff.mpr (Array.mem_of_getElem? ht))
        exact (show Tryd.prog.wantsStandIn t = false by simpa using h1)⟩)
    (by kernel_rfl)
#print axioms postRules_holds
end Go.Proofs.YtbgcmbnnkigjjaaDoor
