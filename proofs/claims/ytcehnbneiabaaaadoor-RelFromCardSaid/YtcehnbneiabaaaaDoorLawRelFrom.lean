-- made by fvprint.py over the kit's print
import Derived.Test.YtcehnbneiabaaaaDoorRows
import Derived.Test.YtcehnbneiabaaaaDoorGok
import Derived.Test.YtcehnbneiabaaaaDoorTie
import Derived.Test.YtcehnbneiabaaaaDoorCards
import Derived.SevenTiedAt
import Derived.JoinedOf
import Derived.Deep.Slices
import Derived.Test.YtcehnbneiabaaaaDoorPRx19
import Derived.Test.YtcehnbneiabaaaaDoorPureRelFrom
import Derived.WalkKit
import Derived.ProofKit
import Derived.OpenShut
import Derived.ShutString
import Derived.ChangeOld
import Derived.Below
import Derived.SizedLaws
import Derived.Test.YtcehnbneiabaaaaDoorWAll
namespace Go.Proofs.YtcehnbneiabaaaaDoor.relFrom
open Go.ChangeShapes Go.WideShapes Go.ChangeAt Go.RowKit Go.Proofs.YtcehnbneiabaaaaDoorW.PrintWords
open Go.ChangeMaps (open_string shut_string)
set_option linter.unusedVariables false
theorem own : ownKnob Tryd.prog.godebug = none := by kernel_rfl
theorem laidOut : laidOutB Tryd.prog = true := by kernel_rfl
/-- A slice of pairs, opened. -/
theorem open_arr {H : Type} {enc : TypeId × Value → H} {P : Program} {w : World} {base : Nat} {spare : Nat → Bool} {held : Bool} {t e i : TypeId} {fuel : Nat} {a : Option Addr} {len cap : Nat} {x : DataW H × List MemPlace}
    (ht : P.underlying t = some (.slice e)) (he : P.underlying e = some (.array 2 i)) (hi : P.underlying i = some (.int .i64)) (ce : P.cellsOf e = 2) (ci : P.cellsOf i = 1)
    (h : DataW.trod enc P w base spare held fuel t [.slice a len cap] = some x) : ∃ zs : List PR.S28, zs.length = len ∧ len ≤ cap ∧ Kd.C PR.k28 w a len zs := by
  rcases Go.Deep.open_slice ht h with ⟨hcs, _⟩ | ⟨ad, l, c, m, n, D, Pl, hcs, _, hl, hm, hmm, _, hel⟩
  · simp at hcs
    obtain ⟨rfl, rfl, rfl⟩ := hcs
    exact ⟨[], rfl, Nat.le_refl _, rfl, by omega, fun h => absurd h (Nat.lt_irrefl 0)⟩
  · simp at hcs
    obtain ⟨rfl, rfl, rfl⟩ := hcs
    have hlm : len ≤ m := by rw [hmm]; split <;> omega
    have each : ∀ j, j < len → ∃ p : PR.S28, w.cell? (ad.add (j * 2)) = some (.int .i64 p.f0) ∧ w.cell? (ad.add (j * 2 + 1)) = some (.int .i64 p.f1) := by
      intro j hj
      obtain ⟨cs', h1, h2⟩ := hel j (by omega)
      rw [ce] at h1
      obtain ⟨_, hlen, hcell⟩ := World.cells?_some h1
      obtain ⟨xs, k, _, _, _, hxl, hf⟩ := DataW.trod_array he h2
      match xs, hxl, cs', hlen with
      | [y0, y1], _, [v0, v1], _ =>
        have g0 := hf 0 (by omega)
        have g1 := hf 1 (by omega)
        simp [ci] at g0 g1
        obtain ⟨n0, e0, _, _⟩ := DataW.trod_int hi g0
        obtain ⟨n1, e1, _, _⟩ := DataW.trod_int hi g1
        have c0 := hcell 0 (by omega)
        have c1 := hcell 1 (by omega)
        rw [Go.Deep.add_add] at c0 c1
        simp at e0 e1
        subst e0 e1
        exact ⟨⟨n0, n1⟩, by simpa using c0, by simpa using c1⟩
    have inh : Inhabited PR.S28 := ⟨⟨0, 0⟩⟩
    obtain ⟨q, hq⟩ := Go.Deep.choose_lt each
    refine ⟨(List.range len).map q, by simp, hl, by simp, by unfold maxLen at hm; omega, fun _ => ⟨ad, rfl, fun j p hj => ?_⟩⟩
    obtain ⟨hj1, hj2⟩ := List.getElem?_eq_some_iff.mp hj
    have hjl : j < len := by simpa using hj1
    rw [List.getElem_map, List.getElem_range] at hj2
    subst hj2
    obtain ⟨q0, q1⟩ := hq j hjl
    refine ⟨[.int .i64 (q j).f0, .int .i64 (q j).f1], rfl, ⟨[.int .i64 (q j).f0], [.int .i64 (q j).f1], rfl, rfl, rfl⟩, fun i u hu => ?_⟩
    match i, hu with
    | 0, hu =>
      obtain rfl := Option.some.inj hu
      exact q0
    | 1, hu =>
      obtain rfl := Option.some.inj hu
      exact q1
set_option maxRecDepth 100000 in
theorem lifted (os : Os) (started : os.Started) (H : Type) (enc : TypeId × Value → H) :
    ReturnsInHanded {} Tryd.checked os 4 .any (fun w args => (Rows.relFromSpec.pre enc Tryd.prog Tryd.f4 Rows.relFromRow.domain false w args ∧ laidMet Tryd.prog [("math/bits.deBruijn64tab", Rows.laid_math_bits_deBruijn64tab)] w) ∧ sizedMet enc Tryd.prog Tryd.f4 (OpenSpec.ofChange Rows.relFromSpec) false w args) (Rows.relFromSpec.post enc Tryd.prog Tryd.f4 false true false false) := by
  refine returnsInHanded_of_change_and (C := Tryd.checked) (X := fun w _ => laidMet Tryd.prog [("math/bits.deBruijn64tab", Rows.laid_math_bits_deBruijn64tab)] w) (fun _ _ _ hh h => h.of_heap hh) own started (by kernel_rfl) Tryd.func4
    (ChangeSpec.witness_shaped (enc := enc) (C := Tryd.checked) (os := os) (X := fun w _ => laidMet Tryd.prog [("math/bits.deBruijn64tab", Rows.laid_math_bits_deBruijn64tab)] w) false (World.laidAll Tryd.prog os [("math/bits.deBruijn64tab", Rows.laid_math_bits_deBruijn64tab)]) #[.int .i64 0, .slice none 0 0] 8 (World.laidAll_os _ _ _)
      (World.shaped_of_ZipB (by kernel_rfl) (by kernel_rfl)) (by kernel_rfl) (by kernel_rfl) (by kernel_rfl)
      (laidMet_laidAll _ (by kernel_rfl) (by kernel_rfl))) ?_
  intro W base args ds gs before hval0 hW hcnd hsz0 hLaid _
  have hsz : (DataW.weightsEach Tryd.prog (Tryd.f4.params.toList ++ Rows.relFromSpec.plain.varTypes Tryd.prog) (ds ++ gs)).all (· ≤ reachBytes) = true := hsz0
  have hval : ∀ (j : Nat) t v, Tryd.f4.params[j]? = some t → args[j]? = some v → Value.okWide Tryd.prog W .any base t v := hval0
  have hW' := hW
  obtain ⟨p, q, hA0, hV, rfl, hfz, hnd⟩ := hW
  have hA : DataW.TrodAll enc Tryd.prog W 0 (fun _ => true) true Tryd.f4.params.toList args.toList ds p := hA0
  rw [Tryd.params4] at hA hval hsz
  obtain ⟨v0, vs0, d0, ds0, p0, q0, hargs, rfl, rfl, h0, r0⟩ := trodAll_cons hA
  obtain ⟨v1, vs1, d1, ds1, p1, q1, rfl, rfl, rfl, h1, r1⟩ := trodAll_cons r0
  obtain ⟨rfl, rfl, rfl⟩ := trodAll_nil r1
  obtain rfl : args = #[v0, v1] := by cases args; simp_all
  obtain ⟨rfl, rfl⟩ := trodVars_none hV
  obtain ⟨a0, rfl, rfl, rfl, w0⟩ := open_int Tryd.underlying3 (hval 0 3 v0 rfl rfl) h0
  obtain ⟨a1, len1, cap1, rfl⟩ := okWide_slice Tryd.underlying25 (hval 1 25 v1 rfl rfl)
  have k1 := h1
  have lt1 : ∀ x ∈ p1, x.block < W.heap.size := by obtain ⟨m, hm⟩ := k1; exact DataW.trod_lt m _ _ _ hm
  obtain ⟨z1, hl1, hc1, hr1⟩ : ∃ zs : List PR.S28, zs.length = len1 ∧ len1 ≤ cap1 ∧ Kd.C PR.k28 W a1 len1 zs := by
    obtain ⟨fuel, hf⟩ := h1
    exact open_arr Tryd.underlying25 Tryd.underlying28 Tryd.underlying3 (by kernel_rfl) (by kernel_rfl) hf
  subst hl1
  obtain ⟨rounds, hrounds⟩ := Pure.RelFrom a0 z1
  clear hA0 hval0 hsz0 hsz
  have hG := gok_of_laid hLaid
  refine (PR.withelaw2_RelFrom.calls rounds a0 a1 cap1 z1 true W hr1 hc1 hrounds (hG := hG)).mono fun e W' ⟨he, bel⟩ => ?_
  subst he
  exact ⟨_, rfl, _, _, _, [], _, [], hW', trodAll_mk1 (shut_bool Tryd.underlying4 _), (trodAll_cons_mk (shut_int Tryd.underlying3 w0) (trodAll_cons_mk (Below.trod laidOut (by kernel_rfl) (of_decide_eq_true (by kernel_rfl)) k1 bel lt1) trodAll_mk0)), rfl, bel.frame _, fun h => by cases h⟩
theorem over : Rows.relFromRow.holds Tryd.pinned (OpenSpec.ofChange Rows.relFromSpec) :=
  OpenClaim.holds_of_wide 4 Tryd.f4 rfl rfl rfl rfl rfl rfl rfl ⟨rfl, rfl, rfl, rfl, rfl⟩ rfl rfl rfl rfl rfl (by kernel_rfl) Tryd.func4 (by kernel_rfl)
    (of_decide_eq_true (by kernel_rfl)) (by unfold Func.isWrapper; first | (rw [if_pos (by decide +kernel)]; kernel_rfl) | (rw [if_neg (by decide +kernel)]; exact ⟨rfl, rfl⟩))
    (fun os started H enc _ => lifted os started H enc)
theorem proved : Rows.RelFromSaid := over
#print axioms proved
end Go.Proofs.YtcehnbneiabaaaaDoor.relFrom
namespace Go.Proofs.YtcehnbneiabaaaaDoor
/-- The card, under a short name, for the claim. -/
theorem relFrom_holds : Rows.RelFromCardSaid :=
  Claim7.holds_tied_plain_at .later [] [.data] true (true, "5efe3b9a87b17089c0d67a4c5215011bdb4114b2f62d6a61dd7b3a0b4db01946") false relFrom.proved (fun _ h => by cases h) (by kernel_rfl) (fun _ h => by cases h) relFrom_row_tie rfl ⟨rfl, rfl⟩ (by kernel_rfl) rfl
    (fun f fn hf hfn => by
      obtain rfl : f = 4 := Option.some.inj ((show Tryd.prog.funcNamed "withe/withelaw2.RelFrom" = some 4 by kernel_rfl).symm.trans hf) |>.symm
      obtain rfl : fn = Tryd.f4 := (Option.some.inj (Tryd.func4.symm.trans hfn)).symm
      exact ⟨by kernel_rfl, fun j t ht => by
        have hall : (Tryd.f4.params.toList.all fun t => !Tryd.prog.wantsStandIn t) = true := by kernel_rfl
        have h1 := List.all_eq_true.mp hall t (Array.mem_toList_iff.mpr (Array.mem_of_getElem? ht))
        exact (show Tryd.prog.wantsStandIn t = false by simpa using h1)⟩)
    (by kernel_rfl)
#print axioms relFrom_holds
end Go.Proofs.YtcehnbneiabaaaaDoor
