/- TreeNodes, for every node: the ways of tree and of the document to tell which nodes acquire, release and are plain agree. No condition. -/
import Derived.Test.YtlpdcdkjmcpfdaaDoorRows
import Derived.Test.YtlpdcdkjmcpfdaaDoorGok
import Derived.Test.YtlpdcdkjmcpfdaaDoorTie
import Derived.Test.YtlpdcdkjmcpfdaaDoorCards
import Derived.SevenTiedAt
import Derived.JoinedOf
import Derived.Deep.Slices
import Derived.Test.YtlpdcdkjmcpfdaaDoorUD
import Derived.WalkKit
import Derived.ProofKit
import Derived.OpenShut
import Derived.ShutString
import Derived.ChangeOld
import Derived.Below
import Derived.SizedLaws
namespace Go.Proofs.YtlpdcdkjmcpfdaaDoor.treeNodes
open Go.ChangeShapes Go.WideShapes Go.ChangeAt Go.RowKit Go.Proofs.YtlpdcdkjmcpfdaaDoorW.PrintWords
open Go.ChangeMaps (open_string shut_string)
set_option linter.unusedVariables false
theorem own : ownKnob Tryd.prog.godebug = none := by kernel_rfl
theorem laidOut : laidOutB Tryd.prog = true := by kernel_rfl
theorem addr_add (a : Addr) (i j : Nat) : (a.add i).add j = a.add (i + j) := by
  unfold Addr.add
  by_cases h : i = 0
  · subst h
    simp
  · by_cases h2 : j = 0
    · subst h2
      simp
    · simp [h, h2, Nat.add_assoc]
/-- A row of whole numbers, opened. -/
theorem opens_ints {P : Program} {t e : TypeId} (ht : P.underlying t = some (.slice e)) (he : P.underlying e = some (.int .i64)) (hc : P.cellsOf e = 1)
    {H : Type} {enc : TypeId × Value → H} {w : World} {base : Nat} {spare : Nat → Bool} {held : Bool} {n : Nat} {cs : List Value} {x : DataW H × List MemPlace} (h : DataW.trod enc P w base spare held n t cs = some x) :
    ∃ (A : Option Addr) (c : Nat) (xs : List Int), cs = [.slice A xs.length c] ∧ xs.length ≤ c ∧ Kd.C (Kd.int .i64) w A xs.length xs := by
  rcases DataW.trod_slice ht h with ⟨rfl, _⟩ | ⟨a, len, cap, elems, rest, m, rfl, rfl, _, hb, hl, hm, hlen, hel, _, _⟩
  · exact ⟨none, 0, [], rfl, Nat.le_refl _, ⟨rfl, by simp, fun q => absurd q (by simp)⟩⟩
  · have key : ∀ i, i < len → ∃ y : Int, w.cell? (a.add i) = some (.int .i64 y) := by
      intro i hi
      have h1 := hel i hi
      rw [List.getElem?_eq_getElem (by omega)] at h1
      obtain ⟨c, h2, h3⟩ := Option.bind_eq_some_iff.1 h1
      obtain ⟨y, hy, _, _⟩ := DataW.trod_int he h3
      obtain ⟨_, hcl, hcell⟩ := World.cells?_some h2
      have h4 := hcell 0 (by rw [hc]; decide)
      rw [hy, hc, Nat.mul_one] at h4
      rw [addr_add, Nat.add_zero] at h4
      exact ⟨y, by simpa using h4⟩
    obtain ⟨f, hf⟩ := Go.Deep.choose_lt key
    have hlen' : ((List.range len).map f).length = len := by simp
    refine ⟨some a, cap, (List.range len).map f, by rw [hlen'], by rw [hlen']; exact hl, ⟨rfl, ?_, fun _ => ⟨a, rfl, ?_⟩⟩⟩
    · rw [hlen']
      have := hm
      unfold maxLen at this
      omega
    · intro j p hj
      rw [List.getElem?_map] at hj
      have hjl : j < len := by
        rcases Nat.lt_or_ge j len with q | q
        · exact q
        · rw [List.getElem?_eq_none (by simpa using q)] at hj
          cases hj
      rw [List.getElem?_range hjl] at hj
      obtain rfl := Option.some.inj hj
      refine ⟨[.int .i64 (f j)], rfl, rfl, fun i u hu => ?_⟩
      have h0 : i = 0 := by
        have := (List.getElem?_eq_some_iff.1 hu).1
        simp at this
        omega
      subst h0
      have hu' : Value.int .i64 (f j) = u := by simpa using hu
      subst hu'
      show w.cell? (a.add (j * 1 + 0)) = _
      rw [Nat.mul_one, Nat.add_zero]
      exact hf j hjl
set_option maxRecDepth 100000 in
/-- A node, opened. -/
theorem open_node {H : Type} {enc : TypeId × Value → H} {w : World} {base : Nat} {spare : Nat → Bool} {held : Bool} {r : Reach} {b0 : Nat} {v : Value} {y : DataW H} {ps : List MemPlace} (hv : Value.okWide Tryd.prog w r b0 53 v) (h : DataW.Trod enc Tryd.prog w base spare held 53 v y ps) :
    ∃ (n0 n1 n2 n3 n4 n5 : Int) (n6 n7 : Bool) (A : Option Addr) (c : Nat) (xs : List Int), v = .agg #[.int .i64 n0, .int .i64 n1, .int .i64 n2, .int .i64 n3, .int .i64 n4, .int .i64 n5, .bool n6, .bool n7, .slice A xs.length c] ∧ xs.length ≤ c ∧ Kd.C (Kd.int .i64) w A xs.length xs := by
  obtain ⟨cs, rfl, hs⟩ := Go.WideShapes.okWide_struct Tryd.underlying53 hv
  obtain ⟨n, hn⟩ := h
  obtain ⟨zs, m, rfl, _, hl, hlen, hf⟩ := DataW.trod_struct Tryd.underlying53 hn
  have hc : Tryd.prog.cellsOf 53 = 9 := by kernel_rfl
  obtain ⟨c0, c1, c2, c3, c4, c5, c6, c7, c8, rfl⟩ : ∃ c0 c1 c2 c3 c4 c5 c6 c7 c8, cs = #[c0, c1, c2, c3, c4, c5, c6, c7, c8] := by
    rw [hc] at hs
    obtain ⟨l⟩ := cs
    match l, hs with
    | [c0, c1, c2, c3, c4, c5, c6, c7, c8], _ => exact ⟨c0, c1, c2, c3, c4, c5, c6, c7, c8, rfl⟩
  have g0 : DataW.trod enc Tryd.prog w base spare held m 3 (List.take (Tryd.prog.cellsOf 3) (List.drop 0 [c0, c1, c2, c3, c4, c5, c6, c7, c8])) = zs[0]? := hf 0 _ rfl
  have g1 : DataW.trod enc Tryd.prog w base spare held m 3 (List.take (Tryd.prog.cellsOf 3) (List.drop 1 [c0, c1, c2, c3, c4, c5, c6, c7, c8])) = zs[1]? := hf 1 _ rfl
  have g2 : DataW.trod enc Tryd.prog w base spare held m 3 (List.take (Tryd.prog.cellsOf 3) (List.drop 2 [c0, c1, c2, c3, c4, c5, c6, c7, c8])) = zs[2]? := hf 2 _ rfl
  have g3 : DataW.trod enc Tryd.prog w base spare held m 3 (List.take (Tryd.prog.cellsOf 3) (List.drop 3 [c0, c1, c2, c3, c4, c5, c6, c7, c8])) = zs[3]? := hf 3 _ rfl
  have g4 : DataW.trod enc Tryd.prog w base spare held m 3 (List.take (Tryd.prog.cellsOf 3) (List.drop 4 [c0, c1, c2, c3, c4, c5, c6, c7, c8])) = zs[4]? := hf 4 _ rfl
  have g5 : DataW.trod enc Tryd.prog w base spare held m 3 (List.take (Tryd.prog.cellsOf 3) (List.drop 5 [c0, c1, c2, c3, c4, c5, c6, c7, c8])) = zs[5]? := hf 5 _ rfl
  have g6 : DataW.trod enc Tryd.prog w base spare held m 4 (List.take (Tryd.prog.cellsOf 4) (List.drop 6 [c0, c1, c2, c3, c4, c5, c6, c7, c8])) = zs[6]? := hf 6 _ rfl
  have g7 : DataW.trod enc Tryd.prog w base spare held m 4 (List.take (Tryd.prog.cellsOf 4) (List.drop 7 [c0, c1, c2, c3, c4, c5, c6, c7, c8])) = zs[7]? := hf 7 _ rfl
  have g8 : DataW.trod enc Tryd.prog w base spare held m 41 (List.take (Tryd.prog.cellsOf 41) (List.drop 8 [c0, c1, c2, c3, c4, c5, c6, c7, c8])) = zs[8]? := hf 8 _ rfl
  rw [List.getElem?_eq_getElem (by rw [hlen]; decide)] at g0 g1 g2 g3 g4 g5 g6 g7 g8
  have d3 : Tryd.prog.cellsOf 3 = 1 := by kernel_rfl
  have d4 : Tryd.prog.cellsOf 4 = 1 := by kernel_rfl
  have d41 : Tryd.prog.cellsOf 41 = 1 := by kernel_rfl
  simp only [d3, d4, d41, List.drop_zero, List.drop_succ_cons, List.take_succ_cons, List.take_zero] at g0 g1 g2 g3 g4 g5 g6 g7 g8
  obtain ⟨f0, e0, _, _⟩ := DataW.trod_int Tryd.underlying3 g0
  obtain ⟨f1, e1, _, _⟩ := DataW.trod_int Tryd.underlying3 g1
  obtain ⟨f2, e2, _, _⟩ := DataW.trod_int Tryd.underlying3 g2
  obtain ⟨f3, e3, _, _⟩ := DataW.trod_int Tryd.underlying3 g3
  obtain ⟨f4, e4, _, _⟩ := DataW.trod_int Tryd.underlying3 g4
  obtain ⟨f5, e5, _, _⟩ := DataW.trod_int Tryd.underlying3 g5
  obtain ⟨f6, e6, _⟩ := DataW.trod_bool Tryd.underlying4 g6
  obtain ⟨f7, e7, _⟩ := DataW.trod_bool Tryd.underlying4 g7
  obtain ⟨A, c, f8, e8, h1, h2⟩ := opens_ints Tryd.underlying41 Tryd.underlying3 (by kernel_rfl) g8
  obtain rfl := List.singleton_inj.1 e0
  obtain rfl := List.singleton_inj.1 e1
  obtain rfl := List.singleton_inj.1 e2
  obtain rfl := List.singleton_inj.1 e3
  obtain rfl := List.singleton_inj.1 e4
  obtain rfl := List.singleton_inj.1 e5
  obtain rfl := List.singleton_inj.1 e6
  obtain rfl := List.singleton_inj.1 e7
  obtain rfl := List.singleton_inj.1 e8
  exact ⟨f0, f1, f2, f3, f4, f5, f6, f7, A, c, f8, rfl, h1, h2⟩
set_option maxRecDepth 100000 in
theorem lifted (os : Os) (started : os.Started) (H : Type) (enc : TypeId × Value → H) :
    ReturnsInHanded {} Tryd.checked os 4 .any (fun w args => (Rows.treeNodesSpec.pre enc Tryd.prog Tryd.f4 Rows.treeNodesRow.domain false w args ∧ laidMet Tryd.prog [("math/bits.deBruijn64tab", Rows.laid_math_bits_deBruijn64tab)] w) ∧ sizedMet enc Tryd.prog Tryd.f4 (OpenSpec.ofChange Rows.treeNodesSpec) false w args) (Rows.treeNodesSpec.post enc Tryd.prog Tryd.f4 false true false false) := by
  refine returnsInHanded_of_change_and (C := Tryd.checked) (X := fun w _ => laidMet Tryd.prog [("math/bits.deBruijn64tab", Rows.laid_math_bits_deBruijn64tab)] w) (fun _ _ _ hh h => h.of_heap hh) own started (by kernel_rfl) Tryd.func4
    (ChangeSpec.witness_shaped (enc := enc) (C := Tryd.checked) (os := os) (X := fun w _ => laidMet Tryd.prog [("math/bits.deBruijn64tab", Rows.laid_math_bits_deBruijn64tab)] w) false (World.laidAll Tryd.prog os [("math/bits.deBruijn64tab", Rows.laid_math_bits_deBruijn64tab)]) #[.agg #[.int .i64 0, .int .i64 0, .int .i64 0, .int .i64 0, .int .i64 0, .int .i64 0, .bool false, .bool false, .slice none 0 0]] 8 (World.laidAll_os _ _ _)
      (World.shaped_of_ZipB (by kernel_rfl) (by kernel_rfl)) (by kernel_rfl) (by kernel_rfl) (by kernel_rfl)
      (laidMet_laidAll _ (by kernel_rfl) (by kernel_rfl))) ?_
  intro W base args ds gs before hval0 hW hcnd hsz0 hLaid _
  have hsz : (DataW.weightsEach Tryd.prog (Tryd.f4.params.toList ++ Rows.treeNodesSpec.plain.varTypes Tryd.prog) (ds ++ gs)).all (· ≤ reachBytes) = true := hsz0
  have hval : ∀ (j : Nat) t v, Tryd.f4.params[j]? = some t → args[j]? = some v → Value.okWide Tryd.prog W .any base t v := hval0
  have hW' := hW
  obtain ⟨p, q, hA0, hV, rfl, hfz, hnd⟩ := hW
  have hA : DataW.TrodAll enc Tryd.prog W 0 (fun _ => true) true Tryd.f4.params.toList args.toList ds p := hA0
  rw [Tryd.params4] at hA hval hsz
  obtain ⟨v0, vs0, d0, ds0, p0, q0, hargs, rfl, rfl, h0, r0⟩ := trodAll_cons hA
  obtain ⟨rfl, rfl, rfl⟩ := trodAll_nil r0
  obtain rfl : args = #[v0] := by cases args; simp_all
  obtain ⟨rfl, rfl⟩ := trodVars_none hV
  have k0 := h0
  have lt0 : ∀ x ∈ p0, x.block < W.heap.size := by obtain ⟨m, hm⟩ := k0; exact DataW.trod_lt m _ _ _ hm
  obtain ⟨n0, n1, n2, n3, n4, n5, n6, n7, A, c, xs, rfl, hc0, hr0⟩ := open_node (hval 0 53 v0 rfl rfl) h0
  clear hA0 hval0 hsz0 hsz
  have hG := gok_of_laid hLaid
  refine (PT.nodes_c W n0 n1 n2 n3 n4 n5 n6 n7 A xs.length c hG).mono fun e W' ⟨he, bel⟩ => ?_
  subst he
  exact ⟨_, rfl, _, _, _, [], _, [], hW', trodAll_mk1 (shut_bool Tryd.underlying4 _), (trodAll_cons_mk (Below.trod laidOut (by kernel_rfl) (of_decide_eq_true (by kernel_rfl)) k0 bel lt0) trodAll_mk0), rfl, bel.frame _, fun h => by cases h⟩
theorem over : Rows.treeNodesRow.holds Tryd.pinned (OpenSpec.ofChange Rows.treeNodesSpec) :=
  OpenClaim.holds_of_wide 4 Tryd.f4 rfl rfl rfl rfl rfl rfl rfl ⟨rfl, rfl, rfl, rfl, rfl⟩ rfl rfl rfl rfl rfl (by kernel_rfl) Tryd.func4 (by kernel_rfl)
    (of_decide_eq_true (by kernel_rfl)) (by unfold Func.isWrapper; first | (rw [if_pos (by decide +kernel)]; kernel_rfl) | (rw [if_neg (by decide +kernel)]; exact ⟨rfl, rfl⟩))
    (fun os started H enc _ => lifted os started H enc)
theorem proved : Rows.TreeNodesSaid := over
#print axioms proved
end Go.Proofs.YtlpdcdkjmcpfdaaDoor.treeNodes
namespace Go.Proofs.YtlpdcdkjmcpfdaaDoor
/-- The card, under a short name, for the claim. -/
theorem treeNodes_holds : Rows.TreeNodesCardSaid :=
  Claim7.holds_tied_plain_at .later [] [.data] true (true, "64808a986efe353ab952485e380287f02e0af1942bd628fc6376d3c629ad7877") false treeNodes.proved (fun _ h => by cases h) (by kernel_rfl) (fun _ h => by cases h) treeNodes_row_tie rfl ⟨rfl, rfl⟩ (by kernel_rfl) rfl
    (fun f fn hf hfn => by
      obtain rfl : f = 4 := Option.some.inj ((show Tryd.prog.funcNamed "withe/withelaw13.TreeNodes" = some 4 by kernel_rfl).symm.trans hf) |>.symm
      obtain rfl : fn = Tryd.f4 := (Option.some.inj (Tryd.func4.symm.trans hfn)).symm
      exact ⟨by kernel_rfl, fun j t ht => by
        have hall : (Tryd.f4.params.toList.all fun t => !Tryd.prog.wantsStandIn t) = true := by kernel_rfl
        have h1 := List.all_eq_true.mp hall t (Array.mem_toList_iff.mpr (Array.mem_of_getElem? ht))
        exact (show Tryd.prog.wantsStandIn t = false by simpa using h1)⟩)
    (by kernel_rfl)
#print axioms treeNodes_holds
end Go.Proofs.YtlpdcdkjmcpfdaaDoor
