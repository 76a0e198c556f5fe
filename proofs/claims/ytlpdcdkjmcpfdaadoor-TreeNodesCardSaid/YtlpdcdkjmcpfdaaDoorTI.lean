/- witheref9's Regs at a thread of one load: walked by hand. -/
import Derived.Test.YtlpdcdkjmcpfdaaDoorTH
namespace Go.Proofs.YtlpdcdkjmcpfdaaDoor.PT
open Go.RowKit Go.Proofs.YtlpdcdkjmcpfdaaDoorW.PrintWords Go.Proofs.YtlpdcdkjmcpfdaaDoorW.PrintLast Go.Proofs.YtlpdcdkjmcpfdaaDoorW.PrintMore
set_option linter.unusedVariables false
set_option linter.unusedSimpArgs false
attribute [local go_sem] cell_set_some
set_option maxHeartbeats 8000000 in
set_option maxRecDepth 100000 in
theorem add_nil (w : World) (v : Value) (A : Option Addr) (c : Nat) : Calls Tryd.prog 78 #[v, .slice A 0 c] w fun e w' => e = .returned v ∧ w' = w := by
  go_enter Tryd.func78, Tryd.ntmps78
  go_wp2
  refine wp_loop_rounds 1 ?_
  rw [rounds_succ]
  go_wp2
  go_ret
  exact ⟨rfl, rfl⟩
def add.T5 : Bool × List (List Nat × List Nat) := (true, [([], []), ([], []), ([0, 1], [0, 1]), ([], []), ([], []), ([3, 4], [3, 4]), ([5], [5]), ([6], [6]), ([7], [7]), ([2, 8, 2], [2, 8]), ([9, 9, 0, 1, 2, 3, 4, 5, 6, 7, 8, 9], [1, 9])])
def add.B5 : List Nat := [0, 0, 3, 0, 0, 24, 56, 120, 248, 511, 1023]
theorem add.tab5 : rtab .any (opsOf Tryd.f78 5) = add.T5 := by kernel_rfl
theorem add.bits5 : waitsOk add.T5.2 add.B5 = true := by kernel_rfl
set_option maxHeartbeats 8000000 in
set_option maxRecDepth 100000 in
theorem add_one (w : World) (A5 A6 : Option Addr) (c5 c6 : Nat) (ad : Addr) (cl : Nat)
    (q0 : w.cell? ad = some (.int .i64 2)) (q2 : w.cell? ⟨ad.block, ad.off + 2, none⟩ = some (.string ⟨#[114]⟩))
    (q5 : w.cell? ⟨ad.block, ad.off + 5, none⟩ = some (.slice A5 0 c5)) (q6 : w.cell? ⟨ad.block, ad.off + 6, none⟩ = some (.slice A6 0 c6)) :
    Calls Tryd.prog 78 #[.slice none 0 0, .slice (some ad) 1 cl] w fun e w' => ∃ vk, e = .returned vk ∧ Kd.R Kd.string 9 w' w.heap.size (fun _ => True) vk [⟨#[114]⟩] ∧ Below w.heap.size w w' := by
  have hu61 := Tryd.underlying61
  go_enter Tryd.func78, Tryd.ntmps78
  go_wp2
  refine wp_loop_rounds 2 ?_
  rw [rounds_succ]
  have HW := Aside0.mk (Below.refl w.heap.size w)
  go_upto_region 5 with (first | (go_at_call 97; (with_reducible refine (witheref9_sets.calls 2 true _ (by kernel_rfl)).mono ?_); rintro e w3 ⟨rfl, n3, rfl⟩; replace HW := Aside0.mk (pw_below_drewN HW.out n3); replace q0 : (w.drewN n3).cell? ad = some (.int .i64 2) := q0; replace q2 : (w.drewN n3).cell? ⟨ad.block, ad.off + 2, none⟩ = some (.string ⟨#[114]⟩) := q2; replace q5 : (w.drewN n3).cell? ⟨ad.block, ad.off + 5, none⟩ = some (.slice A5 0 c5) := q5; replace q6 : (w.drewN n3).cell? ⟨ad.block, ad.off + 6, none⟩ = some (.slice A6 0 c6) := q6) | (go_at_call 74; refine (witheref9_In.calls 9 none 0 [] ⟨#[114]⟩ false _ (Kd.C_nil Kd.string _) (by decide) (by kernel_rfl)).mono ?_; rintro e w6 ⟨rfl, n6, rfl⟩; replace HW := Aside0.mk (pw_below_drewN HW.out n6)))
  replace q2 : ((w.drewN (n3 + n6)).drew).cell? ⟨ad.block, ad.off + 2, none⟩ = some (.string ⟨#[114]⟩) := q2
  replace q5 : ((w.drewN (n3 + n6)).drew).cell? ⟨ad.block, ad.off + 5, none⟩ = some (.slice A5 0 c5) := q5
  replace q6 : ((w.drewN (n3 + n6)).drew).cell? ⟨ad.block, ad.off + 6, none⟩ = some (.slice A6 0 c6) := q6
  replace HW := Aside0.mk (below_drew1 (pw_below_drewN (Below.refl w.heap.size w) (n3 + n6)))
  clear q0
  refine start_ (n := 11) (S := fun w' => w'.cell? ⟨ad.block, ad.off + 2, none⟩ = some (.string ⟨#[114]⟩)) (ds := []) #[Z,Z,Z,Z,Z,Z,Z,Z,Z,Z,Z] (by kernel_rfl) rfl rfl q2 (fun hHeld => ?_)
  refine with_tabW add.tab5 add.bits5 (fun HT_ HW_ => ?_)
  generalize World.drew _ = wF at q5 q6 HW q2 hHeld ⊢
  have HB := Aside0.mk (Below.refl wF.heap.size wF)
  refine pure_ (i := 1) (N := some 29) (v := ?_) (a' := ?_) #[Z,Y,Z,Z,Z,Z,Z,Z,Z,Z,Z] rfl rfl (any_of HT_.out (by kernel_rfl)) (fun _ _ _ h => h) (Or.inl ⟨by rfl, ?_⟩) ?_ ?_
  rotate_left
  · intro w'
    go_simp
    with_reducible rfl
  rotate_left
  · simp only [Act.put, pA, pB, pC, i64_w, i32_w]
    rfl
  refine pure_ (i := 3) (N := some 31) (v := ?_) (a' := ?_) #[Z,Y,Z,Y,Z,Z,Z,Z,Z,Z,Z] rfl rfl (any_of HT_.out (by kernel_rfl)) (fun _ _ _ h => h) (Or.inl ⟨by rfl, ?_⟩) ?_ ?_
  rotate_left
  · intro w'
    go_simp
    with_reducible rfl
  rotate_left
  · simp only [Act.put, pA, pB, pC, i64_w, i32_w]
    rfl
  refine pure_ (i := 4) (N := some 32) (v := ?_) (a' := ?_) #[Z,Y,Z,Y,Y,Z,Z,Z,Z,Z,Z] rfl rfl (any_of HT_.out (by kernel_rfl)) (fun _ _ _ h => h) (Or.inl ⟨by rfl, ?_⟩) ?_ ?_
  rotate_left
  · intro w'
    go_simp
    with_reducible rfl
  rotate_left
  · simp only [Act.put, pA, pB, pC, i64_w, i32_w]
    rfl
  refine pure_ (i := 5) (N := some 33) (v := ?_) (a' := ?_) #[Z,Y,Z,Y,Y,Y,Z,Z,Z,Z,Z] rfl rfl (any_of HT_.out (by kernel_rfl)) (fun _ _ _ h => h) (Or.inl ⟨by rfl, ?_⟩) ?_ ?_
  rotate_left
  · intro w'
    go_simp
    with_reducible rfl
  rotate_left
  · simp only [Act.put, pA, pB, pC, i64_w, i32_w]
    rfl
  refine pure_ (i := 6) (N := some 34) (v := ?_) (a' := ?_) #[Z,Y,Z,Y,Y,Y,Y,Z,Z,Z,Z] rfl rfl (any_of HT_.out (by kernel_rfl)) (fun _ _ _ h => h) (Or.inl ⟨by rfl, ?_⟩) ?_ ?_
  rotate_left
  · intro w'
    go_simp
    with_reducible rfl
  rotate_left
  · simp only [Act.put, pA, pB, pC, i64_w, i32_w]
    rfl
  refine take_ (i := 7) (N := some 35) (v := ?_) (a' := ?_) #[Z,Y,Z,Y,Y,Y,Y,Y,Z,Z,Z] rfl rfl (take_ofW HT_.out HW_.out (by kernel_rfl)) (fun _ _ _ h => h) (Or.inl ⟨by rfl, ?_⟩) hHeld ?_ ?_
  rotate_left
  · rintro w' s0
    go_simp
    with_reducible rfl
  rotate_left
  · simp only [Act.put, pA, pB, pC, i64_w, i32_w]
    rfl
  refine join_ (σ := Value × Value) 2 #[Y,Y,Y,Y,Y,Y,Y,Y,Y,Z,Z] (fun s_ => [(28, s_.1), (30, s_.1), (36, s_.2)]) (fun s_ w' => (w'.cell? ⟨ad.block, ad.off + 2, none⟩ = some (.string ⟨#[114]⟩)) ∧ (∃ A1 c1, s_.1 = .slice A1 ([] : List ByteArray).length c1) ∧ Kd.R Kd.string 9 w' wF.heap.size (fun _ => True) s_.1 [] ∧ Kd.R Kd.string 9 w' wF.heap.size (fun _ => True) s_.2 [⟨#[114]⟩] ∧ Below wF.heap.size wF w') ?_ ?_
  rotate_left
  · intro hCont
    refine two_ (i := 0) (j := 8) (Ni := some 28) (Nj := some 36) #[Y,Y,Z,Y,Y,Y,Y,Y,Z,Z,Z] #[Z,Y,Z,Y,Y,Y,Y,Y,Y,Z,Z] rfl rfl rfl rfl (two_of HT_.out (by kernel_rfl)) (by decide) (by decide) (fun K hK => ?_) (fun K hK => ?_)
    · skip
      refine Kd.R_lit_step Kd.string _ 9 ?hg (N := 28) ?hd (xs := ([] : List ByteArray)) (inner := []) (ok := fun _ => True) (okp := fun _ => True) ?hr (Reps.none _ _) (fun _ hk => hk) trivial (Below.refl _ _) (Nat.le_refl _) (by decide) ?_; (case hd => rfl); (case hg => rfl); (case hr => first | (go_simp; done) | (go_simp; rfl))
      intro v101 w1 q1 q2_ q3 q4_
      clear q3
      have HO101 := Aside0.mk (Kd.R_lower q1 (below_size HB.out))
      replace HB := Aside0.mk (below_step HB.out q2_)
      clear q1 q2_
      refine hK.out _ _ ((HB.out.cell (World.block_lt_of_cell? _ _ q2)).trans q2) (fun hHeld => ?_)
      clear hK K
      obtain ⟨A1, c1, rfl⟩ := Kd.R_slice HO101.out
      obtain ⟨a1, rfl⟩ : ∃ a1, A1 = some a1 := by obtain ⟨b1, eb, _⟩ := q4_; cases A1 with | none => simp [Value.ownBlock] at eb | some a => exact ⟨a, rfl⟩
      clear q4_
      refine norm_ (a' := ?_) ?_ ?_
      rotate_left
      · show Act.put _ (some 28) _ = _
        simp only [Act.put, pA, pB, pC, i64_w, i32_w]
        rfl
      refine two_ (i := 2) (j := 8) (Ni := some 30) (Nj := some 36) #[Y,Y,Y,Y,Y,Y,Y,Y,Z,Z,Z] #[Y,Y,Z,Y,Y,Y,Y,Y,Y,Z,Z] rfl rfl rfl rfl (two_of HT_.out (by kernel_rfl)) (by decide) (by decide) (fun K hK => ?_) (fun K hK => ?_)
      · skip
        refine value_ (w1 := ?_) (v := ?_) (by rfl) rfl ?_ ?_
        rotate_left 2
        · go_simp
          constructor
          · rfl
          · rfl
        refine hK.out _ _ hHeld (fun hHeld => ?_)
        clear hK K
        refine norm_ (a' := ?_) ?_ ?_
        rotate_left
        · show Act.put _ (some 30) _ = _
          simp only [Act.put, pA, pB, pC, i64_w, i32_w]
          rfl
        refine one_ (i := 8) (N := some 36) #[Y,Y,Y,Y,Y,Y,Y,Y,Y,Z,Z] rfl rfl (one_of HT_.out (by kernel_rfl)) (by decide) (fun K hK => ?_)
        refine Kd.R_lit_step Kd.string _ 9 ?hg (N := 36) ?hd (xs := ([⟨#[114]⟩] : List ByteArray)) (inner := [.string ⟨#[114]⟩]) (ok := fun _ => True) (okp := fun _ => True) ?hr (Reps.one (show Kd.M Kd.string _ _ _ (⟨#[114]⟩ : ByteArray) [.string ⟨#[114]⟩] from rfl) (Reps.none _ _)) (fun _ hk => hk) trivial (Below.refl _ _) (Nat.le_refl _) (by decide) ?_; (case hd => rfl); (case hg => rfl); (case hr => first | (go_simp; done) | (go_simp; rfl))
        intro v106 w1 q1 q2_ q3 q4_
        clear q3
        replace HO101 := Aside0.mk (Kd.R_below HO101.out q2_)
        have HO106 := Aside0.mk (Kd.R_lower q1 (below_size HB.out))
        replace HB := Aside0.mk (below_step HB.out q2_)
        clear q1 q2_
        refine hK.out _ _ ((HB.out.cell (World.block_lt_of_cell? _ _ q2)).trans q2) (fun hHeld => ?_)
        clear hK K
        clear q4_
        refine norm_ (a' := ?_) ?_ ?_
        rotate_left
        · show Act.put _ (some 36) _ = _
          simp only [Act.put, pA, pB, pC, i64_w, i32_w]
          rfl
        exact norm_ (by simp only [putAll, Act.put, pA, pB, pC]; rfl) (hCont (.slice (some a1) ([] : List ByteArray).length c1, v106) _ ⟨hHeld, ⟨some a1, c1, rfl⟩, HO101.out, HO106.out, HB.out⟩)
      · skip
        refine Kd.R_lit_step Kd.string _ 9 ?hg (N := 36) ?hd (xs := ([⟨#[114]⟩] : List ByteArray)) (inner := [.string ⟨#[114]⟩]) (ok := fun _ => True) (okp := fun _ => True) ?hr (Reps.one (show Kd.M Kd.string _ _ _ (⟨#[114]⟩ : ByteArray) [.string ⟨#[114]⟩] from rfl) (Reps.none _ _)) (fun _ hk => hk) trivial (Below.refl _ _) (Nat.le_refl _) (by decide) ?_; (case hd => rfl); (case hg => rfl); (case hr => first | (go_simp; done) | (go_simp; rfl))
        intro v106 w1 q1 q2_ q3 q4_
        clear q3
        replace HO101 := Aside0.mk (Kd.R_below HO101.out q2_)
        have HO106 := Aside0.mk (Kd.R_lower q1 (below_size HB.out))
        replace HB := Aside0.mk (below_step HB.out q2_)
        clear q1 q2_
        refine hK.out _ _ ((HB.out.cell (World.block_lt_of_cell? _ _ q2)).trans q2) (fun hHeld => ?_)
        clear hK K
        clear q4_
        refine norm_ (a' := ?_) ?_ ?_
        rotate_left
        · show Act.put _ (some 36) _ = _
          simp only [Act.put, pA, pB, pC, i64_w, i32_w]
          rfl
        refine one_ (i := 2) (N := some 30) #[Y,Y,Y,Y,Y,Y,Y,Y,Y,Z,Z] rfl rfl (one_of HT_.out (by kernel_rfl)) (by decide) (fun K hK => ?_)
        refine value_ (w1 := ?_) (v := ?_) (by rfl) rfl ?_ ?_
        rotate_left 2
        · go_simp
          constructor
          · rfl
          · rfl
        refine hK.out _ _ hHeld (fun hHeld => ?_)
        clear hK K
        refine norm_ (a' := ?_) ?_ ?_
        rotate_left
        · show Act.put _ (some 30) _ = _
          simp only [Act.put, pA, pB, pC, i64_w, i32_w]
          rfl
        exact norm_ (by simp only [putAll, Act.put, pA, pB, pC]; rfl) (hCont (.slice (some a1) ([] : List ByteArray).length c1, v106) _ ⟨hHeld, ⟨some a1, c1, rfl⟩, HO101.out, HO106.out, HB.out⟩)
    · skip
      refine Kd.R_lit_step Kd.string _ 9 ?hg (N := 36) ?hd (xs := ([⟨#[114]⟩] : List ByteArray)) (inner := [.string ⟨#[114]⟩]) (ok := fun _ => True) (okp := fun _ => True) ?hr (Reps.one (show Kd.M Kd.string _ _ _ (⟨#[114]⟩ : ByteArray) [.string ⟨#[114]⟩] from rfl) (Reps.none _ _)) (fun _ hk => hk) trivial (Below.refl _ _) (Nat.le_refl _) (by decide) ?_; (case hd => rfl); (case hg => rfl); (case hr => first | (go_simp; done) | (go_simp; rfl))
      intro v106 w1 q1 q2_ q3 q4_
      clear q3
      have HO106 := Aside0.mk (Kd.R_lower q1 (below_size HB.out))
      replace HB := Aside0.mk (below_step HB.out q2_)
      clear q1 q2_
      refine hK.out _ _ ((HB.out.cell (World.block_lt_of_cell? _ _ q2)).trans q2) (fun hHeld => ?_)
      clear hK K
      clear q4_
      refine norm_ (a' := ?_) ?_ ?_
      rotate_left
      · show Act.put _ (some 36) _ = _
        simp only [Act.put, pA, pB, pC, i64_w, i32_w]
        rfl
      refine one_ (i := 0) (N := some 28) #[Y,Y,Z,Y,Y,Y,Y,Y,Y,Z,Z] rfl rfl (one_of HT_.out (by kernel_rfl)) (by decide) (fun K hK => ?_)
      refine Kd.R_lit_step Kd.string _ 9 ?hg (N := 28) ?hd (xs := ([] : List ByteArray)) (inner := []) (ok := fun _ => True) (okp := fun _ => True) ?hr (Reps.none _ _) (fun _ hk => hk) trivial (Below.refl _ _) (Nat.le_refl _) (by decide) ?_; (case hd => rfl); (case hg => rfl); (case hr => first | (go_simp; done) | (go_simp; rfl))
      intro v101 w1 q1 q2_ q3 q4_
      clear q3
      replace HO106 := Aside0.mk (Kd.R_below HO106.out q2_)
      have HO101 := Aside0.mk (Kd.R_lower q1 (below_size HB.out))
      replace HB := Aside0.mk (below_step HB.out q2_)
      clear q1 q2_
      refine hK.out _ _ ((HB.out.cell (World.block_lt_of_cell? _ _ q2)).trans q2) (fun hHeld => ?_)
      clear hK K
      obtain ⟨A1, c1, rfl⟩ := Kd.R_slice HO101.out
      obtain ⟨a1, rfl⟩ : ∃ a1, A1 = some a1 := by obtain ⟨b1, eb, _⟩ := q4_; cases A1 with | none => simp [Value.ownBlock] at eb | some a => exact ⟨a, rfl⟩
      clear q4_
      refine norm_ (a' := ?_) ?_ ?_
      rotate_left
      · show Act.put _ (some 28) _ = _
        simp only [Act.put, pA, pB, pC, i64_w, i32_w]
        rfl
      refine one_ (i := 2) (N := some 30) #[Y,Y,Y,Y,Y,Y,Y,Y,Y,Z,Z] rfl rfl (one_of HT_.out (by kernel_rfl)) (by decide) (fun K hK => ?_)
      refine value_ (w1 := ?_) (v := ?_) (by rfl) rfl ?_ ?_
      rotate_left 2
      · go_simp
        constructor
        · rfl
        · rfl
      refine hK.out _ _ hHeld (fun hHeld => ?_)
      clear hK K
      refine norm_ (a' := ?_) ?_ ?_
      rotate_left
      · show Act.put _ (some 30) _ = _
        simp only [Act.put, pA, pB, pC, i64_w, i32_w]
        rfl
      exact norm_ (by simp only [putAll, Act.put, pA, pB, pC]; rfl) (hCont (.slice (some a1) ([] : List ByteArray).length c1, v106) _ ⟨hHeld, ⟨some a1, c1, rfl⟩, HO101.out, HO106.out, HB.out⟩)
  rintro ⟨v101, v106⟩ wJ ⟨hHeld, ⟨A1, c1, e1⟩, q1_, q2_, q3_⟩
  dsimp only at e1 q1_ q2_
  subst e1
  replace HB := Aside0.mk q3_
  have HO101 := Aside0.mk q1_
  have HO106 := Aside0.mk q2_
  clear q1_ q2_ q3_
  obtain ⟨Al6, cl6, rfl⟩ := Kd.R_slice HO106.out
  refine norm_ (a' := ?_) ?_ ?_
  rotate_left
  · simp only [putAll, Act.put, pA, pB, pC]
    rfl
  refine one_ (i := 9) (N := some 37) #[Y,Y,Y,Y,Y,Y,Y,Y,Y,Y,Z] rfl rfl (one_of HT_.out (by kernel_rfl)) (by decide) (fun K hK => ?_)
  refine Kd.R_append_rows_step Kd.string (w0 := wF) wF.heap.size (by rfl) (.tmp 30) (.tmp 36) 24 9 (.string ⟨#[]⟩) 16 rfl Tryd.underlying24 info9 rfl (by decide) (by decide) (.slice A1 ([] : List ByteArray).length c1) [] [⟨#[114]⟩] Al6 _ cl6 (fun _ => True) (fun _ => False) rfl rfl HO101.out (Kd.R_reads' HO106.out).2.2 (fun _ _ h => h) (fun _ h => h.elim) (fun _ _ => trivial) HB.out HB.out.size (by decide) ?_
  intro va w9 q4_ q5_ q6_ _
  obtain ⟨Aa, ca, rfl⟩ := Kd.R_slice q4_
  refine hK.out _ _ ((q5_.cell (World.block_lt_of_cell? _ _ q2)).trans q2) (fun hHeld => ?_)
  clear hK K
  refine norm_ (a' := ?_) ?_ ?_
  rotate_left
  · show Act.put _ (some 37) _ = _
    simp only [Act.put, pA, pB, pC, i64_w, i32_w]
    rfl
  refine pure_ (i := 10) (N := some 0) (v := ?_) (a' := ?_) #[Y,Y,Y,Y,Y,Y,Y,Y,Y,Y,Y] rfl rfl (any_of HT_.out (by kernel_rfl)) (fun _ _ _ h => h) (Or.inl ⟨by rfl, ?_⟩) ?_ ?_
  rotate_left
  · intro w'
    go_simp
    with_reducible rfl
  rotate_left
  · simp only [Act.put, pA, pB, pC, i64_w, i32_w]
    rfl
  refine done_ (done_of HT_.out (by kernel_rfl)) ?_
  have HV := Aside0.mk (Kd.R_lower q4_ (below_size HW.out))
  replace q5 := (q5_.cell (World.block_lt_of_cell? _ _ q5)).trans q5
  replace q6 := (q5_.cell (World.block_lt_of_cell? _ _ q6)).trans q6
  replace HW := Aside0.mk (below_step HW.out q5_)
  clear q4_ q5_ q6_ HO101 HO106 HB hHeld
  go_wp2_with (fail)
  refine (add_nil _ _ A5 c5).mono ?_
  rintro e w10 ⟨rfl, e10⟩
  rw [← e10] at q6 HV HW
  clear e10 q5
  go_wp2_with (fail)
  refine (add_nil _ _ A6 c6).mono ?_
  rintro e w11 ⟨rfl, e10⟩
  rw [← e10] at q6 HV HW
  clear e10
  go_wp2
  rw [rounds_succ]
  go_wp2
  go_ret
  exact ⟨_, rfl, HV.out, HW.out⟩
set_option maxHeartbeats 8000000 in
set_option maxRecDepth 100000 in
theorem regs_one (w : World) (A5 A6 : Option Addr) (c5 c6 : Nat) (ad : Addr) (cl : Nat)
    (q0 : w.cell? ad = some (.int .i64 2)) (q2 : w.cell? ⟨ad.block, ad.off + 2, none⟩ = some (.string ⟨#[114]⟩))
    (q5 : w.cell? ⟨ad.block, ad.off + 5, none⟩ = some (.slice A5 0 c5)) (q6 : w.cell? ⟨ad.block, ad.off + 6, none⟩ = some (.slice A6 0 c6)) :
    Calls Tryd.prog 54 #[.slice (some ad) 1 cl] w fun e w' => ∃ vk, e = .returned vk ∧ Kd.R Kd.string 9 w' w.heap.size (fun _ => True) vk [⟨#[114]⟩] ∧ Below w.heap.size w w' := by
  have HA := Aside0.mk (add_one w A5 A6 c5 c6 ad cl q0 q2 q5 q6)
  clear q0 q2 q5 q6
  go_enter Tryd.func54, Tryd.ntmps54
  go_wp2_with (fail)
  refine HA.out.mono ?_
  rintro e w2 ⟨vk, rfl, h1, h2⟩
  have H1 := Aside0.mk h1
  have H2 := Aside0.mk h2
  clear h1 h2
  go_wp2
  go_ret
  exact ⟨_, rfl, H1.out, H2.out⟩
end Go.Proofs.YtlpdcdkjmcpfdaaDoor.PT
