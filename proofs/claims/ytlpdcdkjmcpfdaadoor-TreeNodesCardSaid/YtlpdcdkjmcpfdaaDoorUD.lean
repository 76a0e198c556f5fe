/- TreeNodes: walked by hand, over begun; the two ways to tell agree. -/
import Derived.Test.YtlpdcdkjmcpfdaaDoorUC
namespace Go.Proofs.YtlpdcdkjmcpfdaaDoor.PT
open Go.RowKit Go.Proofs.YtlpdcdkjmcpfdaaDoorW.PrintWords Go.Proofs.YtlpdcdkjmcpfdaaDoorW.PrintLast Go.Proofs.YtlpdcdkjmcpfdaaDoorW.PrintMore
set_option linter.unusedVariables false
set_option linter.unusedSimpArgs false
attribute [local go_sem] cell_set_some
def nodes.T3 : Bool × List (List Nat × List Nat) := (true, [([], []), ([0], [0]), ([], []), ([2, 1], [2]), ([1, 3], [1, 3]), ([4, 3], [4]), ([5], [5]), ([6, 5, 5], [5, 6]), ([5], [5]), ([8, 7, 5], [5, 8]), ([7, 9, 5], [5, 7, 9]), ([5, 10], [5, 10]), ([11, 9], [11]), ([12], [12]), ([13, 12, 12], [12, 13]), ([12], [12]), ([15, 14, 12], [12, 15]), ([14, 16, 12], [12, 14, 16]), ([12, 17], [12, 17]), ([18, 16, 0, 1, 2, 3, 4, 5, 6, 7, 8, 9, 10, 11, 12, 13, 14, 15, 16, 17, 18], [18])])
def nodes.B3 : List Nat := [0, 1, 0, 7, 15, 31, 63, 127, 63, 511, 1023, 2047, 4095, 8191, 16383, 8191, 65535, 131071, 262143, 524287]
theorem nodes.tab3 : rtab .any (opsOf Tryd.f4 3) = nodes.T3 := by kernel_rfl
theorem nodes.bits3 : waitsOk nodes.T3.2 nodes.B3 = true := by kernel_rfl
set_option maxHeartbeats 8000000 in
set_option maxRecDepth 100000 in
theorem nodes_c (w : World) (n0 n1 n2 n3 n4 n5 : Int) (n6 n7 : Bool) (A8 : Option Addr) (m8 c8 : Nat) (hG : GOk w) : Calls Tryd.prog 4 #[.agg #[.int .i64 n0, .int .i64 n1, .int .i64 n2, .int .i64 n3, .int .i64 n4, .int .i64 n5, .bool n6, .bool n7, .slice A8 m8 c8]] w fun e w' => e = .returned (.bool true) ∧ Below w.heap.size w w' := by
  have hu53 := Tryd.underlying53
  have HG := Aside0.mk hG
  clear hG
  obtain ⟨ra, ea⟩ : ∃ r, acqB n2 n4 = r := ⟨_, rfl⟩
  obtain ⟨rb, eb⟩ : ∃ r, relB n0 n2 n4 = r := ⟨_, rfl⟩
  obtain ⟨rc, ec⟩ : ∃ r, plainB n0 n2 n4 n6 = r := ⟨_, rfl⟩
  have Eea := Aside0.mk ea
  have Eeb := Aside0.mk eb
  have Eec := Aside0.mk ec
  clear ea eb ec
  go_enter Tryd.func4, Tryd.ntmps4
  go_wp2_with ((with_reducible refine gate_dst (N := 1) rfl ?_); refine box_event ?hg (N := 1) ?hd (cs := #[.int .i64 n0, .int .i64 n1, .int .i64 n2, .int .i64 n3, .int .i64 n4, .int .i64 n5, .bool n6, .bool n7, .slice A8 m8 c8]) (t := 53) ?hr ?_; (case hd => rfl); (case hg => rfl); (case hr => first | (go_simp; done) | (go_simp; rfl)); intro g1 hg1 w1 hbox hb1; have HX := Aside0.mk hbox; have HB := Aside0.mk hb1; clear hg1 hb1 hbox)
  refine (begun_c _ (GOk.le HG.out HB.out)).mono ?_
  rintro e w2 ⟨rfl, qb⟩
  replace HX := Aside0.mk (blk_below HX.out qb)
  replace HB := Aside0.mk (below_step HB.out qb)
  clear qb
  go_upto_region 3 with (fail)
  replace HX := Aside0.mk (blk_drew HX.out)
  replace HB := Aside0.mk (below_drew HB.out)
  have ka : (ra == ra) = true := beq_self_eq_true ra
  have kb : (rb == rb) = true := beq_self_eq_true rb
  have kc : (rc == rc) = true := beq_self_eq_true rc
  refine start_ (n := 20) (S := fun w' => w'.cell? ⟨g1, 0, none⟩ = some (.int .i64 n0) ∧ w'.cell? ⟨g1, 1, none⟩ = some (.int .i64 n1) ∧ w'.cell? ⟨g1, 2, none⟩ = some (.int .i64 n2) ∧ w'.cell? ⟨g1, 3, none⟩ = some (.int .i64 n3) ∧ w'.cell? ⟨g1, 4, none⟩ = some (.int .i64 n4) ∧ w'.cell? ⟨g1, 5, none⟩ = some (.int .i64 n5) ∧ w'.cell? ⟨g1, 6, none⟩ = some (.bool n6) ∧ w'.cell? ⟨g1, 7, none⟩ = some (.bool n7) ∧ w'.cell? ⟨g1, 8, none⟩ = some (.slice A8 m8 c8)) (ds := []) #[Z,Z,Z,Z,Z,Z,Z,Z,Z,Z,Z,Z,Z,Z,Z,Z,Z,Z,Z,Z] (by kernel_rfl) rfl rfl ⟨(blk_celln HX.out 0 _ rfl), (blk_celln HX.out 1 _ rfl), (blk_celln HX.out 2 _ rfl), (blk_celln HX.out 3 _ rfl), (blk_celln HX.out 4 _ rfl), (blk_celln HX.out 5 _ rfl), (blk_celln HX.out 6 _ rfl), (blk_celln HX.out 7 _ rfl), (blk_celln HX.out 8 _ rfl)⟩ (fun hHeld => ?_)
  refine with_tabW nodes.tab3 nodes.bits3 (fun HT_ HW_ => ?_)
  generalize World.drew _ = wj at HX HB hHeld ⊢
  refine take_ (i := 0) (N := some 5) (v := ?_) (a' := ?_) #[Y,Z,Z,Z,Z,Z,Z,Z,Z,Z,Z,Z,Z,Z,Z,Z,Z,Z,Z,Z] rfl rfl (take_ofW HT_.out HW_.out (by kernel_rfl)) (fun _ _ _ h => h) (Or.inl ⟨by rfl, ?_⟩) hHeld ?_ ?_
  rotate_left
  · rintro w' ⟨s0, s1, s2, s3, s4, s5, s6, s7, s8⟩
    go_simp
    with_reducible rfl
  rotate_left
  · simp only [Act.put, pA, pB, pC, i64_w, i32_w]
    rfl
  refine take_ (i := 2) (N := some 7) (v := ?_) (a' := ?_) #[Y,Z,Y,Z,Z,Z,Z,Z,Z,Z,Z,Z,Z,Z,Z,Z,Z,Z,Z,Z] rfl rfl (take_ofW HT_.out HW_.out (by kernel_rfl)) (fun _ _ _ h => h) (Or.inl ⟨by rfl, ?_⟩) hHeld ?_ ?_
  rotate_left
  · rintro w' ⟨s0, s1, s2, s3, s4, s5, s6, s7, s8⟩
    go_simp
    with_reducible rfl
  rotate_left
  · simp only [Act.put, pA, pB, pC, i64_w, i32_w]
    rfl
  refine one_ (i := 1) (N := some 6) #[Y,Y,Y,Z,Z,Z,Z,Z,Z,Z,Z,Z,Z,Z,Z,Z,Z,Z,Z,Z] rfl rfl (one_of HT_.out (by kernel_rfl)) (by decide) (fun K hK => ?_)
  refine goes_ Tryd.func26 (by kernel_rfl) rfl #[.agg #[.int .i64 n0, .int .i64 n1, .int .i64 n2, .int .i64 n3, .int .i64 n4, .int .i64 n5, .bool n6, .bool n7, .slice A8 m8 c8]] (by rfl) rfl rfl (by (try simp only [List.map_toArray, List.map_cons, List.map_nil]); first | done | rfl) ?_
  refine (acq_t _ n0 n1 n2 n3 n4 n5 n6 n7 A8 m8 c8 _ Eea.out).mono ?_
  rintro e wx6 ⟨rfl, qb⟩
  refine ⟨_, rfl, ?_⟩
  replace HX := Aside0.mk (blk_below HX.out qb)
  replace HB := Aside0.mk (below_step HB.out qb)
  clear qb
  refine hK.out _ _ ⟨(blk_celln HX.out 0 _ rfl), (blk_celln HX.out 1 _ rfl), (blk_celln HX.out 2 _ rfl), (blk_celln HX.out 3 _ rfl), (blk_celln HX.out 4 _ rfl), (blk_celln HX.out 5 _ rfl), (blk_celln HX.out 6 _ rfl), (blk_celln HX.out 7 _ rfl), (blk_celln HX.out 8 _ rfl)⟩ (fun hHeld => ?_)
  clear hK K
  refine norm_ (a' := ?_) ?_ ?_
  rotate_left
  · show Act.put _ (some 6) _ = _
    simp only [Act.put, pA, pB, pC, i64_w, i32_w]
    rfl
  refine one_ (i := 3) (N := some 8) #[Y,Y,Y,Y,Z,Z,Z,Z,Z,Z,Z,Z,Z,Z,Z,Z,Z,Z,Z,Z] rfl rfl (one_of HT_.out (by kernel_rfl)) (by decide) (fun K hK => ?_)
  refine goes_ Tryd.func27 (by kernel_rfl) rfl #[.agg #[.int .i64 n0, .int .i64 n1, .int .i64 n2, .int .i64 n3, .int .i64 n4, .int .i64 n5, .bool n6, .bool n7, .slice A8 m8 c8]] (by rfl) rfl rfl (by (try simp only [List.map_toArray, List.map_cons, List.map_nil]); first | done | rfl) ?_
  refine (acq_d _ n0 n1 n2 n3 n4 n5 n6 n7 A8 m8 c8 _ Eea.out).mono ?_
  rintro e wx8 ⟨rfl, qb⟩
  refine ⟨_, rfl, ?_⟩
  replace HX := Aside0.mk (blk_below HX.out qb)
  replace HB := Aside0.mk (below_step HB.out qb)
  clear qb
  refine hK.out _ _ ⟨(blk_celln HX.out 0 _ rfl), (blk_celln HX.out 1 _ rfl), (blk_celln HX.out 2 _ rfl), (blk_celln HX.out 3 _ rfl), (blk_celln HX.out 4 _ rfl), (blk_celln HX.out 5 _ rfl), (blk_celln HX.out 6 _ rfl), (blk_celln HX.out 7 _ rfl), (blk_celln HX.out 8 _ rfl)⟩ (fun hHeld => ?_)
  clear hK K
  refine norm_ (a' := ?_) ?_ ?_
  rotate_left
  · show Act.put _ (some 8) _ = _
    simp only [Act.put, pA, pB, pC, i64_w, i32_w]
    rfl
  refine pure_ (i := 4) (N := some 9) (v := ?_) (a' := ?_) #[Y,Y,Y,Y,Y,Z,Z,Z,Z,Z,Z,Z,Z,Z,Z,Z,Z,Z,Z,Z] rfl rfl (any_of HT_.out (by kernel_rfl)) (fun _ _ _ h => h) (Or.inl ⟨by rfl, ?_⟩) ?_ ?_
  rotate_left
  · intro w'
    go_simp
    with_reducible rfl
  rotate_left
  · simp only [Act.put, pA, pB, pC, i64_w, i32_w]
    rfl
  refine pure_ (i := 5) (N := some 10) (v := ?_) (a' := ?_) #[Y,Y,Y,Y,Y,Y,Z,Z,Z,Z,Z,Z,Z,Z,Z,Z,Z,Z,Z,Z] rfl rfl (any_of HT_.out (by kernel_rfl)) (fun _ _ _ h => h) (Or.inl ⟨by rfl, ?_⟩) ?_ ?_
  rotate_left
  · intro w'
    go_simp
    with_reducible rfl
  rotate_left
  · simp only [Act.put, pA, pB, pC, i64_w, i32_w]
    rfl
  refine take_ (i := 6) (N := some 11) (v := ?_) (a' := ?_) #[Y,Y,Y,Y,Y,Y,Y,Z,Z,Z,Z,Z,Z,Z,Z,Z,Z,Z,Z,Z] rfl rfl (take_ofW HT_.out HW_.out (by kernel_rfl)) (fun _ _ _ h => h) (Or.inl ⟨by rfl, ?_⟩) hHeld ?_ ?_
  rotate_left
  · rintro w' ⟨s0, s1, s2, s3, s4, s5, s6, s7, s8⟩
    go_simp
    with_reducible rfl
  rotate_left
  · simp only [Act.put, pA, pB, pC, i64_w, i32_w]
    rfl
  refine take_ (i := 8) (N := some 13) (v := ?_) (a' := ?_) #[Y,Y,Y,Y,Y,Y,Y,Z,Y,Z,Z,Z,Z,Z,Z,Z,Z,Z,Z,Z] rfl rfl (take_ofW HT_.out HW_.out (by kernel_rfl)) (fun _ _ _ h => h) (Or.inl ⟨by rfl, ?_⟩) hHeld ?_ ?_
  rotate_left
  · rintro w' ⟨s0, s1, s2, s3, s4, s5, s6, s7, s8⟩
    go_simp
    with_reducible rfl
  rotate_left
  · simp only [Act.put, pA, pB, pC, i64_w, i32_w]
    rfl
  refine one_ (i := 7) (N := some 12) #[Y,Y,Y,Y,Y,Y,Y,Y,Y,Z,Z,Z,Z,Z,Z,Z,Z,Z,Z,Z] rfl rfl (one_of HT_.out (by kernel_rfl)) (by decide) (fun K hK => ?_)
  refine goes_ Tryd.func28 (by kernel_rfl) rfl #[.agg #[.int .i64 n0, .int .i64 n1, .int .i64 n2, .int .i64 n3, .int .i64 n4, .int .i64 n5, .bool n6, .bool n7, .slice A8 m8 c8]] (by rfl) rfl rfl (by (try simp only [List.map_toArray, List.map_cons, List.map_nil]); first | done | rfl) ?_
  refine (rel_t _ n0 n1 n2 n3 n4 n5 n6 n7 A8 m8 c8 _ Eeb.out).mono ?_
  rintro e wx12 ⟨rfl, qb⟩
  refine ⟨_, rfl, ?_⟩
  replace HX := Aside0.mk (blk_below HX.out qb)
  replace HB := Aside0.mk (below_step HB.out qb)
  clear qb
  refine hK.out _ _ ⟨(blk_celln HX.out 0 _ rfl), (blk_celln HX.out 1 _ rfl), (blk_celln HX.out 2 _ rfl), (blk_celln HX.out 3 _ rfl), (blk_celln HX.out 4 _ rfl), (blk_celln HX.out 5 _ rfl), (blk_celln HX.out 6 _ rfl), (blk_celln HX.out 7 _ rfl), (blk_celln HX.out 8 _ rfl)⟩ (fun hHeld => ?_)
  clear hK K
  refine norm_ (a' := ?_) ?_ ?_
  rotate_left
  · show Act.put _ (some 12) _ = _
    simp only [Act.put, pA, pB, pC, i64_w, i32_w]
    rfl
  refine one_ (i := 9) (N := some 14) #[Y,Y,Y,Y,Y,Y,Y,Y,Y,Y,Z,Z,Z,Z,Z,Z,Z,Z,Z,Z] rfl rfl (one_of HT_.out (by kernel_rfl)) (by decide) (fun K hK => ?_)
  refine goes_ Tryd.func29 (by kernel_rfl) rfl #[.agg #[.int .i64 n0, .int .i64 n1, .int .i64 n2, .int .i64 n3, .int .i64 n4, .int .i64 n5, .bool n6, .bool n7, .slice A8 m8 c8]] (by rfl) rfl rfl (by (try simp only [List.map_toArray, List.map_cons, List.map_nil]); first | done | rfl) ?_
  refine (rel_d _ n0 n1 n2 n3 n4 n5 n6 n7 A8 m8 c8 _ Eeb.out).mono ?_
  rintro e wx14 ⟨rfl, qb⟩
  refine ⟨_, rfl, ?_⟩
  replace HX := Aside0.mk (blk_below HX.out qb)
  replace HB := Aside0.mk (below_step HB.out qb)
  clear qb
  refine hK.out _ _ ⟨(blk_celln HX.out 0 _ rfl), (blk_celln HX.out 1 _ rfl), (blk_celln HX.out 2 _ rfl), (blk_celln HX.out 3 _ rfl), (blk_celln HX.out 4 _ rfl), (blk_celln HX.out 5 _ rfl), (blk_celln HX.out 6 _ rfl), (blk_celln HX.out 7 _ rfl), (blk_celln HX.out 8 _ rfl)⟩ (fun hHeld => ?_)
  clear hK K
  refine norm_ (a' := ?_) ?_ ?_
  rotate_left
  · show Act.put _ (some 14) _ = _
    simp only [Act.put, pA, pB, pC, i64_w, i32_w]
    rfl
  refine pure_ (i := 10) (N := some 15) (v := ?_) (a' := ?_) #[Y,Y,Y,Y,Y,Y,Y,Y,Y,Y,Y,Z,Z,Z,Z,Z,Z,Z,Z,Z] rfl rfl (any_of HT_.out (by kernel_rfl)) (fun _ _ _ h => h) (Or.inl ⟨by rfl, ?_⟩) ?_ ?_
  rotate_left
  · intro w'
    go_simp
    with_reducible rfl
  rotate_left
  · simp only [Act.put, pA, pB, pC, i64_w, i32_w]
    rfl
  refine pure_ (i := 11) (N := some 16) (v := ?_) (a' := ?_) #[Y,Y,Y,Y,Y,Y,Y,Y,Y,Y,Y,Y,Z,Z,Z,Z,Z,Z,Z,Z] rfl rfl (any_of HT_.out (by kernel_rfl)) (fun _ _ _ h => h) (Or.inl ⟨by rfl, ?_⟩) ?_ ?_
  rotate_left
  · intro w'
    go_simp
    with_reducible rfl
  rotate_left
  · simp only [Act.put, pA, pB, pC, i64_w, i32_w]
    rfl
  refine pure_ (i := 12) (N := some 17) (v := ?_) (a' := ?_) #[Y,Y,Y,Y,Y,Y,Y,Y,Y,Y,Y,Y,Y,Z,Z,Z,Z,Z,Z,Z] rfl rfl (any_of HT_.out (by kernel_rfl)) (fun _ _ _ h => h) (Or.inl ⟨by rfl, ?_⟩) ?_ ?_
  rotate_left
  · intro w'
    go_simp
    with_reducible rfl
  rotate_left
  · simp only [Act.put, pA, pB, pC, i64_w, i32_w]
    rfl
  refine take_ (i := 13) (N := some 18) (v := ?_) (a' := ?_) #[Y,Y,Y,Y,Y,Y,Y,Y,Y,Y,Y,Y,Y,Y,Z,Z,Z,Z,Z,Z] rfl rfl (take_ofW HT_.out HW_.out (by kernel_rfl)) (fun _ _ _ h => h) (Or.inl ⟨by rfl, ?_⟩) hHeld ?_ ?_
  rotate_left
  · rintro w' ⟨s0, s1, s2, s3, s4, s5, s6, s7, s8⟩
    go_simp
    with_reducible rfl
  rotate_left
  · simp only [Act.put, pA, pB, pC, i64_w, i32_w]
    rfl
  refine take_ (i := 15) (N := some 20) (v := ?_) (a' := ?_) #[Y,Y,Y,Y,Y,Y,Y,Y,Y,Y,Y,Y,Y,Y,Z,Y,Z,Z,Z,Z] rfl rfl (take_ofW HT_.out HW_.out (by kernel_rfl)) (fun _ _ _ h => h) (Or.inl ⟨by rfl, ?_⟩) hHeld ?_ ?_
  rotate_left
  · rintro w' ⟨s0, s1, s2, s3, s4, s5, s6, s7, s8⟩
    go_simp
    with_reducible rfl
  rotate_left
  · simp only [Act.put, pA, pB, pC, i64_w, i32_w]
    rfl
  refine one_ (i := 14) (N := some 19) #[Y,Y,Y,Y,Y,Y,Y,Y,Y,Y,Y,Y,Y,Y,Y,Y,Z,Z,Z,Z] rfl rfl (one_of HT_.out (by kernel_rfl)) (by decide) (fun K hK => ?_)
  refine goes_ Tryd.func30 (by kernel_rfl) rfl #[.agg #[.int .i64 n0, .int .i64 n1, .int .i64 n2, .int .i64 n3, .int .i64 n4, .int .i64 n5, .bool n6, .bool n7, .slice A8 m8 c8]] (by rfl) rfl rfl (by (try simp only [List.map_toArray, List.map_cons, List.map_nil]); first | done | rfl) ?_
  refine (plain_t _ n0 n1 n2 n3 n4 n5 n6 n7 A8 m8 c8 _ Eec.out).mono ?_
  rintro e wx19 ⟨rfl, qb⟩
  refine ⟨_, rfl, ?_⟩
  replace HX := Aside0.mk (blk_below HX.out qb)
  replace HB := Aside0.mk (below_step HB.out qb)
  clear qb
  refine hK.out _ _ ⟨(blk_celln HX.out 0 _ rfl), (blk_celln HX.out 1 _ rfl), (blk_celln HX.out 2 _ rfl), (blk_celln HX.out 3 _ rfl), (blk_celln HX.out 4 _ rfl), (blk_celln HX.out 5 _ rfl), (blk_celln HX.out 6 _ rfl), (blk_celln HX.out 7 _ rfl), (blk_celln HX.out 8 _ rfl)⟩ (fun hHeld => ?_)
  clear hK K
  refine norm_ (a' := ?_) ?_ ?_
  rotate_left
  · show Act.put _ (some 19) _ = _
    simp only [Act.put, pA, pB, pC, i64_w, i32_w]
    rfl
  refine one_ (i := 16) (N := some 21) #[Y,Y,Y,Y,Y,Y,Y,Y,Y,Y,Y,Y,Y,Y,Y,Y,Y,Z,Z,Z] rfl rfl (one_of HT_.out (by kernel_rfl)) (by decide) (fun K hK => ?_)
  refine goes_ Tryd.func31 (by kernel_rfl) rfl #[.agg #[.int .i64 n0, .int .i64 n1, .int .i64 n2, .int .i64 n3, .int .i64 n4, .int .i64 n5, .bool n6, .bool n7, .slice A8 m8 c8]] (by rfl) rfl rfl (by (try simp only [List.map_toArray, List.map_cons, List.map_nil]); first | done | rfl) ?_
  refine (plain_d _ n0 n1 n2 n3 n4 n5 n6 n7 A8 m8 c8 _ Eec.out).mono ?_
  rintro e wx21 ⟨rfl, qb⟩
  refine ⟨_, rfl, ?_⟩
  replace HX := Aside0.mk (blk_below HX.out qb)
  replace HB := Aside0.mk (below_step HB.out qb)
  clear qb
  refine hK.out _ _ ⟨(blk_celln HX.out 0 _ rfl), (blk_celln HX.out 1 _ rfl), (blk_celln HX.out 2 _ rfl), (blk_celln HX.out 3 _ rfl), (blk_celln HX.out 4 _ rfl), (blk_celln HX.out 5 _ rfl), (blk_celln HX.out 6 _ rfl), (blk_celln HX.out 7 _ rfl), (blk_celln HX.out 8 _ rfl)⟩ (fun hHeld => ?_)
  clear hK K
  refine norm_ (a' := ?_) ?_ ?_
  rotate_left
  · show Act.put _ (some 21) _ = _
    simp only [Act.put, pA, pB, pC, i64_w, i32_w]
    rfl
  refine pure_ (i := 17) (N := some 22) (v := ?_) (a' := ?_) #[Y,Y,Y,Y,Y,Y,Y,Y,Y,Y,Y,Y,Y,Y,Y,Y,Y,Y,Z,Z] rfl rfl (any_of HT_.out (by kernel_rfl)) (fun _ _ _ h => h) (Or.inl ⟨by rfl, ?_⟩) ?_ ?_
  rotate_left
  · intro w'
    go_simp
    with_reducible rfl
  rotate_left
  · simp only [Act.put, pA, pB, pC, i64_w, i32_w]
    rfl
  refine pure_ (i := 18) (N := some 23) (v := ?_) (a' := ?_) #[Y,Y,Y,Y,Y,Y,Y,Y,Y,Y,Y,Y,Y,Y,Y,Y,Y,Y,Y,Z] rfl rfl (any_of HT_.out (by kernel_rfl)) (fun _ _ _ h => h) (Or.inl ⟨by rfl, ?_⟩) ?_ ?_
  rotate_left
  · intro w'
    go_simp
    with_reducible rfl
  rotate_left
  · simp only [Act.put, pA, pB, pC, i64_w, i32_w]
    rfl
  refine pure_ (i := 19) (N := some 2) (v := ?_) (a' := ?_) #[Y,Y,Y,Y,Y,Y,Y,Y,Y,Y,Y,Y,Y,Y,Y,Y,Y,Y,Y,Y] rfl rfl (any_of HT_.out (by kernel_rfl)) (fun _ _ _ h => h) (Or.inl ⟨by rfl, ?_⟩) ?_ ?_
  rotate_left
  · intro w'
    go_simp
    with_reducible rfl
  rotate_left
  · simp only [Act.put, pA, pB, pC, i64_w, i32_w]
    rfl
  refine done_ (done_of HT_.out (by kernel_rfl)) ?_
  clear hHeld
  go_wp2
  go_ret
  exact ⟨rfl, HB.out⟩
end Go.Proofs.YtlpdcdkjmcpfdaaDoor.PT
