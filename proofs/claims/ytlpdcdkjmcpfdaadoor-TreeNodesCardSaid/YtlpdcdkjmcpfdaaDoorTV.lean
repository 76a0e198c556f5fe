/- (tree.deep).against: walked by hand. -/
import Derived.Test.YtlpdcdkjmcpfdaaDoorTU
import Derived.Test.YtlpdcdkjmcpfdaaDoorTR
namespace Go.Proofs.YtlpdcdkjmcpfdaaDoor.PT
open Go.RowKit Go.Proofs.YtlpdcdkjmcpfdaaDoorW.PrintWords Go.Proofs.YtlpdcdkjmcpfdaaDoorW.PrintLast Go.Proofs.YtlpdcdkjmcpfdaaDoorW.PrintMore
set_option linter.unusedVariables false
set_option linter.unusedSimpArgs false
attribute [local go_sem] cell_set_some
theorem far53 {w : World} {g g2 : Nat} {x : Obj} (h : w.heap[g2]? = some x) (hne : g2 ≠ g) (v0 v1 v2 v3 v4 v5 v6 v7 v8 : Value) (W : World) (hW : W = ((((((((w.setCell ⟨g, 0, none⟩ v0).setCell ⟨g, 1, none⟩ v1).setCell ⟨g, 2, none⟩ v2).setCell ⟨g, 3, none⟩ v3).setCell ⟨g, 4, none⟩ v4).setCell ⟨g, 5, none⟩ v5).setCell ⟨g, 6, none⟩ v6).setCell ⟨g, 7, none⟩ v7).setCell ⟨g, 8, none⟩ v8) : W.heap[g2]? = some x := by
  subst hW
  rw [Below.heap_setCell _ ⟨g, 8, none⟩ _ g2 hne, Below.heap_setCell _ ⟨g, 7, none⟩ _ g2 hne, Below.heap_setCell _ ⟨g, 6, none⟩ _ g2 hne, Below.heap_setCell _ ⟨g, 5, none⟩ _ g2 hne, Below.heap_setCell _ ⟨g, 4, none⟩ _ g2 hne, Below.heap_setCell _ ⟨g, 3, none⟩ _ g2 hne, Below.heap_setCell _ ⟨g, 2, none⟩ _ g2 hne, Below.heap_setCell _ ⟨g, 1, none⟩ _ g2 hne, Below.heap_setCell _ ⟨g, 0, none⟩ _ g2 hne]
  exact h
def tree_deep_against.f (a0_0 : Int) (l0_1 : List ByteArray) (l0_2 : List (List ByteArray)) (l0_3 : List (S53)) (l0_4 : List Int) (l0_5 : List Int) (a1 : Int) (a2 : Int) : Option (Bool) := if 0 ≤ a1 then (if a1 < (l0_3.length : Int) then (if 0 ≤ a2 then (if a2 < (l0_3.length : Int) then (if a1 = a2 then (some false) else (if ((rd_T53 l0_3 a1).f0) ≥ 0 then (if ((rd_T53 l0_3 a1).f0) = ((rd_T53 l0_3 a2).f0) then ((tree_deep_beneath.f a0_0 l0_1 l0_2 l0_3 l0_4 l0_5 a1 a2).bind fun t310 => (if t310 = true then (some false) else ((tree_deep_beneath.f a0_0 l0_1 l0_2 l0_3 l0_4 l0_5 a2 a1).bind fun t311 => (some (!t311))))) else (some false)) else (some false))) else (none)) else (none)) else (none)) else (none)
def tree_deep_against.T1 : Bool × List (List Nat × List Nat) := (true, [([], []), ([0], [0]), ([1], [1]), ([], []), ([2, 3], [2, 3]), ([4], [4]), ([], []), ([6], [6]), ([7], [7]), ([], []), ([8, 9], [8, 9]), ([10], [10]), ([], []), ([], []), ([12, 5, 0, 1, 2, 3, 4, 5, 12, 13], [5, 12]), ([13, 11, 14, 0, 1, 2, 3, 4, 5, 6, 7, 8, 9, 10, 11, 12, 13, 14], [11, 13])])
def tree_deep_against.B1 : List Nat := [0, 1, 3, 0, 15, 31, 0, 64, 192, 0, 960, 1984, 0, 0, 12351, 32767]
theorem tree_deep_against.tab1 : rtab .any (opsOf Tryd.f41 1) = tree_deep_against.T1 := by kernel_rfl
theorem tree_deep_against.bits1 : waitsOk tree_deep_against.T1.2 tree_deep_against.B1 = true := by kernel_rfl
set_option maxHeartbeats 8000000 in
set_option maxRecDepth 100000 in
theorem tree_deep_against.calls (a0_0 : Int) (A0_1 : Option Addr) (c0_1 : Nat) (l0_1 : List ByteArray) (A0_2 : Option Addr) (c0_2 : Nat) (l0_2 : List (List ByteArray)) (A0_3 : Option Addr) (c0_3 : Nat) (l0_3 : List (S53)) (A0_4 : Option Addr) (c0_4 : Nat) (l0_4 : List Int) (A0_5 : Option Addr) (c0_5 : Nat) (l0_5 : List Int) (a1 : Int) (a2 : Int) (r : Bool) (w : World) (hr0_1 : Kd.C Kd.string w A0_1 l0_1.length l0_1) (hc0_1 : l0_1.length ≤ c0_1) (hr0_2 : Kd.C (Kd.slice 9 Kd.string) w A0_2 l0_2.length l0_2) (hc0_2 : l0_2.length ≤ c0_2) (hr0_3 : Kd.C k53 w A0_3 l0_3.length l0_3) (hc0_3 : l0_3.length ≤ c0_3) (hr0_4 : Kd.C (Kd.int .i64) w A0_4 l0_4.length l0_4) (hc0_4 : l0_4.length ≤ c0_4) (hr0_5 : Kd.C (Kd.int .u64) w A0_5 l0_5.length l0_5) (hc0_5 : l0_5.length ≤ c0_5) (h : tree_deep_against.f a0_0 l0_1 l0_2 l0_3 l0_4 l0_5 a1 a2 = some r) :
    Calls Tryd.prog 41 #[.agg #[.int .i64 a0_0, .slice A0_1 l0_1.length c0_1, .slice A0_2 l0_2.length c0_2, .slice A0_3 l0_3.length c0_3, .slice A0_4 l0_4.length c0_4, .slice A0_5 l0_5.length c0_5], .int .i64 a1, .int .i64 a2] w fun e w' => e = .returned (.bool r) ∧ Below w.heap.size w w' := by
  unfold tree_deep_against.f at h
  have hu72 := Tryd.underlying72
  have hu53 := Tryd.underlying53
  have hu28 := Tryd.underlying28
  by_cases p0 : 0 ≤ a1
  rotate_left
  · rw [if_neg p0] at h; cases h
  rw [if_pos p0] at h
  by_cases p1 : a1 < (l0_3.length : Int)
  rotate_left
  · rw [if_neg p1] at h; cases h
  rw [if_pos p1] at h
  by_cases p2 : 0 ≤ a2
  rotate_left
  · rw [if_neg p2] at h; cases h
  rw [if_pos p2] at h
  by_cases p3 : a2 < (l0_3.length : Int)
  rotate_left
  · rw [if_neg p3] at h; cases h
  rw [if_pos p3] at h
  obtain ⟨ad, A8, c8, eA, x0, x1, x2, x3, x4, x5, x6, x7, x8, _⟩ := at_T53 hr0_3 a1 p0 p1
  obtain ⟨ad2, B8, d8, eB, y0, y1, y2, y3, y4, y5, y6, y7, y8, _⟩ := at_T53 hr0_3 a2 p2 p3
  subst eA
  cases eB
  generalize rd_T53 l0_3 a1 = na at h x0 x1 x2 x3 x4 x5 x6 x7 x8
  generalize rd_T53 l0_3 a2 = nb at h y0 y1 y2 y3 y4 y5 y6 y7 y8
  replace p0 := eq_true p0
  replace p1 := eq_true p1
  replace p2 := eq_true p2
  replace p3 := eq_true p3
  have R1 := Aside0.mk hr0_1
  have R2 := Aside0.mk hr0_2
  have R3 := Aside0.mk hr0_3
  have R4 := Aside0.mk hr0_4
  have R5 := Aside0.mk hr0_5
  have Hh := Aside0.mk h
  clear hr0_1 hr0_2 hr0_3 hr0_4 hr0_5 h
  go_enter Tryd.func41, Tryd.ntmps41
  go_upto_region 1 with (first | ((with_reducible refine gate_dst (N := 3) rfl ?_); refine box_event ?hg (N := 3) ?hd (cs := #[.int .i64 a0_0, .slice A0_1 l0_1.length c0_1, .slice A0_2 l0_2.length c0_2, .slice (some ad) l0_3.length c0_3, .slice A0_4 l0_4.length c0_4, .slice A0_5 l0_5.length c0_5]) (t := 72) ?hr ?_; (case hd => rfl); (case hg => rfl); (case hr => first | (go_simp; done) | (go_simp; rfl)); intro g3 hg1 w1 hbox hb1; have HX := Aside0.mk hbox; have HB := Aside0.mk hb1; clear hg1 hb1 hbox))
  replace HX := Aside0.mk (blk_drew HX.out)
  replace HB := Aside0.mk (below_drew HB.out)
  refine start_ (n := 16) (S := fun w' => w'.cell? ⟨g3, 3, none⟩ = some (.slice (some ad) l0_3.length c0_3) ∧ w'.cell? (ad.add (a1.toNat * 9)) = some (.int .i64 na.f0) ∧ w'.cell? ⟨(ad.add (a1.toNat * 9)).block, (ad.add (a1.toNat * 9)).off + 1, none⟩ = some (.int .i64 na.f1) ∧ w'.cell? ⟨(ad.add (a1.toNat * 9)).block, (ad.add (a1.toNat * 9)).off + 2, none⟩ = some (.int .i64 na.f2) ∧ w'.cell? ⟨(ad.add (a1.toNat * 9)).block, (ad.add (a1.toNat * 9)).off + 3, none⟩ = some (.int .i64 na.f3) ∧ w'.cell? ⟨(ad.add (a1.toNat * 9)).block, (ad.add (a1.toNat * 9)).off + 4, none⟩ = some (.int .i64 na.f4) ∧ w'.cell? ⟨(ad.add (a1.toNat * 9)).block, (ad.add (a1.toNat * 9)).off + 5, none⟩ = some (.int .i64 na.f5) ∧ w'.cell? ⟨(ad.add (a1.toNat * 9)).block, (ad.add (a1.toNat * 9)).off + 6, none⟩ = some (.bool na.f6) ∧ w'.cell? ⟨(ad.add (a1.toNat * 9)).block, (ad.add (a1.toNat * 9)).off + 7, none⟩ = some (.bool na.f7) ∧ w'.cell? ⟨(ad.add (a1.toNat * 9)).block, (ad.add (a1.toNat * 9)).off + 8, none⟩ = some (.slice A8 na.f8.length c8) ∧ w'.cell? (ad.add (a2.toNat * 9)) = some (.int .i64 nb.f0) ∧ w'.cell? ⟨(ad.add (a2.toNat * 9)).block, (ad.add (a2.toNat * 9)).off + 1, none⟩ = some (.int .i64 nb.f1) ∧ w'.cell? ⟨(ad.add (a2.toNat * 9)).block, (ad.add (a2.toNat * 9)).off + 2, none⟩ = some (.int .i64 nb.f2) ∧ w'.cell? ⟨(ad.add (a2.toNat * 9)).block, (ad.add (a2.toNat * 9)).off + 3, none⟩ = some (.int .i64 nb.f3) ∧ w'.cell? ⟨(ad.add (a2.toNat * 9)).block, (ad.add (a2.toNat * 9)).off + 4, none⟩ = some (.int .i64 nb.f4) ∧ w'.cell? ⟨(ad.add (a2.toNat * 9)).block, (ad.add (a2.toNat * 9)).off + 5, none⟩ = some (.int .i64 nb.f5) ∧ w'.cell? ⟨(ad.add (a2.toNat * 9)).block, (ad.add (a2.toNat * 9)).off + 6, none⟩ = some (.bool nb.f6) ∧ w'.cell? ⟨(ad.add (a2.toNat * 9)).block, (ad.add (a2.toNat * 9)).off + 7, none⟩ = some (.bool nb.f7) ∧ w'.cell? ⟨(ad.add (a2.toNat * 9)).block, (ad.add (a2.toNat * 9)).off + 8, none⟩ = some (.slice B8 nb.f8.length d8)) (ds := [15]) #[Z,Z,Z,Z,Z,Z,Z,Z,Z,Z,Z,Z,Z,Z,Z,Z] (by kernel_rfl) rfl rfl ⟨(blk_celln HX.out 3 _ rfl), (cell_below x0 HB.out), (cell_below x1 HB.out), (cell_below x2 HB.out), (cell_below x3 HB.out), (cell_below x4 HB.out), (cell_below x5 HB.out), (cell_below x6 HB.out), (cell_below x7 HB.out), (cell_below x8 HB.out), (cell_below y0 HB.out), (cell_below y1 HB.out), (cell_below y2 HB.out), (cell_below y3 HB.out), (cell_below y4 HB.out), (cell_below y5 HB.out), (cell_below y6 HB.out), (cell_below y7 HB.out), (cell_below y8 HB.out)⟩ (fun hHeld => ?_)
  refine with_tabW tree_deep_against.tab1 tree_deep_against.bits1 (fun HT_ HW_ => ?_)
  generalize World.drew _ = wa at HX HB hHeld ⊢
  refine pure_ (i := 0) (N := some 9) (v := ?_) (a' := ?_) #[Y,Z,Z,Z,Z,Z,Z,Z,Z,Z,Z,Z,Z,Z,Z,Z] rfl rfl (any_of HT_.out (by kernel_rfl)) (fun _ _ _ h => h) (Or.inl ⟨by rfl, ?_⟩) ?_ ?_
  rotate_left
  · intro w'
    go_simp
    with_reducible rfl
  rotate_left
  · simp only [Act.put, pA, pB, pC, i64_w, i32_w]
    rfl
  refine pure_ (i := 1) (N := some 10) (v := ?_) (a' := ?_) #[Y,Y,Z,Z,Z,Z,Z,Z,Z,Z,Z,Z,Z,Z,Z,Z] rfl rfl (any_of HT_.out (by kernel_rfl)) (fun _ _ _ h => h) (Or.inl ⟨by rfl, ?_⟩) ?_ ?_
  rotate_left
  · intro w'
    go_simp
    with_reducible rfl
  rotate_left
  · simp only [Act.put, pA, pB, pC, i64_w, i32_w]
    rfl
  refine take_ (i := 2) (N := some 11) (v := ?_) (a' := ?_) #[Y,Y,Y,Z,Z,Z,Z,Z,Z,Z,Z,Z,Z,Z,Z,Z] rfl rfl (take_ofW HT_.out HW_.out (by kernel_rfl)) (fun _ _ _ h => h) (Or.inl ⟨by rfl, ?_⟩) hHeld ?_ ?_
  rotate_left
  · rintro w' ⟨s0, s1, s2, s3, s4, s5, s6, s7, s8, s9, s10, s11, s12, s13, s14, s15, s16, s17, s18⟩
    go_simp
    with_reducible rfl
  rotate_left
  · simp only [Act.put, pA, pB, pC, i64_w, i32_w]
    rfl
  refine pure_ (i := 3) (N := some 12) (v := ?_) (a' := ?_) #[Y,Y,Y,Y,Z,Z,Z,Z,Z,Z,Z,Z,Z,Z,Z,Z] rfl rfl (any_of HT_.out (by kernel_rfl)) (fun _ _ _ h => h) (Or.inl ⟨by rfl, ?_⟩) ?_ ?_
  rotate_left
  · intro w'
    go_simp
    with_reducible rfl
  rotate_left
  · simp only [Act.put, pA, pB, pC, i64_w, i32_w]
    rfl
  refine pure_ (i := 4) (N := some 13) (v := ?_) (a' := ?_) #[Y,Y,Y,Y,Y,Z,Z,Z,Z,Z,Z,Z,Z,Z,Z,Z] rfl rfl (any_of HT_.out (by kernel_rfl)) (fun _ _ _ h => h) (Or.inl ⟨by rfl, ?_⟩) ?_ ?_
  rotate_left
  · intro w'
    go_simp
    with_reducible rfl
  rotate_left
  · simp only [Act.put, pA, pB, pC, i64_w, i32_w]
    rfl
  refine take_ (i := 5) (N := some 14) (v := ?_) (a' := ?_) #[Y,Y,Y,Y,Y,Y,Z,Z,Z,Z,Z,Z,Z,Z,Z,Z] rfl rfl (take_ofW HT_.out HW_.out (by kernel_rfl)) (fun _ _ _ h => h) (Or.inl ⟨by rfl, ?_⟩) hHeld ?_ ?_
  rotate_left
  · rintro w' ⟨s0, s1, s2, s3, s4, s5, s6, s7, s8, s9, s10, s11, s12, s13, s14, s15, s16, s17, s18⟩
    go_simp
    with_reducible rfl
  rotate_left
  · simp only [Act.put, pA, pB, pC, i64_w, i32_w]
    rfl
  refine pure_ (i := 6) (N := some 15) (v := ?_) (a' := ?_) #[Y,Y,Y,Y,Y,Y,Y,Z,Z,Z,Z,Z,Z,Z,Z,Z] rfl rfl (any_of HT_.out (by kernel_rfl)) (fun _ _ _ h => h) (Or.inl ⟨by rfl, ?_⟩) ?_ ?_
  rotate_left
  · intro w'
    go_simp
    with_reducible rfl
  rotate_left
  · simp only [Act.put, pA, pB, pC, i64_w, i32_w]
    rfl
  refine pure_ (i := 7) (N := some 16) (v := ?_) (a' := ?_) #[Y,Y,Y,Y,Y,Y,Y,Y,Z,Z,Z,Z,Z,Z,Z,Z] rfl rfl (any_of HT_.out (by kernel_rfl)) (fun _ _ _ h => h) (Or.inl ⟨by rfl, ?_⟩) ?_ ?_
  rotate_left
  · intro w'
    go_simp
    with_reducible rfl
  rotate_left
  · simp only [Act.put, pA, pB, pC, i64_w, i32_w]
    rfl
  refine take_ (i := 8) (N := some 17) (v := ?_) (a' := ?_) #[Y,Y,Y,Y,Y,Y,Y,Y,Y,Z,Z,Z,Z,Z,Z,Z] rfl rfl (take_ofW HT_.out HW_.out (by kernel_rfl)) (fun _ _ _ h => h) (Or.inl ⟨by rfl, ?_⟩) hHeld ?_ ?_
  rotate_left
  · rintro w' ⟨s0, s1, s2, s3, s4, s5, s6, s7, s8, s9, s10, s11, s12, s13, s14, s15, s16, s17, s18⟩
    go_simp
    with_reducible rfl
  rotate_left
  · simp only [Act.put, pA, pB, pC, i64_w, i32_w]
    rfl
  refine pure_ (i := 9) (N := some 18) (v := ?_) (a' := ?_) #[Y,Y,Y,Y,Y,Y,Y,Y,Y,Y,Z,Z,Z,Z,Z,Z] rfl rfl (any_of HT_.out (by kernel_rfl)) (fun _ _ _ h => h) (Or.inl ⟨by rfl, ?_⟩) ?_ ?_
  rotate_left
  · intro w'
    go_simp
    with_reducible rfl
  rotate_left
  · simp only [Act.put, pA, pB, pC, i64_w, i32_w]
    rfl
  refine pure_ (i := 10) (N := some 19) (v := ?_) (a' := ?_) #[Y,Y,Y,Y,Y,Y,Y,Y,Y,Y,Y,Z,Z,Z,Z,Z] rfl rfl (any_of HT_.out (by kernel_rfl)) (fun _ _ _ h => h) (Or.inl ⟨by rfl, ?_⟩) ?_ ?_
  rotate_left
  · intro w'
    go_simp
    with_reducible rfl
  rotate_left
  · simp only [Act.put, pA, pB, pC, i64_w, i32_w]
    rfl
  refine take_ (i := 11) (N := some 20) (v := ?_) (a' := ?_) #[Y,Y,Y,Y,Y,Y,Y,Y,Y,Y,Y,Y,Z,Z,Z,Z] rfl rfl (take_ofW HT_.out HW_.out (by kernel_rfl)) (fun _ _ _ h => h) (Or.inl ⟨by rfl, ?_⟩) hHeld ?_ ?_
  rotate_left
  · rintro w' ⟨s0, s1, s2, s3, s4, s5, s6, s7, s8, s9, s10, s11, s12, s13, s14, s15, s16, s17, s18⟩
    go_simp
    with_reducible rfl
  rotate_left
  · simp only [Act.put, pA, pB, pC, i64_w, i32_w]
    rfl
  refine join_ (σ := Nat × Nat) 2 #[Y,Y,Y,Y,Y,Y,Y,Y,Y,Y,Y,Y,Y,Y,Z,Z] (fun s_ => [(7, .pointer (some ⟨s_.1, 0, none⟩)), (8, .pointer (some ⟨s_.2, 0, none⟩))]) (fun s_ w' => (w'.cell? ⟨g3, 3, none⟩ = some (.slice (some ad) l0_3.length c0_3) ∧ w'.cell? (ad.add (a1.toNat * 9)) = some (.int .i64 na.f0) ∧ w'.cell? ⟨(ad.add (a1.toNat * 9)).block, (ad.add (a1.toNat * 9)).off + 1, none⟩ = some (.int .i64 na.f1) ∧ w'.cell? ⟨(ad.add (a1.toNat * 9)).block, (ad.add (a1.toNat * 9)).off + 2, none⟩ = some (.int .i64 na.f2) ∧ w'.cell? ⟨(ad.add (a1.toNat * 9)).block, (ad.add (a1.toNat * 9)).off + 3, none⟩ = some (.int .i64 na.f3) ∧ w'.cell? ⟨(ad.add (a1.toNat * 9)).block, (ad.add (a1.toNat * 9)).off + 4, none⟩ = some (.int .i64 na.f4) ∧ w'.cell? ⟨(ad.add (a1.toNat * 9)).block, (ad.add (a1.toNat * 9)).off + 5, none⟩ = some (.int .i64 na.f5) ∧ w'.cell? ⟨(ad.add (a1.toNat * 9)).block, (ad.add (a1.toNat * 9)).off + 6, none⟩ = some (.bool na.f6) ∧ w'.cell? ⟨(ad.add (a1.toNat * 9)).block, (ad.add (a1.toNat * 9)).off + 7, none⟩ = some (.bool na.f7) ∧ w'.cell? ⟨(ad.add (a1.toNat * 9)).block, (ad.add (a1.toNat * 9)).off + 8, none⟩ = some (.slice A8 na.f8.length c8) ∧ w'.cell? (ad.add (a2.toNat * 9)) = some (.int .i64 nb.f0) ∧ w'.cell? ⟨(ad.add (a2.toNat * 9)).block, (ad.add (a2.toNat * 9)).off + 1, none⟩ = some (.int .i64 nb.f1) ∧ w'.cell? ⟨(ad.add (a2.toNat * 9)).block, (ad.add (a2.toNat * 9)).off + 2, none⟩ = some (.int .i64 nb.f2) ∧ w'.cell? ⟨(ad.add (a2.toNat * 9)).block, (ad.add (a2.toNat * 9)).off + 3, none⟩ = some (.int .i64 nb.f3) ∧ w'.cell? ⟨(ad.add (a2.toNat * 9)).block, (ad.add (a2.toNat * 9)).off + 4, none⟩ = some (.int .i64 nb.f4) ∧ w'.cell? ⟨(ad.add (a2.toNat * 9)).block, (ad.add (a2.toNat * 9)).off + 5, none⟩ = some (.int .i64 nb.f5) ∧ w'.cell? ⟨(ad.add (a2.toNat * 9)).block, (ad.add (a2.toNat * 9)).off + 6, none⟩ = some (.bool nb.f6) ∧ w'.cell? ⟨(ad.add (a2.toNat * 9)).block, (ad.add (a2.toNat * 9)).off + 7, none⟩ = some (.bool nb.f7) ∧ w'.cell? ⟨(ad.add (a2.toNat * 9)).block, (ad.add (a2.toNat * 9)).off + 8, none⟩ = some (.slice B8 nb.f8.length d8)) ∧ w'.heap[s_.1]? = some (.cells #[.int .i64 0, .int .i64 0, .int .i64 0, .int .i64 0, .int .i64 0, .int .i64 0, .bool false, .bool false, .slice none 0 0] 53 (0, 0)) ∧ w'.heap[s_.2]? = some (.cells #[.int .i64 0, .int .i64 0, .int .i64 0, .int .i64 0, .int .i64 0, .int .i64 0, .bool false, .bool false, .slice none 0 0] 53 (0, 0)) ∧ s_.1 ≠ s_.2 ∧ w.heap.size ≤ s_.1 ∧ w.heap.size ≤ s_.2 ∧ w'.heap[g3]? = some (.cells #[.int .i64 a0_0, .slice A0_1 l0_1.length c0_1, .slice A0_2 l0_2.length c0_2, .slice (some ad) l0_3.length c0_3, .slice A0_4 l0_4.length c0_4, .slice A0_5 l0_5.length c0_5] 72 (0, 0)) ∧ Below w.heap.size w w') ?_ ?_
  rotate_left
  · intro hCont
    refine two_ (i := 12) (j := 13) (Ni := some 7) (Nj := some 8) #[Y,Y,Y,Y,Y,Y,Y,Y,Y,Y,Y,Y,Y,Z,Z,Z] #[Y,Y,Y,Y,Y,Y,Y,Y,Y,Y,Y,Y,Z,Y,Z,Z] rfl rfl rfl rfl (two_of HT_.out (by kernel_rfl)) (by decide) (by decide) (fun K hK => ?_) (fun K hK => ?_)
    · skip
      refine box_step ?hg (N := 7) ?hd (cs := #[.int .i64 0, .int .i64 0, .int .i64 0, .int .i64 0, .int .i64 0, .int .i64 0, .bool false, .bool false, .slice none 0 0]) (t := 53) ?hr ?_; (case hd => rfl); (case hg => rfl); (case hr => first | (go_simp; done) | (go_simp; rfl))
      intro g7 hg__ w5 hbox_ hq_
      have H7 := Aside0.mk hbox_
      have Gg7 := Aside0.mk (show w.heap.size ≤ g7 from hg__ ▸ HB.out.size)
      refine hK.out _ _ (by obtain ⟨s0, s1, s2, s3, s4, s5, s6, s7, s8, s9, s10, s11, s12, s13, s14, s15, s16, s17, s18⟩ := hHeld; exact ⟨(cell_below s0 hq_), (cell_below s1 hq_), (cell_below s2 hq_), (cell_below s3 hq_), (cell_below s4 hq_), (cell_below s5 hq_), (cell_below s6 hq_), (cell_below s7 hq_), (cell_below s8 hq_), (cell_below s9 hq_), (cell_below s10 hq_), (cell_below s11 hq_), (cell_below s12 hq_), (cell_below s13 hq_), (cell_below s14 hq_), (cell_below s15 hq_), (cell_below s16 hq_), (cell_below s17 hq_), (cell_below s18 hq_)⟩) (fun hHeld => ?_)
      replace HX := Aside0.mk (blk_below HX.out hq_)
      replace HB := Aside0.mk (below_step HB.out hq_)
      clear hK K hg__ hbox_ hq_
      refine norm_ (a' := ?_) ?_ ?_
      rotate_left
      · show Act.put _ (some 7) _ = _
        simp only [Act.put, pA, pB, pC, i64_w, i32_w]
        rfl
      refine one_ (i := 13) (N := some 8) #[Y,Y,Y,Y,Y,Y,Y,Y,Y,Y,Y,Y,Y,Y,Z,Z] rfl rfl (one_of HT_.out (by kernel_rfl)) (by decide) (fun K hK => ?_)
      refine box_step ?hg (N := 8) ?hd (cs := #[.int .i64 0, .int .i64 0, .int .i64 0, .int .i64 0, .int .i64 0, .int .i64 0, .bool false, .bool false, .slice none 0 0]) (t := 53) ?hr ?_; (case hd => rfl); (case hg => rfl); (case hr => first | (go_simp; done) | (go_simp; rfl))
      intro g8 hg__ w5 hbox_ hq_
      have H8 := Aside0.mk hbox_
      have Gg8 := Aside0.mk (show w.heap.size ≤ g8 from hg__ ▸ HB.out.size)
      have ne_ := Aside0.mk (show g7 ≠ g8 from fun e => absurd (blk_lt H7.out) (by rw [e, hg__]; exact Nat.lt_irrefl _))
      replace H7 := Aside0.mk (blk_below H7.out hq_)
      refine hK.out _ _ (by obtain ⟨s0, s1, s2, s3, s4, s5, s6, s7, s8, s9, s10, s11, s12, s13, s14, s15, s16, s17, s18⟩ := hHeld; exact ⟨(cell_below s0 hq_), (cell_below s1 hq_), (cell_below s2 hq_), (cell_below s3 hq_), (cell_below s4 hq_), (cell_below s5 hq_), (cell_below s6 hq_), (cell_below s7 hq_), (cell_below s8 hq_), (cell_below s9 hq_), (cell_below s10 hq_), (cell_below s11 hq_), (cell_below s12 hq_), (cell_below s13 hq_), (cell_below s14 hq_), (cell_below s15 hq_), (cell_below s16 hq_), (cell_below s17 hq_), (cell_below s18 hq_)⟩) (fun hHeld => ?_)
      replace HX := Aside0.mk (blk_below HX.out hq_)
      replace HB := Aside0.mk (below_step HB.out hq_)
      clear hK K hg__ hbox_ hq_
      refine norm_ (a' := ?_) ?_ ?_
      rotate_left
      · show Act.put _ (some 8) _ = _
        simp only [Act.put, pA, pB, pC, i64_w, i32_w]
        rfl
      exact norm_ (by simp only [putAll, Act.put, pA, pB, pC]) (hCont (g7, g8) _ ⟨hHeld, H7.out, H8.out, ne_.out, Gg7.out, Gg8.out, HX.out, HB.out⟩)
    · skip
      refine box_step ?hg (N := 8) ?hd (cs := #[.int .i64 0, .int .i64 0, .int .i64 0, .int .i64 0, .int .i64 0, .int .i64 0, .bool false, .bool false, .slice none 0 0]) (t := 53) ?hr ?_; (case hd => rfl); (case hg => rfl); (case hr => first | (go_simp; done) | (go_simp; rfl))
      intro g8 hg__ w5 hbox_ hq_
      have H8 := Aside0.mk hbox_
      have Gg8 := Aside0.mk (show w.heap.size ≤ g8 from hg__ ▸ HB.out.size)
      refine hK.out _ _ (by obtain ⟨s0, s1, s2, s3, s4, s5, s6, s7, s8, s9, s10, s11, s12, s13, s14, s15, s16, s17, s18⟩ := hHeld; exact ⟨(cell_below s0 hq_), (cell_below s1 hq_), (cell_below s2 hq_), (cell_below s3 hq_), (cell_below s4 hq_), (cell_below s5 hq_), (cell_below s6 hq_), (cell_below s7 hq_), (cell_below s8 hq_), (cell_below s9 hq_), (cell_below s10 hq_), (cell_below s11 hq_), (cell_below s12 hq_), (cell_below s13 hq_), (cell_below s14 hq_), (cell_below s15 hq_), (cell_below s16 hq_), (cell_below s17 hq_), (cell_below s18 hq_)⟩) (fun hHeld => ?_)
      replace HX := Aside0.mk (blk_below HX.out hq_)
      replace HB := Aside0.mk (below_step HB.out hq_)
      clear hK K hg__ hbox_ hq_
      refine norm_ (a' := ?_) ?_ ?_
      rotate_left
      · show Act.put _ (some 8) _ = _
        simp only [Act.put, pA, pB, pC, i64_w, i32_w]
        rfl
      refine one_ (i := 12) (N := some 7) #[Y,Y,Y,Y,Y,Y,Y,Y,Y,Y,Y,Y,Y,Y,Z,Z] rfl rfl (one_of HT_.out (by kernel_rfl)) (by decide) (fun K hK => ?_)
      refine box_step ?hg (N := 7) ?hd (cs := #[.int .i64 0, .int .i64 0, .int .i64 0, .int .i64 0, .int .i64 0, .int .i64 0, .bool false, .bool false, .slice none 0 0]) (t := 53) ?hr ?_; (case hd => rfl); (case hg => rfl); (case hr => first | (go_simp; done) | (go_simp; rfl))
      intro g7 hg__ w5 hbox_ hq_
      have H7 := Aside0.mk hbox_
      have Gg7 := Aside0.mk (show w.heap.size ≤ g7 from hg__ ▸ HB.out.size)
      have ne_ := Aside0.mk (show g7 ≠ g8 from fun e => absurd (blk_lt H8.out) (by rw [← e, hg__]; exact Nat.lt_irrefl _))
      replace H8 := Aside0.mk (blk_below H8.out hq_)
      refine hK.out _ _ (by obtain ⟨s0, s1, s2, s3, s4, s5, s6, s7, s8, s9, s10, s11, s12, s13, s14, s15, s16, s17, s18⟩ := hHeld; exact ⟨(cell_below s0 hq_), (cell_below s1 hq_), (cell_below s2 hq_), (cell_below s3 hq_), (cell_below s4 hq_), (cell_below s5 hq_), (cell_below s6 hq_), (cell_below s7 hq_), (cell_below s8 hq_), (cell_below s9 hq_), (cell_below s10 hq_), (cell_below s11 hq_), (cell_below s12 hq_), (cell_below s13 hq_), (cell_below s14 hq_), (cell_below s15 hq_), (cell_below s16 hq_), (cell_below s17 hq_), (cell_below s18 hq_)⟩) (fun hHeld => ?_)
      replace HX := Aside0.mk (blk_below HX.out hq_)
      replace HB := Aside0.mk (below_step HB.out hq_)
      clear hK K hg__ hbox_ hq_
      refine norm_ (a' := ?_) ?_ ?_
      rotate_left
      · show Act.put _ (some 7) _ = _
        simp only [Act.put, pA, pB, pC, i64_w, i32_w]
        rfl
      exact norm_ (by simp only [putAll, Act.put, pA, pB, pC]) (hCont (g7, g8) _ ⟨hHeld, H7.out, H8.out, ne_.out, Gg7.out, Gg8.out, HX.out, HB.out⟩)
  rintro ⟨g7, g8⟩ wJ ⟨hHeld, q1_, q2_, q3_, q4_, q5_, q6_, q7_⟩
  dsimp only at q1_ q2_ q3_ q4_ q5_
  have H7 := Aside0.mk q1_
  have H8 := Aside0.mk q2_
  have ne_ := Aside0.mk q3_
  have Gg7 := Aside0.mk q4_
  have Gg8 := Aside0.mk q5_
  replace HX := Aside0.mk q6_
  replace HB := Aside0.mk q7_
  clear q1_ q2_ q3_ q4_ q5_ q6_ q7_
  refine norm_ (a' := ?_) ?_ ?_
  rotate_left
  · simp only [putAll, Act.put, pA, pB, pC]
    rfl
  refine one_ (i := 14) (N := none) #[Y,Y,Y,Y,Y,Y,Y,Y,Y,Y,Y,Y,Y,Y,Y,Z] rfl rfl (one_of HT_.out (by kernel_rfl)) (by decide) (fun K hK => ?_)
  have z0_ := blk_celln H7.out 0 _ rfl; have z1_ := blk_celln H7.out 1 _ rfl; have z2_ := blk_celln H7.out 2 _ rfl; have z3_ := blk_celln H7.out 3 _ rfl; have z4_ := blk_celln H7.out 4 _ rfl; have z5_ := blk_celln H7.out 5 _ rfl; have z6_ := blk_celln H7.out 6 _ rfl; have z7_ := blk_celln H7.out 7 _ rfl; have z8_ := blk_celln H7.out 8 _ rfl; have f0_ := blk_frozen H7.out 0; have f1_ := blk_frozen H7.out 1; have f2_ := blk_frozen H7.out 2; have f3_ := blk_frozen H7.out 3; have f4_ := blk_frozen H7.out 4; have f5_ := blk_frozen H7.out 5; have f6_ := blk_frozen H7.out 6; have f7_ := blk_frozen H7.out 7; have f8_ := blk_frozen H7.out 8
  refine skip_ (w1 := ?_) (by rfl) rfl ?_ ?_
  rotate_left
  · go_simp
    rfl
  obtain ⟨F1_, F2_⟩ := fill53 H7.out (.int .i64 na.f0) (.int .i64 na.f1) (.int .i64 na.f2) (.int .i64 na.f3) (.int .i64 na.f4) (.int .i64 na.f5) (.bool na.f6) (.bool na.f7) (.slice A8 na.f8.length c8) _ rfl
  clear z0_ f0_ z1_ f1_ z2_ f2_ z3_ f3_ z4_ f4_ z5_ f5_ z6_ f6_ z7_ f7_ z8_ f8_
  have X1_ := far53 H8.out (ne_.out.symm) (.int .i64 na.f0) (.int .i64 na.f1) (.int .i64 na.f2) (.int .i64 na.f3) (.int .i64 na.f4) (.int .i64 na.f5) (.bool na.f6) (.bool na.f7) (.slice A8 na.f8.length c8) _ rfl
  have X2_ := far53 HX.out (blk_ne HX.out H7.out (by decide)) (.int .i64 na.f0) (.int .i64 na.f1) (.int .i64 na.f2) (.int .i64 na.f3) (.int .i64 na.f4) (.int .i64 na.f5) (.bool na.f6) (.bool na.f7) (.slice A8 na.f8.length c8) _ rfl
  generalize ((((((((wJ.setCell ⟨g7, 0, none⟩ (.int .i64 na.f0)).setCell ⟨g7, 1, none⟩ (.int .i64 na.f1)).setCell ⟨g7, 2, none⟩ (.int .i64 na.f2)).setCell ⟨g7, 3, none⟩ (.int .i64 na.f3)).setCell ⟨g7, 4, none⟩ (.int .i64 na.f4)).setCell ⟨g7, 5, none⟩ (.int .i64 na.f5)).setCell ⟨g7, 6, none⟩ (.bool na.f6)).setCell ⟨g7, 7, none⟩ (.bool na.f7)).setCell ⟨g7, 8, none⟩ (.slice A8 na.f8.length c8) = wJx at F1_ F2_ X1_ X2_ ⊢
  replace H7 := Aside0.mk F1_
  replace H8 := Aside0.mk X1_
  replace HX := Aside0.mk X2_
  replace HB := Aside0.mk (HB.out.trans (F2_ w.heap.size Gg7.out))
  clear F1_ F2_ X1_ X2_
  refine hK.out _ _ ⟨(blk_celln HX.out 3 _ rfl), (cell_below x0 HB.out), (cell_below x1 HB.out), (cell_below x2 HB.out), (cell_below x3 HB.out), (cell_below x4 HB.out), (cell_below x5 HB.out), (cell_below x6 HB.out), (cell_below x7 HB.out), (cell_below x8 HB.out), (cell_below y0 HB.out), (cell_below y1 HB.out), (cell_below y2 HB.out), (cell_below y3 HB.out), (cell_below y4 HB.out), (cell_below y5 HB.out), (cell_below y6 HB.out), (cell_below y7 HB.out), (cell_below y8 HB.out)⟩ (fun hHeld => ?_)
  clear hK K
  refine last_ (i := 15) (N := none) #[Y,Y,Y,Y,Y,Y,Y,Y,Y,Y,Y,Y,Y,Y,Y,Y] rfl rfl (one_of HT_.out (by kernel_rfl)) (by decide) (fun K hK => ?_)
  have z0_ := blk_celln H8.out 0 _ rfl; have z1_ := blk_celln H8.out 1 _ rfl; have z2_ := blk_celln H8.out 2 _ rfl; have z3_ := blk_celln H8.out 3 _ rfl; have z4_ := blk_celln H8.out 4 _ rfl; have z5_ := blk_celln H8.out 5 _ rfl; have z6_ := blk_celln H8.out 6 _ rfl; have z7_ := blk_celln H8.out 7 _ rfl; have z8_ := blk_celln H8.out 8 _ rfl; have f0_ := blk_frozen H8.out 0; have f1_ := blk_frozen H8.out 1; have f2_ := blk_frozen H8.out 2; have f3_ := blk_frozen H8.out 3; have f4_ := blk_frozen H8.out 4; have f5_ := blk_frozen H8.out 5; have f6_ := blk_frozen H8.out 6; have f7_ := blk_frozen H8.out 7; have f8_ := blk_frozen H8.out 8
  refine skip_ (w1 := ?_) (by rfl) rfl ?_ ?_
  rotate_left
  · go_simp
    rfl
  obtain ⟨F1_, F2_⟩ := fill53 H8.out (.int .i64 nb.f0) (.int .i64 nb.f1) (.int .i64 nb.f2) (.int .i64 nb.f3) (.int .i64 nb.f4) (.int .i64 nb.f5) (.bool nb.f6) (.bool nb.f7) (.slice B8 nb.f8.length d8) _ rfl
  clear z0_ f0_ z1_ f1_ z2_ f2_ z3_ f3_ z4_ f4_ z5_ f5_ z6_ f6_ z7_ f7_ z8_ f8_
  have X1_ := far53 H7.out (ne_.out) (.int .i64 nb.f0) (.int .i64 nb.f1) (.int .i64 nb.f2) (.int .i64 nb.f3) (.int .i64 nb.f4) (.int .i64 nb.f5) (.bool nb.f6) (.bool nb.f7) (.slice B8 nb.f8.length d8) _ rfl
  have X2_ := far53 HX.out (blk_ne HX.out H8.out (by decide)) (.int .i64 nb.f0) (.int .i64 nb.f1) (.int .i64 nb.f2) (.int .i64 nb.f3) (.int .i64 nb.f4) (.int .i64 nb.f5) (.bool nb.f6) (.bool nb.f7) (.slice B8 nb.f8.length d8) _ rfl
  generalize ((((((((wJx.setCell ⟨g8, 0, none⟩ (.int .i64 nb.f0)).setCell ⟨g8, 1, none⟩ (.int .i64 nb.f1)).setCell ⟨g8, 2, none⟩ (.int .i64 nb.f2)).setCell ⟨g8, 3, none⟩ (.int .i64 nb.f3)).setCell ⟨g8, 4, none⟩ (.int .i64 nb.f4)).setCell ⟨g8, 5, none⟩ (.int .i64 nb.f5)).setCell ⟨g8, 6, none⟩ (.bool nb.f6)).setCell ⟨g8, 7, none⟩ (.bool nb.f7)).setCell ⟨g8, 8, none⟩ (.slice B8 nb.f8.length d8) = wJxx at F1_ F2_ X1_ X2_ ⊢
  replace H8 := Aside0.mk F1_
  replace H7 := Aside0.mk X1_
  replace HX := Aside0.mk X2_
  replace HB := Aside0.mk (HB.out.trans (F2_ w.heap.size Gg8.out))
  clear F1_ F2_ X1_ X2_
  refine hK.out _ _ ?_
  clear hK K
  refine done_ (done_of HT_.out (by kernel_rfl)) ?_
  clear hHeld ne_ Gg7 Gg8
  have h70 := blk_celln (H7.out) 0 _ rfl
  have h80 := blk_celln (H8.out) 0 _ rfl
  have hx0 := blk_celln (HX.out) 0 _ rfl; have hx1 := blk_celln (HX.out) 1 _ rfl; have hx2 := blk_celln (HX.out) 2 _ rfl; have hx3 := blk_celln (HX.out) 3 _ rfl; have hx4 := blk_celln (HX.out) 4 _ rfl; have hx5 := blk_celln (HX.out) 5 _ rfl
  clear p0 p1 p2 p3
  have H := Hh.out
  clear Hh
  by_cases k0 : a1 = a2
  · rw [if_pos k0] at H
    have k1 : (a1 != a2) = false := bne_eq_false_iff_eq.mpr k0
    clear k0
    obtain rfl := Option.some.inj H
    go_wp2
    go_ret
    exact ⟨rfl, HB.out⟩
  rw [if_neg k0] at H
  have k1 : (a1 != a2) = true := bne_iff_ne.mpr k0
  clear k0
  by_cases k2 : na.f0 ≥ 0
  rotate_left
  · rw [if_neg k2] at H
    have k3 : decide (na.f0 ≥ 0) = false := decide_eq_false k2
    have k4 : (0 ≤ na.f0) = False := eq_false k2
    clear k2
    obtain rfl := Option.some.inj H
    go_wp2
    go_ret
    exact ⟨rfl, HB.out⟩
  rw [if_pos k2] at H
  have k4 : (0 ≤ na.f0) = True := eq_true k2
  clear k2
  by_cases k5 : na.f0 = nb.f0
  rotate_left
  · rw [if_neg k5] at H
    have k6 : (na.f0 == nb.f0) = false := beq_eq_false_iff_ne.mpr k5
    clear k5
    obtain rfl := Option.some.inj H
    go_wp2
    go_ret
    exact ⟨rfl, HB.out⟩
  rw [if_pos k5] at H
  have k6 : (na.f0 == nb.f0) = true := beq_iff_eq.mpr k5
  clear k5
  obtain ⟨t1, q1, H⟩ := Option.bind_eq_some_iff.mp H
  have Q1 := Aside0.mk q1
  clear q1
  go_wp2_with (fail)
  refine (tree_deep_beneath.calls a0_0 A0_1 c0_1 l0_1 A0_2 c0_2 l0_2 (some ad) c0_3 l0_3 A0_4 c0_4 l0_4 A0_5 c0_5 l0_5 a1 a2 t1 _ (Kd.C_below R1.out HB.out) hc0_1 (Kd.C_below R2.out HB.out) hc0_2 (Kd.C_below R3.out HB.out) hc0_3 (Kd.C_below R4.out HB.out) hc0_4 (Kd.C_below R5.out HB.out) hc0_5 Q1.out).mono ?_
  rintro e w9 ⟨rfl, qb⟩
  replace HX := Aside0.mk (blk_below HX.out qb)
  replace H7 := Aside0.mk (blk_below H7.out qb)
  replace H8 := Aside0.mk (blk_below H8.out qb)
  replace HB := Aside0.mk (below_step HB.out qb)
  clear qb
  replace h70 := blk_celln (H7.out) 0 _ rfl
  replace h80 := blk_celln (H8.out) 0 _ rfl
  replace hx0 := blk_celln (HX.out) 0 _ rfl; replace hx1 := blk_celln (HX.out) 1 _ rfl; replace hx2 := blk_celln (HX.out) 2 _ rfl; replace hx3 := blk_celln (HX.out) 3 _ rfl; replace hx4 := blk_celln (HX.out) 4 _ rfl; replace hx5 := blk_celln (HX.out) 5 _ rfl
  cases t1 with
  | true =>
    obtain rfl := Option.some.inj ((if_pos rfl).symm.trans H)
    go_wp2
    go_ret
    exact ⟨rfl, HB.out⟩
  | false =>
    replace H := (if_neg (by decide)).symm.trans H
    obtain ⟨t2, q2, H⟩ := Option.bind_eq_some_iff.mp H
    have Q2 := Aside0.mk q2
    clear q2
    obtain rfl := Option.some.inj H
    go_wp2_with (fail)
    refine (tree_deep_beneath.calls a0_0 A0_1 c0_1 l0_1 A0_2 c0_2 l0_2 (some ad) c0_3 l0_3 A0_4 c0_4 l0_4 A0_5 c0_5 l0_5 a2 a1 t2 _ (Kd.C_below R1.out HB.out) hc0_1 (Kd.C_below R2.out HB.out) hc0_2 (Kd.C_below R3.out HB.out) hc0_3 (Kd.C_below R4.out HB.out) hc0_4 (Kd.C_below R5.out HB.out) hc0_5 Q2.out).mono ?_
    rintro e w10 ⟨rfl, qb⟩
    replace HB := Aside0.mk (below_step HB.out qb)
    clear qb h70 h80 hx0 hx1 hx2 hx3 hx4 hx5
    go_wp2
    go_ret
    exact ⟨rfl, HB.out⟩
end Go.Proofs.YtlpdcdkjmcpfdaaDoor.PT
