-- made by fvprint.py over the kit's print
import Derived.Test.YtbgcmbnnkigjjaaDoorPPx0
import Derived.Test.YtbgcmbnnkigjjaaDoorPPx1
import Derived.Test.YtbgcmbnnkigjjaaDoorPPx4
import Derived.Test.YtbgcmbnnkigjjaaDoorPPx10
import Derived.Test.YtbgcmbnnkigjjaaDoorPPx20
namespace Go.Proofs.YtbgcmbnnkigjjaaDoor.PP
open Go.RowKit Go.Proofs.YtbgcmbnnkigjjaaDoorW.PrintWords Go.Proofs.YtbgcmbnnkigjjaaDoorW.PrintLast Go.Proofs.YtbgcmbnnkigjjaaDoorW.PrintMore
attribute [local go_sem] max2_int min2_int max_two min_two max_three min_three max_four min_four   -- for this text's walks alone
set_option linter.unusedVariables false
set_option linter.unusedSimpArgs false

attribute [local go_sem] cell_set_some
/-! ### withelaw11_PostOne: function 6 -/
mutual
def withelaw11_PostOne.l0 : Nat → List ByteArray → List (List ByteArray) → Int → Int → List (List Int) → List Int → Option (Bool)
  | 0, _, _, _, _, _, _ => none
  | k + 1, x5, x6, x8, x9, x330000, x330001 => if x9 < 2 then (if 0 ≤ x9 then (if x9 < (x5.length : Int) then ((post_Holds.f k 1 0 (rdOf ByteArray.empty x5 x9) x8 ([] : List (S24)) x5 x6 x330000 x330001).bind fun bt331 => (if bt331.2 = true then (if x9 < (x330001.length : Int) then (withelaw11_PostOne.j1 k x5 x6 x8 x9 (bt331.1 != ((rd x330001 x9) == x8)) x330000 x330001) else (none)) else (withelaw11_PostOne.j1 k x5 x6 x8 x9 true x330000 x330001))) else (none)) else (none)) else (some true)
def withelaw11_PostOne.j1 : Nat → List ByteArray → List (List ByteArray) → Int → Int → Bool → List (List Int) → List Int → Option (Bool)
  | 0, _, _, _, _, _, _, _ => none
  | k + 1, x5, x6, x8, x9, x55, x330000, x330001 => if x55 = true then (none) else (withelaw11_PostOne.l1 k x5 x6 x8 x9 0 x330000 x330001)
def withelaw11_PostOne.l1 : Nat → List ByteArray → List (List ByteArray) → Int → Int → Int → List (List Int) → List Int → Option (Bool)
  | 0, _, _, _, _, _, _, _ => none
  | k + 1, x5, x6, x8, x9, x12, x330000, x330001 => if x12 < 2 then (if 0 ≤ x9 then (if x9 < (x6.length : Int) then (if 0 ≤ x12 then (if x12 < ((rd_L2 x6 x9).length : Int) then ((post_Holds.f k 2 x9 (rdOf ByteArray.empty (rd_L2 x6 x9) x12) x8 ([] : List (S24)) x5 x6 x330000 x330001).bind fun bt336 => (if bt336.2 = true then (if x9 < (x330000.length : Int) then (if x12 < ((rd_L3 x330000 x9).length : Int) then (if (bt336.1 != ((rd (rd_L3 x330000 x9) x12) == x8)) = true then (none) else (withelaw11_PostOne.l1 k x5 x6 x8 x9 (wrap64 (x12 + 1)) x330000 x330001)) else (none)) else (none)) else (none))) else (none)) else (none)) else (none)) else (none)) else (withelaw11_PostOne.l0 k x5 x6 x8 (wrap64 (x9 + 1)) x330000 x330001)
end
def withelaw11_PostOne.f (k : Nat) (a0_0 : Int) (a0_1 : Int) (a0_2 : Int) (a0_3 : Int) (a0_4 : Int) (a0_5 : Int) (a1 : Int) : Option (Bool) := (withelaw11_begun.f k).bind fun t316 => (if t316 = true then ((withelaw11_names.f).bind fun bt317 => ((withelaw11_made.f a0_0 a0_1 a0_2 a0_3 a0_4 a0_5).bind fun bt323 => (withelaw11_PostOne.l0 k bt317.1 bt317.2 (wrap64 (Int.tmod a1 3)) 0 bt323.1 bt323.2))) else (none))
theorem withelaw11_PostOne.mono_l : ∀ k, (∀ y0 y1 y2 y3 y4 y5, LeO (withelaw11_PostOne.l0 k y0 y1 y2 y3 y4 y5) (withelaw11_PostOne.l0 (k + 1) y0 y1 y2 y3 y4 y5)) ∧ (∀ y0 y1 y2 y3 y4 y5 y6, LeO (withelaw11_PostOne.j1 k y0 y1 y2 y3 y4 y5 y6) (withelaw11_PostOne.j1 (k + 1) y0 y1 y2 y3 y4 y5 y6)) ∧ (∀ y0 y1 y2 y3 y4 y5 y6, LeO (withelaw11_PostOne.l1 k y0 y1 y2 y3 y4 y5 y6) (withelaw11_PostOne.l1 (k + 1) y0 y1 y2 y3 y4 y5 y6))
  | 0 => ⟨fun _ _ _ _ _ _ r h => by simp [withelaw11_PostOne.l0] at h, fun _ _ _ _ _ _ _ r h => by simp [withelaw11_PostOne.j1] at h, fun _ _ _ _ _ _ _ r h => by simp [withelaw11_PostOne.l1] at h⟩
  | k + 1 => by
    obtain ⟨ih0, ih1, ih2⟩ := withelaw11_PostOne.mono_l k
    refine ⟨?_, ?_, ?_⟩
    · intro y0 y1 y2 y3 y4 y5
      unfold withelaw11_PostOne.l0
      repeat' first
      | (with_reducible exact ih0 _ _ _ _ _ _)
      | (with_reducible exact ih1 _ _ _ _ _ _ _)
      | (with_reducible exact ih2 _ _ _ _ _ _ _)
      | (with_reducible exact post_Holds.mono _ _ _ _ _ _ _ _ _ _)
      | (with_reducible exact withelaw11_begun.mono _)
      | (with_reducible exact LeO.refl _)
      | (with_reducible exact LeO.none _)
      | (with_reducible refine LeO.ite ?_ ?_)
      | (with_reducible refine LeO.bind ?_ (fun _ => ?_))
      | exact ih0 _ _ _ _ _ _
      | exact ih1 _ _ _ _ _ _ _
      | exact ih2 _ _ _ _ _ _ _
      | exact post_Holds.mono _ _ _ _ _ _ _ _ _ _
      | exact withelaw11_begun.mono _
      | exact LeO.none _
      | refine LeO.ite ?_ ?_
      | refine LeO.bind ?_ (fun _ => ?_)
    · intro y0 y1 y2 y3 y4 y5 y6
      unfold withelaw11_PostOne.j1
      repeat' first
      | (with_reducible exact ih0 _ _ _ _ _ _)
      | (with_reducible exact ih1 _ _ _ _ _ _ _)
      | (with_reducible exact ih2 _ _ _ _ _ _ _)
      | (with_reducible exact post_Holds.mono _ _ _ _ _ _ _ _ _ _)
      | (with_reducible exact withelaw11_begun.mono _)
      | (with_reducible exact LeO.refl _)
      | (with_reducible exact LeO.none _)
      | (with_reducible refine LeO.ite ?_ ?_)
      | (with_reducible refine LeO.bind ?_ (fun _ => ?_))
      | exact ih0 _ _ _ _ _ _
      | exact ih1 _ _ _ _ _ _ _
      | exact ih2 _ _ _ _ _ _ _
      | exact post_Holds.mono _ _ _ _ _ _ _ _ _ _
      | exact withelaw11_begun.mono _
      | exact LeO.none _
      | refine LeO.ite ?_ ?_
      | refine LeO.bind ?_ (fun _ => ?_)
    · intro y0 y1 y2 y3 y4 y5 y6
      unfold withelaw11_PostOne.l1
      repeat' first
      | (with_reducible exact ih0 _ _ _ _ _ _)
      | (with_reducible exact ih1 _ _ _ _ _ _ _)
      | (with_reducible exact ih2 _ _ _ _ _ _ _)
      | (with_reducible exact post_Holds.mono _ _ _ _ _ _ _ _ _ _)
      | (with_reducible exact withelaw11_begun.mono _)
      | (with_reducible exact LeO.refl _)
      | (with_reducible exact LeO.none _)
      | (with_reducible refine LeO.ite ?_ ?_)
      | (with_reducible refine LeO.bind ?_ (fun _ => ?_))
      | exact ih0 _ _ _ _ _ _
      | exact ih1 _ _ _ _ _ _ _
      | exact ih2 _ _ _ _ _ _ _
      | exact post_Holds.mono _ _ _ _ _ _ _ _ _ _
      | exact withelaw11_begun.mono _
      | exact LeO.none _
      | refine LeO.ite ?_ ?_
      | refine LeO.bind ?_ (fun _ => ?_)
theorem withelaw11_PostOne.mono : ∀ a0 a1 a2 a3 a4 a5 a6 k, LeO (withelaw11_PostOne.f k a0 a1 a2 a3 a4 a5 a6) (withelaw11_PostOne.f (k + 1) a0 a1 a2 a3 a4 a5 a6) := by
  intro a0 a1 a2 a3 a4 a5 a6 k
  obtain ⟨ih0, ih1, ih2⟩ := withelaw11_PostOne.mono_l k
  unfold withelaw11_PostOne.f
  repeat' first
      | (with_reducible exact ih0 _ _ _ _ _ _)
      | (with_reducible exact ih1 _ _ _ _ _ _ _)
      | (with_reducible exact ih2 _ _ _ _ _ _ _)
      | (with_reducible exact post_Holds.mono _ _ _ _ _ _ _ _ _ _)
      | (with_reducible exact withelaw11_begun.mono _)
      | (with_reducible exact LeO.refl _)
      | (with_reducible exact LeO.none _)
      | (with_reducible refine LeO.ite ?_ ?_)
      | (with_reducible refine LeO.bind ?_ (fun _ => ?_))
      | exact ih0 _ _ _ _ _ _
      | exact ih1 _ _ _ _ _ _ _
      | exact ih2 _ _ _ _ _ _ _
      | exact post_Holds.mono _ _ _ _ _ _ _ _ _ _
      | exact withelaw11_begun.mono _
      | exact LeO.none _
      | refine LeO.ite ?_ ?_
      | refine LeO.bind ?_ (fun _ => ?_)
def withelaw11_PostOne.T9 : Bool × List (List Nat × List Nat) := (true, [([], []), ([], []), ([0, 1], [0, 1]), ([2], [2]), ([], []), ([3, 4], [3, 4]), ([], []), ([], []), ([], []), ([5, 6, 7, 8], [5, 6, 7, 8]), ([9], [9]), ([10], [10]), ([10], [10]), ([11, 9, 0, 1, 2, 3, 4, 5, 6, 7, 8, 9, 10, 11], [11]), ([12, 13, 0, 1, 2, 3, 4, 5, 6, 7, 8, 9, 10, 11, 12, 13], [12])])
def withelaw11_PostOne.B9 : List Nat := [0, 0, 3, 7, 0, 31, 0, 0, 0, 511, 1023, 2047, 2047, 4095, 16383]
theorem withelaw11_PostOne.tab9 : rtab .any (opsOf Tryd.f6 9) = withelaw11_PostOne.T9 := by kernel_rfl
theorem withelaw11_PostOne.bits9 : waitsOk withelaw11_PostOne.T9.2 withelaw11_PostOne.B9 = true := by kernel_rfl
def withelaw11_PostOne.T15 : Bool × List (List Nat × List Nat) := (true, [([], []), ([], []), ([], []), ([1, 2], [1, 2]), ([3], [3]), ([], []), ([4, 5], [4, 5]), ([6], [6]), ([], []), ([0, 7, 8], [0, 7, 8]), ([], []), ([], []), ([], []), ([9, 10, 11, 12], [9, 10, 11, 12]), ([13], [13]), ([14], [14]), ([14], [14]), ([15, 13, 0, 1, 2, 3, 4, 5, 6, 7, 8, 9, 10, 11, 12, 13, 14, 15], [15]), ([16, 17, 0, 1, 2, 3, 4, 5, 6, 7, 8, 9, 10, 11, 12, 13, 14, 15, 16, 17], [16])])
def withelaw11_PostOne.B15 : List Nat := [0, 0, 0, 6, 14, 0, 62, 126, 0, 511, 0, 0, 0, 8191, 16383, 32767, 32767, 65535, 262143]
theorem withelaw11_PostOne.tab15 : rtab .any (opsOf Tryd.f6 15) = withelaw11_PostOne.T15 := by kernel_rfl
theorem withelaw11_PostOne.bits15 : waitsOk withelaw11_PostOne.T15.2 withelaw11_PostOne.B15 = true := by kernel_rfl
set_option maxHeartbeats 8000000 in
set_option maxRecDepth 100000 in
theorem withelaw11_PostOne.calls (k : Nat) (a0_0 : Int) (a0_1 : Int) (a0_2 : Int) (a0_3 : Int) (a0_4 : Int) (a0_5 : Int) (a1 : Int) (r : Bool) (w : World) (h : withelaw11_PostOne.f k a0_0 a0_1 a0_2 a0_3 a0_4 a0_5 a1 = some r) (hG : GOk w := by first | exact Aside0.out (by assumption) | exact GOk.le (Aside0.out (by assumption)) (by repeat (first | exact Aside0.out (by assumption) | exact Below.refl _ _ | apply below_alloc | apply pw_below_drewN | apply below_drew1 | refine below_set ?_ (Aside0.out (by assumption))))) :
    Calls Tryd.prog 6 #[.agg #[.int .u8 a0_0, .int .u8 a0_1, .int .u8 a0_2, .int .u8 a0_3, .int .u8 a0_4, .int .u8 a0_5], .int .u8 a1] w fun e w' => e = .returned (.bool r) ∧ Below w.heap.size w w' := by
  have hu41 := Tryd.underlying41
  have hu30 := Tryd.underlying30
  have hu24 := Tryd.underlying24
  have HB := Aside0.mk (Below.refl w.heap.size w)
  have H : ((withelaw11_begun.f k).bind fun t316 => (if t316 = true then ((withelaw11_names.f).bind fun bt317 => ((withelaw11_made.f a0_0 a0_1 a0_2 a0_3 a0_4 a0_5).bind fun bt323 => (withelaw11_PostOne.l0 k bt317.1 bt317.2 (wrap64 (Int.tmod a1 3)) 0 bt323.1 bt323.2))) else (none))) = some r := h
  clear h
  have HG := Aside0.mk hG
  clear hG
  replace H := Option.bind_eq_some_iff.mp H
  obtain ⟨t316, A30, H⟩ := H
  replace H : (if t316 = true then ((withelaw11_names.f).bind fun bt317 => ((withelaw11_made.f a0_0 a0_1 a0_2 a0_3 a0_4 a0_5).bind fun bt323 => (withelaw11_PostOne.l0 k bt317.1 bt317.2 (wrap64 (Int.tmod a1 3)) 0 bt323.1 bt323.2))) else (none)) = some r := H
  have A3 := Aside0.mk A30
  clear A30
  by_cases c4 : t316 = true
  · subst c4
    have H1 : ((withelaw11_names.f).bind fun bt317 => ((withelaw11_made.f a0_0 a0_1 a0_2 a0_3 a0_4 a0_5).bind fun bt323 => (withelaw11_PostOne.l0 k bt317.1 bt317.2 (wrap64 (Int.tmod a1 3)) 0 bt323.1 bt323.2))) = some r := by rw [if_pos rfl] at H; exact H
    clear H
    have H := H1
    clear H1
    replace H := Option.bind_eq_some_iff.mp H
    obtain ⟨⟨t317, t320⟩, A50, H⟩ := H
    replace H : ((withelaw11_made.f a0_0 a0_1 a0_2 a0_3 a0_4 a0_5).bind fun bt323 => (withelaw11_PostOne.l0 k t317 t320 (wrap64 (Int.tmod a1 3)) 0 bt323.1 bt323.2)) = some r := H
    have A5 := Aside0.mk A50
    clear A50
    replace H := Option.bind_eq_some_iff.mp H
    obtain ⟨⟨t323, t326⟩, A60, H⟩ := H
    replace H : (withelaw11_PostOne.l0 k t317 t320 (wrap64 (Int.tmod a1 3)) 0 t323 t326) = some r := H
    have A6 := Aside0.mk A60
    clear A60
    have H' := Aside0.mk H
    clear H
    go_enter Tryd.func6, Tryd.ntmps6
    go_wp2_with (first | ((with_reducible refine gate_dst (N := 2) rfl ?_); refine box_event ?hg (N := 2) ?hd (cs := #[.int .u8 a0_0, .int .u8 a0_1, .int .u8 a0_2, .int .u8 a0_3, .int .u8 a0_4, .int .u8 a0_5]) (t := 41) ?hr ?_; (case hd => rfl); (case hg => rfl); (case hr => first | (go_simp; done) | (go_simp; rfl)); intro gb315 hg w7 hbox hb; have n0_ := Aside0.mk (below_step (by repeat (first | (with_reducible first | exact HB.out | apply below_alloc | apply pw_below_drewN | apply below_drew1) | exact HB.out)) hb); have n1_ := Aside0.mk (hbox); have n2_ := Aside0.mk ((by rw [hg]; exact (below_size (by repeat (first | (with_reducible first | exact HB.out | apply below_alloc | apply pw_below_drewN | apply below_drew1) | exact HB.out))) : w.heap.size ≤ gb315)); have n3_ := Aside0.mk ((by rw [hg]; exact (below_size (by repeat (first | (with_reducible first | exact HB.out | apply below_alloc | apply pw_below_drewN | apply below_drew1) | exact HB.out))) : w.heap.size ≤ gb315)); clear HB; have HB := n0_; have BK315 := n1_; have GW315 := n2_; have GE315 := n3_; clear n0_ n1_ n2_ n3_; clear hb hbox hg) | ((with_reducible refine gate_callee (f := 7) rfl ?_); refine goesL_ (some 15) rfl rfl Tryd.func7 (by kernel_rfl) rfl #[] rfl (by (try simp only [List.map_toArray, List.map_cons, List.map_nil]); first | done | rfl | (simp only [List.length_drop, List.length_take]; rfl)) ?_; (with_reducible refine (withelaw11_begun.calls k  true _ A3.out).mono ?_); rintro e w8 ⟨rfl, hb⟩; refine ⟨_, rfl, ?_⟩; have n0_ := Aside0.mk (blk_below (g := gb315) (o := .cells #[.int .u8 a0_0, .int .u8 a0_1, .int .u8 a0_2, .int .u8 a0_3, .int .u8 a0_4, .int .u8 a0_5] 41 (0, 0)) (by (with_reducible repeat (first | refine blk_drewN ?_ _ | refine blk_drew ?_ | refine blk_alloc ?_ _)); exact BK315.out) hb); have n1_ := Aside0.mk (below_step (by repeat (first | (with_reducible first | exact HB.out | apply below_alloc | apply pw_below_drewN | apply below_drew1 | refine below_set ?_ GE315.out) | exact HB.out)) hb); clear BK315; clear HB; have BK315 := n0_; have HB := n1_; clear n0_ n1_; (try clear hb); (try clear hb2); (try clear hk); (try clear hi)) | ((with_reducible refine gate_callee (f := 17) rfl ?_); refine goesL_ (some 18) rfl rfl Tryd.func17 (by kernel_rfl) rfl #[] rfl (by (try simp only [List.map_toArray, List.map_cons, List.map_nil]); first | done | rfl | (simp only [List.length_drop, List.length_take]; rfl)) ?_; (with_reducible refine (withelaw11_names.calls  t317 t320 _ A5.out).mono ?_); rintro e w9 ⟨v318, v321, rfl, ho0, ho1, hb⟩; refine ⟨_, rfl, ?_⟩; have n0_ := Aside0.mk (Kd.R_lower (Kd.R_mono (ok' := fun k_ => True) ho0 (fun _ hk_ => trivial)) (below_size (by repeat (first | (with_reducible first | exact HB.out | apply below_alloc | apply pw_below_drewN | apply below_drew1 | refine below_set ?_ GE315.out) | exact HB.out)))); have n1_ := Aside0.mk (Kd.N_lower (Kd.N_mono (ok' := fun k_ => some k_ ≠ (v318 : Value).ownBlock ∧ k_ ≠ gb315) ho1 (fun k_ hk_ => ⟨hk_.2, (Kd.freshB (g := gb315) (o := .cells #[.int .u8 a0_0, .int .u8 a0_1, .int .u8 a0_2, .int .u8 a0_3, .int .u8 a0_4, .int .u8 a0_5] 41 (0, 0)) (by (with_reducible repeat (first | refine blk_drewN ?_ _ | refine blk_drew ?_ | refine blk_alloc ?_ _)); exact BK315.out) k_ hk_.1)⟩)) (below_size (by repeat (first | (with_reducible first | exact HB.out | apply below_alloc | apply pw_below_drewN | apply below_drew1 | refine below_set ?_ GE315.out) | exact HB.out)))); have n2_ := Aside0.mk (blk_below (g := gb315) (o := .cells #[.int .u8 a0_0, .int .u8 a0_1, .int .u8 a0_2, .int .u8 a0_3, .int .u8 a0_4, .int .u8 a0_5] 41 (0, 0)) (by (with_reducible repeat (first | refine blk_drewN ?_ _ | refine blk_drew ?_ | refine blk_alloc ?_ _)); exact BK315.out) hb); have n3_ := Aside0.mk (below_step (by repeat (first | (with_reducible first | exact HB.out | apply below_alloc | apply pw_below_drewN | apply below_drew1 | refine below_set ?_ GE315.out) | exact HB.out)) hb); clear BK315; clear HB; have HO319 := n0_; have HO322 := n1_; have BK315 := n2_; have HB := n3_; clear n0_ n1_ n2_ n3_; (try clear hb); (try clear hb2); (try clear hk); (try clear hi); (try clear ho0); (try clear ho1); have hcz10_0 : w9.cell? ⟨gb315, 0, none⟩ = some (.int .u8 a0_0) := (blk_cell BK315.out 0).trans rfl; have hcz10_1 : w9.cell? ⟨gb315, 1, none⟩ = some (.int .u8 a0_1) := (blk_cell BK315.out 1).trans rfl; have hcz10_2 : w9.cell? ⟨gb315, 2, none⟩ = some (.int .u8 a0_2) := (blk_cell BK315.out 2).trans rfl; have hcz10_3 : w9.cell? ⟨gb315, 3, none⟩ = some (.int .u8 a0_3) := (blk_cell BK315.out 3).trans rfl; have hcz10_4 : w9.cell? ⟨gb315, 4, none⟩ = some (.int .u8 a0_4) := (blk_cell BK315.out 4).trans rfl; have hcz10_5 : w9.cell? ⟨gb315, 5, none⟩ = some (.int .u8 a0_5) := (blk_cell BK315.out 5).trans rfl; have hfz10_0 := blk_frozen BK315.out 0; have hfz10_1 := blk_frozen BK315.out 1; have hfz10_2 := blk_frozen BK315.out 2; have hfz10_3 := blk_frozen BK315.out 3; have hfz10_4 := blk_frozen BK315.out 4; have hfz10_5 := blk_frozen BK315.out 5) | ((with_reducible refine gate_callee (f := 18) rfl ?_); refine goesL_ (some 22) rfl rfl Tryd.func18 (by kernel_rfl) rfl #[.agg #[.int .u8 a0_0, .int .u8 a0_1, .int .u8 a0_2, .int .u8 a0_3, .int .u8 a0_4, .int .u8 a0_5]] rfl (by (try simp only [List.map_toArray, List.map_cons, List.map_nil]); first | done | rfl | (simp only [List.length_drop, List.length_take]; rfl)) ?_; (with_reducible refine (withelaw11_made.calls a0_0 a0_1 a0_2 a0_3 a0_4 a0_5 t323 t326 _ A6.out).mono ?_); rintro e w11 ⟨v324, v327, rfl, ho0, ho1, hb⟩; refine ⟨_, rfl, ?_⟩; have n0_ := Aside0.mk (Kd.R_below (by (with_reducible repeat (first | apply Kd.R_alloc | apply Kd.R_drewN | apply Kd.R_drew)); exact HO319.out) hb); have n1_ := Aside0.mk (Kd.N_mono (Kd.N_told (Kd.N_told (Kd.N_old (by (with_reducible repeat (first | apply Kd.N_alloc | apply Kd.N_drewN | apply Kd.N_drew)); exact HO322.out) hb) (Kd.N_base ho0)) (Kd.R_base ho1)) (fun _ h_ => h_.1)); have n2_ := Aside0.mk (Kd.N_lower (Kd.N_mono (ok' := fun k_ => some k_ ≠ (v327 : Value).ownBlock ∧ some k_ ≠ (v318 : Value).ownBlock ∧ some k_ ≠ (v321 : Value).ownBlock ∧ k_ ≠ gb315) ho0 (fun k_ hk_ => ⟨hk_.2, (Kd.fresh' (Kd.R_lt (by (with_reducible repeat (first | apply Kd.R_alloc | apply Kd.R_drewN | apply Kd.R_drew)); exact HO319.out)) k_ hk_.1), (Kd.fresh' (Kd.N_lt (by (with_reducible repeat (first | apply Kd.N_alloc | apply Kd.N_drewN | apply Kd.N_drew)); exact HO322.out)) k_ hk_.1), (Kd.freshB (g := gb315) (o := .cells #[.int .u8 a0_0, .int .u8 a0_1, .int .u8 a0_2, .int .u8 a0_3, .int .u8 a0_4, .int .u8 a0_5] 41 (0, 0)) (by (with_reducible repeat (first | refine blk_drewN ?_ _ | refine blk_drew ?_ | refine blk_alloc ?_ _)); exact BK315.out) k_ hk_.1)⟩)) (below_size (by repeat (first | (with_reducible first | exact HB.out | apply below_alloc | apply pw_below_drewN | apply below_drew1 | refine below_set ?_ GE315.out) | exact HB.out)))); have n3_ := Aside0.mk (Kd.R_lower (Kd.R_mono (ok' := fun k_ => True) ho1 (fun _ hk_ => trivial)) (below_size (by repeat (first | (with_reducible first | exact HB.out | apply below_alloc | apply pw_below_drewN | apply below_drew1 | refine below_set ?_ GE315.out) | exact HB.out)))); have n4_ := Aside0.mk (blk_below (g := gb315) (o := .cells #[.int .u8 a0_0, .int .u8 a0_1, .int .u8 a0_2, .int .u8 a0_3, .int .u8 a0_4, .int .u8 a0_5] 41 (0, 0)) (by (with_reducible repeat (first | refine blk_drewN ?_ _ | refine blk_drew ?_ | refine blk_alloc ?_ _)); exact BK315.out) hb); have n5_ := Aside0.mk (below_step (by repeat (first | (with_reducible first | exact HB.out | apply below_alloc | apply pw_below_drewN | apply below_drew1 | refine below_set ?_ GE315.out) | exact HB.out)) hb); clear HO319; clear HO322; clear BK315; clear HB; have HO319 := n0_; have HO322 := n1_; have HO325 := n2_; have HO328 := n3_; have BK315 := n4_; have HB := n5_; clear n0_ n1_ n2_ n3_ n4_ n5_; (try clear hb); (try clear hb2); (try clear hk); (try clear hi); (try clear ho0); (try clear ho1)) | ((with_reducible refine gate_dst (N := 7) rfl ?_); refine box_event ?hg (N := 7) ?hd (cs := #[.slice none 0 0, .slice none 0 0]) (t := 30) ?hr ?_; (case hd => rfl); (case hg => rfl); (case hr => first | (go_simp; done) | (go_simp; rfl)); intro gb329 hg w12 hbox hb; have n0_ := Aside0.mk (Kd.R_below (by (with_reducible repeat (first | apply Kd.R_alloc | apply Kd.R_drewN | apply Kd.R_drew)); exact HO319.out) hb); have n1_ := Aside0.mk (Kd.N_below (Kd.N_elderB (by (with_reducible repeat (first | apply Kd.N_alloc | apply Kd.N_drewN | apply Kd.N_drew)); exact HO322.out) gb329 (Nat.le_of_eq hg.symm)) hb); have n2_ := Aside0.mk (Kd.N_below (Kd.N_elderB (by (with_reducible repeat (first | apply Kd.N_alloc | apply Kd.N_drewN | apply Kd.N_drew)); exact HO325.out) gb329 (Nat.le_of_eq hg.symm)) hb); have n3_ := Aside0.mk (Kd.R_below (by (with_reducible repeat (first | apply Kd.R_alloc | apply Kd.R_drewN | apply Kd.R_drew)); exact HO328.out) hb); have n4_ := Aside0.mk (blk_below (g := gb315) (o := .cells #[.int .u8 a0_0, .int .u8 a0_1, .int .u8 a0_2, .int .u8 a0_3, .int .u8 a0_4, .int .u8 a0_5] 41 (0, 0)) (by (with_reducible repeat (first | refine blk_drewN ?_ _ | refine blk_drew ?_ | refine blk_alloc ?_ _)); exact BK315.out) hb); have n5_ := Aside0.mk (below_step (by repeat (first | (with_reducible first | exact HB.out | apply below_alloc | apply pw_below_drewN | apply below_drew1 | refine below_set ?_ GE315.out) | exact HB.out)) hb); have n6_ := Aside0.mk (hbox); have n7_ := Aside0.mk ((by rw [hg]; exact (below_size (by repeat (first | (with_reducible first | exact HB.out | apply below_alloc | apply pw_below_drewN | apply below_drew1 | refine below_set ?_ GE315.out) | exact HB.out))) : w.heap.size ≤ gb329)); have n8_ := Aside0.mk ((by rw [hg]; exact (below_size (by repeat (first | (with_reducible first | exact HB.out | apply below_alloc | apply pw_below_drewN | apply below_drew1 | refine below_set ?_ GE315.out) | exact HB.out))) : w.heap.size ≤ gb329)); have n9_ := Aside0.mk ((by rw [hg]; exact Nat.ne_of_lt (blk_lt (g := gb315) (o := .cells #[.int .u8 a0_0, .int .u8 a0_1, .int .u8 a0_2, .int .u8 a0_3, .int .u8 a0_4, .int .u8 a0_5] 41 (0, 0)) (by (with_reducible repeat (first | refine blk_drewN ?_ _ | refine blk_drew ?_ | refine blk_alloc ?_ _)); exact BK315.out)) : gb315 ≠ gb329)); have n10_ := Aside0.mk ((by rw [hg]; exact Nat.ne_of_gt (blk_lt (g := gb315) (o := .cells #[.int .u8 a0_0, .int .u8 a0_1, .int .u8 a0_2, .int .u8 a0_3, .int .u8 a0_4, .int .u8 a0_5] 41 (0, 0)) (by (with_reducible repeat (first | refine blk_drewN ?_ _ | refine blk_drew ?_ | refine blk_alloc ?_ _)); exact BK315.out)) : gb329 ≠ gb315)); clear HO319; clear HO322; clear HO325; clear HO328; clear BK315; clear HB; have HO319 := n0_; have HO322 := n1_; have HO325 := n2_; have HO328 := n3_; have BK315 := n4_; have HB := n5_; have BK329 := n6_; have GW329 := n7_; have GE329 := n8_; have NB315_329 := n9_; have NB329_315 := n10_; clear n0_ n1_ n2_ n3_ n4_ n5_ n6_ n7_ n8_ n9_ n10_; clear hb hbox hg; obtain ⟨Ao13, co13, eo13⟩ := Kd.N_slice HO325.out; subst eo13; have hnb14 := NB329_315.out; have hnc14 := NB315_329.out; have hcz15_0 : w12.cell? ⟨gb329, 0, none⟩ = some (.slice none 0 0) := (blk_cell BK329.out 0).trans rfl; have hcz15_1 : w12.cell? ⟨gb329, 1, none⟩ = some (.slice none 0 0) := (blk_cell BK329.out 1).trans rfl; have hfz15_0 := blk_frozen BK329.out 0; have hfz15_1 := blk_frozen BK329.out 1; obtain ⟨Ao16, co16, eo16⟩ := Kd.R_slice HO328.out; subst eo16))
    try go_simp
    go_loopg [9] k (fun kq v9 w' => ∃ (x9_1 : Int), v9 = .int .i64 x9_1 ∧ Aside0 (withelaw11_PostOne.l0 kq t317 t320 (wrap64 (Int.tmod a1 3)) x9_1 t323 t326 = some r) ∧ Aside0 (kq ≤ k) ∧ Aside0 (Kd.R Kd.string 9 w' w.heap.size (fun _ => True) v318 t317) ∧ Aside0 (Kd.N (Kd.slice 9 Kd.string) 25 w' w.heap.size (fun k_ => some k_ ≠ (v318 : Value).ownBlock ∧ some k_ ≠ ((.slice Ao13 t323.length co13) : Value).ownBlock ∧ some k_ ≠ ((.slice Ao16 t326.length co16) : Value).ownBlock ∧ k_ ≠ gb315 ∧ k_ ≠ gb329) v321 t320) ∧ Aside0 (Kd.N (Kd.slice 3 (Kd.int .i64)) 28 w' w.heap.size (fun k_ => some k_ ≠ (v318 : Value).ownBlock ∧ some k_ ≠ (v321 : Value).ownBlock ∧ some k_ ≠ ((.slice Ao16 t326.length co16) : Value).ownBlock ∧ k_ ≠ gb315 ∧ k_ ≠ gb329) (.slice Ao13 t323.length co13) t323) ∧ Aside0 (Kd.R (Kd.int .i64) 3 w' w.heap.size (fun _ => True) (.slice Ao16 t326.length co16) t326) ∧ Aside0 (w'.heap[gb315]? = some (.cells #[.int .u8 a0_0, .int .u8 a0_1, .int .u8 a0_2, .int .u8 a0_3, .int .u8 a0_4, .int .u8 a0_5] 41 (0, 0))) ∧ Aside0 (w'.heap[gb329]? = some (.cells #[(.slice Ao13 t323.length co13), (.slice Ao16 t326.length co16)] 30 (0, 0))) ∧ Aside0 (Below w.heap.size w w'))
    case atStart => exact ⟨(0), (by first | rfl | (simp; done) | (simp [*]; done)), H', ⟨Nat.le_refl _⟩, ⟨by (with_reducible repeat (first | apply Kd.R_alloc | apply Kd.R_drewN | apply Kd.R_drew)); exact Kd.R_mono (Kd.R_far (p := ⟨gb329, 1, none⟩) (Kd.R_far (p := ⟨gb329, 0, none⟩) (Kd.R_types HO319.out BK329.out (by decide)) (fun _ hk => hk.2) (.slice Ao13 t323.length co13)) (fun _ hk => hk.2) (.slice Ao16 t326.length co16)) (fun _ hk => trivial)⟩, ⟨by (with_reducible repeat (first | apply Kd.N_alloc | apply Kd.N_drewN | apply Kd.N_drew)); exact Kd.N_mono (Kd.N_far (p := ⟨gb329, 1, none⟩) (Kd.N_far (p := ⟨gb329, 0, none⟩) (Kd.N_mono HO322.out (fun k_ hk => (⟨hk, hk.2⟩ : _ ∧ k_ ≠ gb329))) (fun _ hk => hk.2) (.slice Ao13 t323.length co13)) (fun _ hk => hk.2) (.slice Ao16 t326.length co16)) (fun _ hk => ⟨hk.1.1.1.1.1, ⟨hk.1.1.1.2, ⟨hk.1.1.2, ⟨hk.1.1.1.1.2, hk.1.2⟩⟩⟩⟩)⟩, ⟨by (with_reducible repeat (first | apply Kd.N_alloc | apply Kd.N_drewN | apply Kd.N_drew)); exact Kd.N_mono (Kd.N_far (p := ⟨gb329, 1, none⟩) (Kd.N_far (p := ⟨gb329, 0, none⟩) (Kd.N_mono HO325.out (fun k_ hk => (⟨hk, hk.2⟩ : _ ∧ k_ ≠ gb329))) (fun _ hk => hk.2) (.slice Ao13 t323.length co13)) (fun _ hk => hk.2) (.slice Ao16 t326.length co16)) (fun _ hk => ⟨hk.1.1.2.1, ⟨hk.1.1.2.2.1, ⟨hk.1.1.1, ⟨hk.1.1.2.2.2, hk.1.2⟩⟩⟩⟩)⟩, ⟨by (with_reducible repeat (first | apply Kd.R_alloc | apply Kd.R_drewN | apply Kd.R_drew)); exact Kd.R_mono (Kd.R_far (p := ⟨gb329, 1, none⟩) (Kd.R_far (p := ⟨gb329, 0, none⟩) (Kd.R_types HO328.out BK329.out (by decide)) (fun _ hk => hk.2) (.slice Ao13 t323.length co13)) (fun _ hk => hk.2) (.slice Ao16 t326.length co16)) (fun _ hk => trivial)⟩, ⟨by (with_reducible repeat (first | refine blk_drewN ?_ _ | refine blk_drew ?_ | refine blk_alloc ?_ _)); refine blk_far ?_ NB315_329.out _; (with_reducible repeat (first | refine blk_drewN ?_ _ | refine blk_drew ?_ | refine blk_alloc ?_ _)); refine blk_far ?_ NB315_329.out _; (with_reducible repeat (first | refine blk_drewN ?_ _ | refine blk_drew ?_ | refine blk_alloc ?_ _)); exact BK315.out⟩, ⟨by (with_reducible repeat (first | refine blk_drewN ?_ _ | refine blk_drew ?_ | refine blk_alloc ?_ _)); refine blk_put (cs := #[.slice Ao13 t323.length co13, .slice none 0 0]) ?_ 1 _ rfl; (with_reducible repeat (first | refine blk_drewN ?_ _ | refine blk_drew ?_ | refine blk_alloc ?_ _)); refine blk_put (cs := #[.slice none 0 0, .slice none 0 0]) ?_ 0 _ rfl; (with_reducible repeat (first | refine blk_drewN ?_ _ | refine blk_drew ?_ | refine blk_alloc ?_ _)); exact BK329.out⟩, ⟨by repeat (first | (with_reducible first | exact HB.out | apply below_alloc | apply pw_below_drewN | apply below_drew1 | refine below_set ?_ GE315.out | refine below_set ?_ GE329.out) | exact HB.out)⟩⟩
    case round =>
      clear H'
      try clear c1
      try clear p2
      try clear c4
      try clear c6
      try clear p6
      try clear c7
      try clear c14
      try clear hcz10_0
      try clear hcz10_1
      try clear hcz10_2
      try clear hcz10_3
      try clear hcz10_4
      try clear hcz10_5
      try clear hcz15_0
      try clear hcz15_1
      try clear hfz10_0
      try clear hfz10_1
      try clear hfz10_2
      try clear hfz10_3
      try clear hfz10_4
      try clear hfz10_5
      try clear hfz15_0
      try clear hfz15_1
      obtain ⟨x9_1, rfl, HA, HK1, HO_5, HO_6, HO_330000, HO_330001, BK315, BK329, HB⟩ := hrel
      cases gk with
      | zero => exact absurd HA.out (by simp [withelaw11_PostOne.l0])
      | succ k1 =>
        have H := HA.out
        clear HA
        simp only [withelaw11_PostOne.l0] at H
        by_cases c17 : x9_1 < 2
        · rw [if_pos c17] at H
          have c17b0 : decide (x9_1 < 2) = true := decide_eq_true c17
          clear c17
          by_cases c18 : 0 ≤ x9_1
          · rw [if_pos c18] at H
            have c18b0 : decide (0 ≤ x9_1) = true := decide_eq_true c18
            clear c18
            by_cases c19 : x9_1 < (t317.length : Int)
            · rw [if_pos c19] at H
              have c19b0 : decide (x9_1 < (t317.length : Int)) = true := decide_eq_true c19
              clear c19
              replace H := Option.bind_eq_some_iff.mp H
              obtain ⟨⟨t331, t332⟩, A200, H⟩ := H
              replace H : (if t332 = true then (if x9_1 < (t326.length : Int) then (withelaw11_PostOne.j1 k1 t317 t320 (wrap64 (Int.tmod a1 3)) x9_1 (t331 != ((rd t326 x9_1) == (wrap64 (Int.tmod a1 3)))) t323 t326) else (none)) else (withelaw11_PostOne.j1 k1 t317 t320 (wrap64 (Int.tmod a1 3)) x9_1 true t323 t326)) = some r := H
              have A20 := Aside0.mk A200
              clear A200
              have HC21 := Aside0.mk H
              clear H
              try go_wp2
              have n0_ := Aside0.mk (Kd.R_drew HO_5.out)
              have n1_ := Aside0.mk (Kd.N_drew HO_6.out)
              have n2_ := Aside0.mk (Kd.N_drew HO_330000.out)
              have n3_ := Aside0.mk (Kd.R_drew HO_330001.out)
              have n4_ := Aside0.mk (blk_drew BK315.out)
              have n5_ := Aside0.mk (blk_drew BK329.out)
              have n6_ := Aside0.mk (below_drew1 HB.out)
              clear HO_5
              clear HO_6
              clear HO_330000
              clear HO_330001
              clear BK315
              clear BK329
              clear HB
              have HO_5 := n0_
              have HO_6 := n1_
              have HO_330000 := n2_
              have HO_330001 := n3_
              have BK315 := n4_
              have BK329 := n5_
              have HB := n6_
              clear n0_ n1_ n2_ n3_ n4_ n5_ n6_
              obtain ⟨Ao23, co23, eo23⟩ := Kd.R_slice HO_5.out
              (first | subst eo23 | (injection eo23 with f1_ f2_ f3_; have f4_ := f1_.symm; have f5_ := f3_.symm; clear f1_ f2_ f3_; subst f4_; subst f5_))
              have p330 : 0 ≤ (x9_1 : Int) := of_decide_eq_true (by first | (with_reducible assumption) | assumption)
              have q330 : x9_1 < (t317.length : Int) := of_decide_eq_true (by first | (with_reducible assumption) | assumption)
              obtain ⟨ad330, e330, hx330_0⟩ := Kd.at_string (Kd.R_reads' HO_5.out).2.2 x9_1 p330 q330
              cases e330
              replace p330 := eq_true p330
              replace q330 := eq_true q330
              obtain ⟨Ao24, co24, eo24⟩ := Kd.N_slice HO_6.out
              (first | subst eo24 | (injection eo24 with f1_ f2_ f3_; have f4_ := f1_.symm; have f5_ := f3_.symm; clear f1_ f2_ f3_; subst f4_; subst f5_))
              refine start_ (n := 15) (S := fun w' => w'.cell? ⟨gb329, 0, none⟩ = some (.slice Ao13 t323.length co13) ∧ w'.cell? ⟨gb329, 1, none⟩ = some (.slice Ao16 t326.length co16) ∧ w'.cell? (ad330.add (x9_1).toNat) = some (.string (rdOf ByteArray.empty t317 x9_1))) (ds := []) #[false, false, false, false, false, false, false, false, false, false, false, false, false, false, false] (by kernel_rfl) rfl rfl ⟨(blk_cell BK329.out 0).trans rfl, (blk_cell BK329.out 1).trans rfl, hx330_0⟩ (fun hHeld => ?_); refine with_tabW withelaw11_PostOne.tab9 withelaw11_PostOne.bits9 (fun HT_ HW_ => ?_)
              generalize wr.drew = w22 at HO_5 HO_6 HO_330000 HO_330001 BK315 BK329 HB hx330_0 hHeld ⊢
              refine pure_ (i := 0) (N := some 31) (v := ?_) (a' := ?_) #[true, false, false, false, false, false, false, false, false, false, false, false, false, false, false] rfl rfl (any_of HT_.out (by kernel_rfl)) (fun _ _ _ h => h) (Or.inl ⟨by rfl, ?_⟩) ?_ ?_
              rotate_left
              · intro w'
                go_simp
                with_reducible rfl
              rotate_left
              · simp only [Act.put, List.setIfInBounds_toArray, List.set_cons_zero, List.set_cons_succ, i64_w, i32_w]
                rfl
              refine pure_ (i := 1) (N := some 32) (v := ?_) (a' := ?_) #[true, true, false, false, false, false, false, false, false, false, false, false, false, false, false] rfl rfl (any_of HT_.out (by kernel_rfl)) (fun _ _ _ h => h) (Or.inl ⟨by rfl, ?_⟩) ?_ ?_
              rotate_left
              · intro w'
                go_simp
                with_reducible rfl
              rotate_left
              · simp only [Act.put, List.setIfInBounds_toArray, List.set_cons_zero, List.set_cons_succ, i64_w, i32_w]
                rfl
              refine pure_ (i := 2) (N := some 33) (v := ?_) (a' := ?_) #[true, true, true, false, false, false, false, false, false, false, false, false, false, false, false] rfl rfl (any_of HT_.out (by kernel_rfl)) (fun _ _ _ h => h) (Or.inl ⟨by rfl, ?_⟩) ?_ ?_
              rotate_left
              · intro w'
                go_simp
                with_reducible rfl
              rotate_left
              · simp only [Act.put, List.setIfInBounds_toArray, List.set_cons_zero, List.set_cons_succ, i64_w, i32_w]
                rfl
              refine pure_ (i := 4) (N := some 35) (v := ?_) (a' := ?_) #[true, true, true, false, true, false, false, false, false, false, false, false, false, false, false] rfl rfl (any_of HT_.out (by kernel_rfl)) (fun _ _ _ h => h) (Or.inl ⟨by rfl, ?_⟩) ?_ ?_
              rotate_left
              · intro w'
                go_simp
                with_reducible rfl
              rotate_left
              · simp only [Act.put, List.setIfInBounds_toArray, List.set_cons_zero, List.set_cons_succ, i64_w, i32_w]
                rfl
              refine pure_ (i := 6) (N := some 37) (v := ?_) (a' := ?_) #[true, true, true, false, true, false, true, false, false, false, false, false, false, false, false] rfl rfl (any_of HT_.out (by kernel_rfl)) (fun _ _ _ h => h) (Or.inl ⟨by rfl, ?_⟩) ?_ ?_
              rotate_left
              · intro w'
                go_simp
                with_reducible rfl
              rotate_left
              · simp only [Act.put, List.setIfInBounds_toArray, List.set_cons_zero, List.set_cons_succ, i64_w, i32_w]
                rfl
              refine pure_ (i := 7) (N := some 38) (v := ?_) (a' := ?_) #[true, true, true, false, true, false, true, true, false, false, false, false, false, false, false] rfl rfl (any_of HT_.out (by kernel_rfl)) (fun _ _ _ h => h) (Or.inl ⟨by rfl, ?_⟩) ?_ ?_
              rotate_left
              · intro w'
                go_simp
                with_reducible rfl
              rotate_left
              · simp only [Act.put, List.setIfInBounds_toArray, List.set_cons_zero, List.set_cons_succ, i64_w, i32_w]
                rfl
              refine take_ (i := 3) (N := some 34) (v := ?_) (a' := ?_) #[true, true, true, true, true, false, true, true, false, false, false, false, false, false, false] rfl rfl (take_ofW HT_.out HW_.out (by kernel_rfl)) (fun _ _ _ h => h) (Or.inl ⟨by rfl, ?_⟩) hHeld ?_ ?_
              rotate_left
              · rintro w' ⟨s0, s1, s2⟩
                go_simp
                with_reducible rfl
              rotate_left
              · simp only [Act.put, List.setIfInBounds_toArray, List.set_cons_zero, List.set_cons_succ, i64_w, i32_w]
                rfl
              refine pure_ (i := 5) (N := some 36) (v := ?_) (a' := ?_) #[true, true, true, true, true, true, true, true, false, false, false, false, false, false, false] rfl rfl (any_of HT_.out (by kernel_rfl)) (fun _ _ _ h => h) (Or.inl ⟨by rfl, ?_⟩) ?_ ?_
              rotate_left
              · intro w'
                go_simp
                with_reducible rfl
              rotate_left
              · simp only [Act.put, List.setIfInBounds_toArray, List.set_cons_zero, List.set_cons_succ, i64_w, i32_w]
                rfl
              refine take_ (i := 8) (N := some 39) (v := ?_) (a' := ?_) #[true, true, true, true, true, true, true, true, true, false, false, false, false, false, false] rfl rfl (take_ofW HT_.out HW_.out (by kernel_rfl)) (fun _ _ _ h => h) (Or.inl ⟨by rfl, ?_⟩) hHeld ?_ ?_
              rotate_left
              · rintro w' ⟨s0, s1, s2⟩
                go_simp
                with_reducible rfl
              rotate_left
              · simp only [Act.put, List.setIfInBounds_toArray, List.set_cons_zero, List.set_cons_succ, i64_w, i32_w]
                rfl
              refine one_ (i := 9) (N := some 40) #[true, true, true, true, true, true, true, true, true, true, false, false, false, false, false] rfl rfl (one_of HT_.out (by kernel_rfl)) (by decide) (fun K hK => ?_)
              refine goes_ Tryd.func10 (by kernel_rfl) rfl #[.agg #[.int .i64 1, .int .i64 0, .string (rdOf ByteArray.empty t317 x9_1), .int .i64 (wrap64 (Int.tmod a1 3)), .slice none 0 0], .slice (some ad330) t317.length co23, .slice Ao24 t320.length co24, .agg #[.slice Ao13 t323.length co13, .slice Ao16 t326.length co16]] (by rfl) rfl rfl (by (try simp only [List.map_toArray, List.map_cons, List.map_nil]); first | done | rfl | (simp only [List.length_drop, List.length_take]; rfl)) ?_
              refine (post_Holds.calls k1 1 0 (rdOf ByteArray.empty t317 x9_1) (wrap64 (Int.tmod a1 3)) _ _ ([] : List (S24)) _ _ t317 _ _ t320 _ _ t323 _ _ t326 t331 t332 _ ?side1 ?side2 ?side3 ?side4 ?side5 ?side6 ?side7 ?side8 ?side9 ?side10 A20.out).mono ?_
              (case side1 => exact Kd.C_nil _ _)
              (case side2 => exact Nat.le_refl _)
              (case side3 => repeat (first | exact (Kd.R_reads' HO_5.out).2.2 | (with_reducible refine Kd.C_alloc ?_ _) | (with_reducible refine Kd.C_drewN ?_ _) | (with_reducible refine Kd.C_drew ?_)))
              (case side4 => exact (Kd.R_reads' HO_5.out).2.1)
              (case side5 => repeat (first | exact (Kd.N_reads' HO_6.out).2.2 | (with_reducible refine Kd.C_alloc ?_ _) | (with_reducible refine Kd.C_drewN ?_ _) | (with_reducible refine Kd.C_drew ?_)))
              (case side6 => exact (Kd.N_reads' HO_6.out).2.1)
              (case side7 => repeat (first | exact (Kd.N_reads' HO_330000.out).2.2 | (with_reducible refine Kd.C_alloc ?_ _) | (with_reducible refine Kd.C_drewN ?_ _) | (with_reducible refine Kd.C_drew ?_)))
              (case side8 => exact (Kd.N_reads' HO_330000.out).2.1)
              (case side9 => repeat (first | exact (Kd.R_reads' HO_330001.out).2.2 | (with_reducible refine Kd.C_alloc ?_ _) | (with_reducible refine Kd.C_drewN ?_ _) | (with_reducible refine Kd.C_drew ?_)))
              (case side10 => exact (Kd.R_reads' HO_330001.out).2.1)
              rintro e w25 ⟨rfl, hb⟩
              have HS2_ := (hb.cell (World.block_lt_of_cell? _ _ (hHeld.2.2))).trans (hHeld.2.2)
              refine ⟨_, rfl, ?_⟩
              have n0_ := Aside0.mk (Kd.R_below (by (with_reducible repeat (first | apply Kd.R_alloc | apply Kd.R_drewN | apply Kd.R_drew)); exact HO_5.out) hb)
              have n1_ := Aside0.mk (Kd.N_below (by (with_reducible repeat (first | apply Kd.N_alloc | apply Kd.N_drewN | apply Kd.N_drew)); exact HO_6.out) hb)
              have n2_ := Aside0.mk (Kd.N_below (by (with_reducible repeat (first | apply Kd.N_alloc | apply Kd.N_drewN | apply Kd.N_drew)); exact HO_330000.out) hb)
              have n3_ := Aside0.mk (Kd.R_below (by (with_reducible repeat (first | apply Kd.R_alloc | apply Kd.R_drewN | apply Kd.R_drew)); exact HO_330001.out) hb)
              have n4_ := Aside0.mk (blk_below (g := gb315) (o := .cells #[.int .u8 a0_0, .int .u8 a0_1, .int .u8 a0_2, .int .u8 a0_3, .int .u8 a0_4, .int .u8 a0_5] 41 (0, 0)) (by (with_reducible repeat (first | refine blk_drewN ?_ _ | refine blk_drew ?_ | refine blk_alloc ?_ _)); exact BK315.out) hb)
              have n5_ := Aside0.mk (blk_below (g := gb329) (o := .cells #[.slice Ao13 t323.length co13, .slice Ao16 t326.length co16] 30 (0, 0)) (by (with_reducible repeat (first | refine blk_drewN ?_ _ | refine blk_drew ?_ | refine blk_alloc ?_ _)); exact BK329.out) hb)
              have n6_ := Aside0.mk (below_step (by repeat (first | (with_reducible first | exact HB.out | apply below_alloc | apply pw_below_drewN | apply below_drew1 | refine below_set ?_ GE315.out | refine below_set ?_ GE329.out) | exact HB.out)) hb)
              clear HO_5
              clear HO_6
              clear HO_330000
              clear HO_330001
              clear BK315
              clear BK329
              clear HB
              have HO_5 := n0_
              have HO_6 := n1_
              have HO_330000 := n2_
              have HO_330001 := n3_
              have BK315 := n4_
              have BK329 := n5_
              have HB := n6_
              clear n0_ n1_ n2_ n3_ n4_ n5_ n6_
              (try clear hb)
              (try clear hb2)
              (try clear hk)
              (try clear hi)
              refine hK.out _ _ ⟨(blk_cell BK329.out 0).trans rfl, (blk_cell BK329.out 1).trans rfl, HS2_⟩ (fun hHeld => ?_)
              clear hK K
              refine norm_ (a' := ?_) ?_ ?_
              rotate_left
              · show Act.put _ (some 40) _ = _
                simp only [Act.put, List.setIfInBounds_toArray, List.set_cons_zero, List.set_cons_succ, i64_w, i32_w]
                rfl
              refine pure_ (i := 10) (N := some 30) (v := ?_) (a' := ?_) #[true, true, true, true, true, true, true, true, true, true, true, false, false, false, false] rfl rfl (any_of HT_.out (by kernel_rfl)) (fun _ _ _ h => h) (Or.inl ⟨by rfl, ?_⟩) ?_ ?_
              rotate_left
              · intro w'
                go_simp
                with_reducible rfl
              rotate_left
              · simp only [Act.put, List.setIfInBounds_toArray, List.set_cons_zero, List.set_cons_succ, i64_w, i32_w]
                rfl
              refine pure_ (i := 11) (N := some 41) (v := ?_) (a' := ?_) #[true, true, true, true, true, true, true, true, true, true, true, true, false, false, false] rfl rfl (any_of HT_.out (by kernel_rfl)) (fun _ _ _ h => h) (Or.inl ⟨by rfl, ?_⟩) ?_ ?_
              rotate_left
              · intro w'
                go_simp
                with_reducible rfl
              rotate_left
              · simp only [Act.put, List.setIfInBounds_toArray, List.set_cons_zero, List.set_cons_succ, i64_w, i32_w]
                rfl
              refine pure_ (i := 12) (N := some 42) (v := ?_) (a' := ?_) #[true, true, true, true, true, true, true, true, true, true, true, true, true, false, false] rfl rfl (any_of HT_.out (by kernel_rfl)) (fun _ _ _ h => h) (Or.inl ⟨by rfl, ?_⟩) ?_ ?_
              rotate_left
              · intro w'
                go_simp
                with_reducible rfl
              rotate_left
              · simp only [Act.put, List.setIfInBounds_toArray, List.set_cons_zero, List.set_cons_succ, i64_w, i32_w]
                rfl
              refine pure_ (i := 13) (N := some 10) (v := ?_) (a' := ?_) #[true, true, true, true, true, true, true, true, true, true, true, true, true, true, false] rfl rfl (any_of HT_.out (by kernel_rfl)) (fun _ _ _ h => h) (Or.inl ⟨by rfl, ?_⟩) ?_ ?_
              rotate_left
              · intro w'
                go_simp
                with_reducible rfl
              rotate_left
              · simp only [Act.put, List.setIfInBounds_toArray, List.set_cons_zero, List.set_cons_succ, i64_w, i32_w]
                rfl
              refine pure_ (i := 14) (N := some 11) (v := ?_) (a' := ?_) #[true, true, true, true, true, true, true, true, true, true, true, true, true, true, true] rfl rfl (any_of HT_.out (by kernel_rfl)) (fun _ _ _ h => h) (Or.inl ⟨by rfl, ?_⟩) ?_ ?_
              rotate_left
              · intro w'
                go_simp
                with_reducible rfl
              rotate_left
              · simp only [Act.put, List.setIfInBounds_toArray, List.set_cons_zero, List.set_cons_succ, i64_w, i32_w]
                rfl
              refine done_ (done_of HT_.out (by kernel_rfl)) ?_
              go_upto_region 10 with (fail)
              go_cut [55] (fun v55 wc => ∃ (kq : Nat) (x55_20 : Bool), v55 = .bool x55_20 ∧ Aside0 (withelaw11_PostOne.j1 kq t317 t320 (wrap64 (Int.tmod a1 3)) x9_1 x55_20 t323 t326 = some r) ∧ Aside0 (kq ≤ k1) ∧ Aside0 (Kd.R Kd.string 9 wc w.heap.size (fun _ => True) (.slice (some ad330) t317.length co23) t317) ∧ Aside0 (Kd.N (Kd.slice 9 Kd.string) 25 wc w.heap.size (fun k_ => some k_ ≠ ((.slice (some ad330) t317.length co23) : Value).ownBlock ∧ some k_ ≠ ((.slice Ao13 t323.length co13) : Value).ownBlock ∧ some k_ ≠ ((.slice Ao16 t326.length co16) : Value).ownBlock ∧ k_ ≠ gb315 ∧ k_ ≠ gb329) (.slice Ao24 t320.length co24) t320) ∧ Aside0 (Kd.N (Kd.slice 3 (Kd.int .i64)) 28 wc w.heap.size (fun k_ => some k_ ≠ ((.slice (some ad330) t317.length co23) : Value).ownBlock ∧ some k_ ≠ ((.slice Ao24 t320.length co24) : Value).ownBlock ∧ some k_ ≠ ((.slice Ao16 t326.length co16) : Value).ownBlock ∧ k_ ≠ gb315 ∧ k_ ≠ gb329) (.slice Ao13 t323.length co13) t323) ∧ Aside0 (Kd.R (Kd.int .i64) 3 wc w.heap.size (fun _ => True) (.slice Ao16 t326.length co16) t326) ∧ Aside0 (wc.heap[gb315]? = some (.cells #[.int .u8 a0_0, .int .u8 a0_1, .int .u8 a0_2, .int .u8 a0_3, .int .u8 a0_4, .int .u8 a0_5] 41 (0, 0))) ∧ Aside0 (wc.heap[gb329]? = some (.cells #[(.slice Ao13 t323.length co13), (.slice Ao16 t326.length co16)] 30 (0, 0))) ∧ Aside0 (Below w.heap.size w wc))
              case first =>
                have H := HC21.out
                clear HC21
                by_cases c26 : t332 = true
                · subst c26
                  have H1 : (if x9_1 < (t326.length : Int) then (withelaw11_PostOne.j1 k1 t317 t320 (wrap64 (Int.tmod a1 3)) x9_1 (t331 != ((rd t326 x9_1) == (wrap64 (Int.tmod a1 3)))) t323 t326) else (none)) = some r := by rw [if_pos rfl] at H; exact H
                  clear H
                  have H := H1
                  clear H1
                  by_cases c27 : x9_1 < (t326.length : Int)
                  · rw [if_pos c27] at H
                    have c27b0 : decide (x9_1 < (t326.length : Int)) = true := decide_eq_true c27
                    clear c27
                    (first | rw [c27b0] | (simp only [i64_w, i32_w]; rw [c27b0]) | skip)
                    have H' := Aside0.mk H
                    clear H
                    have hnb28 := NB329_315.out
                    have hnc28 := NB315_329.out
                    have hcz29_0 : w25.cell? ⟨gb329, 0, none⟩ = some (.slice Ao13 t323.length co13) := (blk_cell BK329.out 0).trans rfl
                    have hcz29_1 : w25.cell? ⟨gb329, 1, none⟩ = some (.slice Ao16 t326.length co16) := (blk_cell BK329.out 1).trans rfl
                    have hfz29_0 := blk_frozen BK329.out 0
                    have hfz29_1 := blk_frozen BK329.out 1
                    have p333 : 0 ≤ (x9_1 : Int) := of_decide_eq_true (by first | (with_reducible assumption) | assumption)
                    have q333 : x9_1 < (t326.length : Int) := of_decide_eq_true (by first | (with_reducible assumption) | assumption)
                    obtain ⟨ad333, e333, hx333_0⟩ := Kd.at_int (Kd.R_reads' HO_330001.out).2.2 x9_1 p333 q333
                    cases e333
                    replace p333 := eq_true p333
                    replace q333 := eq_true q333
                    go_wp2
                    go_meet
                    case rel => exact ⟨_, ((t331 != ((rd t326 x9_1) == (wrap64 (Int.tmod a1 3))))), (by first | rfl | (simp; done) | (simp [*]; done)), H', ⟨by have := HK1.out; first | omega | exact Nat.le_refl _⟩, ⟨by (with_reducible repeat (first | apply Kd.R_alloc | apply Kd.R_drewN | apply Kd.R_drew)); exact HO_5.out⟩, ⟨by (with_reducible repeat (first | apply Kd.N_alloc | apply Kd.N_drewN | apply Kd.N_drew)); exact HO_6.out⟩, ⟨by (with_reducible repeat (first | apply Kd.N_alloc | apply Kd.N_drewN | apply Kd.N_drew)); exact HO_330000.out⟩, ⟨by (with_reducible repeat (first | apply Kd.R_alloc | apply Kd.R_drewN | apply Kd.R_drew)); exact HO_330001.out⟩, ⟨by (with_reducible repeat (first | refine blk_drewN ?_ _ | refine blk_drew ?_ | refine blk_alloc ?_ _)); exact BK315.out⟩, ⟨by (with_reducible repeat (first | refine blk_drewN ?_ _ | refine blk_drew ?_ | refine blk_alloc ?_ _)); exact BK329.out⟩, ⟨by repeat (first | (with_reducible first | exact HB.out | apply below_alloc | apply pw_below_drewN | apply below_drew1 | refine below_set ?_ GE315.out | refine below_set ?_ GE329.out) | exact HB.out)⟩⟩
                  · rw [if_neg c27] at H
                    exact absurd H (by simp)
                · replace c26 := Bool.eq_false_iff.mpr c26
                  subst c26
                  have H1 : (withelaw11_PostOne.j1 k1 t317 t320 (wrap64 (Int.tmod a1 3)) x9_1 true t323 t326) = some r := by rw [if_neg (show ¬ (false = true) by decide)] at H; exact H
                  clear H
                  have H := H1
                  clear H1
                  have H' := Aside0.mk H
                  clear H
                  go_wp2
                  go_meet
                  case rel => exact ⟨_, (true), (by first | rfl | (simp; done) | (simp [*]; done)), H', ⟨by have := HK1.out; first | omega | exact Nat.le_refl _⟩, ⟨by (with_reducible repeat (first | apply Kd.R_alloc | apply Kd.R_drewN | apply Kd.R_drew)); exact HO_5.out⟩, ⟨by (with_reducible repeat (first | apply Kd.N_alloc | apply Kd.N_drewN | apply Kd.N_drew)); exact HO_6.out⟩, ⟨by (with_reducible repeat (first | apply Kd.N_alloc | apply Kd.N_drewN | apply Kd.N_drew)); exact HO_330000.out⟩, ⟨by (with_reducible repeat (first | apply Kd.R_alloc | apply Kd.R_drewN | apply Kd.R_drew)); exact HO_330001.out⟩, ⟨by (with_reducible repeat (first | refine blk_drewN ?_ _ | refine blk_drew ?_ | refine blk_alloc ?_ _)); exact BK315.out⟩, ⟨by (with_reducible repeat (first | refine blk_drewN ?_ _ | refine blk_drew ?_ | refine blk_alloc ?_ _)); exact BK329.out⟩, ⟨by repeat (first | (with_reducible first | exact HB.out | apply below_alloc | apply pw_below_drewN | apply below_drew1 | refine below_set ?_ GE315.out | refine below_set ?_ GE329.out) | exact HB.out)⟩⟩
              case rest =>
                clear HC21
                try clear c1
                try clear c2
                try clear p2
                try clear p3
                try clear q3
                try clear hx3
                try clear c4
                try clear c6
                try clear p6
                try clear c7
                try clear c10
                try clear c14
                try clear c17
                try clear c17b0
                try clear c18
                try clear c18b0
                try clear c19
                try clear c19b0
                try clear c26
                try clear c27
                try clear c27b0
                try clear c28
                try clear hcz10_0
                try clear hcz10_1
                try clear hcz10_2
                try clear hcz10_3
                try clear hcz10_4
                try clear hcz10_5
                try clear hcz15_0
                try clear hcz15_1
                try clear hcz29_0
                try clear hcz29_1
                try clear hfz10_0
                try clear hfz10_1
                try clear hfz10_2
                try clear hfz10_3
                try clear hfz10_4
                try clear hfz10_5
                try clear hfz15_0
                try clear hfz15_1
                try clear hfz29_0
                try clear hfz29_1
                try clear hx330_0
                try clear hx333_0
                try clear p2
                try clear p330
                try clear p333
                try clear p6
                try clear q330
                try clear q333
                obtain ⟨kq, x55_20, rfl, HA, HJ20, HO_5, HO_6, HO_330000, HO_330001, BK315, BK329, HB⟩ := hcut
                cases kq with
                | zero => exact absurd HA.out (by simp [withelaw11_PostOne.j1])
                | succ kj20 =>
                  have H := HA.out
                  clear HA
                  simp only [withelaw11_PostOne.j1] at H
                  by_cases c30 : x55_20 = true
                  · subst c30
                    have H1 : (none) = some r := by rw [if_pos rfl] at H; exact H
                    clear H
                    have H := H1
                    clear H1
                    exact absurd H (by simp)
                  · replace c30 := Bool.eq_false_iff.mpr c30
                    subst c30
                    have H1 : (withelaw11_PostOne.l1 kj20 t317 t320 (wrap64 (Int.tmod a1 3)) x9_1 0 t323 t326) = some r := by rw [if_neg (show ¬ (false = true) by decide)] at H; exact H
                    clear H
                    have H := H1
                    clear H1
                    have H' := Aside0.mk H
                    clear H
                    go_wp2
                    try go_simp
                    go_loopg [12] kj20 (fun kq v12 w' => ∃ (x12_3 : Int), v12 = .int .i64 x12_3 ∧ Aside0 (withelaw11_PostOne.l1 kq t317 t320 (wrap64 (Int.tmod a1 3)) x9_1 x12_3 t323 t326 = some r) ∧ Aside0 (kq ≤ kj20) ∧ Aside0 (Kd.R Kd.string 9 w' w.heap.size (fun _ => True) (.slice (some ad330) t317.length co23) t317) ∧ Aside0 (Kd.N (Kd.slice 9 Kd.string) 25 w' w.heap.size (fun k_ => some k_ ≠ ((.slice (some ad330) t317.length co23) : Value).ownBlock ∧ some k_ ≠ ((.slice Ao13 t323.length co13) : Value).ownBlock ∧ some k_ ≠ ((.slice Ao16 t326.length co16) : Value).ownBlock ∧ k_ ≠ gb315 ∧ k_ ≠ gb329) (.slice Ao24 t320.length co24) t320) ∧ Aside0 (Kd.N (Kd.slice 3 (Kd.int .i64)) 28 w' w.heap.size (fun k_ => some k_ ≠ ((.slice (some ad330) t317.length co23) : Value).ownBlock ∧ some k_ ≠ ((.slice Ao24 t320.length co24) : Value).ownBlock ∧ some k_ ≠ ((.slice Ao16 t326.length co16) : Value).ownBlock ∧ k_ ≠ gb315 ∧ k_ ≠ gb329) (.slice Ao13 t323.length co13) t323) ∧ Aside0 (Kd.R (Kd.int .i64) 3 w' w.heap.size (fun _ => True) (.slice Ao16 t326.length co16) t326) ∧ Aside0 (w'.heap[gb315]? = some (.cells #[.int .u8 a0_0, .int .u8 a0_1, .int .u8 a0_2, .int .u8 a0_3, .int .u8 a0_4, .int .u8 a0_5] 41 (0, 0))) ∧ Aside0 (w'.heap[gb329]? = some (.cells #[(.slice Ao13 t323.length co13), (.slice Ao16 t326.length co16)] 30 (0, 0))) ∧ Aside0 (Below w.heap.size w w'))
                    case atStart => exact ⟨(0), (by first | rfl | (simp; done) | (simp [*]; done)), H', ⟨Nat.le_refl _⟩, ⟨by (with_reducible repeat (first | apply Kd.R_alloc | apply Kd.R_drewN | apply Kd.R_drew)); exact HO_5.out⟩, ⟨by (with_reducible repeat (first | apply Kd.N_alloc | apply Kd.N_drewN | apply Kd.N_drew)); exact HO_6.out⟩, ⟨by (with_reducible repeat (first | apply Kd.N_alloc | apply Kd.N_drewN | apply Kd.N_drew)); exact HO_330000.out⟩, ⟨by (with_reducible repeat (first | apply Kd.R_alloc | apply Kd.R_drewN | apply Kd.R_drew)); exact HO_330001.out⟩, ⟨by (with_reducible repeat (first | refine blk_drewN ?_ _ | refine blk_drew ?_ | refine blk_alloc ?_ _)); exact BK315.out⟩, ⟨by (with_reducible repeat (first | refine blk_drewN ?_ _ | refine blk_drew ?_ | refine blk_alloc ?_ _)); exact BK329.out⟩, ⟨by repeat (first | (with_reducible first | exact HB.out | apply below_alloc | apply pw_below_drewN | apply below_drew1 | refine below_set ?_ GE315.out | refine below_set ?_ GE329.out) | exact HB.out)⟩⟩
                    case round =>
                      clear H'
                      try clear c1
                      try clear c2
                      try clear p2
                      try clear c3
                      try clear p3
                      try clear q3
                      try clear hx3
                      try clear c4
                      try clear c6
                      try clear p6
                      try clear c7
                      try clear c10
                      try clear c14
                      try clear c17
                      try clear c17b0
                      try clear c18
                      try clear c18b0
                      try clear c19
                      try clear c19b0
                      try clear c26
                      try clear c27
                      try clear c27b0
                      try clear c28
                      try clear c30
                      try clear hcz10_0
                      try clear hcz10_1
                      try clear hcz10_2
                      try clear hcz10_3
                      try clear hcz10_4
                      try clear hcz10_5
                      try clear hcz15_0
                      try clear hcz15_1
                      try clear hcz29_0
                      try clear hcz29_1
                      try clear hfz10_0
                      try clear hfz10_1
                      try clear hfz10_2
                      try clear hfz10_3
                      try clear hfz10_4
                      try clear hfz10_5
                      try clear hfz15_0
                      try clear hfz15_1
                      try clear hfz29_0
                      try clear hfz29_1
                      try clear hx330_0
                      try clear hx333_0
                      try clear p2
                      try clear p3
                      try clear p330
                      try clear p333
                      try clear p6
                      try clear q3
                      try clear q330
                      try clear q333
                      obtain ⟨x12_3, rfl, HA, HK3, HO_5, HO_6, HO_330000, HO_330001, BK315, BK329, HB⟩ := hrel
                      cases gk with
                      | zero => exact absurd HA.out (by simp [withelaw11_PostOne.l1])
                      | succ k3 =>
                        have H := HA.out
                        clear HA
                        simp only [withelaw11_PostOne.l1] at H
                        by_cases c31 : x12_3 < 2
                        · rw [if_pos c31] at H
                          have c31b0 : decide (x12_3 < 2) = true := decide_eq_true c31
                          clear c31
                          by_cases c32 : 0 ≤ x9_1
                          · rw [if_pos c32] at H
                            have c32b0 : decide (0 ≤ x9_1) = true := decide_eq_true c32
                            clear c32
                            by_cases c33 : x9_1 < (t320.length : Int)
                            · rw [if_pos c33] at H
                              have c33b0 : decide (x9_1 < (t320.length : Int)) = true := decide_eq_true c33
                              clear c33
                              by_cases c34 : 0 ≤ x12_3
                              · rw [if_pos c34] at H
                                have c34b0 : decide (0 ≤ x12_3) = true := decide_eq_true c34
                                clear c34
                                by_cases c35 : x12_3 < ((rd_L2 t320 x9_1).length : Int)
                                · rw [if_pos c35] at H
                                  have c35b0 : decide (x12_3 < ((rd_L2 t320 x9_1).length : Int)) = true := decide_eq_true c35
                                  clear c35
                                  replace H := Option.bind_eq_some_iff.mp H
                                  obtain ⟨⟨t336, t337⟩, A360, H⟩ := H
                                  replace H : (if t337 = true then (if x9_1 < (t323.length : Int) then (if x12_3 < ((rd_L3 t323 x9_1).length : Int) then (if (t336 != ((rd (rd_L3 t323 x9_1) x12_3) == (wrap64 (Int.tmod a1 3)))) = true then (none) else (withelaw11_PostOne.l1 k3 t317 t320 (wrap64 (Int.tmod a1 3)) x9_1 (wrap64 (x12_3 + 1)) t323 t326)) else (none)) else (none)) else (none)) = some r := H
                                  have A36 := Aside0.mk A360
                                  clear A360
                                  by_cases c37 : t337 = true
                                  · subst c37
                                    have H1 : (if x9_1 < (t323.length : Int) then (if x12_3 < ((rd_L3 t323 x9_1).length : Int) then (if (t336 != ((rd (rd_L3 t323 x9_1) x12_3) == (wrap64 (Int.tmod a1 3)))) = true then (none) else (withelaw11_PostOne.l1 k3 t317 t320 (wrap64 (Int.tmod a1 3)) x9_1 (wrap64 (x12_3 + 1)) t323 t326)) else (none)) else (none)) = some r := by rw [if_pos rfl] at H; exact H
                                    clear H
                                    have H := H1
                                    clear H1
                                    by_cases c38 : x9_1 < (t323.length : Int)
                                    · rw [if_pos c38] at H
                                      have c38b0 : decide (x9_1 < (t323.length : Int)) = true := decide_eq_true c38
                                      clear c38
                                      by_cases c39 : x12_3 < ((rd_L3 t323 x9_1).length : Int)
                                      · rw [if_pos c39] at H
                                        have c39b0 : decide (x12_3 < ((rd_L3 t323 x9_1).length : Int)) = true := decide_eq_true c39
                                        clear c39
                                        by_cases c40 : (t336 != ((rd (rd_L3 t323 x9_1) x12_3) == (wrap64 (Int.tmod a1 3)))) = true
                                        · rw [if_pos c40] at H
                                          exact absurd H (by simp)
                                        · rw [if_neg c40] at H
                                          have c40b0 : (t336 != ((rd (rd_L3 t323 x9_1) x12_3) == (wrap64 (Int.tmod a1 3)))) = false := by simpa using c40
                                          (try (have c40b1 : decide (t336 = ((rd (rd_L3 t323 x9_1) x12_3) == (wrap64 (Int.tmod a1 3)))) = true := by simpa using c40))
                                          (try (have c40b2 : (t336 == ((rd (rd_L3 t323 x9_1) x12_3) == (wrap64 (Int.tmod a1 3)))) = true := by simpa using c40))
                                          clear c40
                                          have H' := Aside0.mk H
                                          clear H
                                          try go_wp2
                                          have n0_ := Aside0.mk (Kd.R_drew HO_5.out)
                                          have n1_ := Aside0.mk (Kd.N_drew HO_6.out)
                                          have n2_ := Aside0.mk (Kd.N_drew HO_330000.out)
                                          have n3_ := Aside0.mk (Kd.R_drew HO_330001.out)
                                          have n4_ := Aside0.mk (blk_drew BK315.out)
                                          have n5_ := Aside0.mk (blk_drew BK329.out)
                                          have n6_ := Aside0.mk (below_drew1 HB.out)
                                          clear HO_5
                                          clear HO_6
                                          clear HO_330000
                                          clear HO_330001
                                          clear BK315
                                          clear BK329
                                          clear HB
                                          have HO_5 := n0_
                                          have HO_6 := n1_
                                          have HO_330000 := n2_
                                          have HO_330001 := n3_
                                          have BK315 := n4_
                                          have BK329 := n5_
                                          have HB := n6_
                                          clear n0_ n1_ n2_ n3_ n4_ n5_ n6_
                                          have p334 : 0 ≤ (x9_1 : Int) := of_decide_eq_true (by first | (with_reducible assumption) | assumption)
                                          have q334 : x9_1 < (t320.length : Int) := of_decide_eq_true (by first | (with_reducible assumption) | assumption)
                                          obtain ⟨ad334, A334_0, c334_0, e334, hx334_0, hl334_0, hi334_0⟩ := at_L2 (Kd.N_reads' HO_6.out).2.2 x9_1 p334 q334
                                          cases e334
                                          obtain ⟨ce334, hce334, hMe334, hcc334⟩ := Kd.N_get HO_6.out [] x9_1 p334 (by first | exact q334 | exact of_decide_eq_true (by first | (with_reducible assumption) | assumption) | (have e_ := (Kd.N_reads' HO_6.out).1; omega))
                                          obtain ⟨ua334_0, uc334_0, rfl, ul334_0, ge334_0⟩ := Kd.FK_slice_open hMe334
                                          have hv334_0 := hcc334 0 _ rfl
                                          rw [Nat.add_zero, show ((Kd.slice 9 Kd.string)).sz = 1 from rfl, Nat.mul_one] at hv334_0
                                          replace hv334_0 := Option.some.inj (hv334_0.symm.trans hx334_0)
                                          injection hv334_0 with hva_ hvn_ hvc_
                                          rw [hva_] at ge334_0
                                          rw [hvc_] at ul334_0
                                          have HL334_0 := Aside0.mk (show Kd.V Kd.string 9 _ w.heap.size _ _ (rd_L2 t320 x9_1) from Kd.V_mk ul334_0 ge334_0)
                                          clear hva_ hvn_ hvc_ ge334_0 ul334_0
                                          clear hcc334 hce334
                                          have HR334_0 := Aside0.mk hi334_0
                                          have HC334_0 := Aside0.mk hl334_0
                                          clear hi334_0 hl334_0
                                          replace p334 := eq_true p334
                                          replace q334 := eq_true q334
                                          have p335 : 0 ≤ (x12_3 : Int) := of_decide_eq_true (by first | (with_reducible assumption) | assumption)
                                          have q335 : x12_3 < ((rd_L2 t320 x9_1).length : Int) := of_decide_eq_true (by first | (with_reducible assumption) | assumption)
                                          obtain ⟨ad335, e335, hx335_0⟩ := Kd.at_string (by repeat (first | (with_reducible exact HR334_0.out) | (with_reducible refine Kd.C_alloc ?_ _) | (with_reducible refine Kd.C_drewN ?_ _) | (with_reducible refine Kd.C_drew ?_) | exact HR334_0.out)) x12_3 p335 q335
                                          cases e335
                                          replace p335 := eq_true p335
                                          replace q335 := eq_true q335
                                          refine start_ (n := 19) (S := fun w' => w'.cell? ⟨gb329, 0, none⟩ = some (.slice Ao13 t323.length co13) ∧ w'.cell? ⟨gb329, 1, none⟩ = some (.slice Ao16 t326.length co16) ∧ w'.cell? (ad334.add (x9_1).toNat) = some (.slice (some ad335) (rd_L2 t320 x9_1).length c334_0) ∧ w'.cell? (ad335.add (x12_3).toNat) = some (.string (rdOf ByteArray.empty (rd_L2 t320 x9_1) x12_3))) (ds := []) #[false, false, false, false, false, false, false, false, false, false, false, false, false, false, false, false, false, false, false] (by kernel_rfl) rfl rfl ⟨(blk_cell BK329.out 0).trans rfl, (blk_cell BK329.out 1).trans rfl, hx334_0, hx335_0⟩ (fun hHeld => ?_); refine with_tabW withelaw11_PostOne.tab15 withelaw11_PostOne.bits15 (fun HT_ HW_ => ?_)
                                          generalize wr.drew = w41 at HO_5 HO_6 HO_330000 HO_330001 BK315 BK329 HB HL334_0 HR334_0 hx334_0 hx335_0 hHeld ⊢
                                          refine pure_ (i := 0) (N := some 61) (v := ?_) (a' := ?_) #[true, false, false, false, false, false, false, false, false, false, false, false, false, false, false, false, false, false, false] rfl rfl (any_of HT_.out (by kernel_rfl)) (fun _ _ _ h => h) (Or.inl ⟨by rfl, ?_⟩) ?_ ?_
                                          rotate_left
                                          · intro w'
                                            go_simp
                                            with_reducible rfl
                                          rotate_left
                                          · simp only [Act.put, List.setIfInBounds_toArray, List.set_cons_zero, List.set_cons_succ, i64_w, i32_w]
                                            rfl
                                          refine pure_ (i := 1) (N := some 62) (v := ?_) (a' := ?_) #[true, true, false, false, false, false, false, false, false, false, false, false, false, false, false, false, false, false, false] rfl rfl (any_of HT_.out (by kernel_rfl)) (fun _ _ _ h => h) (Or.inl ⟨by rfl, ?_⟩) ?_ ?_
                                          rotate_left
                                          · intro w'
                                            go_simp
                                            with_reducible rfl
                                          rotate_left
                                          · simp only [Act.put, List.setIfInBounds_toArray, List.set_cons_zero, List.set_cons_succ, i64_w, i32_w]
                                            rfl
                                          refine pure_ (i := 2) (N := some 63) (v := ?_) (a' := ?_) #[true, true, true, false, false, false, false, false, false, false, false, false, false, false, false, false, false, false, false] rfl rfl (any_of HT_.out (by kernel_rfl)) (fun _ _ _ h => h) (Or.inl ⟨by rfl, ?_⟩) ?_ ?_
                                          rotate_left
                                          · intro w'
                                            go_simp
                                            with_reducible rfl
                                          rotate_left
                                          · simp only [Act.put, List.setIfInBounds_toArray, List.set_cons_zero, List.set_cons_succ, i64_w, i32_w]
                                            rfl
                                          refine pure_ (i := 3) (N := some 64) (v := ?_) (a' := ?_) #[true, true, true, true, false, false, false, false, false, false, false, false, false, false, false, false, false, false, false] rfl rfl (any_of HT_.out (by kernel_rfl)) (fun _ _ _ h => h) (Or.inl ⟨by rfl, ?_⟩) ?_ ?_
                                          rotate_left
                                          · intro w'
                                            go_simp
                                            with_reducible rfl
                                          rotate_left
                                          · simp only [Act.put, List.setIfInBounds_toArray, List.set_cons_zero, List.set_cons_succ, i64_w, i32_w]
                                            rfl
                                          refine pure_ (i := 5) (N := some 66) (v := ?_) (a' := ?_) #[true, true, true, true, false, true, false, false, false, false, false, false, false, false, false, false, false, false, false] rfl rfl (any_of HT_.out (by kernel_rfl)) (fun _ _ _ h => h) (Or.inl ⟨by rfl, ?_⟩) ?_ ?_
                                          rotate_left
                                          · intro w'
                                            go_simp
                                            with_reducible rfl
                                          rotate_left
                                          · simp only [Act.put, List.setIfInBounds_toArray, List.set_cons_zero, List.set_cons_succ, i64_w, i32_w]
                                            rfl
                                          refine pure_ (i := 8) (N := some 69) (v := ?_) (a' := ?_) #[true, true, true, true, false, true, false, false, true, false, false, false, false, false, false, false, false, false, false] rfl rfl (any_of HT_.out (by kernel_rfl)) (fun _ _ _ h => h) (Or.inl ⟨by rfl, ?_⟩) ?_ ?_
                                          rotate_left
                                          · intro w'
                                            go_simp
                                            with_reducible rfl
                                          rotate_left
                                          · simp only [Act.put, List.setIfInBounds_toArray, List.set_cons_zero, List.set_cons_succ, i64_w, i32_w]
                                            rfl
                                          refine pure_ (i := 10) (N := some 71) (v := ?_) (a' := ?_) #[true, true, true, true, false, true, false, false, true, false, true, false, false, false, false, false, false, false, false] rfl rfl (any_of HT_.out (by kernel_rfl)) (fun _ _ _ h => h) (Or.inl ⟨by rfl, ?_⟩) ?_ ?_
                                          rotate_left
                                          · intro w'
                                            go_simp
                                            with_reducible rfl
                                          rotate_left
                                          · simp only [Act.put, List.setIfInBounds_toArray, List.set_cons_zero, List.set_cons_succ, i64_w, i32_w]
                                            rfl
                                          refine pure_ (i := 11) (N := some 72) (v := ?_) (a' := ?_) #[true, true, true, true, false, true, false, false, true, false, true, true, false, false, false, false, false, false, false] rfl rfl (any_of HT_.out (by kernel_rfl)) (fun _ _ _ h => h) (Or.inl ⟨by rfl, ?_⟩) ?_ ?_
                                          rotate_left
                                          · intro w'
                                            go_simp
                                            with_reducible rfl
                                          rotate_left
                                          · simp only [Act.put, List.setIfInBounds_toArray, List.set_cons_zero, List.set_cons_succ, i64_w, i32_w]
                                            rfl
                                          refine take_ (i := 4) (N := some 65) (v := ?_) (a' := ?_) #[true, true, true, true, true, true, false, false, true, false, true, true, false, false, false, false, false, false, false] rfl rfl (take_ofW HT_.out HW_.out (by kernel_rfl)) (fun _ _ _ h => h) (Or.inl ⟨by rfl, ?_⟩) hHeld ?_ ?_
                                          rotate_left
                                          · rintro w' ⟨s0, s1, s2, s3⟩
                                            go_simp
                                            with_reducible rfl
                                          rotate_left
                                          · simp only [Act.put, List.setIfInBounds_toArray, List.set_cons_zero, List.set_cons_succ, i64_w, i32_w]
                                            rfl
                                          refine pure_ (i := 6) (N := some 67) (v := ?_) (a' := ?_) #[true, true, true, true, true, true, true, false, true, false, true, true, false, false, false, false, false, false, false] rfl rfl (any_of HT_.out (by kernel_rfl)) (fun _ _ _ h => h) (Or.inl ⟨by rfl, ?_⟩) ?_ ?_
                                          rotate_left
                                          · intro w'
                                            go_simp
                                            with_reducible rfl
                                          rotate_left
                                          · simp only [Act.put, List.setIfInBounds_toArray, List.set_cons_zero, List.set_cons_succ, i64_w, i32_w]
                                            rfl
                                          refine take_ (i := 7) (N := some 68) (v := ?_) (a' := ?_) #[true, true, true, true, true, true, true, true, true, false, true, true, false, false, false, false, false, false, false] rfl rfl (take_ofW HT_.out HW_.out (by kernel_rfl)) (fun _ _ _ h => h) (Or.inl ⟨by rfl, ?_⟩) hHeld ?_ ?_
                                          rotate_left
                                          · rintro w' ⟨s0, s1, s2, s3⟩
                                            go_simp
                                            with_reducible rfl
                                          rotate_left
                                          · simp only [Act.put, List.setIfInBounds_toArray, List.set_cons_zero, List.set_cons_succ, i64_w, i32_w]
                                            rfl
                                          refine pure_ (i := 9) (N := some 70) (v := ?_) (a' := ?_) #[true, true, true, true, true, true, true, true, true, true, true, true, false, false, false, false, false, false, false] rfl rfl (any_of HT_.out (by kernel_rfl)) (fun _ _ _ h => h) (Or.inl ⟨by rfl, ?_⟩) ?_ ?_
                                          rotate_left
                                          · intro w'
                                            go_simp
                                            with_reducible rfl
                                          rotate_left
                                          · simp only [Act.put, List.setIfInBounds_toArray, List.set_cons_zero, List.set_cons_succ, i64_w, i32_w]
                                            rfl
                                          refine take_ (i := 12) (N := some 73) (v := ?_) (a' := ?_) #[true, true, true, true, true, true, true, true, true, true, true, true, true, false, false, false, false, false, false] rfl rfl (take_ofW HT_.out HW_.out (by kernel_rfl)) (fun _ _ _ h => h) (Or.inl ⟨by rfl, ?_⟩) hHeld ?_ ?_
                                          rotate_left
                                          · rintro w' ⟨s0, s1, s2, s3⟩
                                            go_simp
                                            with_reducible rfl
                                          rotate_left
                                          · simp only [Act.put, List.setIfInBounds_toArray, List.set_cons_zero, List.set_cons_succ, i64_w, i32_w]
                                            rfl
                                          refine one_ (i := 13) (N := some 74) #[true, true, true, true, true, true, true, true, true, true, true, true, true, true, false, false, false, false, false] rfl rfl (one_of HT_.out (by kernel_rfl)) (by decide) (fun K hK => ?_)
                                          refine goes_ Tryd.func10 (by kernel_rfl) rfl #[.agg #[.int .i64 2, .int .i64 x9_1, .string (rdOf ByteArray.empty (rd_L2 t320 x9_1) x12_3), .int .i64 (wrap64 (Int.tmod a1 3)), .slice none 0 0], .slice (some ad330) t317.length co23, .slice (some ad334) t320.length co24, .agg #[.slice Ao13 t323.length co13, .slice Ao16 t326.length co16]] (by rfl) rfl rfl (by (try simp only [List.map_toArray, List.map_cons, List.map_nil]); first | done | rfl | (simp only [List.length_drop, List.length_take]; rfl)) ?_
                                          refine (post_Holds.calls k3 2 x9_1 (rdOf ByteArray.empty (rd_L2 t320 x9_1) x12_3) (wrap64 (Int.tmod a1 3)) _ _ ([] : List (S24)) _ _ t317 _ _ t320 _ _ t323 _ _ t326 t336 true _ ?side1 ?side2 ?side3 ?side4 ?side5 ?side6 ?side7 ?side8 ?side9 ?side10 A36.out).mono ?_
                                          (case side1 => exact Kd.C_nil _ _)
                                          (case side2 => exact Nat.le_refl _)
                                          (case side3 => repeat (first | exact (Kd.R_reads' HO_5.out).2.2 | (with_reducible refine Kd.C_alloc ?_ _) | (with_reducible refine Kd.C_drewN ?_ _) | (with_reducible refine Kd.C_drew ?_)))
                                          (case side4 => exact (Kd.R_reads' HO_5.out).2.1)
                                          (case side5 => repeat (first | exact (Kd.N_reads' HO_6.out).2.2 | (with_reducible refine Kd.C_alloc ?_ _) | (with_reducible refine Kd.C_drewN ?_ _) | (with_reducible refine Kd.C_drew ?_)))
                                          (case side6 => exact (Kd.N_reads' HO_6.out).2.1)
                                          (case side7 => repeat (first | exact (Kd.N_reads' HO_330000.out).2.2 | (with_reducible refine Kd.C_alloc ?_ _) | (with_reducible refine Kd.C_drewN ?_ _) | (with_reducible refine Kd.C_drew ?_)))
                                          (case side8 => exact (Kd.N_reads' HO_330000.out).2.1)
                                          (case side9 => repeat (first | exact (Kd.R_reads' HO_330001.out).2.2 | (with_reducible refine Kd.C_alloc ?_ _) | (with_reducible refine Kd.C_drewN ?_ _) | (with_reducible refine Kd.C_drew ?_)))
                                          (case side10 => exact (Kd.R_reads' HO_330001.out).2.1)
                                          rintro e w42 ⟨rfl, hb⟩
                                          have HS2_ := (hb.cell (World.block_lt_of_cell? _ _ (hHeld.2.2.1))).trans (hHeld.2.2.1)
                                          have HS3_ := (hb.cell (World.block_lt_of_cell? _ _ (hHeld.2.2.2))).trans (hHeld.2.2.2)
                                          refine ⟨_, rfl, ?_⟩
                                          have n0_ := Aside0.mk (Kd.R_below (by (with_reducible repeat (first | apply Kd.R_alloc | apply Kd.R_drewN | apply Kd.R_drew)); exact HO_5.out) hb)
                                          have n1_ := Aside0.mk (Kd.N_below (by (with_reducible repeat (first | apply Kd.N_alloc | apply Kd.N_drewN | apply Kd.N_drew)); exact HO_6.out) hb)
                                          have n2_ := Aside0.mk (Kd.N_below (by (with_reducible repeat (first | apply Kd.N_alloc | apply Kd.N_drewN | apply Kd.N_drew)); exact HO_330000.out) hb)
                                          have n3_ := Aside0.mk (Kd.R_below (by (with_reducible repeat (first | apply Kd.R_alloc | apply Kd.R_drewN | apply Kd.R_drew)); exact HO_330001.out) hb)
                                          have n4_ := Aside0.mk (Kd.V_below (by (with_reducible repeat (first | apply Kd.V_alloc | apply Kd.V_drewN | apply Kd.V_drew)); exact HL334_0.out) hb)
                                          have n5_ := Aside0.mk (blk_below (g := gb315) (o := .cells #[.int .u8 a0_0, .int .u8 a0_1, .int .u8 a0_2, .int .u8 a0_3, .int .u8 a0_4, .int .u8 a0_5] 41 (0, 0)) (by (with_reducible repeat (first | refine blk_drewN ?_ _ | refine blk_drew ?_ | refine blk_alloc ?_ _)); exact BK315.out) hb)
                                          have n6_ := Aside0.mk (blk_below (g := gb329) (o := .cells #[.slice Ao13 t323.length co13, .slice Ao16 t326.length co16] 30 (0, 0)) (by (with_reducible repeat (first | refine blk_drewN ?_ _ | refine blk_drew ?_ | refine blk_alloc ?_ _)); exact BK329.out) hb)
                                          have n7_ := Aside0.mk (Kd.C_below (by repeat (first | (with_reducible exact HR334_0.out) | (with_reducible refine Kd.C_alloc ?_ _) | (with_reducible refine Kd.C_drewN ?_ _) | (with_reducible refine Kd.C_drew ?_) | exact HR334_0.out)) hb)
                                          have n8_ := Aside0.mk (below_step (by repeat (first | (with_reducible first | exact HB.out | apply below_alloc | apply pw_below_drewN | apply below_drew1 | refine below_set ?_ GE315.out | refine below_set ?_ GE329.out) | exact HB.out)) hb)
                                          clear HO_5
                                          clear HO_6
                                          clear HO_330000
                                          clear HO_330001
                                          clear HL334_0
                                          clear BK315
                                          clear BK329
                                          clear HR334_0
                                          clear HB
                                          have HO_5 := n0_
                                          have HO_6 := n1_
                                          have HO_330000 := n2_
                                          have HO_330001 := n3_
                                          have HL334_0 := n4_
                                          have BK315 := n5_
                                          have BK329 := n6_
                                          have HR334_0 := n7_
                                          have HB := n8_
                                          clear n0_ n1_ n2_ n3_ n4_ n5_ n6_ n7_ n8_
                                          (try clear hb)
                                          (try clear hb2)
                                          (try clear hk)
                                          (try clear hi)
                                          refine hK.out _ _ ⟨(blk_cell BK329.out 0).trans rfl, (blk_cell BK329.out 1).trans rfl, HS2_, HS3_⟩ (fun hHeld => ?_)
                                          clear hK K
                                          refine norm_ (a' := ?_) ?_ ?_
                                          rotate_left
                                          · show Act.put _ (some 74) _ = _
                                            simp only [Act.put, List.setIfInBounds_toArray, List.set_cons_zero, List.set_cons_succ, i64_w, i32_w]
                                            rfl
                                          refine pure_ (i := 14) (N := some 60) (v := ?_) (a' := ?_) #[true, true, true, true, true, true, true, true, true, true, true, true, true, true, true, false, false, false, false] rfl rfl (any_of HT_.out (by kernel_rfl)) (fun _ _ _ h => h) (Or.inl ⟨by rfl, ?_⟩) ?_ ?_
                                          rotate_left
                                          · intro w'
                                            go_simp
                                            with_reducible rfl
                                          rotate_left
                                          · simp only [Act.put, List.setIfInBounds_toArray, List.set_cons_zero, List.set_cons_succ, i64_w, i32_w]
                                            rfl
                                          refine pure_ (i := 15) (N := some 75) (v := ?_) (a' := ?_) #[true, true, true, true, true, true, true, true, true, true, true, true, true, true, true, true, false, false, false] rfl rfl (any_of HT_.out (by kernel_rfl)) (fun _ _ _ h => h) (Or.inl ⟨by rfl, ?_⟩) ?_ ?_
                                          rotate_left
                                          · intro w'
                                            go_simp
                                            with_reducible rfl
                                          rotate_left
                                          · simp only [Act.put, List.setIfInBounds_toArray, List.set_cons_zero, List.set_cons_succ, i64_w, i32_w]
                                            rfl
                                          refine pure_ (i := 16) (N := some 76) (v := ?_) (a' := ?_) #[true, true, true, true, true, true, true, true, true, true, true, true, true, true, true, true, true, false, false] rfl rfl (any_of HT_.out (by kernel_rfl)) (fun _ _ _ h => h) (Or.inl ⟨by rfl, ?_⟩) ?_ ?_
                                          rotate_left
                                          · intro w'
                                            go_simp
                                            with_reducible rfl
                                          rotate_left
                                          · simp only [Act.put, List.setIfInBounds_toArray, List.set_cons_zero, List.set_cons_succ, i64_w, i32_w]
                                            rfl
                                          refine pure_ (i := 17) (N := some 13) (v := ?_) (a' := ?_) #[true, true, true, true, true, true, true, true, true, true, true, true, true, true, true, true, true, true, false] rfl rfl (any_of HT_.out (by kernel_rfl)) (fun _ _ _ h => h) (Or.inl ⟨by rfl, ?_⟩) ?_ ?_
                                          rotate_left
                                          · intro w'
                                            go_simp
                                            with_reducible rfl
                                          rotate_left
                                          · simp only [Act.put, List.setIfInBounds_toArray, List.set_cons_zero, List.set_cons_succ, i64_w, i32_w]
                                            rfl
                                          refine pure_ (i := 18) (N := some 14) (v := ?_) (a' := ?_) #[true, true, true, true, true, true, true, true, true, true, true, true, true, true, true, true, true, true, true] rfl rfl (any_of HT_.out (by kernel_rfl)) (fun _ _ _ h => h) (Or.inl ⟨by rfl, ?_⟩) ?_ ?_
                                          rotate_left
                                          · intro w'
                                            go_simp
                                            with_reducible rfl
                                          rotate_left
                                          · simp only [Act.put, List.setIfInBounds_toArray, List.set_cons_zero, List.set_cons_succ, i64_w, i32_w]
                                            rfl
                                          refine done_ (done_of HT_.out (by kernel_rfl)) ?_
                                          have hnb43 := NB329_315.out
                                          have hnc43 := NB315_329.out
                                          have hcz44_0 : w42.cell? ⟨gb329, 0, none⟩ = some (.slice Ao13 t323.length co13) := (blk_cell BK329.out 0).trans rfl
                                          have hcz44_1 : w42.cell? ⟨gb329, 1, none⟩ = some (.slice Ao16 t326.length co16) := (blk_cell BK329.out 1).trans rfl
                                          have hfz44_0 := blk_frozen BK329.out 0
                                          have hfz44_1 := blk_frozen BK329.out 1
                                          have p338 : 0 ≤ (x9_1 : Int) := of_decide_eq_true (by first | (with_reducible assumption) | assumption)
                                          have q338 : x9_1 < (t323.length : Int) := of_decide_eq_true (by first | (with_reducible assumption) | assumption)
                                          obtain ⟨ad338, A338_0, c338_0, e338, hx338_0, hl338_0, hi338_0⟩ := at_L3 (Kd.N_reads' HO_330000.out).2.2 x9_1 p338 q338
                                          cases e338
                                          obtain ⟨ce338, hce338, hMe338, hcc338⟩ := Kd.N_get HO_330000.out [] x9_1 p338 (by first | exact q338 | exact of_decide_eq_true (by first | (with_reducible assumption) | assumption) | (have e_ := (Kd.N_reads' HO_330000.out).1; omega))
                                          obtain ⟨ua338_0, uc338_0, rfl, ul338_0, ge338_0⟩ := Kd.FK_slice_open hMe338
                                          have hv338_0 := hcc338 0 _ rfl
                                          rw [Nat.add_zero, show ((Kd.slice 3 (Kd.int .i64))).sz = 1 from rfl, Nat.mul_one] at hv338_0
                                          replace hv338_0 := Option.some.inj (hv338_0.symm.trans hx338_0)
                                          injection hv338_0 with hva_ hvn_ hvc_
                                          rw [hva_] at ge338_0
                                          rw [hvc_] at ul338_0
                                          have HL338_0 := Aside0.mk (show Kd.V (Kd.int .i64) 3 _ w.heap.size _ _ (rd_L3 t323 x9_1) from Kd.V_mk ul338_0 ge338_0)
                                          clear hva_ hvn_ hvc_ ge338_0 ul338_0
                                          clear hcc338 hce338
                                          have HR338_0 := Aside0.mk hi338_0
                                          have HC338_0 := Aside0.mk hl338_0
                                          clear hi338_0 hl338_0
                                          replace p338 := eq_true p338
                                          replace q338 := eq_true q338
                                          have p339 : 0 ≤ (x12_3 : Int) := of_decide_eq_true (by first | (with_reducible assumption) | assumption)
                                          have q339 : x12_3 < ((rd_L3 t323 x9_1).length : Int) := of_decide_eq_true (by first | (with_reducible assumption) | assumption)
                                          obtain ⟨ad339, e339, hx339_0⟩ := Kd.at_int (by repeat (first | (with_reducible exact HR338_0.out) | (with_reducible refine Kd.C_alloc ?_ _) | (with_reducible refine Kd.C_drewN ?_ _) | (with_reducible refine Kd.C_drew ?_) | exact HR338_0.out)) x12_3 p339 q339
                                          cases e339
                                          replace p339 := eq_true p339
                                          replace q339 := eq_true q339
                                          try go_wp2
                                          go_roundg k3
                                          case measure => have := HK1.out; have := HJ20.out; have := HK3.out; omega
                                          case rel => exact ⟨(wrap64 (x12_3 + 1)), (by first | rfl | (simp; done) | (simp [*]; done)), H', ⟨by have := HK1.out; have := HJ20.out; have := HK3.out; omega⟩, ⟨by (with_reducible repeat (first | apply Kd.R_alloc | apply Kd.R_drewN | apply Kd.R_drew)); exact HO_5.out⟩, ⟨by (with_reducible repeat (first | apply Kd.N_alloc | apply Kd.N_drewN | apply Kd.N_drew)); exact HO_6.out⟩, ⟨by (with_reducible repeat (first | apply Kd.N_alloc | apply Kd.N_drewN | apply Kd.N_drew)); exact HO_330000.out⟩, ⟨by (with_reducible repeat (first | apply Kd.R_alloc | apply Kd.R_drewN | apply Kd.R_drew)); exact HO_330001.out⟩, ⟨by (with_reducible repeat (first | refine blk_drewN ?_ _ | refine blk_drew ?_ | refine blk_alloc ?_ _)); exact BK315.out⟩, ⟨by (with_reducible repeat (first | refine blk_drewN ?_ _ | refine blk_drew ?_ | refine blk_alloc ?_ _)); exact BK329.out⟩, ⟨by repeat (first | (with_reducible first | exact HB.out | apply below_alloc | apply pw_below_drewN | apply below_drew1 | refine below_set ?_ GE315.out | refine below_set ?_ GE329.out) | exact HB.out)⟩⟩
                                      · rw [if_neg c39] at H
                                        exact absurd H (by simp)
                                    · rw [if_neg c38] at H
                                      exact absurd H (by simp)
                                  · replace c37 := Bool.eq_false_iff.mpr c37
                                    subst c37
                                    have H1 : (none) = some r := by rw [if_neg (show ¬ (false = true) by decide)] at H; exact H
                                    clear H
                                    have H := H1
                                    clear H1
                                    exact absurd H (by simp)
                                · rw [if_neg c35] at H
                                  exact absurd H (by simp)
                              · rw [if_neg c34] at H
                                exact absurd H (by simp)
                            · rw [if_neg c33] at H
                              exact absurd H (by simp)
                          · rw [if_neg c32] at H
                            exact absurd H (by simp)
                        · rw [if_neg c31] at H
                          have c31b0 : decide (x12_3 < 2) = false := decide_eq_false c31
                          clear c31
                          have H' := Aside0.mk H
                          clear H
                          go_wp2
                          go_roundg k3
                          case measure => have := HK1.out; have := HJ20.out; have := HK3.out; omega
                          case rel => exact ⟨(wrap64 (x9_1 + 1)), (by first | rfl | (simp; done) | (simp [*]; done)), H', ⟨by have := HK1.out; have := HJ20.out; have := HK3.out; omega⟩, ⟨by (with_reducible repeat (first | apply Kd.R_alloc | apply Kd.R_drewN | apply Kd.R_drew)); exact HO_5.out⟩, ⟨by (with_reducible repeat (first | apply Kd.N_alloc | apply Kd.N_drewN | apply Kd.N_drew)); exact HO_6.out⟩, ⟨by (with_reducible repeat (first | apply Kd.N_alloc | apply Kd.N_drewN | apply Kd.N_drew)); exact HO_330000.out⟩, ⟨by (with_reducible repeat (first | apply Kd.R_alloc | apply Kd.R_drewN | apply Kd.R_drew)); exact HO_330001.out⟩, ⟨by (with_reducible repeat (first | refine blk_drewN ?_ _ | refine blk_drew ?_ | refine blk_alloc ?_ _)); exact BK315.out⟩, ⟨by (with_reducible repeat (first | refine blk_drewN ?_ _ | refine blk_drew ?_ | refine blk_alloc ?_ _)); exact BK329.out⟩, ⟨by repeat (first | (with_reducible first | exact HB.out | apply below_alloc | apply pw_below_drewN | apply below_drew1 | refine below_set ?_ GE315.out | refine below_set ?_ GE329.out) | exact HB.out)⟩⟩
            · rw [if_neg c19] at H
              exact absurd H (by simp)
          · rw [if_neg c18] at H
            exact absurd H (by simp)
        · rw [if_neg c17] at H
          have c17b0 : decide (x9_1 < 2) = false := decide_eq_false c17
          clear c17
          obtain rfl := Option.some.inj H
          go_wp2
          go_ret
          exact ⟨by first | rfl | (simp [errW_none, errW_some] <;> rfl) | (simp [*, errW_none, errW_some] <;> rfl), by repeat (first | (with_reducible first | exact HB.out | apply below_alloc | apply pw_below_drewN | apply below_drew1 | refine below_set ?_ GE315.out | refine below_set ?_ GE329.out) | exact HB.out)⟩
  · replace c4 := Bool.eq_false_iff.mpr c4
    subst c4
    have H1 : (none) = some r := by rw [if_neg (show ¬ (false = true) by decide)] at H; exact H
    clear H
    have H := H1
    clear H1
    exact absurd H (by simp)

end Go.Proofs.YtbgcmbnnkigjjaaDoor.PP
