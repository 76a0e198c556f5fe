-- made by fvprint.py over the kit's print
import Derived.Test.YtpldhihdlgghlaaDoorPSx0
import Derived.Test.YtpldhihdlgghlaaDoorPSx4
import Derived.Test.YtpldhihdlgghlaaDoorPSx6
namespace Go.Proofs.YtpldhihdlgghlaaDoor.PS
open Go.RowKit Go.Proofs.YtpldhihdlgghlaaDoorW.PrintWords Go.Proofs.YtpldhihdlgghlaaDoorW.PrintLast Go.Proofs.YtpldhihdlgghlaaDoorW.PrintMore
attribute [local go_sem] max2_int min2_int max_two min_two max_three min_three max_four min_four   -- for this text's walks alone
set_option linter.unusedVariables false
set_option linter.unusedSimpArgs false

attribute [local go_sem] cell_set_some
/-! ### withemade_Heavy: function 5 -/
mutual
def withemade_Heavy.j0 : Nat → Bool → ByteArray → Int → List (S42) → List (List (S45)) → Int → Int → Int → ByteArray → Int → List (S26) → Option (Bool)
 | 0, _, _, _, _, _, _, _, _, _, _, _ => none
 | k + 1, x21, x173000, x173001, x173002, x173003, x173004, x173005, x173006, x173007, x173008, x173009 => if x21 = true then (some true) else ((withemade_CondSize.f k x173005 x173006 x173007 x173008 x173009 0).bind fun t173 => (withemade_Heavy.l0 k t173 0 x173000 x173001 x173002 x173003 x173004 x173005 x173006 x173007 x173008 x173009))
def withemade_Heavy.l0 : Nat → Int → Int → ByteArray → Int → List (S42) → List (List (S45)) → Int → Int → Int → ByteArray → Int → List (S26) → Option (Bool)
 | 0, _, _, _, _, _, _, _, _, _, _, _, _ => none
 | k + 1, x3, x4, x173000, x173001, x173002, x173003, x173004, x173005, x173006, x173007, x173008, x173009 => if x4 < (x173002.length : Int) then (if 0 ≤ x4 then (if (((rd_T42 x173002 x4).f0).size : Int) > 40 then (some true) else (withemade_Heavy.l0 k x3 (wrap64 (x4 + 1)) x173000 x173001 x173002 x173003 x173004 x173005 x173006 x173007 x173008 x173009)) else (none)) else (withemade_Heavy.l1 k x3 0 x173000 x173001 x173002 x173003 x173004 x173005 x173006 x173007 x173008 x173009)
def withemade_Heavy.l1 : Nat → Int → Int → ByteArray → Int → List (S42) → List (List (S45)) → Int → Int → Int → ByteArray → Int → List (S26) → Option (Bool)
 | 0, _, _, _, _, _, _, _, _, _, _, _, _ => none
 | k + 1, x3, x5, x173000, x173001, x173002, x173003, x173004, x173005, x173006, x173007, x173008, x173009 => if x5 < (x173003.length : Int) then (if x3 ≤ 300 then (if 0 ≤ x5 then ((withemade_stmtsSize.f k (rd_L8 x173003 x5) 0).bind fun t176 => (withemade_Heavy.l1 k (wrap64 (x3 + t176)) (wrap64 (x5 + 1)) x173000 x173001 x173002 x173003 x173004 x173005 x173006 x173007 x173008 x173009)) else (none)) else (some (decide (x3 > 300)))) else (some (decide (x3 > 300)))
end
def withemade_Heavy.f (k : Nat) (a0_0 : ByteArray) (a0_1 : Int) (l0_2 : List (S42)) (l0_3 : List (List (S45))) (a0_4 : Int) (a0_5 : Int) (a0_6 : Int) (a0_7 : ByteArray) (a0_8 : Int) (l0_9 : List (S26)) : Option (Bool) := if (a0_0.size : Int) > 40 then (withemade_Heavy.j0 k true a0_0 a0_1 l0_2 l0_3 a0_4 a0_5 a0_6 a0_7 a0_8 l0_9) else (if (l0_2.length : Int) > 10 then (withemade_Heavy.j0 k true a0_0 a0_1 l0_2 l0_3 a0_4 a0_5 a0_6 a0_7 a0_8 l0_9) else (withemade_Heavy.j0 k (decide ((l0_3.length : Int) > 10)) a0_0 a0_1 l0_2 l0_3 a0_4 a0_5 a0_6 a0_7 a0_8 l0_9))
theorem withemade_Heavy.mono_l : ∀ k, (∀ y0 y1 y2 y3 y4 y5 y6 y7 y8 y9 y10, LeO (withemade_Heavy.j0 k y0 y1 y2 y3 y4 y5 y6 y7 y8 y9 y10) (withemade_Heavy.j0 (k + 1) y0 y1 y2 y3 y4 y5 y6 y7 y8 y9 y10)) ∧ (∀ y0 y1 y2 y3 y4 y5 y6 y7 y8 y9 y10 y11, LeO (withemade_Heavy.l0 k y0 y1 y2 y3 y4 y5 y6 y7 y8 y9 y10 y11) (withemade_Heavy.l0 (k + 1) y0 y1 y2 y3 y4 y5 y6 y7 y8 y9 y10 y11)) ∧ (∀ y0 y1 y2 y3 y4 y5 y6 y7 y8 y9 y10 y11, LeO (withemade_Heavy.l1 k y0 y1 y2 y3 y4 y5 y6 y7 y8 y9 y10 y11) (withemade_Heavy.l1 (k + 1) y0 y1 y2 y3 y4 y5 y6 y7 y8 y9 y10 y11))
 | 0 => ⟨fun _ _ _ _ _ _ _ _ _ _ _ r h => by simp [withemade_Heavy.j0] at h, fun _ _ _ _ _ _ _ _ _ _ _ _ r h => by simp [withemade_Heavy.l0] at h, fun _ _ _ _ _ _ _ _ _ _ _ _ r h => by simp [withemade_Heavy.l1] at h⟩
 | k + 1 => by
  obtain ⟨ih0, ih1, ih2⟩ := withemade_Heavy.mono_l k
  refine ⟨?_, ?_, ?_⟩
  ·intro y0 y1 y2 y3 y4 y5 y6 y7 y8 y9 y10
   unfold withemade_Heavy.j0
   repeat' first
   | (with_reducible exact ih0 _ _ _ _ _ _ _ _ _ _ _)
   | (with_reducible exact ih1 _ _ _ _ _ _ _ _ _ _ _ _)
   | (with_reducible exact ih2 _ _ _ _ _ _ _ _ _ _ _ _)
   | (with_reducible exact withemade_CondSize.mono _ _ _ _ _ _ _)
   | (with_reducible exact withemade_stmtsSize.mono _ _ _)
   | (with_reducible exact LeO.refl _)
   | (with_reducible exact LeO.none _)
   | (with_reducible refine LeO.ite ?_ ?_)
   | (with_reducible refine LeO.bind ?_ (fun _ => ?_))
   | exact ih0 _ _ _ _ _ _ _ _ _ _ _
   | exact ih1 _ _ _ _ _ _ _ _ _ _ _ _
   | exact ih2 _ _ _ _ _ _ _ _ _ _ _ _
   | exact withemade_CondSize.mono _ _ _ _ _ _ _
   | exact withemade_stmtsSize.mono _ _ _
   | exact LeO.none _
   | refine LeO.ite ?_ ?_
   | refine LeO.bind ?_ (fun _ => ?_)
  ·intro y0 y1 y2 y3 y4 y5 y6 y7 y8 y9 y10 y11
   unfold withemade_Heavy.l0
   repeat' first
   | (with_reducible exact ih0 _ _ _ _ _ _ _ _ _ _ _)
   | (with_reducible exact ih1 _ _ _ _ _ _ _ _ _ _ _ _)
   | (with_reducible exact ih2 _ _ _ _ _ _ _ _ _ _ _ _)
   | (with_reducible exact withemade_CondSize.mono _ _ _ _ _ _ _)
   | (with_reducible exact withemade_stmtsSize.mono _ _ _)
   | (with_reducible exact LeO.refl _)
   | (with_reducible exact LeO.none _)
   | (with_reducible refine LeO.ite ?_ ?_)
   | (with_reducible refine LeO.bind ?_ (fun _ => ?_))
   | exact ih0 _ _ _ _ _ _ _ _ _ _ _
   | exact ih1 _ _ _ _ _ _ _ _ _ _ _ _
   | exact ih2 _ _ _ _ _ _ _ _ _ _ _ _
   | exact withemade_CondSize.mono _ _ _ _ _ _ _
   | exact withemade_stmtsSize.mono _ _ _
   | exact LeO.none _
   | refine LeO.ite ?_ ?_
   | refine LeO.bind ?_ (fun _ => ?_)
  ·intro y0 y1 y2 y3 y4 y5 y6 y7 y8 y9 y10 y11
   unfold withemade_Heavy.l1
   repeat' first
   | (with_reducible exact ih0 _ _ _ _ _ _ _ _ _ _ _)
   | (with_reducible exact ih1 _ _ _ _ _ _ _ _ _ _ _ _)
   | (with_reducible exact ih2 _ _ _ _ _ _ _ _ _ _ _ _)
   | (with_reducible exact withemade_CondSize.mono _ _ _ _ _ _ _)
   | (with_reducible exact withemade_stmtsSize.mono _ _ _)
   | (with_reducible exact LeO.refl _)
   | (with_reducible exact LeO.none _)
   | (with_reducible refine LeO.ite ?_ ?_)
   | (with_reducible refine LeO.bind ?_ (fun _ => ?_))
   | exact ih0 _ _ _ _ _ _ _ _ _ _ _
   | exact ih1 _ _ _ _ _ _ _ _ _ _ _ _
   | exact ih2 _ _ _ _ _ _ _ _ _ _ _ _
   | exact withemade_CondSize.mono _ _ _ _ _ _ _
   | exact withemade_stmtsSize.mono _ _ _
   | exact LeO.none _
   | refine LeO.ite ?_ ?_
   | refine LeO.bind ?_ (fun _ => ?_)
theorem withemade_Heavy.mono : ∀ a0 a1 a2 a3 a4 a5 a6 a7 a8 a9 k, LeO (withemade_Heavy.f k a0 a1 a2 a3 a4 a5 a6 a7 a8 a9) (withemade_Heavy.f (k + 1) a0 a1 a2 a3 a4 a5 a6 a7 a8 a9) := by
 intro a0 a1 a2 a3 a4 a5 a6 a7 a8 a9 k
 obtain ⟨ih0, ih1, ih2⟩ := withemade_Heavy.mono_l k
 unfold withemade_Heavy.f
 repeat' first
  | (with_reducible exact ih0 _ _ _ _ _ _ _ _ _ _ _)
  | (with_reducible exact ih1 _ _ _ _ _ _ _ _ _ _ _ _)
  | (with_reducible exact ih2 _ _ _ _ _ _ _ _ _ _ _ _)
  | (with_reducible exact withemade_CondSize.mono _ _ _ _ _ _ _)
  | (with_reducible exact withemade_stmtsSize.mono _ _ _)
  | (with_reducible exact LeO.refl _)
  | (with_reducible exact LeO.none _)
  | (with_reducible refine LeO.ite ?_ ?_)
  | (with_reducible refine LeO.bind ?_ (fun _ => ?_))
  | exact ih0 _ _ _ _ _ _ _ _ _ _ _
  | exact ih1 _ _ _ _ _ _ _ _ _ _ _ _
  | exact ih2 _ _ _ _ _ _ _ _ _ _ _ _
  | exact withemade_CondSize.mono _ _ _ _ _ _ _
  | exact withemade_stmtsSize.mono _ _ _
  | exact LeO.none _
  | refine LeO.ite ?_ ?_
  | refine LeO.bind ?_ (fun _ => ?_)
set_option maxHeartbeats 8000000 in
set_option maxRecDepth 100000 in
theorem withemade_Heavy.calls (k : Nat) (a0_0 : ByteArray) (a0_1 : Int) (A0_2 : Option Addr) (c0_2 : Nat) (l0_2 : List (S42)) (A0_3 : Option Addr) (c0_3 : Nat) (l0_3 : List (List (S45))) (a0_4 : Int) (a0_5 : Int) (a0_6 : Int) (a0_7 : ByteArray) (a0_8 : Int) (A0_9 : Option Addr) (c0_9 : Nat) (l0_9 : List (S26)) (r : Bool) (w : World) (hr0_2 : Kd.C k42 w A0_2 l0_2.length l0_2) (hc0_2 : l0_2.length ≤ c0_2) (hr0_3 : Kd.C (Kd.slice 45 k45) w A0_3 l0_3.length l0_3) (hc0_3 : l0_3.length ≤ c0_3) (hr0_9 : Kd.C k26 w A0_9 l0_9.length l0_9) (hc0_9 : l0_9.length ≤ c0_9) (h : withemade_Heavy.f k a0_0 a0_1 l0_2 l0_3 a0_4 a0_5 a0_6 a0_7 a0_8 l0_9 = some r) :
 Calls Tryd.prog 5 #[.agg #[.string a0_0, .int .i64 a0_1, .slice A0_2 l0_2.length c0_2, .slice A0_3 l0_3.length c0_3, .int .i64 a0_4, .int .i64 a0_5, .int .i64 a0_6, .string a0_7, .int .i64 a0_8, .slice A0_9 l0_9.length c0_9]] w fun e w' => e = .returned (.bool r) ∧ Below w.heap.size w w' := by
 have hu28 := Tryd.underlying28
 have hu26 := Tryd.underlying26
 have HR0_2 := Aside0.mk hr0_2
 have HC0_2 := Aside0.mk hc0_2
 clear hr0_2 hc0_2
 have HR0_3 := Aside0.mk hr0_3
 have HC0_3 := Aside0.mk hc0_3
 clear hr0_3 hc0_3
 have HR0_9 := Aside0.mk hr0_9
 have HC0_9 := Aside0.mk hc0_9
 clear hr0_9 hc0_9
 have HB := Aside0.mk (Below.refl w.heap.size w)
 have H : (if (a0_0.size : Int) > 40 then (withemade_Heavy.j0 k true a0_0 a0_1 l0_2 l0_3 a0_4 a0_5 a0_6 a0_7 a0_8 l0_9) else (if (l0_2.length : Int) > 10 then (withemade_Heavy.j0 k true a0_0 a0_1 l0_2 l0_3 a0_4 a0_5 a0_6 a0_7 a0_8 l0_9) else (withemade_Heavy.j0 k (decide ((l0_3.length : Int) > 10)) a0_0 a0_1 l0_2 l0_3 a0_4 a0_5 a0_6 a0_7 a0_8 l0_9))) = some r := h
 clear h
 have HC2 := Aside0.mk H
 clear H
 go_enter Tryd.func5, Tryd.ntmps5
 go_upto_region 1 with (first | ((with_reducible refine gate_dst (N := 1) rfl ?_); (try (refine gate_guard (by rfl) ?_; dsimp only)); refine box_event ?hg (N := 1) ?hd (cs := #[.string a0_0, .int .i64 a0_1, .slice A0_2 l0_2.length c0_2, .slice A0_3 l0_3.length c0_3, .int .i64 a0_4, .int .i64 a0_5, .int .i64 a0_6, .string a0_7, .int .i64 a0_8, .slice A0_9 l0_9.length c0_9]) (t := 28) ?hr ?_; (case hd => rfl); (case hg => rfl); (case hr => first | (go_simp; done) | (go_simp; rfl)); intro gb172 hg w3 hbox hb; have n0_ := Aside0.mk (below_step (by repeat (first | (with_reducible first | exact HB.out | apply below_alloc | apply pw_below_drewN | apply below_drew1) | exact HB.out)) hb); have n1_ := Aside0.mk (hbox); have n2_ := Aside0.mk ((by rw [hg]; exact (below_size (by repeat (first | (with_reducible first | exact HB.out | apply below_alloc | apply pw_below_drewN | apply below_drew1) | exact HB.out))) : w.heap.size ≤ gb172)); have n3_ := Aside0.mk ((by rw [hg]; exact (below_size (by repeat (first | (with_reducible first | exact HB.out | apply below_alloc | apply pw_below_drewN | apply below_drew1) | exact HB.out))) : w.heap.size ≤ gb172)); clear HB; have HB := n0_; have BK172 := n1_; have GW172 := n2_; have GE172 := n3_; clear n0_ n1_ n2_ n3_; clear hb hbox hg))
 (try simp only [Act.put, List.setIfInBounds_toArray, List.set_cons_zero, List.set_cons_succ])
 go_cut [21] (fun v21 wc => ∃ (kq : Nat) (x21_1 : Bool), v21 = .bool x21_1 ∧ Aside0 (withemade_Heavy.j0 kq x21_1 a0_0 a0_1 l0_2 l0_3 a0_4 a0_5 a0_6 a0_7 a0_8 l0_9 = some r) ∧ Aside0 (kq ≤ k) ∧ Aside0 (wc.heap[gb172]? = some (.cells #[.string a0_0, .int .i64 a0_1, (.slice A0_2 l0_2.length c0_2), (.slice A0_3 l0_3.length c0_3), .int .i64 a0_4, .int .i64 a0_5, .int .i64 a0_6, .string a0_7, .int .i64 a0_8, (.slice A0_9 l0_9.length c0_9)] 28 (0, 0))) ∧ Aside0 (Below w.heap.size w wc))
 case first =>
  have H := HC2.out
  clear HC2
  by_cases c4 : (a0_0.size : Int) > 40
  ·rw [if_pos c4] at H
   have c4b0 : decide (40 < (a0_0.size : Int)) = true := decide_eq_true c4
   have c4b1 : decide (40 < a0_0.size) = true := decide_eq_true (by omega)
   clear c4
   (first | rw [c4b0] | (simp only [i64_w, i32_w]; rw [c4b0]) | skip)
   have H' := Aside0.mk H
   clear H
   have hcz5_0 : w3.cell? ⟨gb172, 0, none⟩ = some (.string a0_0) := (blk_cell BK172.out 0).trans rfl
   have hcz5_1 : w3.cell? ⟨gb172, 1, none⟩ = some (.int .i64 a0_1) := (blk_cell BK172.out 1).trans rfl
   have hcz5_2 : w3.cell? ⟨gb172, 2, none⟩ = some (.slice A0_2 l0_2.length c0_2) := (blk_cell BK172.out 2).trans rfl
   have hcz5_3 : w3.cell? ⟨gb172, 3, none⟩ = some (.slice A0_3 l0_3.length c0_3) := (blk_cell BK172.out 3).trans rfl
   have hcz5_4 : w3.cell? ⟨gb172, 4, none⟩ = some (.int .i64 a0_4) := (blk_cell BK172.out 4).trans rfl
   have hcz5_5 : w3.cell? ⟨gb172, 5, none⟩ = some (.int .i64 a0_5) := (blk_cell BK172.out 5).trans rfl
   have hcz5_6 : w3.cell? ⟨gb172, 6, none⟩ = some (.int .i64 a0_6) := (blk_cell BK172.out 6).trans rfl
   have hcz5_7 : w3.cell? ⟨gb172, 7, none⟩ = some (.string a0_7) := (blk_cell BK172.out 7).trans rfl
   have hcz5_8 : w3.cell? ⟨gb172, 8, none⟩ = some (.int .i64 a0_8) := (blk_cell BK172.out 8).trans rfl
   have hcz5_9 : w3.cell? ⟨gb172, 9, none⟩ = some (.slice A0_9 l0_9.length c0_9) := (blk_cell BK172.out 9).trans rfl
   have hfz5_0 := blk_frozen BK172.out 0
   have hfz5_1 := blk_frozen BK172.out 1
   have hfz5_2 := blk_frozen BK172.out 2
   have hfz5_3 := blk_frozen BK172.out 3
   have hfz5_4 := blk_frozen BK172.out 4
   have hfz5_5 := blk_frozen BK172.out 5
   have hfz5_6 := blk_frozen BK172.out 6
   have hfz5_7 := blk_frozen BK172.out 7
   have hfz5_8 := blk_frozen BK172.out 8
   have hfz5_9 := blk_frozen BK172.out 9
   go_wp2
   go_meet
   case rel => exact ⟨_, (true), (by first | rfl | (simp; done) | (simp [*]; done)), H', ⟨by first | omega | exact Nat.le_refl _⟩, ⟨by (with_reducible repeat (first | refine blk_drewN ?_ _ | refine blk_drew ?_ | refine blk_alloc ?_ _)); exact BK172.out⟩, ⟨by repeat (first | (with_reducible first | exact HB.out | apply below_alloc | apply pw_below_drewN | apply below_drew1 | refine below_set ?_ GE172.out) | exact HB.out)⟩⟩
  ·rw [if_neg c4] at H
   have c4b0 : decide (40 < (a0_0.size : Int)) = false := decide_eq_false c4
   have c4b1 : decide (40 < a0_0.size) = false := decide_eq_false (by omega)
   clear c4
   (first | rw [c4b0] | (simp only [i64_w, i32_w]; rw [c4b0]) | skip)
   by_cases c6 : (l0_2.length : Int) > 10
   ·rw [if_pos c6] at H
    have c6b0 : decide (10 < (l0_2.length : Int)) = true := decide_eq_true c6
    have c6b1 : decide (10 < l0_2.length) = true := decide_eq_true (by omega)
    clear c6
    have H' := Aside0.mk H
    clear H
    have hcz7_0 : w3.cell? ⟨gb172, 0, none⟩ = some (.string a0_0) := (blk_cell BK172.out 0).trans rfl
    have hcz7_1 : w3.cell? ⟨gb172, 1, none⟩ = some (.int .i64 a0_1) := (blk_cell BK172.out 1).trans rfl
    have hcz7_2 : w3.cell? ⟨gb172, 2, none⟩ = some (.slice A0_2 l0_2.length c0_2) := (blk_cell BK172.out 2).trans rfl
    have hcz7_3 : w3.cell? ⟨gb172, 3, none⟩ = some (.slice A0_3 l0_3.length c0_3) := (blk_cell BK172.out 3).trans rfl
    have hcz7_4 : w3.cell? ⟨gb172, 4, none⟩ = some (.int .i64 a0_4) := (blk_cell BK172.out 4).trans rfl
    have hcz7_5 : w3.cell? ⟨gb172, 5, none⟩ = some (.int .i64 a0_5) := (blk_cell BK172.out 5).trans rfl
    have hcz7_6 : w3.cell? ⟨gb172, 6, none⟩ = some (.int .i64 a0_6) := (blk_cell BK172.out 6).trans rfl
    have hcz7_7 : w3.cell? ⟨gb172, 7, none⟩ = some (.string a0_7) := (blk_cell BK172.out 7).trans rfl
    have hcz7_8 : w3.cell? ⟨gb172, 8, none⟩ = some (.int .i64 a0_8) := (blk_cell BK172.out 8).trans rfl
    have hcz7_9 : w3.cell? ⟨gb172, 9, none⟩ = some (.slice A0_9 l0_9.length c0_9) := (blk_cell BK172.out 9).trans rfl
    have hfz7_0 := blk_frozen BK172.out 0
    have hfz7_1 := blk_frozen BK172.out 1
    have hfz7_2 := blk_frozen BK172.out 2
    have hfz7_3 := blk_frozen BK172.out 3
    have hfz7_4 := blk_frozen BK172.out 4
    have hfz7_5 := blk_frozen BK172.out 5
    have hfz7_6 := blk_frozen BK172.out 6
    have hfz7_7 := blk_frozen BK172.out 7
    have hfz7_8 := blk_frozen BK172.out 8
    have hfz7_9 := blk_frozen BK172.out 9
    go_wp2
    go_meet
    case rel => exact ⟨_, (true), (by first | rfl | (simp; done) | (simp [*]; done)), H', ⟨by first | omega | exact Nat.le_refl _⟩, ⟨by (with_reducible repeat (first | refine blk_drewN ?_ _ | refine blk_drew ?_ | refine blk_alloc ?_ _)); exact BK172.out⟩, ⟨by repeat (first | (with_reducible first | exact HB.out | apply below_alloc | apply pw_below_drewN | apply below_drew1 | refine below_set ?_ GE172.out) | exact HB.out)⟩⟩
   ·rw [if_neg c6] at H
    have c6b0 : decide (10 < (l0_2.length : Int)) = false := decide_eq_false c6
    have c6b1 : decide (10 < l0_2.length) = false := decide_eq_false (by omega)
    clear c6
    have H' := Aside0.mk H
    clear H
    have hcz8_0 : w3.cell? ⟨gb172, 0, none⟩ = some (.string a0_0) := (blk_cell BK172.out 0).trans rfl
    have hcz8_1 : w3.cell? ⟨gb172, 1, none⟩ = some (.int .i64 a0_1) := (blk_cell BK172.out 1).trans rfl
    have hcz8_2 : w3.cell? ⟨gb172, 2, none⟩ = some (.slice A0_2 l0_2.length c0_2) := (blk_cell BK172.out 2).trans rfl
    have hcz8_3 : w3.cell? ⟨gb172, 3, none⟩ = some (.slice A0_3 l0_3.length c0_3) := (blk_cell BK172.out 3).trans rfl
    have hcz8_4 : w3.cell? ⟨gb172, 4, none⟩ = some (.int .i64 a0_4) := (blk_cell BK172.out 4).trans rfl
    have hcz8_5 : w3.cell? ⟨gb172, 5, none⟩ = some (.int .i64 a0_5) := (blk_cell BK172.out 5).trans rfl
    have hcz8_6 : w3.cell? ⟨gb172, 6, none⟩ = some (.int .i64 a0_6) := (blk_cell BK172.out 6).trans rfl
    have hcz8_7 : w3.cell? ⟨gb172, 7, none⟩ = some (.string a0_7) := (blk_cell BK172.out 7).trans rfl
    have hcz8_8 : w3.cell? ⟨gb172, 8, none⟩ = some (.int .i64 a0_8) := (blk_cell BK172.out 8).trans rfl
    have hcz8_9 : w3.cell? ⟨gb172, 9, none⟩ = some (.slice A0_9 l0_9.length c0_9) := (blk_cell BK172.out 9).trans rfl
    have hfz8_0 := blk_frozen BK172.out 0
    have hfz8_1 := blk_frozen BK172.out 1
    have hfz8_2 := blk_frozen BK172.out 2
    have hfz8_3 := blk_frozen BK172.out 3
    have hfz8_4 := blk_frozen BK172.out 4
    have hfz8_5 := blk_frozen BK172.out 5
    have hfz8_6 := blk_frozen BK172.out 6
    have hfz8_7 := blk_frozen BK172.out 7
    have hfz8_8 := blk_frozen BK172.out 8
    have hfz8_9 := blk_frozen BK172.out 9
    go_wp2
    go_meet
    case rel => exact ⟨_, (decide ((l0_3.length : Int) > 10)), (by first | rfl | (simp; done) | (simp [*]; done)), H', ⟨by first | omega | exact Nat.le_refl _⟩, ⟨by (with_reducible repeat (first | refine blk_drewN ?_ _ | refine blk_drew ?_ | refine blk_alloc ?_ _)); exact BK172.out⟩, ⟨by repeat (first | (with_reducible first | exact HB.out | apply below_alloc | apply pw_below_drewN | apply below_drew1 | refine below_set ?_ GE172.out) | exact HB.out)⟩⟩
 case rest =>
  clear HC2
  try clear p2
  try clear c4
  try clear c4b0
  try clear c4b1
  try clear c5
  try clear c6
  try clear c6b0
  try clear c6b1
  try clear hcz5_0
  try clear hcz5_1
  try clear hcz5_2
  try clear hcz5_3
  try clear hcz5_4
  try clear hcz5_5
  try clear hcz5_6
  try clear hcz5_7
  try clear hcz5_8
  try clear hcz5_9
  try clear hcz7_0
  try clear hcz7_1
  try clear hcz7_2
  try clear hcz7_3
  try clear hcz7_4
  try clear hcz7_5
  try clear hcz7_6
  try clear hcz7_7
  try clear hcz7_8
  try clear hcz7_9
  try clear hcz8_0
  try clear hcz8_1
  try clear hcz8_2
  try clear hcz8_3
  try clear hcz8_4
  try clear hcz8_5
  try clear hcz8_6
  try clear hcz8_7
  try clear hcz8_8
  try clear hcz8_9
  try clear hfz5_0
  try clear hfz5_1
  try clear hfz5_2
  try clear hfz5_3
  try clear hfz5_4
  try clear hfz5_5
  try clear hfz5_6
  try clear hfz5_7
  try clear hfz5_8
  try clear hfz5_9
  try clear hfz7_0
  try clear hfz7_1
  try clear hfz7_2
  try clear hfz7_3
  try clear hfz7_4
  try clear hfz7_5
  try clear hfz7_6
  try clear hfz7_7
  try clear hfz7_8
  try clear hfz7_9
  try clear hfz8_0
  try clear hfz8_1
  try clear hfz8_2
  try clear hfz8_3
  try clear hfz8_4
  try clear hfz8_5
  try clear hfz8_6
  try clear hfz8_7
  try clear hfz8_8
  try clear hfz8_9
  obtain ⟨kq, x21_1, rfl, HA, HJ1, BK172, HB⟩ := hcut
  cases kq with
  | zero => exact absurd HA.out (by simp [withemade_Heavy.j0])
  | succ kj1 =>
   have H := HA.out
   clear HA
   simp only [withemade_Heavy.j0] at H
   by_cases c9 : x21_1 = true
   ·subst c9
    have H1 : (some true) = some r := by rw [if_pos rfl] at H; exact H
    clear H
    have H := H1
    clear H1
    obtain rfl := Option.some.inj H
    go_wp2
    go_ret
    exact ⟨by first | rfl | (simp [errW_none, errW_some] <;> rfl) | (simp [*, errW_none, errW_some] <;> rfl), by repeat (first | (with_reducible first | exact HB.out | apply below_alloc | apply pw_below_drewN | apply below_drew1 | refine below_set ?_ GE172.out) | exact HB.out)⟩
   ·replace c9 := Bool.eq_false_iff.mpr c9
    subst c9
    have H1 : ((withemade_CondSize.f kj1 a0_5 a0_6 a0_7 a0_8 l0_9 0).bind fun t173 => (withemade_Heavy.l0 kj1 t173 0 a0_0 a0_1 l0_2 l0_3 a0_4 a0_5 a0_6 a0_7 a0_8 l0_9)) = some r := by rw [if_neg (show ¬ (false = true) by decide)] at H; exact H
    clear H
    have H := H1
    clear H1
    replace H := Option.bind_eq_some_iff.mp H
    obtain ⟨t173, A100, H⟩ := H
    replace H : (withemade_Heavy.l0 kj1 t173 0 a0_0 a0_1 l0_2 l0_3 a0_4 a0_5 a0_6 a0_7 a0_8 l0_9) = some r := H
    have A10 := Aside0.mk A100
    clear A100
    have H' := Aside0.mk H
    clear H
    have hcz11_0 : wc.cell? ⟨gb172, 0, none⟩ = some (.string a0_0) := (blk_cell BK172.out 0).trans rfl
    have hcz11_1 : wc.cell? ⟨gb172, 1, none⟩ = some (.int .i64 a0_1) := (blk_cell BK172.out 1).trans rfl
    have hcz11_2 : wc.cell? ⟨gb172, 2, none⟩ = some (.slice A0_2 l0_2.length c0_2) := (blk_cell BK172.out 2).trans rfl
    have hcz11_3 : wc.cell? ⟨gb172, 3, none⟩ = some (.slice A0_3 l0_3.length c0_3) := (blk_cell BK172.out 3).trans rfl
    have hcz11_4 : wc.cell? ⟨gb172, 4, none⟩ = some (.int .i64 a0_4) := (blk_cell BK172.out 4).trans rfl
    have hcz11_5 : wc.cell? ⟨gb172, 5, none⟩ = some (.int .i64 a0_5) := (blk_cell BK172.out 5).trans rfl
    have hcz11_6 : wc.cell? ⟨gb172, 6, none⟩ = some (.int .i64 a0_6) := (blk_cell BK172.out 6).trans rfl
    have hcz11_7 : wc.cell? ⟨gb172, 7, none⟩ = some (.string a0_7) := (blk_cell BK172.out 7).trans rfl
    have hcz11_8 : wc.cell? ⟨gb172, 8, none⟩ = some (.int .i64 a0_8) := (blk_cell BK172.out 8).trans rfl
    have hcz11_9 : wc.cell? ⟨gb172, 9, none⟩ = some (.slice A0_9 l0_9.length c0_9) := (blk_cell BK172.out 9).trans rfl
    have hfz11_0 := blk_frozen BK172.out 0
    have hfz11_1 := blk_frozen BK172.out 1
    have hfz11_2 := blk_frozen BK172.out 2
    have hfz11_3 := blk_frozen BK172.out 3
    have hfz11_4 := blk_frozen BK172.out 4
    have hfz11_5 := blk_frozen BK172.out 5
    have hfz11_6 := blk_frozen BK172.out 6
    have hfz11_7 := blk_frozen BK172.out 7
    have hfz11_8 := blk_frozen BK172.out 8
    have hfz11_9 := blk_frozen BK172.out 9
    go_wp2_with (first | ((with_reducible refine gate_callee (f := 7) rfl ?_); refine goesL_ (some 24) rfl rfl Tryd.func7 (by kernel_rfl) rfl #[.agg #[.int .i64 a0_5, .int .i64 a0_6, .string a0_7, .int .i64 a0_8, .slice A0_9 l0_9.length c0_9], .int .i64 0] rfl (by (try simp only [List.map_toArray, List.map_cons, List.map_nil]); first | done | rfl | (simp only [List.length_drop, List.length_take]; rfl)) ?_; (with_reducible refine (withemade_CondSize.calls kj1 a0_5 a0_6 a0_7 a0_8 _ _ l0_9 0 t173 _ ?side1 ?side2 A10.out).mono ?_); (case side1 => repeat (first | exact (Kd.C_below HR0_9.out HB.out) | (with_reducible refine Kd.C_alloc ?_ _) | (with_reducible refine Kd.C_drewN ?_ _) | (with_reducible refine Kd.C_drew ?_))); (case side2 => exact HC0_9.out); rintro e w12 ⟨rfl, hb⟩; refine ⟨_, rfl, ?_⟩; have n0_ := Aside0.mk (blk_below (g := gb172) (o := .cells #[.string a0_0, .int .i64 a0_1, .slice A0_2 l0_2.length c0_2, .slice A0_3 l0_3.length c0_3, .int .i64 a0_4, .int .i64 a0_5, .int .i64 a0_6, .string a0_7, .int .i64 a0_8, .slice A0_9 l0_9.length c0_9] 28 (0, 0)) (by (with_reducible repeat (first | refine blk_drewN ?_ _ | refine blk_drew ?_ | refine blk_alloc ?_ _)); exact BK172.out) hb); have n1_ := Aside0.mk (below_step (by repeat (first | (with_reducible first | exact HB.out | apply below_alloc | apply pw_below_drewN | apply below_drew1 | refine below_set ?_ GE172.out) | exact HB.out)) hb); clear BK172; clear HB; have BK172 := n0_; have HB := n1_; clear n0_ n1_; (try clear hb); (try clear hb2); (try clear hk); (try clear hi)))
    try go_simp
    go_loopg [4] kj1 (fun kq v4 w' => ∃ (x4_2 : Int), v4 = .int .i64 x4_2 ∧ Aside0 (withemade_Heavy.l0 kq t173 x4_2 a0_0 a0_1 l0_2 l0_3 a0_4 a0_5 a0_6 a0_7 a0_8 l0_9 = some r) ∧ Aside0 (kq ≤ kj1) ∧ Aside0 (w'.heap[gb172]? = some (.cells #[.string a0_0, .int .i64 a0_1, (.slice A0_2 l0_2.length c0_2), (.slice A0_3 l0_3.length c0_3), .int .i64 a0_4, .int .i64 a0_5, .int .i64 a0_6, .string a0_7, .int .i64 a0_8, (.slice A0_9 l0_9.length c0_9)] 28 (0, 0))) ∧ Aside0 (Below w.heap.size w w'))
    case atStart => exact ⟨(0), (by first | rfl | (simp; done) | (simp [*]; done)), H', ⟨Nat.le_refl _⟩, ⟨by (with_reducible repeat (first | refine blk_drewN ?_ _ | refine blk_drew ?_ | refine blk_alloc ?_ _)); exact BK172.out⟩, ⟨by repeat (first | (with_reducible first | exact HB.out | apply below_alloc | apply pw_below_drewN | apply below_drew1 | refine below_set ?_ GE172.out) | exact HB.out)⟩⟩
    case round =>
     clear H'
     try clear p2
     try clear c4
     try clear c4b0
     try clear c4b1
     try clear c5
     try clear c6
     try clear c6b0
     try clear c6b1
     try clear c7
     try clear c9
     try clear hcz11_0
     try clear hcz11_1
     try clear hcz11_2
     try clear hcz11_3
     try clear hcz11_4
     try clear hcz11_5
     try clear hcz11_6
     try clear hcz11_7
     try clear hcz11_8
     try clear hcz11_9
     try clear hcz5_0
     try clear hcz5_1
     try clear hcz5_2
     try clear hcz5_3
     try clear hcz5_4
     try clear hcz5_5
     try clear hcz5_6
     try clear hcz5_7
     try clear hcz5_8
     try clear hcz5_9
     try clear hcz7_0
     try clear hcz7_1
     try clear hcz7_2
     try clear hcz7_3
     try clear hcz7_4
     try clear hcz7_5
     try clear hcz7_6
     try clear hcz7_7
     try clear hcz7_8
     try clear hcz7_9
     try clear hcz8_0
     try clear hcz8_1
     try clear hcz8_2
     try clear hcz8_3
     try clear hcz8_4
     try clear hcz8_5
     try clear hcz8_6
     try clear hcz8_7
     try clear hcz8_8
     try clear hcz8_9
     try clear hfz11_0
     try clear hfz11_1
     try clear hfz11_2
     try clear hfz11_3
     try clear hfz11_4
     try clear hfz11_5
     try clear hfz11_6
     try clear hfz11_7
     try clear hfz11_8
     try clear hfz11_9
     try clear hfz5_0
     try clear hfz5_1
     try clear hfz5_2
     try clear hfz5_3
     try clear hfz5_4
     try clear hfz5_5
     try clear hfz5_6
     try clear hfz5_7
     try clear hfz5_8
     try clear hfz5_9
     try clear hfz7_0
     try clear hfz7_1
     try clear hfz7_2
     try clear hfz7_3
     try clear hfz7_4
     try clear hfz7_5
     try clear hfz7_6
     try clear hfz7_7
     try clear hfz7_8
     try clear hfz7_9
     try clear hfz8_0
     try clear hfz8_1
     try clear hfz8_2
     try clear hfz8_3
     try clear hfz8_4
     try clear hfz8_5
     try clear hfz8_6
     try clear hfz8_7
     try clear hfz8_8
     try clear hfz8_9
     try clear p2
     obtain ⟨x4_2, rfl, HA, HK2, BK172, HB⟩ := hrel
     cases gk with
     | zero => exact absurd HA.out (by simp [withemade_Heavy.l0])
     | succ k2 =>
      have H := HA.out
      clear HA
      simp only [withemade_Heavy.l0] at H
      by_cases c13 : x4_2 < (l0_2.length : Int)
      ·rw [if_pos c13] at H
       have c13b0 : decide (x4_2 < (l0_2.length : Int)) = true := decide_eq_true c13
       clear c13
       by_cases c14 : 0 ≤ x4_2
       ·rw [if_pos c14] at H
        have c14b0 : decide (0 ≤ x4_2) = true := decide_eq_true c14
        clear c14
        by_cases c15 : (((rd_T42 l0_2 x4_2).f0).size : Int) > 40
        ·rw [if_pos c15] at H
         have c15b0 : decide (40 < (((rd_T42 l0_2 x4_2).f0).size : Int)) = true := decide_eq_true c15
         have c15b1 : decide (40 < ((rd_T42 l0_2 x4_2).f0).size) = true := decide_eq_true (by omega)
         clear c15
         obtain rfl := Option.some.inj H
         have hcz16_0 : wr.cell? ⟨gb172, 0, none⟩ = some (.string a0_0) := (blk_cell BK172.out 0).trans rfl
         have hcz16_1 : wr.cell? ⟨gb172, 1, none⟩ = some (.int .i64 a0_1) := (blk_cell BK172.out 1).trans rfl
         have hcz16_2 : wr.cell? ⟨gb172, 2, none⟩ = some (.slice A0_2 l0_2.length c0_2) := (blk_cell BK172.out 2).trans rfl
         have hcz16_3 : wr.cell? ⟨gb172, 3, none⟩ = some (.slice A0_3 l0_3.length c0_3) := (blk_cell BK172.out 3).trans rfl
         have hcz16_4 : wr.cell? ⟨gb172, 4, none⟩ = some (.int .i64 a0_4) := (blk_cell BK172.out 4).trans rfl
         have hcz16_5 : wr.cell? ⟨gb172, 5, none⟩ = some (.int .i64 a0_5) := (blk_cell BK172.out 5).trans rfl
         have hcz16_6 : wr.cell? ⟨gb172, 6, none⟩ = some (.int .i64 a0_6) := (blk_cell BK172.out 6).trans rfl
         have hcz16_7 : wr.cell? ⟨gb172, 7, none⟩ = some (.string a0_7) := (blk_cell BK172.out 7).trans rfl
         have hcz16_8 : wr.cell? ⟨gb172, 8, none⟩ = some (.int .i64 a0_8) := (blk_cell BK172.out 8).trans rfl
         have hcz16_9 : wr.cell? ⟨gb172, 9, none⟩ = some (.slice A0_9 l0_9.length c0_9) := (blk_cell BK172.out 9).trans rfl
         have hfz16_0 := blk_frozen BK172.out 0
         have hfz16_1 := blk_frozen BK172.out 1
         have hfz16_2 := blk_frozen BK172.out 2
         have hfz16_3 := blk_frozen BK172.out 3
         have hfz16_4 := blk_frozen BK172.out 4
         have hfz16_5 := blk_frozen BK172.out 5
         have hfz16_6 := blk_frozen BK172.out 6
         have hfz16_7 := blk_frozen BK172.out 7
         have hfz16_8 := blk_frozen BK172.out 8
         have hfz16_9 := blk_frozen BK172.out 9
         have p174 : 0 ≤ (x4_2 : Int) := of_decide_eq_true (by first | (with_reducible assumption) | assumption)
         have q174 : x4_2 < (l0_2.length : Int) := of_decide_eq_true (by first | (with_reducible assumption) | assumption)
         obtain ⟨ad174, e174, hx174_0, hx174_1⟩ := at_T42 HR0_2.out x4_2 p174 q174
         cases e174
         replace hx174_0 := (HB.out.cell (World.block_lt_of_cell? w _ hx174_0)).trans hx174_0
         replace hx174_1 := (HB.out.cell (World.block_lt_of_cell? w _ hx174_1)).trans hx174_1
         replace p174 := eq_true p174
         replace q174 := eq_true q174
         go_wp2
         go_ret
         exact ⟨by first | rfl | (simp [errW_none, errW_some] <;> rfl) | (simp [*, errW_none, errW_some] <;> rfl), by repeat (first | (with_reducible first | exact HB.out | apply below_alloc | apply pw_below_drewN | apply below_drew1 | refine below_set ?_ GE172.out) | exact HB.out)⟩
        ·rw [if_neg c15] at H
         have c15b0 : decide (40 < (((rd_T42 l0_2 x4_2).f0).size : Int)) = false := decide_eq_false c15
         have c15b1 : decide (40 < ((rd_T42 l0_2 x4_2).f0).size) = false := decide_eq_false (by omega)
         clear c15
         have H' := Aside0.mk H
         clear H
         have hcz17_0 : wr.cell? ⟨gb172, 0, none⟩ = some (.string a0_0) := (blk_cell BK172.out 0).trans rfl
         have hcz17_1 : wr.cell? ⟨gb172, 1, none⟩ = some (.int .i64 a0_1) := (blk_cell BK172.out 1).trans rfl
         have hcz17_2 : wr.cell? ⟨gb172, 2, none⟩ = some (.slice A0_2 l0_2.length c0_2) := (blk_cell BK172.out 2).trans rfl
         have hcz17_3 : wr.cell? ⟨gb172, 3, none⟩ = some (.slice A0_3 l0_3.length c0_3) := (blk_cell BK172.out 3).trans rfl
         have hcz17_4 : wr.cell? ⟨gb172, 4, none⟩ = some (.int .i64 a0_4) := (blk_cell BK172.out 4).trans rfl
         have hcz17_5 : wr.cell? ⟨gb172, 5, none⟩ = some (.int .i64 a0_5) := (blk_cell BK172.out 5).trans rfl
         have hcz17_6 : wr.cell? ⟨gb172, 6, none⟩ = some (.int .i64 a0_6) := (blk_cell BK172.out 6).trans rfl
         have hcz17_7 : wr.cell? ⟨gb172, 7, none⟩ = some (.string a0_7) := (blk_cell BK172.out 7).trans rfl
         have hcz17_8 : wr.cell? ⟨gb172, 8, none⟩ = some (.int .i64 a0_8) := (blk_cell BK172.out 8).trans rfl
         have hcz17_9 : wr.cell? ⟨gb172, 9, none⟩ = some (.slice A0_9 l0_9.length c0_9) := (blk_cell BK172.out 9).trans rfl
         have hfz17_0 := blk_frozen BK172.out 0
         have hfz17_1 := blk_frozen BK172.out 1
         have hfz17_2 := blk_frozen BK172.out 2
         have hfz17_3 := blk_frozen BK172.out 3
         have hfz17_4 := blk_frozen BK172.out 4
         have hfz17_5 := blk_frozen BK172.out 5
         have hfz17_6 := blk_frozen BK172.out 6
         have hfz17_7 := blk_frozen BK172.out 7
         have hfz17_8 := blk_frozen BK172.out 8
         have hfz17_9 := blk_frozen BK172.out 9
         have p174 : 0 ≤ (x4_2 : Int) := of_decide_eq_true (by first | (with_reducible assumption) | assumption)
         have q174 : x4_2 < (l0_2.length : Int) := of_decide_eq_true (by first | (with_reducible assumption) | assumption)
         obtain ⟨ad174, e174, hx174_0, hx174_1⟩ := at_T42 HR0_2.out x4_2 p174 q174
         cases e174
         replace hx174_0 := (HB.out.cell (World.block_lt_of_cell? w _ hx174_0)).trans hx174_0
         replace hx174_1 := (HB.out.cell (World.block_lt_of_cell? w _ hx174_1)).trans hx174_1
         replace p174 := eq_true p174
         replace q174 := eq_true q174
         go_wp2
         go_roundg k2
         case measure => have := HJ1.out; have := HK2.out; omega
         case rel => exact ⟨(wrap64 (x4_2 + 1)), (by first | rfl | (simp; done) | (simp [*]; done)), H', ⟨by have := HJ1.out; have := HK2.out; omega⟩, ⟨by (with_reducible repeat (first | refine blk_drewN ?_ _ | refine blk_drew ?_ | refine blk_alloc ?_ _)); exact BK172.out⟩, ⟨by repeat (first | (with_reducible first | exact HB.out | apply below_alloc | apply pw_below_drewN | apply below_drew1 | refine below_set ?_ GE172.out) | exact HB.out)⟩⟩
       ·rw [if_neg c14] at H
        exact absurd H (by simp)
      ·rw [if_neg c13] at H
       have c13b0 : decide (x4_2 < (l0_2.length : Int)) = false := decide_eq_false c13
       clear c13
       have H' := Aside0.mk H
       clear H
       have hcz18_0 : wr.cell? ⟨gb172, 0, none⟩ = some (.string a0_0) := (blk_cell BK172.out 0).trans rfl
       have hcz18_1 : wr.cell? ⟨gb172, 1, none⟩ = some (.int .i64 a0_1) := (blk_cell BK172.out 1).trans rfl
       have hcz18_2 : wr.cell? ⟨gb172, 2, none⟩ = some (.slice A0_2 l0_2.length c0_2) := (blk_cell BK172.out 2).trans rfl
       have hcz18_3 : wr.cell? ⟨gb172, 3, none⟩ = some (.slice A0_3 l0_3.length c0_3) := (blk_cell BK172.out 3).trans rfl
       have hcz18_4 : wr.cell? ⟨gb172, 4, none⟩ = some (.int .i64 a0_4) := (blk_cell BK172.out 4).trans rfl
       have hcz18_5 : wr.cell? ⟨gb172, 5, none⟩ = some (.int .i64 a0_5) := (blk_cell BK172.out 5).trans rfl
       have hcz18_6 : wr.cell? ⟨gb172, 6, none⟩ = some (.int .i64 a0_6) := (blk_cell BK172.out 6).trans rfl
       have hcz18_7 : wr.cell? ⟨gb172, 7, none⟩ = some (.string a0_7) := (blk_cell BK172.out 7).trans rfl
       have hcz18_8 : wr.cell? ⟨gb172, 8, none⟩ = some (.int .i64 a0_8) := (blk_cell BK172.out 8).trans rfl
       have hcz18_9 : wr.cell? ⟨gb172, 9, none⟩ = some (.slice A0_9 l0_9.length c0_9) := (blk_cell BK172.out 9).trans rfl
       have hfz18_0 := blk_frozen BK172.out 0
       have hfz18_1 := blk_frozen BK172.out 1
       have hfz18_2 := blk_frozen BK172.out 2
       have hfz18_3 := blk_frozen BK172.out 3
       have hfz18_4 := blk_frozen BK172.out 4
       have hfz18_5 := blk_frozen BK172.out 5
       have hfz18_6 := blk_frozen BK172.out 6
       have hfz18_7 := blk_frozen BK172.out 7
       have hfz18_8 := blk_frozen BK172.out 8
       have hfz18_9 := blk_frozen BK172.out 9
       go_wp2
       try go_simp
       go_loopg [3, 5] k2 (fun kq v3 v5 w' => ∃ (x3_3 : Int) (x5_3 : Int), v3 = .int .i64 x3_3 ∧ v5 = .int .i64 x5_3 ∧ Aside0 (withemade_Heavy.l1 kq x3_3 x5_3 a0_0 a0_1 l0_2 l0_3 a0_4 a0_5 a0_6 a0_7 a0_8 l0_9 = some r) ∧ Aside0 (kq ≤ k2) ∧ Aside0 (w'.heap[gb172]? = some (.cells #[.string a0_0, .int .i64 a0_1, (.slice A0_2 l0_2.length c0_2), (.slice A0_3 l0_3.length c0_3), .int .i64 a0_4, .int .i64 a0_5, .int .i64 a0_6, .string a0_7, .int .i64 a0_8, (.slice A0_9 l0_9.length c0_9)] 28 (0, 0))) ∧ Aside0 (Below w.heap.size w w'))
       case atStart => exact ⟨(t173), (0), (by first | rfl | (simp; done) | (simp [*]; done)), (by first | rfl | (simp; done) | (simp [*]; done)), H', ⟨Nat.le_refl _⟩, ⟨by (with_reducible repeat (first | refine blk_drewN ?_ _ | refine blk_drew ?_ | refine blk_alloc ?_ _)); exact BK172.out⟩, ⟨by repeat (first | (with_reducible first | exact HB.out | apply below_alloc | apply pw_below_drewN | apply below_drew1 | refine below_set ?_ GE172.out) | exact HB.out)⟩⟩
       case round =>
        clear H'
        try clear c1
        try clear p1
        try clear q1
        try clear hx1
        try clear p2
        try clear c4
        try clear c4b0
        try clear c4b1
        try clear c5
        try clear c6
        try clear c6b0
        try clear c6b1
        try clear p6
        try clear c7
        try clear c9
        try clear c13
        try clear c13b0
        try clear c14
        try clear c14b0
        try clear c15
        try clear c15b0
        try clear c15b1
        try clear p17
        try clear q17
        try clear hx17
        try clear hcz11_0
        try clear hcz11_1
        try clear hcz11_2
        try clear hcz11_3
        try clear hcz11_4
        try clear hcz11_5
        try clear hcz11_6
        try clear hcz11_7
        try clear hcz11_8
        try clear hcz11_9
        try clear hcz16_0
        try clear hcz16_1
        try clear hcz16_2
        try clear hcz16_3
        try clear hcz16_4
        try clear hcz16_5
        try clear hcz16_6
        try clear hcz16_7
        try clear hcz16_8
        try clear hcz16_9
        try clear hcz17_0
        try clear hcz17_1
        try clear hcz17_2
        try clear hcz17_3
        try clear hcz17_4
        try clear hcz17_5
        try clear hcz17_6
        try clear hcz17_7
        try clear hcz17_8
        try clear hcz17_9
        try clear hcz18_0
        try clear hcz18_1
        try clear hcz18_2
        try clear hcz18_3
        try clear hcz18_4
        try clear hcz18_5
        try clear hcz18_6
        try clear hcz18_7
        try clear hcz18_8
        try clear hcz18_9
        try clear hcz5_0
        try clear hcz5_1
        try clear hcz5_2
        try clear hcz5_3
        try clear hcz5_4
        try clear hcz5_5
        try clear hcz5_6
        try clear hcz5_7
        try clear hcz5_8
        try clear hcz5_9
        try clear hcz7_0
        try clear hcz7_1
        try clear hcz7_2
        try clear hcz7_3
        try clear hcz7_4
        try clear hcz7_5
        try clear hcz7_6
        try clear hcz7_7
        try clear hcz7_8
        try clear hcz7_9
        try clear hcz8_0
        try clear hcz8_1
        try clear hcz8_2
        try clear hcz8_3
        try clear hcz8_4
        try clear hcz8_5
        try clear hcz8_6
        try clear hcz8_7
        try clear hcz8_8
        try clear hcz8_9
        try clear hfz11_0
        try clear hfz11_1
        try clear hfz11_2
        try clear hfz11_3
        try clear hfz11_4
        try clear hfz11_5
        try clear hfz11_6
        try clear hfz11_7
        try clear hfz11_8
        try clear hfz11_9
        try clear hfz16_0
        try clear hfz16_1
        try clear hfz16_2
        try clear hfz16_3
        try clear hfz16_4
        try clear hfz16_5
        try clear hfz16_6
        try clear hfz16_7
        try clear hfz16_8
        try clear hfz16_9
        try clear hfz17_0
        try clear hfz17_1
        try clear hfz17_2
        try clear hfz17_3
        try clear hfz17_4
        try clear hfz17_5
        try clear hfz17_6
        try clear hfz17_7
        try clear hfz17_8
        try clear hfz17_9
        try clear hfz18_0
        try clear hfz18_1
        try clear hfz18_2
        try clear hfz18_3
        try clear hfz18_4
        try clear hfz18_5
        try clear hfz18_6
        try clear hfz18_7
        try clear hfz18_8
        try clear hfz18_9
        try clear hfz5_0
        try clear hfz5_1
        try clear hfz5_2
        try clear hfz5_3
        try clear hfz5_4
        try clear hfz5_5
        try clear hfz5_6
        try clear hfz5_7
        try clear hfz5_8
        try clear hfz5_9
        try clear hfz7_0
        try clear hfz7_1
        try clear hfz7_2
        try clear hfz7_3
        try clear hfz7_4
        try clear hfz7_5
        try clear hfz7_6
        try clear hfz7_7
        try clear hfz7_8
        try clear hfz7_9
        try clear hfz8_0
        try clear hfz8_1
        try clear hfz8_2
        try clear hfz8_3
        try clear hfz8_4
        try clear hfz8_5
        try clear hfz8_6
        try clear hfz8_7
        try clear hfz8_8
        try clear hfz8_9
        try clear hx174_0
        try clear hx174_1
        try clear p174
        try clear p2
        try clear q174
        obtain ⟨x3_3, x5_3, rfl, rfl, HA, HK3, BK172, HB⟩ := hrel
        cases gk with
        | zero => exact absurd HA.out (by simp [withemade_Heavy.l1])
        | succ k3 =>
         have H := HA.out
         clear HA
         simp only [withemade_Heavy.l1] at H
         by_cases c19 : x5_3 < (l0_3.length : Int)
         ·rw [if_pos c19] at H
          have c19b0 : decide (x5_3 < (l0_3.length : Int)) = true := decide_eq_true c19
          clear c19
          by_cases c20 : x3_3 ≤ 300
          ·rw [if_pos c20] at H
           have c20b0 : decide (x3_3 ≤ 300) = true := decide_eq_true c20
           clear c20
           by_cases c21 : 0 ≤ x5_3
           ·rw [if_pos c21] at H
            have c21b0 : decide (0 ≤ x5_3) = true := decide_eq_true c21
            clear c21
            replace H := Option.bind_eq_some_iff.mp H
            obtain ⟨t176, A220, H⟩ := H
            replace H : (withemade_Heavy.l1 k3 (wrap64 (x3_3 + t176)) (wrap64 (x5_3 + 1)) a0_0 a0_1 l0_2 l0_3 a0_4 a0_5 a0_6 a0_7 a0_8 l0_9) = some r := H
            have A22 := Aside0.mk A220
            clear A220
            have H' := Aside0.mk H
            clear H
            have hcz23_0 : wr.cell? ⟨gb172, 0, none⟩ = some (.string a0_0) := (blk_cell BK172.out 0).trans rfl
            have hcz23_1 : wr.cell? ⟨gb172, 1, none⟩ = some (.int .i64 a0_1) := (blk_cell BK172.out 1).trans rfl
            have hcz23_2 : wr.cell? ⟨gb172, 2, none⟩ = some (.slice A0_2 l0_2.length c0_2) := (blk_cell BK172.out 2).trans rfl
            have hcz23_3 : wr.cell? ⟨gb172, 3, none⟩ = some (.slice A0_3 l0_3.length c0_3) := (blk_cell BK172.out 3).trans rfl
            have hcz23_4 : wr.cell? ⟨gb172, 4, none⟩ = some (.int .i64 a0_4) := (blk_cell BK172.out 4).trans rfl
            have hcz23_5 : wr.cell? ⟨gb172, 5, none⟩ = some (.int .i64 a0_5) := (blk_cell BK172.out 5).trans rfl
            have hcz23_6 : wr.cell? ⟨gb172, 6, none⟩ = some (.int .i64 a0_6) := (blk_cell BK172.out 6).trans rfl
            have hcz23_7 : wr.cell? ⟨gb172, 7, none⟩ = some (.string a0_7) := (blk_cell BK172.out 7).trans rfl
            have hcz23_8 : wr.cell? ⟨gb172, 8, none⟩ = some (.int .i64 a0_8) := (blk_cell BK172.out 8).trans rfl
            have hcz23_9 : wr.cell? ⟨gb172, 9, none⟩ = some (.slice A0_9 l0_9.length c0_9) := (blk_cell BK172.out 9).trans rfl
            have hfz23_0 := blk_frozen BK172.out 0
            have hfz23_1 := blk_frozen BK172.out 1
            have hfz23_2 := blk_frozen BK172.out 2
            have hfz23_3 := blk_frozen BK172.out 3
            have hfz23_4 := blk_frozen BK172.out 4
            have hfz23_5 := blk_frozen BK172.out 5
            have hfz23_6 := blk_frozen BK172.out 6
            have hfz23_7 := blk_frozen BK172.out 7
            have hfz23_8 := blk_frozen BK172.out 8
            have hfz23_9 := blk_frozen BK172.out 9
            have p175 : 0 ≤ (x5_3 : Int) := of_decide_eq_true (by first | (with_reducible assumption) | assumption)
            have q175 : x5_3 < (l0_3.length : Int) := of_decide_eq_true (by first | (with_reducible assumption) | assumption)
            obtain ⟨ad175, A175_0, c175_0, e175, hx175_0, hl175_0, hi175_0⟩ := at_L8 HR0_3.out x5_3 p175 q175
            cases e175
            replace hx175_0 := (HB.out.cell (World.block_lt_of_cell? w _ hx175_0)).trans hx175_0
            have HR175_0 := Aside0.mk hi175_0
            have HC175_0 := Aside0.mk hl175_0
            clear hi175_0 hl175_0
            replace p175 := eq_true p175
            replace q175 := eq_true q175
            go_wp2_with (first | ((with_reducible refine gate_callee (f := 16) rfl ?_); refine goesL_ (some 57) rfl rfl Tryd.func16 (by kernel_rfl) rfl #[.slice A175_0 (rd_L8 l0_3 x5_3).length c175_0, .int .i64 0] rfl (by (try simp only [List.map_toArray, List.map_cons, List.map_nil]); first | done | rfl | (simp only [List.length_drop, List.length_take]; rfl)) ?_; (with_reducible refine (withemade_stmtsSize.calls k3 _ _ (rd_L8 l0_3 x5_3) 0 t176 _ ?side1 ?side2 A22.out).mono ?_); (case side1 => repeat (first | exact (Kd.C_below HR175_0.out HB.out) | (with_reducible refine Kd.C_alloc ?_ _) | (with_reducible refine Kd.C_drewN ?_ _) | (with_reducible refine Kd.C_drew ?_))); (case side2 => exact HC175_0.out); rintro e w24 ⟨rfl, hb⟩; refine ⟨_, rfl, ?_⟩; have n0_ := Aside0.mk (blk_below (g := gb172) (o := .cells #[.string a0_0, .int .i64 a0_1, .slice A0_2 l0_2.length c0_2, .slice (some ad175) l0_3.length c0_3, .int .i64 a0_4, .int .i64 a0_5, .int .i64 a0_6, .string a0_7, .int .i64 a0_8, .slice A0_9 l0_9.length c0_9] 28 (0, 0)) (by (with_reducible repeat (first | refine blk_drewN ?_ _ | refine blk_drew ?_ | refine blk_alloc ?_ _)); exact BK172.out) hb); have n1_ := Aside0.mk (below_step (by repeat (first | (with_reducible first | exact HB.out | apply below_alloc | apply pw_below_drewN | apply below_drew1 | refine below_set ?_ GE172.out) | exact HB.out)) hb); clear BK172; clear HB; have BK172 := n0_; have HB := n1_; clear n0_ n1_; (try clear hb); (try clear hb2); (try clear hk); (try clear hi)))
            go_roundg k3
            case measure => have := HJ1.out; have := HK2.out; have := HK3.out; omega
            case rel => exact ⟨(wrap64 (x3_3 + t176)), (wrap64 (x5_3 + 1)), (by first | rfl | (simp; done) | (simp [*]; done)), (by first | rfl | (simp; done) | (simp [*]; done)), H', ⟨by have := HJ1.out; have := HK2.out; have := HK3.out; omega⟩, ⟨by (with_reducible repeat (first | refine blk_drewN ?_ _ | refine blk_drew ?_ | refine blk_alloc ?_ _)); exact BK172.out⟩, ⟨by repeat (first | (with_reducible first | exact HB.out | apply below_alloc | apply pw_below_drewN | apply below_drew1 | refine below_set ?_ GE172.out) | exact HB.out)⟩⟩
           ·rw [if_neg c21] at H
            exact absurd H (by simp)
          ·rw [if_neg c20] at H
           have c20b0 : decide (x3_3 ≤ 300) = false := decide_eq_false c20
           clear c20
           obtain rfl := Option.some.inj H
           have hcz25_0 : wr.cell? ⟨gb172, 0, none⟩ = some (.string a0_0) := (blk_cell BK172.out 0).trans rfl
           have hcz25_1 : wr.cell? ⟨gb172, 1, none⟩ = some (.int .i64 a0_1) := (blk_cell BK172.out 1).trans rfl
           have hcz25_2 : wr.cell? ⟨gb172, 2, none⟩ = some (.slice A0_2 l0_2.length c0_2) := (blk_cell BK172.out 2).trans rfl
           have hcz25_3 : wr.cell? ⟨gb172, 3, none⟩ = some (.slice A0_3 l0_3.length c0_3) := (blk_cell BK172.out 3).trans rfl
           have hcz25_4 : wr.cell? ⟨gb172, 4, none⟩ = some (.int .i64 a0_4) := (blk_cell BK172.out 4).trans rfl
           have hcz25_5 : wr.cell? ⟨gb172, 5, none⟩ = some (.int .i64 a0_5) := (blk_cell BK172.out 5).trans rfl
           have hcz25_6 : wr.cell? ⟨gb172, 6, none⟩ = some (.int .i64 a0_6) := (blk_cell BK172.out 6).trans rfl
           have hcz25_7 : wr.cell? ⟨gb172, 7, none⟩ = some (.string a0_7) := (blk_cell BK172.out 7).trans rfl
           have hcz25_8 : wr.cell? ⟨gb172, 8, none⟩ = some (.int .i64 a0_8) := (blk_cell BK172.out 8).trans rfl
           have hcz25_9 : wr.cell? ⟨gb172, 9, none⟩ = some (.slice A0_9 l0_9.length c0_9) := (blk_cell BK172.out 9).trans rfl
           have hfz25_0 := blk_frozen BK172.out 0
           have hfz25_1 := blk_frozen BK172.out 1
           have hfz25_2 := blk_frozen BK172.out 2
           have hfz25_3 := blk_frozen BK172.out 3
           have hfz25_4 := blk_frozen BK172.out 4
           have hfz25_5 := blk_frozen BK172.out 5
           have hfz25_6 := blk_frozen BK172.out 6
           have hfz25_7 := blk_frozen BK172.out 7
           have hfz25_8 := blk_frozen BK172.out 8
           have hfz25_9 := blk_frozen BK172.out 9
           go_wp2
           go_ret
           exact ⟨by first | rfl | (simp [errW_none, errW_some] <;> rfl) | (simp [*, errW_none, errW_some] <;> rfl), by repeat (first | (with_reducible first | exact HB.out | apply below_alloc | apply pw_below_drewN | apply below_drew1 | refine below_set ?_ GE172.out) | exact HB.out)⟩
         ·rw [if_neg c19] at H
          have c19b0 : decide (x5_3 < (l0_3.length : Int)) = false := decide_eq_false c19
          clear c19
          obtain rfl := Option.some.inj H
          have hcz26_0 : wr.cell? ⟨gb172, 0, none⟩ = some (.string a0_0) := (blk_cell BK172.out 0).trans rfl
          have hcz26_1 : wr.cell? ⟨gb172, 1, none⟩ = some (.int .i64 a0_1) := (blk_cell BK172.out 1).trans rfl
          have hcz26_2 : wr.cell? ⟨gb172, 2, none⟩ = some (.slice A0_2 l0_2.length c0_2) := (blk_cell BK172.out 2).trans rfl
          have hcz26_3 : wr.cell? ⟨gb172, 3, none⟩ = some (.slice A0_3 l0_3.length c0_3) := (blk_cell BK172.out 3).trans rfl
          have hcz26_4 : wr.cell? ⟨gb172, 4, none⟩ = some (.int .i64 a0_4) := (blk_cell BK172.out 4).trans rfl
          have hcz26_5 : wr.cell? ⟨gb172, 5, none⟩ = some (.int .i64 a0_5) := (blk_cell BK172.out 5).trans rfl
          have hcz26_6 : wr.cell? ⟨gb172, 6, none⟩ = some (.int .i64 a0_6) := (blk_cell BK172.out 6).trans rfl
          have hcz26_7 : wr.cell? ⟨gb172, 7, none⟩ = some (.string a0_7) := (blk_cell BK172.out 7).trans rfl
          have hcz26_8 : wr.cell? ⟨gb172, 8, none⟩ = some (.int .i64 a0_8) := (blk_cell BK172.out 8).trans rfl
          have hcz26_9 : wr.cell? ⟨gb172, 9, none⟩ = some (.slice A0_9 l0_9.length c0_9) := (blk_cell BK172.out 9).trans rfl
          have hfz26_0 := blk_frozen BK172.out 0
          have hfz26_1 := blk_frozen BK172.out 1
          have hfz26_2 := blk_frozen BK172.out 2
          have hfz26_3 := blk_frozen BK172.out 3
          have hfz26_4 := blk_frozen BK172.out 4
          have hfz26_5 := blk_frozen BK172.out 5
          have hfz26_6 := blk_frozen BK172.out 6
          have hfz26_7 := blk_frozen BK172.out 7
          have hfz26_8 := blk_frozen BK172.out 8
          have hfz26_9 := blk_frozen BK172.out 9
          go_wp2
          go_ret
          exact ⟨by first | rfl | (simp [errW_none, errW_some] <;> rfl) | (simp [*, errW_none, errW_some] <;> rfl), by repeat (first | (with_reducible first | exact HB.out | apply below_alloc | apply pw_below_drewN | apply below_drew1 | refine below_set ?_ GE172.out) | exact HB.out)⟩

end Go.Proofs.YtpldhihdlgghlaaDoor.PS
