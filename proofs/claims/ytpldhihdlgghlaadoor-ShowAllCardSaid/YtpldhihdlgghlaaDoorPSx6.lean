-- made by fvprint.py over the kit's print
import Derived.Test.YtpldhihdlgghlaaDoorPSx0
import Derived.Test.YtpldhihdlgghlaaDoorPSx5
namespace Go.Proofs.YtpldhihdlgghlaaDoor.PS
open Go.RowKit Go.Proofs.YtpldhihdlgghlaaDoorW.PrintWords Go.Proofs.YtpldhihdlgghlaaDoorW.PrintLast Go.Proofs.YtpldhihdlgghlaaDoorW.PrintMore
attribute [local go_sem] max2_int min2_int max_two min_two max_three min_three max_four min_four   -- for this text's walks alone
set_option linter.unusedVariables false
set_option linter.unusedSimpArgs false

attribute [local go_sem] cell_set_some
/-! ### withemade_stmtsSize: function 16 -/
mutual
def withemade_stmtsSize.j0 : Nat → List (S45) → Int → Bool → Option (Int)
 | 0, _, _, _ => none
 | k + 1, x0, x1, x15 => if x15 = true then (some 301) else (withemade_stmtsSize.l0 k x0 x1 0 0)
def withemade_stmtsSize.l0 : Nat → List (S45) → Int → Int → Int → Option (Int)
 | 0, _, _, _, _ => none
 | k + 1, x0, x1, x5, x6 => if x6 < (x0.length : Int) then (if 0 ≤ x6 then (if (((rd_T45 x0 x6).f2).size : Int) > 40 then (withemade_stmtsSize.j2 k x0 x1 x5 x6 true ((rd_T45 x0 x6).f0) ((rd_T45 x0 x6).f1) ((rd_T45 x0 x6).f2) ((rd_T45 x0 x6).f3) ((rd_T45 x0 x6).f4) ((rd_T45 x0 x6).f5) ((rd_T45 x0 x6).f6)) else (if (((rd_T45 x0 x6).f3).size : Int) > 40 then (withemade_stmtsSize.j2 k x0 x1 x5 x6 true ((rd_T45 x0 x6).f0) ((rd_T45 x0 x6).f1) ((rd_T45 x0 x6).f2) ((rd_T45 x0 x6).f3) ((rd_T45 x0 x6).f4) ((rd_T45 x0 x6).f5) ((rd_T45 x0 x6).f6)) else (withemade_stmtsSize.j2 k x0 x1 x5 x6 (decide ((((rd_T45 x0 x6).f4).length : Int) > 20)) ((rd_T45 x0 x6).f0) ((rd_T45 x0 x6).f1) ((rd_T45 x0 x6).f2) ((rd_T45 x0 x6).f3) ((rd_T45 x0 x6).f4) ((rd_T45 x0 x6).f5) ((rd_T45 x0 x6).f6)))) else (none)) else (some x5)
def withemade_stmtsSize.j2 : Nat → List (S45) → Int → Int → Int → Bool → Int → Int → ByteArray → ByteArray → List (S31) → List (S45) → List (S45) → Option (Int)
 | 0, _, _, _, _, _, _, _, _, _, _, _, _ => none
 | k + 1, x0, x1, x5, x6, x41, x168000, x168001, x168002, x168003, x168004, x168005, x168006 => if x41 = true then (some 301) else (withemade_stmtsSize.l1 k x0 x1 (wrap64 (x5 + 1)) x6 0 x168000 x168001 x168002 x168003 x168004 x168005 x168006)
def withemade_stmtsSize.l1 : Nat → List (S45) → Int → Int → Int → Int → Int → Int → ByteArray → ByteArray → List (S31) → List (S45) → List (S45) → Option (Int)
 | 0, _, _, _, _, _, _, _, _, _, _, _, _ => none
 | k + 1, x0, x1, x5, x6, x8, x168000, x168001, x168002, x168003, x168004, x168005, x168006 => if x8 < (x168004.length : Int) then (if 0 ≤ x8 then ((withemade_ExprSize.f k ((rd_T31 x168004 x8).f0) ((rd_T31 x168004 x8).f1) ((rd_T31 x168004 x8).f2) ((rd_T31 x168004 x8).f3) 0).bind fun t169 => (if (wrap64 (x5 + t169)) > 300 then (some (wrap64 (x5 + t169))) else (withemade_stmtsSize.l1 k x0 x1 (wrap64 (x5 + t169)) x6 (wrap64 (x8 + 1)) x168000 x168001 x168002 x168003 x168004 x168005 x168006))) else (none)) else ((withemade_stmtsSize.f k x168005 (wrap64 (x1 + 1))).bind fun t170 => (if (wrap64 (x5 + t170)) > 300 then (some (wrap64 (x5 + t170))) else ((withemade_stmtsSize.f k x168006 (wrap64 (x1 + 1))).bind fun t171 => (if (wrap64 ((wrap64 (x5 + t170)) + t171)) > 300 then (some (wrap64 ((wrap64 (x5 + t170)) + t171))) else (withemade_stmtsSize.l0 k x0 x1 (wrap64 ((wrap64 (x5 + t170)) + t171)) (wrap64 (x6 + 1)))))))
def withemade_stmtsSize.f : Nat → List (S45) → Int → Option (Int)
 | 0, _, _ => none
 | k + 1, l0, a1 => if a1 > 12 then (withemade_stmtsSize.j0 k l0 a1 true) else (withemade_stmtsSize.j0 k l0 a1 (decide ((l0.length : Int) > 40)))
end
theorem withemade_stmtsSize.mono_l : ∀ k, (∀ y0 y1, LeO (withemade_stmtsSize.f k y0 y1) (withemade_stmtsSize.f (k + 1) y0 y1)) ∧ (∀ y0 y1 y2, LeO (withemade_stmtsSize.j0 k y0 y1 y2) (withemade_stmtsSize.j0 (k + 1) y0 y1 y2)) ∧ (∀ y0 y1 y2 y3, LeO (withemade_stmtsSize.l0 k y0 y1 y2 y3) (withemade_stmtsSize.l0 (k + 1) y0 y1 y2 y3)) ∧ (∀ y0 y1 y2 y3 y4 y5 y6 y7 y8 y9 y10 y11, LeO (withemade_stmtsSize.j2 k y0 y1 y2 y3 y4 y5 y6 y7 y8 y9 y10 y11) (withemade_stmtsSize.j2 (k + 1) y0 y1 y2 y3 y4 y5 y6 y7 y8 y9 y10 y11)) ∧ (∀ y0 y1 y2 y3 y4 y5 y6 y7 y8 y9 y10 y11, LeO (withemade_stmtsSize.l1 k y0 y1 y2 y3 y4 y5 y6 y7 y8 y9 y10 y11) (withemade_stmtsSize.l1 (k + 1) y0 y1 y2 y3 y4 y5 y6 y7 y8 y9 y10 y11))
 | 0 => ⟨fun _ _ r h => by simp [withemade_stmtsSize.f] at h, fun _ _ _ r h => by simp [withemade_stmtsSize.j0] at h, fun _ _ _ _ r h => by simp [withemade_stmtsSize.l0] at h, fun _ _ _ _ _ _ _ _ _ _ _ _ r h => by simp [withemade_stmtsSize.j2] at h, fun _ _ _ _ _ _ _ _ _ _ _ _ r h => by simp [withemade_stmtsSize.l1] at h⟩
 | k + 1 => by
  obtain ⟨ih0, ih1, ih2, ih3, ih4⟩ := withemade_stmtsSize.mono_l k
  refine ⟨?_, ?_, ?_, ?_, ?_⟩
  ·intro y0 y1
   unfold withemade_stmtsSize.f
   repeat' first
   | (with_reducible exact ih0 _ _)
   | (with_reducible exact ih1 _ _ _)
   | (with_reducible exact ih2 _ _ _ _)
   | (with_reducible exact ih3 _ _ _ _ _ _ _ _ _ _ _ _)
   | (with_reducible exact ih4 _ _ _ _ _ _ _ _ _ _ _ _)
   | (with_reducible exact withemade_ExprSize.mono _ _ _ _ _ _)
   | (with_reducible exact LeO.refl _)
   | (with_reducible exact LeO.none _)
   | (with_reducible refine LeO.ite ?_ ?_)
   | (with_reducible refine LeO.bind ?_ (fun _ => ?_))
   | exact ih0 _ _
   | exact ih1 _ _ _
   | exact ih2 _ _ _ _
   | exact ih3 _ _ _ _ _ _ _ _ _ _ _ _
   | exact ih4 _ _ _ _ _ _ _ _ _ _ _ _
   | exact withemade_ExprSize.mono _ _ _ _ _ _
   | exact LeO.none _
   | refine LeO.ite ?_ ?_
   | refine LeO.bind ?_ (fun _ => ?_)
  ·intro y0 y1 y2
   unfold withemade_stmtsSize.j0
   repeat' first
   | (with_reducible exact ih0 _ _)
   | (with_reducible exact ih1 _ _ _)
   | (with_reducible exact ih2 _ _ _ _)
   | (with_reducible exact ih3 _ _ _ _ _ _ _ _ _ _ _ _)
   | (with_reducible exact ih4 _ _ _ _ _ _ _ _ _ _ _ _)
   | (with_reducible exact withemade_ExprSize.mono _ _ _ _ _ _)
   | (with_reducible exact LeO.refl _)
   | (with_reducible exact LeO.none _)
   | (with_reducible refine LeO.ite ?_ ?_)
   | (with_reducible refine LeO.bind ?_ (fun _ => ?_))
   | exact ih0 _ _
   | exact ih1 _ _ _
   | exact ih2 _ _ _ _
   | exact ih3 _ _ _ _ _ _ _ _ _ _ _ _
   | exact ih4 _ _ _ _ _ _ _ _ _ _ _ _
   | exact withemade_ExprSize.mono _ _ _ _ _ _
   | exact LeO.none _
   | refine LeO.ite ?_ ?_
   | refine LeO.bind ?_ (fun _ => ?_)
  ·intro y0 y1 y2 y3
   unfold withemade_stmtsSize.l0
   repeat' first
   | (with_reducible exact ih0 _ _)
   | (with_reducible exact ih1 _ _ _)
   | (with_reducible exact ih2 _ _ _ _)
   | (with_reducible exact ih3 _ _ _ _ _ _ _ _ _ _ _ _)
   | (with_reducible exact ih4 _ _ _ _ _ _ _ _ _ _ _ _)
   | (with_reducible exact withemade_ExprSize.mono _ _ _ _ _ _)
   | (with_reducible exact LeO.refl _)
   | (with_reducible exact LeO.none _)
   | (with_reducible refine LeO.ite ?_ ?_)
   | (with_reducible refine LeO.bind ?_ (fun _ => ?_))
   | exact ih0 _ _
   | exact ih1 _ _ _
   | exact ih2 _ _ _ _
   | exact ih3 _ _ _ _ _ _ _ _ _ _ _ _
   | exact ih4 _ _ _ _ _ _ _ _ _ _ _ _
   | exact withemade_ExprSize.mono _ _ _ _ _ _
   | exact LeO.none _
   | refine LeO.ite ?_ ?_
   | refine LeO.bind ?_ (fun _ => ?_)
  ·intro y0 y1 y2 y3 y4 y5 y6 y7 y8 y9 y10 y11
   unfold withemade_stmtsSize.j2
   repeat' first
   | (with_reducible exact ih0 _ _)
   | (with_reducible exact ih1 _ _ _)
   | (with_reducible exact ih2 _ _ _ _)
   | (with_reducible exact ih3 _ _ _ _ _ _ _ _ _ _ _ _)
   | (with_reducible exact ih4 _ _ _ _ _ _ _ _ _ _ _ _)
   | (with_reducible exact withemade_ExprSize.mono _ _ _ _ _ _)
   | (with_reducible exact LeO.refl _)
   | (with_reducible exact LeO.none _)
   | (with_reducible refine LeO.ite ?_ ?_)
   | (with_reducible refine LeO.bind ?_ (fun _ => ?_))
   | exact ih0 _ _
   | exact ih1 _ _ _
   | exact ih2 _ _ _ _
   | exact ih3 _ _ _ _ _ _ _ _ _ _ _ _
   | exact ih4 _ _ _ _ _ _ _ _ _ _ _ _
   | exact withemade_ExprSize.mono _ _ _ _ _ _
   | exact LeO.none _
   | refine LeO.ite ?_ ?_
   | refine LeO.bind ?_ (fun _ => ?_)
  ·intro y0 y1 y2 y3 y4 y5 y6 y7 y8 y9 y10 y11
   unfold withemade_stmtsSize.l1
   repeat' first
   | (with_reducible exact ih0 _ _)
   | (with_reducible exact ih1 _ _ _)
   | (with_reducible exact ih2 _ _ _ _)
   | (with_reducible exact ih3 _ _ _ _ _ _ _ _ _ _ _ _)
   | (with_reducible exact ih4 _ _ _ _ _ _ _ _ _ _ _ _)
   | (with_reducible exact withemade_ExprSize.mono _ _ _ _ _ _)
   | (with_reducible exact LeO.refl _)
   | (with_reducible exact LeO.none _)
   | (with_reducible refine LeO.ite ?_ ?_)
   | (with_reducible refine LeO.bind ?_ (fun _ => ?_))
   | exact ih0 _ _
   | exact ih1 _ _ _
   | exact ih2 _ _ _ _
   | exact ih3 _ _ _ _ _ _ _ _ _ _ _ _
   | exact ih4 _ _ _ _ _ _ _ _ _ _ _ _
   | exact withemade_ExprSize.mono _ _ _ _ _ _
   | exact LeO.none _
   | refine LeO.ite ?_ ?_
   | refine LeO.bind ?_ (fun _ => ?_)
theorem withemade_stmtsSize.mono : ∀ a0 a1 k, LeO (withemade_stmtsSize.f k a0 a1) (withemade_stmtsSize.f (k + 1) a0 a1) := by
 intro a0 a1 k
 obtain ⟨ih0, ih1, ih2, ih3, ih4⟩ := withemade_stmtsSize.mono_l k
 exact ih0 a0 a1
set_option maxHeartbeats 8000000 in
set_option maxRecDepth 100000 in
theorem withemade_stmtsSize.calls (k : Nat) : ∀ (A0 : Option Addr) (c0 : Nat) (l0 : List (S45)) (a1 : Int) (r : Int) (w : World) (hr0 : Kd.C k45 w A0 l0.length l0) (hc0 : l0.length ≤ c0) (h : withemade_stmtsSize.f k l0 a1 = some r),
 Calls Tryd.prog 16 #[.slice A0 l0.length c0, .int .i64 a1] w fun e w' => e = .returned (.int .i64 r) ∧ Below w.heap.size w w' := by
 induction k using Nat.strongRecOn with
 | _ k ih =>
 intro A0 c0 l0 a1 r w hr0 hc0 h
 cases k with
 | zero => exact absurd h (by simp [withemade_stmtsSize.f])
 | succ k =>
 simp only [withemade_stmtsSize.f] at h
 have hu45 := Tryd.underlying45
 have hu31 := Tryd.underlying31
 have HR0 := Aside0.mk hr0
 have HC0 := Aside0.mk hc0
 clear hr0 hc0
 have HB := Aside0.mk (Below.refl w.heap.size w)
 have H : (if a1 > 12 then (withemade_stmtsSize.j0 k l0 a1 true) else (withemade_stmtsSize.j0 k l0 a1 (decide ((l0.length : Int) > 40)))) = some r := h
 clear h
 have HC3 := Aside0.mk H
 clear H
 go_enter Tryd.func16, Tryd.ntmps16
 go_upto_region 1 with (fail)
 go_cut [15] (fun v15 wc => ∃ (kq : Nat) (x15_2 : Bool), v15 = .bool x15_2 ∧ Aside0 (withemade_stmtsSize.j0 kq l0 a1 x15_2 = some r) ∧ Aside0 (kq ≤ k) ∧ Aside0 (Below w.heap.size w wc))
 case first =>
  have H := HC3.out
  clear HC3
  by_cases c4 : a1 > 12
  ·rw [if_pos c4] at H
   have c4b0 : decide (12 < a1) = true := decide_eq_true c4
   clear c4
   (first | rw [c4b0] | (simp only [i64_w, i32_w]; rw [c4b0]) | skip)
   have H' := Aside0.mk H
   clear H
   go_wp2
   go_meet
   case rel => exact ⟨_, (true), (by first | rfl | (simp; done) | (simp [*]; done)), H', ⟨by first | omega | exact Nat.le_refl _⟩, ⟨by repeat (first | (with_reducible first | exact HB.out | apply below_alloc | apply pw_below_drewN | apply below_drew1) | exact HB.out)⟩⟩
  ·rw [if_neg c4] at H
   have c4b0 : decide (12 < a1) = false := decide_eq_false c4
   clear c4
   (first | rw [c4b0] | (simp only [i64_w, i32_w]; rw [c4b0]) | skip)
   have H' := Aside0.mk H
   clear H
   go_wp2
   go_meet
   case rel => exact ⟨_, (decide ((l0.length : Int) > 40)), (by first | rfl | (simp; done) | (simp [*]; done)), H', ⟨by first | omega | exact Nat.le_refl _⟩, ⟨by repeat (first | (with_reducible first | exact HB.out | apply below_alloc | apply pw_below_drewN | apply below_drew1) | exact HB.out)⟩⟩
 case rest =>
  clear HC3
  try clear c1
  try clear p2
  try clear c4
  try clear c4b0
  obtain ⟨kq, x15_2, rfl, HA, HJ2, HB⟩ := hcut
  cases kq with
  | zero => exact absurd HA.out (by simp [withemade_stmtsSize.j0])
  | succ kj2 =>
   have H := HA.out
   clear HA
   simp only [withemade_stmtsSize.j0] at H
   by_cases c5 : x15_2 = true
   ·subst c5
    have H1 : (some 301) = some r := by rw [if_pos rfl] at H; exact H
    clear H
    have H := H1
    clear H1
    obtain rfl := Option.some.inj H
    go_wp2
    go_ret
    exact ⟨by first | rfl | (simp [errW_none, errW_some] <;> rfl) | (simp [*, errW_none, errW_some] <;> rfl), by repeat (first | (with_reducible first | exact HB.out | apply below_alloc | apply pw_below_drewN | apply below_drew1) | exact HB.out)⟩
   ·replace c5 := Bool.eq_false_iff.mpr c5
    subst c5
    have H1 : (withemade_stmtsSize.l0 kj2 l0 a1 0 0) = some r := by rw [if_neg (show ¬ (false = true) by decide)] at H; exact H
    clear H
    have H := H1
    clear H1
    have H' := Aside0.mk H
    clear H
    go_wp2
    try go_simp
    go_loopg [5, 6] kj2 (fun kq v5 v6 w' => ∃ (x5_2 : Int) (x6_2 : Int), v5 = .int .i64 x5_2 ∧ v6 = .int .i64 x6_2 ∧ Aside0 (withemade_stmtsSize.l0 kq l0 a1 x5_2 x6_2 = some r) ∧ Aside0 (kq ≤ kj2) ∧ Aside0 (Below w.heap.size w w'))
    case atStart => exact ⟨(0), (0), (by first | rfl | (simp; done) | (simp [*]; done)), (by first | rfl | (simp; done) | (simp [*]; done)), H', ⟨Nat.le_refl _⟩, ⟨by repeat (first | (with_reducible first | exact HB.out | apply below_alloc | apply pw_below_drewN | apply below_drew1) | exact HB.out)⟩⟩
    case round =>
     clear H'
     try clear c1
     try clear p2
     try clear c4
     try clear c4b0
     try clear c5
     try clear p2
     obtain ⟨x5_2, x6_2, rfl, rfl, HA, HK2, HB⟩ := hrel
     cases gk with
     | zero => exact absurd HA.out (by simp [withemade_stmtsSize.l0])
     | succ k2 =>
      have H := HA.out
      clear HA
      simp only [withemade_stmtsSize.l0] at H
      by_cases c6 : x6_2 < (l0.length : Int)
      ·rw [if_pos c6] at H
       have c6b0 : decide (x6_2 < (l0.length : Int)) = true := decide_eq_true c6
       clear c6
       by_cases c7 : 0 ≤ x6_2
       ·rw [if_pos c7] at H
        have c7b0 : decide (0 ≤ x6_2) = true := decide_eq_true c7
        clear c7
        have HC8 := Aside0.mk H
        clear H
        have p166 : 0 ≤ (x6_2 : Int) := of_decide_eq_true (by first | (with_reducible assumption) | assumption)
        have q166 : x6_2 < (l0.length : Int) := of_decide_eq_true (by first | (with_reducible assumption) | assumption)
        obtain ⟨ad166, A166_4, c166_4, A166_5, c166_5, A166_6, c166_6, e166, hx166_0, hx166_1, hx166_2, hx166_3, hx166_4, hx166_5, hx166_6, hl166_4, hi166_4, hl166_5, hi166_5, hl166_6, hi166_6⟩ := at_T45 HR0.out x6_2 p166 q166
        cases e166
        replace hx166_0 := (HB.out.cell (World.block_lt_of_cell? w _ hx166_0)).trans hx166_0
        replace hx166_1 := (HB.out.cell (World.block_lt_of_cell? w _ hx166_1)).trans hx166_1
        replace hx166_2 := (HB.out.cell (World.block_lt_of_cell? w _ hx166_2)).trans hx166_2
        replace hx166_3 := (HB.out.cell (World.block_lt_of_cell? w _ hx166_3)).trans hx166_3
        replace hx166_4 := (HB.out.cell (World.block_lt_of_cell? w _ hx166_4)).trans hx166_4
        replace hx166_5 := (HB.out.cell (World.block_lt_of_cell? w _ hx166_5)).trans hx166_5
        replace hx166_6 := (HB.out.cell (World.block_lt_of_cell? w _ hx166_6)).trans hx166_6
        have HR166_4 := Aside0.mk hi166_4
        have HC166_4 := Aside0.mk hl166_4
        clear hi166_4 hl166_4
        have HR166_5 := Aside0.mk hi166_5
        have HC166_5 := Aside0.mk hl166_5
        clear hi166_5 hl166_5
        have HR166_6 := Aside0.mk hi166_6
        have HC166_6 := Aside0.mk hl166_6
        clear hi166_6 hl166_6
        replace p166 := eq_true p166
        replace q166 := eq_true q166
        go_upto_region 8 with (first | ((with_reducible refine gate_dst (N := 7) rfl ?_); (try (refine gate_guard (by rfl) ?_; dsimp only)); refine box_event ?hg (N := 7) ?hd (cs := #[.int .i64 0, .int .i64 0, .string (⟨#[]⟩ : ByteArray), .string (⟨#[]⟩ : ByteArray), .slice none 0 0, .slice none 0 0, .slice none 0 0]) (t := 45) ?hr ?_; (case hd => rfl); (case hg => rfl); (case hr => first | (go_simp; done) | (go_simp; rfl)); intro gb167 hg w9 hbox hb; have n0_ := Aside0.mk (below_step (by repeat (first | (with_reducible first | exact HB.out | apply below_alloc | apply pw_below_drewN | apply below_drew1) | exact HB.out)) hb); have n1_ := Aside0.mk (hbox); have n2_ := Aside0.mk ((by rw [hg]; exact (below_size (by repeat (first | (with_reducible first | exact HB.out | apply below_alloc | apply pw_below_drewN | apply below_drew1) | exact HB.out))) : w.heap.size ≤ gb167)); have n3_ := Aside0.mk ((by rw [hg]; exact (below_size (by repeat (first | (with_reducible first | exact HB.out | apply below_alloc | apply pw_below_drewN | apply below_drew1) | exact HB.out))) : w.heap.size ≤ gb167)); clear HB; have HB := n0_; have BK167 := n1_; have GW167 := n2_; have GE167 := n3_; clear n0_ n1_ n2_ n3_; clear hb hbox hg; have hcz10_0 : w9.cell? ⟨gb167, 0, none⟩ = some (.int .i64 0) := (blk_cell BK167.out 0).trans rfl; have hcz10_1 : w9.cell? ⟨gb167, 1, none⟩ = some (.int .i64 0) := (blk_cell BK167.out 1).trans rfl; have hcz10_2 : w9.cell? ⟨gb167, 2, none⟩ = some (.string (⟨#[]⟩ : ByteArray)) := (blk_cell BK167.out 2).trans rfl; have hcz10_3 : w9.cell? ⟨gb167, 3, none⟩ = some (.string (⟨#[]⟩ : ByteArray)) := (blk_cell BK167.out 3).trans rfl; have hcz10_4 : w9.cell? ⟨gb167, 4, none⟩ = some (.slice none 0 0) := (blk_cell BK167.out 4).trans rfl; have hcz10_5 : w9.cell? ⟨gb167, 5, none⟩ = some (.slice none 0 0) := (blk_cell BK167.out 5).trans rfl; have hcz10_6 : w9.cell? ⟨gb167, 6, none⟩ = some (.slice none 0 0) := (blk_cell BK167.out 6).trans rfl; have hfz10_0 := blk_frozen BK167.out 0; have hfz10_1 := blk_frozen BK167.out 1; have hfz10_2 := blk_frozen BK167.out 2; have hfz10_3 := blk_frozen BK167.out 3; have hfz10_4 := blk_frozen BK167.out 4; have hfz10_5 := blk_frozen BK167.out 5; have hfz10_6 := blk_frozen BK167.out 6))
        (try simp only [Act.put, List.setIfInBounds_toArray, List.set_cons_zero, List.set_cons_succ])
        go_cut [41] (fun v41 wc => ∃ (kq : Nat) (x41_7 : Bool), v41 = .bool x41_7 ∧ Aside0 (withemade_stmtsSize.j2 kq l0 a1 x5_2 x6_2 x41_7 ((rd_T45 l0 x6_2).f0) ((rd_T45 l0 x6_2).f1) ((rd_T45 l0 x6_2).f2) ((rd_T45 l0 x6_2).f3) ((rd_T45 l0 x6_2).f4) ((rd_T45 l0 x6_2).f5) ((rd_T45 l0 x6_2).f6) = some r) ∧ Aside0 (kq ≤ k2) ∧ Aside0 (wc.heap[gb167]? = some (.cells #[.int .i64 ((rd_T45 l0 x6_2).f0), .int .i64 ((rd_T45 l0 x6_2).f1), .string ((rd_T45 l0 x6_2).f2), .string ((rd_T45 l0 x6_2).f3), (.slice A166_4 ((rd_T45 l0 x6_2).f4).length c166_4), (.slice A166_5 ((rd_T45 l0 x6_2).f5).length c166_5), (.slice A166_6 ((rd_T45 l0 x6_2).f6).length c166_6)] 45 (0, 0))) ∧ Aside0 (Below w.heap.size w wc))
        case first =>
         have H := HC8.out
         clear HC8
         by_cases c11 : (((rd_T45 l0 x6_2).f2).size : Int) > 40
         ·rw [if_pos c11] at H
          have c11b0 : decide (40 < (((rd_T45 l0 x6_2).f2).size : Int)) = true := decide_eq_true c11
          have c11b1 : decide (40 < ((rd_T45 l0 x6_2).f2).size) = true := decide_eq_true (by omega)
          clear c11
          (first | rw [c11b0] | (simp only [i64_w, i32_w]; rw [c11b0]) | skip)
          have H' := Aside0.mk H
          clear H
          have hcz12_0 : w9.cell? ⟨gb167, 0, none⟩ = some (.int .i64 0) := (blk_cell BK167.out 0).trans rfl
          have hcz12_1 : w9.cell? ⟨gb167, 1, none⟩ = some (.int .i64 0) := (blk_cell BK167.out 1).trans rfl
          have hcz12_2 : w9.cell? ⟨gb167, 2, none⟩ = some (.string (⟨#[]⟩ : ByteArray)) := (blk_cell BK167.out 2).trans rfl
          have hcz12_3 : w9.cell? ⟨gb167, 3, none⟩ = some (.string (⟨#[]⟩ : ByteArray)) := (blk_cell BK167.out 3).trans rfl
          have hcz12_4 : w9.cell? ⟨gb167, 4, none⟩ = some (.slice none 0 0) := (blk_cell BK167.out 4).trans rfl
          have hcz12_5 : w9.cell? ⟨gb167, 5, none⟩ = some (.slice none 0 0) := (blk_cell BK167.out 5).trans rfl
          have hcz12_6 : w9.cell? ⟨gb167, 6, none⟩ = some (.slice none 0 0) := (blk_cell BK167.out 6).trans rfl
          have hfz12_0 := blk_frozen BK167.out 0
          have hfz12_1 := blk_frozen BK167.out 1
          have hfz12_2 := blk_frozen BK167.out 2
          have hfz12_3 := blk_frozen BK167.out 3
          have hfz12_4 := blk_frozen BK167.out 4
          have hfz12_5 := blk_frozen BK167.out 5
          have hfz12_6 := blk_frozen BK167.out 6
          go_wp2
          go_meet
          case rel => exact ⟨_, (true), (by first | rfl | (simp; done) | (simp [*]; done)), H', ⟨by have := HJ2.out; have := HK2.out; first | omega | exact Nat.le_refl _⟩, ⟨by (with_reducible repeat (first | refine blk_drewN ?_ _ | refine blk_drew ?_ | refine blk_alloc ?_ _)); refine blk_put (cs := #[.int .i64 ((rd_T45 l0 x6_2).f0), .int .i64 ((rd_T45 l0 x6_2).f1), .string ((rd_T45 l0 x6_2).f2), .string ((rd_T45 l0 x6_2).f3), .slice A166_4 ((rd_T45 l0 x6_2).f4).length c166_4, .slice A166_5 ((rd_T45 l0 x6_2).f5).length c166_5, .slice none 0 0]) ?_ 6 _ rfl; (with_reducible repeat (first | refine blk_drewN ?_ _ | refine blk_drew ?_ | refine blk_alloc ?_ _)); refine blk_put (cs := #[.int .i64 ((rd_T45 l0 x6_2).f0), .int .i64 ((rd_T45 l0 x6_2).f1), .string ((rd_T45 l0 x6_2).f2), .string ((rd_T45 l0 x6_2).f3), .slice A166_4 ((rd_T45 l0 x6_2).f4).length c166_4, .slice none 0 0, .slice none 0 0]) ?_ 5 _ rfl; (with_reducible repeat (first | refine blk_drewN ?_ _ | refine blk_drew ?_ | refine blk_alloc ?_ _)); refine blk_put (cs := #[.int .i64 ((rd_T45 l0 x6_2).f0), .int .i64 ((rd_T45 l0 x6_2).f1), .string ((rd_T45 l0 x6_2).f2), .string ((rd_T45 l0 x6_2).f3), .slice none 0 0, .slice none 0 0, .slice none 0 0]) ?_ 4 _ rfl; (with_reducible repeat (first | refine blk_drewN ?_ _ | refine blk_drew ?_ | refine blk_alloc ?_ _)); refine blk_put (cs := #[.int .i64 ((rd_T45 l0 x6_2).f0), .int .i64 ((rd_T45 l0 x6_2).f1), .string ((rd_T45 l0 x6_2).f2), .string (⟨#[]⟩ : ByteArray), .slice none 0 0, .slice none 0 0, .slice none 0 0]) ?_ 3 _ rfl; (with_reducible repeat (first | refine blk_drewN ?_ _ | refine blk_drew ?_ | refine blk_alloc ?_ _)); refine blk_put (cs := #[.int .i64 ((rd_T45 l0 x6_2).f0), .int .i64 ((rd_T45 l0 x6_2).f1), .string (⟨#[]⟩ : ByteArray), .string (⟨#[]⟩ : ByteArray), .slice none 0 0, .slice none 0 0, .slice none 0 0]) ?_ 2 _ rfl; (with_reducible repeat (first | refine blk_drewN ?_ _ | refine blk_drew ?_ | refine blk_alloc ?_ _)); refine blk_put (cs := #[.int .i64 ((rd_T45 l0 x6_2).f0), .int .i64 0, .string (⟨#[]⟩ : ByteArray), .string (⟨#[]⟩ : ByteArray), .slice none 0 0, .slice none 0 0, .slice none 0 0]) ?_ 1 _ rfl; (with_reducible repeat (first | refine blk_drewN ?_ _ | refine blk_drew ?_ | refine blk_alloc ?_ _)); refine blk_put (cs := #[.int .i64 0, .int .i64 0, .string (⟨#[]⟩ : ByteArray), .string (⟨#[]⟩ : ByteArray), .slice none 0 0, .slice none 0 0, .slice none 0 0]) ?_ 0 _ rfl; (with_reducible repeat (first | refine blk_drewN ?_ _ | refine blk_drew ?_ | refine blk_alloc ?_ _)); exact BK167.out⟩, ⟨by repeat (first | (with_reducible first | exact HB.out | apply below_alloc | apply pw_below_drewN | apply below_drew1 | refine below_set ?_ GE167.out) | exact HB.out)⟩⟩
         ·rw [if_neg c11] at H
          have c11b0 : decide (40 < (((rd_T45 l0 x6_2).f2).size : Int)) = false := decide_eq_false c11
          have c11b1 : decide (40 < ((rd_T45 l0 x6_2).f2).size) = false := decide_eq_false (by omega)
          clear c11
          (first | rw [c11b0] | (simp only [i64_w, i32_w]; rw [c11b0]) | skip)
          by_cases c13 : (((rd_T45 l0 x6_2).f3).size : Int) > 40
          ·rw [if_pos c13] at H
           have c13b0 : decide (40 < (((rd_T45 l0 x6_2).f3).size : Int)) = true := decide_eq_true c13
           have c13b1 : decide (40 < ((rd_T45 l0 x6_2).f3).size) = true := decide_eq_true (by omega)
           clear c13
           have H' := Aside0.mk H
           clear H
           have hcz14_0 : w9.cell? ⟨gb167, 0, none⟩ = some (.int .i64 0) := (blk_cell BK167.out 0).trans rfl
           have hcz14_1 : w9.cell? ⟨gb167, 1, none⟩ = some (.int .i64 0) := (blk_cell BK167.out 1).trans rfl
           have hcz14_2 : w9.cell? ⟨gb167, 2, none⟩ = some (.string (⟨#[]⟩ : ByteArray)) := (blk_cell BK167.out 2).trans rfl
           have hcz14_3 : w9.cell? ⟨gb167, 3, none⟩ = some (.string (⟨#[]⟩ : ByteArray)) := (blk_cell BK167.out 3).trans rfl
           have hcz14_4 : w9.cell? ⟨gb167, 4, none⟩ = some (.slice none 0 0) := (blk_cell BK167.out 4).trans rfl
           have hcz14_5 : w9.cell? ⟨gb167, 5, none⟩ = some (.slice none 0 0) := (blk_cell BK167.out 5).trans rfl
           have hcz14_6 : w9.cell? ⟨gb167, 6, none⟩ = some (.slice none 0 0) := (blk_cell BK167.out 6).trans rfl
           have hfz14_0 := blk_frozen BK167.out 0
           have hfz14_1 := blk_frozen BK167.out 1
           have hfz14_2 := blk_frozen BK167.out 2
           have hfz14_3 := blk_frozen BK167.out 3
           have hfz14_4 := blk_frozen BK167.out 4
           have hfz14_5 := blk_frozen BK167.out 5
           have hfz14_6 := blk_frozen BK167.out 6
           go_wp2
           go_meet
           case rel => exact ⟨_, (true), (by first | rfl | (simp; done) | (simp [*]; done)), H', ⟨by have := HJ2.out; have := HK2.out; first | omega | exact Nat.le_refl _⟩, ⟨by (with_reducible repeat (first | refine blk_drewN ?_ _ | refine blk_drew ?_ | refine blk_alloc ?_ _)); refine blk_put (cs := #[.int .i64 ((rd_T45 l0 x6_2).f0), .int .i64 ((rd_T45 l0 x6_2).f1), .string ((rd_T45 l0 x6_2).f2), .string ((rd_T45 l0 x6_2).f3), .slice A166_4 ((rd_T45 l0 x6_2).f4).length c166_4, .slice A166_5 ((rd_T45 l0 x6_2).f5).length c166_5, .slice none 0 0]) ?_ 6 _ rfl; (with_reducible repeat (first | refine blk_drewN ?_ _ | refine blk_drew ?_ | refine blk_alloc ?_ _)); refine blk_put (cs := #[.int .i64 ((rd_T45 l0 x6_2).f0), .int .i64 ((rd_T45 l0 x6_2).f1), .string ((rd_T45 l0 x6_2).f2), .string ((rd_T45 l0 x6_2).f3), .slice A166_4 ((rd_T45 l0 x6_2).f4).length c166_4, .slice none 0 0, .slice none 0 0]) ?_ 5 _ rfl; (with_reducible repeat (first | refine blk_drewN ?_ _ | refine blk_drew ?_ | refine blk_alloc ?_ _)); refine blk_put (cs := #[.int .i64 ((rd_T45 l0 x6_2).f0), .int .i64 ((rd_T45 l0 x6_2).f1), .string ((rd_T45 l0 x6_2).f2), .string ((rd_T45 l0 x6_2).f3), .slice none 0 0, .slice none 0 0, .slice none 0 0]) ?_ 4 _ rfl; (with_reducible repeat (first | refine blk_drewN ?_ _ | refine blk_drew ?_ | refine blk_alloc ?_ _)); refine blk_put (cs := #[.int .i64 ((rd_T45 l0 x6_2).f0), .int .i64 ((rd_T45 l0 x6_2).f1), .string ((rd_T45 l0 x6_2).f2), .string (⟨#[]⟩ : ByteArray), .slice none 0 0, .slice none 0 0, .slice none 0 0]) ?_ 3 _ rfl; (with_reducible repeat (first | refine blk_drewN ?_ _ | refine blk_drew ?_ | refine blk_alloc ?_ _)); refine blk_put (cs := #[.int .i64 ((rd_T45 l0 x6_2).f0), .int .i64 ((rd_T45 l0 x6_2).f1), .string (⟨#[]⟩ : ByteArray), .string (⟨#[]⟩ : ByteArray), .slice none 0 0, .slice none 0 0, .slice none 0 0]) ?_ 2 _ rfl; (with_reducible repeat (first | refine blk_drewN ?_ _ | refine blk_drew ?_ | refine blk_alloc ?_ _)); refine blk_put (cs := #[.int .i64 ((rd_T45 l0 x6_2).f0), .int .i64 0, .string (⟨#[]⟩ : ByteArray), .string (⟨#[]⟩ : ByteArray), .slice none 0 0, .slice none 0 0, .slice none 0 0]) ?_ 1 _ rfl; (with_reducible repeat (first | refine blk_drewN ?_ _ | refine blk_drew ?_ | refine blk_alloc ?_ _)); refine blk_put (cs := #[.int .i64 0, .int .i64 0, .string (⟨#[]⟩ : ByteArray), .string (⟨#[]⟩ : ByteArray), .slice none 0 0, .slice none 0 0, .slice none 0 0]) ?_ 0 _ rfl; (with_reducible repeat (first | refine blk_drewN ?_ _ | refine blk_drew ?_ | refine blk_alloc ?_ _)); exact BK167.out⟩, ⟨by repeat (first | (with_reducible first | exact HB.out | apply below_alloc | apply pw_below_drewN | apply below_drew1 | refine below_set ?_ GE167.out) | exact HB.out)⟩⟩
          ·rw [if_neg c13] at H
           have c13b0 : decide (40 < (((rd_T45 l0 x6_2).f3).size : Int)) = false := decide_eq_false c13
           have c13b1 : decide (40 < ((rd_T45 l0 x6_2).f3).size) = false := decide_eq_false (by omega)
           clear c13
           have H' := Aside0.mk H
           clear H
           have hcz15_0 : w9.cell? ⟨gb167, 0, none⟩ = some (.int .i64 0) := (blk_cell BK167.out 0).trans rfl
           have hcz15_1 : w9.cell? ⟨gb167, 1, none⟩ = some (.int .i64 0) := (blk_cell BK167.out 1).trans rfl
           have hcz15_2 : w9.cell? ⟨gb167, 2, none⟩ = some (.string (⟨#[]⟩ : ByteArray)) := (blk_cell BK167.out 2).trans rfl
           have hcz15_3 : w9.cell? ⟨gb167, 3, none⟩ = some (.string (⟨#[]⟩ : ByteArray)) := (blk_cell BK167.out 3).trans rfl
           have hcz15_4 : w9.cell? ⟨gb167, 4, none⟩ = some (.slice none 0 0) := (blk_cell BK167.out 4).trans rfl
           have hcz15_5 : w9.cell? ⟨gb167, 5, none⟩ = some (.slice none 0 0) := (blk_cell BK167.out 5).trans rfl
           have hcz15_6 : w9.cell? ⟨gb167, 6, none⟩ = some (.slice none 0 0) := (blk_cell BK167.out 6).trans rfl
           have hfz15_0 := blk_frozen BK167.out 0
           have hfz15_1 := blk_frozen BK167.out 1
           have hfz15_2 := blk_frozen BK167.out 2
           have hfz15_3 := blk_frozen BK167.out 3
           have hfz15_4 := blk_frozen BK167.out 4
           have hfz15_5 := blk_frozen BK167.out 5
           have hfz15_6 := blk_frozen BK167.out 6
           go_wp2
           go_meet
           case rel => exact ⟨_, (decide ((((rd_T45 l0 x6_2).f4).length : Int) > 20)), (by first | rfl | (simp; done) | (simp [*]; done)), H', ⟨by have := HJ2.out; have := HK2.out; first | omega | exact Nat.le_refl _⟩, ⟨by (with_reducible repeat (first | refine blk_drewN ?_ _ | refine blk_drew ?_ | refine blk_alloc ?_ _)); refine blk_put (cs := #[.int .i64 ((rd_T45 l0 x6_2).f0), .int .i64 ((rd_T45 l0 x6_2).f1), .string ((rd_T45 l0 x6_2).f2), .string ((rd_T45 l0 x6_2).f3), .slice A166_4 ((rd_T45 l0 x6_2).f4).length c166_4, .slice A166_5 ((rd_T45 l0 x6_2).f5).length c166_5, .slice none 0 0]) ?_ 6 _ rfl; (with_reducible repeat (first | refine blk_drewN ?_ _ | refine blk_drew ?_ | refine blk_alloc ?_ _)); refine blk_put (cs := #[.int .i64 ((rd_T45 l0 x6_2).f0), .int .i64 ((rd_T45 l0 x6_2).f1), .string ((rd_T45 l0 x6_2).f2), .string ((rd_T45 l0 x6_2).f3), .slice A166_4 ((rd_T45 l0 x6_2).f4).length c166_4, .slice none 0 0, .slice none 0 0]) ?_ 5 _ rfl; (with_reducible repeat (first | refine blk_drewN ?_ _ | refine blk_drew ?_ | refine blk_alloc ?_ _)); refine blk_put (cs := #[.int .i64 ((rd_T45 l0 x6_2).f0), .int .i64 ((rd_T45 l0 x6_2).f1), .string ((rd_T45 l0 x6_2).f2), .string ((rd_T45 l0 x6_2).f3), .slice none 0 0, .slice none 0 0, .slice none 0 0]) ?_ 4 _ rfl; (with_reducible repeat (first | refine blk_drewN ?_ _ | refine blk_drew ?_ | refine blk_alloc ?_ _)); refine blk_put (cs := #[.int .i64 ((rd_T45 l0 x6_2).f0), .int .i64 ((rd_T45 l0 x6_2).f1), .string ((rd_T45 l0 x6_2).f2), .string (⟨#[]⟩ : ByteArray), .slice none 0 0, .slice none 0 0, .slice none 0 0]) ?_ 3 _ rfl; (with_reducible repeat (first | refine blk_drewN ?_ _ | refine blk_drew ?_ | refine blk_alloc ?_ _)); refine blk_put (cs := #[.int .i64 ((rd_T45 l0 x6_2).f0), .int .i64 ((rd_T45 l0 x6_2).f1), .string (⟨#[]⟩ : ByteArray), .string (⟨#[]⟩ : ByteArray), .slice none 0 0, .slice none 0 0, .slice none 0 0]) ?_ 2 _ rfl; (with_reducible repeat (first | refine blk_drewN ?_ _ | refine blk_drew ?_ | refine blk_alloc ?_ _)); refine blk_put (cs := #[.int .i64 ((rd_T45 l0 x6_2).f0), .int .i64 0, .string (⟨#[]⟩ : ByteArray), .string (⟨#[]⟩ : ByteArray), .slice none 0 0, .slice none 0 0, .slice none 0 0]) ?_ 1 _ rfl; (with_reducible repeat (first | refine blk_drewN ?_ _ | refine blk_drew ?_ | refine blk_alloc ?_ _)); refine blk_put (cs := #[.int .i64 0, .int .i64 0, .string (⟨#[]⟩ : ByteArray), .string (⟨#[]⟩ : ByteArray), .slice none 0 0, .slice none 0 0, .slice none 0 0]) ?_ 0 _ rfl; (with_reducible repeat (first | refine blk_drewN ?_ _ | refine blk_drew ?_ | refine blk_alloc ?_ _)); exact BK167.out⟩, ⟨by repeat (first | (with_reducible first | exact HB.out | apply below_alloc | apply pw_below_drewN | apply below_drew1 | refine below_set ?_ GE167.out) | exact HB.out)⟩⟩
        case rest =>
         clear HC8
         try clear c1
         try clear p1
         try clear q1
         try clear hx1
         try clear p2
         try clear c4
         try clear c4b0
         try clear c5
         try clear c6
         try clear c6b0
         try clear c7
         try clear c7b0
         try clear c11
         try clear c11b0
         try clear c11b1
         try clear c13
         try clear c13b0
         try clear c13b1
         try clear hcz10_0
         try clear hcz10_1
         try clear hcz10_2
         try clear hcz10_3
         try clear hcz10_4
         try clear hcz10_5
         try clear hcz10_6
         try clear hcz12_0
         try clear hcz12_1
         try clear hcz12_2
         try clear hcz12_3
         try clear hcz12_4
         try clear hcz12_5
         try clear hcz12_6
         try clear hcz14_0
         try clear hcz14_1
         try clear hcz14_2
         try clear hcz14_3
         try clear hcz14_4
         try clear hcz14_5
         try clear hcz14_6
         try clear hcz15_0
         try clear hcz15_1
         try clear hcz15_2
         try clear hcz15_3
         try clear hcz15_4
         try clear hcz15_5
         try clear hcz15_6
         try clear hfz10_0
         try clear hfz10_1
         try clear hfz10_2
         try clear hfz10_3
         try clear hfz10_4
         try clear hfz10_5
         try clear hfz10_6
         try clear hfz12_0
         try clear hfz12_1
         try clear hfz12_2
         try clear hfz12_3
         try clear hfz12_4
         try clear hfz12_5
         try clear hfz12_6
         try clear hfz14_0
         try clear hfz14_1
         try clear hfz14_2
         try clear hfz14_3
         try clear hfz14_4
         try clear hfz14_5
         try clear hfz14_6
         try clear hfz15_0
         try clear hfz15_1
         try clear hfz15_2
         try clear hfz15_3
         try clear hfz15_4
         try clear hfz15_5
         try clear hfz15_6
         try clear hx166_0
         try clear hx166_1
         try clear hx166_2
         try clear hx166_3
         try clear hx166_4
         try clear hx166_5
         try clear hx166_6
         try clear p166
         try clear p2
         try clear q166
         obtain ⟨kq, x41_7, rfl, HA, HJ7, BK167, HB⟩ := hcut
         cases kq with
         | zero => exact absurd HA.out (by simp [withemade_stmtsSize.j2])
         | succ kj7 =>
          have H := HA.out
          clear HA
          simp only [withemade_stmtsSize.j2] at H
          by_cases c16 : x41_7 = true
          ·subst c16
           have H1 : (some 301) = some r := by rw [if_pos rfl] at H; exact H
           clear H
           have H := H1
           clear H1
           obtain rfl := Option.some.inj H
           go_wp2
           go_ret
           exact ⟨by first | rfl | (simp [errW_none, errW_some] <;> rfl) | (simp [*, errW_none, errW_some] <;> rfl), by repeat (first | (with_reducible first | exact HB.out | apply below_alloc | apply pw_below_drewN | apply below_drew1 | refine below_set ?_ GE167.out) | exact HB.out)⟩
          ·replace c16 := Bool.eq_false_iff.mpr c16
           subst c16
           have H1 : (withemade_stmtsSize.l1 kj7 l0 a1 (wrap64 (x5_2 + 1)) x6_2 0 ((rd_T45 l0 x6_2).f0) ((rd_T45 l0 x6_2).f1) ((rd_T45 l0 x6_2).f2) ((rd_T45 l0 x6_2).f3) ((rd_T45 l0 x6_2).f4) ((rd_T45 l0 x6_2).f5) ((rd_T45 l0 x6_2).f6)) = some r := by rw [if_neg (show ¬ (false = true) by decide)] at H; exact H
           clear H
           have H := H1
           clear H1
           have H' := Aside0.mk H
           clear H
           go_wp2
           try go_simp
           go_loopg [5, 8] kj7 (fun kq v5 v8 w' => ∃ (x5_4 : Int) (x8_4 : Int), v5 = .int .i64 x5_4 ∧ v8 = .int .i64 x8_4 ∧ Aside0 (withemade_stmtsSize.l1 kq l0 a1 x5_4 x6_2 x8_4 ((rd_T45 l0 x6_2).f0) ((rd_T45 l0 x6_2).f1) ((rd_T45 l0 x6_2).f2) ((rd_T45 l0 x6_2).f3) ((rd_T45 l0 x6_2).f4) ((rd_T45 l0 x6_2).f5) ((rd_T45 l0 x6_2).f6) = some r) ∧ Aside0 (kq ≤ kj7) ∧ Aside0 (w'.heap[gb167]? = some (.cells #[.int .i64 ((rd_T45 l0 x6_2).f0), .int .i64 ((rd_T45 l0 x6_2).f1), .string ((rd_T45 l0 x6_2).f2), .string ((rd_T45 l0 x6_2).f3), (.slice A166_4 ((rd_T45 l0 x6_2).f4).length c166_4), (.slice A166_5 ((rd_T45 l0 x6_2).f5).length c166_5), (.slice A166_6 ((rd_T45 l0 x6_2).f6).length c166_6)] 45 (0, 0))) ∧ Aside0 (Below w.heap.size w w'))
           case atStart => exact ⟨(wrap64 (x5_2 + 1)), (0), (by first | rfl | (simp; done) | (simp [*]; done)), (by first | rfl | (simp; done) | (simp [*]; done)), H', ⟨Nat.le_refl _⟩, ⟨by (with_reducible repeat (first | refine blk_drewN ?_ _ | refine blk_drew ?_ | refine blk_alloc ?_ _)); exact BK167.out⟩, ⟨by repeat (first | (with_reducible first | exact HB.out | apply below_alloc | apply pw_below_drewN | apply below_drew1 | refine below_set ?_ GE167.out) | exact HB.out)⟩⟩
           case round =>
            clear H'
            try clear c1
            try clear p1
            try clear q1
            try clear hx1
            try clear p2
            try clear c4
            try clear c4b0
            try clear c5
            try clear c6
            try clear c6b0
            try clear p6
            try clear c7
            try clear c7b0
            try clear c11
            try clear c11b0
            try clear c11b1
            try clear c13
            try clear c13b0
            try clear c13b1
            try clear c16
            try clear p16
            try clear q16
            try clear hx16
            try clear hcz10_0
            try clear hcz10_1
            try clear hcz10_2
            try clear hcz10_3
            try clear hcz10_4
            try clear hcz10_5
            try clear hcz10_6
            try clear hcz12_0
            try clear hcz12_1
            try clear hcz12_2
            try clear hcz12_3
            try clear hcz12_4
            try clear hcz12_5
            try clear hcz12_6
            try clear hcz14_0
            try clear hcz14_1
            try clear hcz14_2
            try clear hcz14_3
            try clear hcz14_4
            try clear hcz14_5
            try clear hcz14_6
            try clear hcz15_0
            try clear hcz15_1
            try clear hcz15_2
            try clear hcz15_3
            try clear hcz15_4
            try clear hcz15_5
            try clear hcz15_6
            try clear hfz10_0
            try clear hfz10_1
            try clear hfz10_2
            try clear hfz10_3
            try clear hfz10_4
            try clear hfz10_5
            try clear hfz10_6
            try clear hfz12_0
            try clear hfz12_1
            try clear hfz12_2
            try clear hfz12_3
            try clear hfz12_4
            try clear hfz12_5
            try clear hfz12_6
            try clear hfz14_0
            try clear hfz14_1
            try clear hfz14_2
            try clear hfz14_3
            try clear hfz14_4
            try clear hfz14_5
            try clear hfz14_6
            try clear hfz15_0
            try clear hfz15_1
            try clear hfz15_2
            try clear hfz15_3
            try clear hfz15_4
            try clear hfz15_5
            try clear hfz15_6
            try clear hx166_0
            try clear hx166_1
            try clear hx166_2
            try clear hx166_3
            try clear hx166_4
            try clear hx166_5
            try clear hx166_6
            try clear p1
            try clear p166
            try clear p2
            try clear q1
            try clear q166
            obtain ⟨x5_4, x8_4, rfl, rfl, HA, HK4, BK167, HB⟩ := hrel
            cases gk with
            | zero => exact absurd HA.out (by simp [withemade_stmtsSize.l1])
            | succ k4 =>
             have H := HA.out
             clear HA
             simp only [withemade_stmtsSize.l1] at H
             by_cases c17 : x8_4 < (((rd_T45 l0 x6_2).f4).length : Int)
             ·rw [if_pos c17] at H
              have c17b0 : decide (x8_4 < (((rd_T45 l0 x6_2).f4).length : Int)) = true := decide_eq_true c17
              clear c17
              by_cases c18 : 0 ≤ x8_4
              ·rw [if_pos c18] at H
               have c18b0 : decide (0 ≤ x8_4) = true := decide_eq_true c18
               clear c18
               replace H := Option.bind_eq_some_iff.mp H
               obtain ⟨t169, A190, H⟩ := H
               replace H : (if (wrap64 (x5_4 + t169)) > 300 then (some (wrap64 (x5_4 + t169))) else (withemade_stmtsSize.l1 k4 l0 a1 (wrap64 (x5_4 + t169)) x6_2 (wrap64 (x8_4 + 1)) ((rd_T45 l0 x6_2).f0) ((rd_T45 l0 x6_2).f1) ((rd_T45 l0 x6_2).f2) ((rd_T45 l0 x6_2).f3) ((rd_T45 l0 x6_2).f4) ((rd_T45 l0 x6_2).f5) ((rd_T45 l0 x6_2).f6))) = some r := H
               have A19 := Aside0.mk A190
               clear A190
               by_cases c20 : (wrap64 (x5_4 + t169)) > 300
               ·rw [if_pos c20] at H
                have c20b0 : decide (300 < (wrap64 (x5_4 + t169))) = true := decide_eq_true c20
                clear c20
                obtain rfl := Option.some.inj H
                have hcz21_0 : wr.cell? ⟨gb167, 0, none⟩ = some (.int .i64 ((rd_T45 l0 x6_2).f0)) := (blk_cell BK167.out 0).trans rfl
                have hcz21_1 : wr.cell? ⟨gb167, 1, none⟩ = some (.int .i64 ((rd_T45 l0 x6_2).f1)) := (blk_cell BK167.out 1).trans rfl
                have hcz21_2 : wr.cell? ⟨gb167, 2, none⟩ = some (.string ((rd_T45 l0 x6_2).f2)) := (blk_cell BK167.out 2).trans rfl
                have hcz21_3 : wr.cell? ⟨gb167, 3, none⟩ = some (.string ((rd_T45 l0 x6_2).f3)) := (blk_cell BK167.out 3).trans rfl
                have hcz21_4 : wr.cell? ⟨gb167, 4, none⟩ = some (.slice A166_4 ((rd_T45 l0 x6_2).f4).length c166_4) := (blk_cell BK167.out 4).trans rfl
                have hcz21_5 : wr.cell? ⟨gb167, 5, none⟩ = some (.slice A166_5 ((rd_T45 l0 x6_2).f5).length c166_5) := (blk_cell BK167.out 5).trans rfl
                have hcz21_6 : wr.cell? ⟨gb167, 6, none⟩ = some (.slice A166_6 ((rd_T45 l0 x6_2).f6).length c166_6) := (blk_cell BK167.out 6).trans rfl
                have hfz21_0 := blk_frozen BK167.out 0
                have hfz21_1 := blk_frozen BK167.out 1
                have hfz21_2 := blk_frozen BK167.out 2
                have hfz21_3 := blk_frozen BK167.out 3
                have hfz21_4 := blk_frozen BK167.out 4
                have hfz21_5 := blk_frozen BK167.out 5
                have hfz21_6 := blk_frozen BK167.out 6
                have p168 : 0 ≤ (x8_4 : Int) := of_decide_eq_true (by first | (with_reducible assumption) | assumption)
                have q168 : x8_4 < (((rd_T45 l0 x6_2).f4).length : Int) := of_decide_eq_true (by first | (with_reducible assumption) | assumption)
                obtain ⟨ad168, A168_3, c168_3, e168, hx168_0, hx168_1, hx168_2, hx168_3, hl168_3, hi168_3⟩ := at_T31 HR166_4.out x8_4 p168 q168
                cases e168
                replace hx168_0 := (HB.out.cell (World.block_lt_of_cell? w _ hx168_0)).trans hx168_0
                replace hx168_1 := (HB.out.cell (World.block_lt_of_cell? w _ hx168_1)).trans hx168_1
                replace hx168_2 := (HB.out.cell (World.block_lt_of_cell? w _ hx168_2)).trans hx168_2
                replace hx168_3 := (HB.out.cell (World.block_lt_of_cell? w _ hx168_3)).trans hx168_3
                have HR168_3 := Aside0.mk hi168_3
                have HC168_3 := Aside0.mk hl168_3
                clear hi168_3 hl168_3
                replace p168 := eq_true p168
                replace q168 := eq_true q168
                go_wp2_with (first | ((with_reducible refine gate_callee (f := 6) rfl ?_); refine goesL_ (some 57) rfl rfl Tryd.func6 (by kernel_rfl) rfl #[.agg #[.int .i64 ((rd_T31 ((rd_T45 l0 x6_2).f4) x8_4).f0), .int .i64 ((rd_T31 ((rd_T45 l0 x6_2).f4) x8_4).f1), .string ((rd_T31 ((rd_T45 l0 x6_2).f4) x8_4).f2), .slice A168_3 ((rd_T31 ((rd_T45 l0 x6_2).f4) x8_4).f3).length c168_3], .int .i64 0] rfl (by (try simp only [List.map_toArray, List.map_cons, List.map_nil]); first | done | rfl | (simp only [List.length_drop, List.length_take]; rfl)) ?_; (with_reducible refine (withemade_ExprSize.calls k4 ((rd_T31 ((rd_T45 l0 x6_2).f4) x8_4).f0) ((rd_T31 ((rd_T45 l0 x6_2).f4) x8_4).f1) ((rd_T31 ((rd_T45 l0 x6_2).f4) x8_4).f2) _ _ ((rd_T31 ((rd_T45 l0 x6_2).f4) x8_4).f3) 0 t169 _ ?side1 ?side2 A19.out).mono ?_); (case side1 => repeat (first | exact (Kd.C_below HR168_3.out HB.out) | (with_reducible refine Kd.C_alloc ?_ _) | (with_reducible refine Kd.C_drewN ?_ _) | (with_reducible refine Kd.C_drew ?_))); (case side2 => exact HC168_3.out); rintro e w22 ⟨rfl, hb⟩; refine ⟨_, rfl, ?_⟩; have n0_ := Aside0.mk (blk_below (g := gb167) (o := .cells #[.int .i64 ((rd_T45 l0 x6_2).f0), .int .i64 ((rd_T45 l0 x6_2).f1), .string ((rd_T45 l0 x6_2).f2), .string ((rd_T45 l0 x6_2).f3), .slice (some ad168) ((rd_T45 l0 x6_2).f4).length c166_4, .slice A166_5 ((rd_T45 l0 x6_2).f5).length c166_5, .slice A166_6 ((rd_T45 l0 x6_2).f6).length c166_6] 45 (0, 0)) (by (with_reducible repeat (first | refine blk_drewN ?_ _ | refine blk_drew ?_ | refine blk_alloc ?_ _)); exact BK167.out) hb); have n1_ := Aside0.mk (below_step (by repeat (first | (with_reducible first | exact HB.out | apply below_alloc | apply pw_below_drewN | apply below_drew1 | refine below_set ?_ GE167.out) | exact HB.out)) hb); clear BK167; clear HB; have BK167 := n0_; have HB := n1_; clear n0_ n1_; (try clear hb); (try clear hb2); (try clear hk); (try clear hi)))
                go_ret
                exact ⟨by first | rfl | (simp [errW_none, errW_some] <;> rfl) | (simp [*, errW_none, errW_some] <;> rfl), by repeat (first | (with_reducible first | exact HB.out | apply below_alloc | apply pw_below_drewN | apply below_drew1 | refine below_set ?_ GE167.out) | exact HB.out)⟩
               ·rw [if_neg c20] at H
                have c20b0 : decide (300 < (wrap64 (x5_4 + t169))) = false := decide_eq_false c20
                clear c20
                have H' := Aside0.mk H
                clear H
                have hcz23_0 : wr.cell? ⟨gb167, 0, none⟩ = some (.int .i64 ((rd_T45 l0 x6_2).f0)) := (blk_cell BK167.out 0).trans rfl
                have hcz23_1 : wr.cell? ⟨gb167, 1, none⟩ = some (.int .i64 ((rd_T45 l0 x6_2).f1)) := (blk_cell BK167.out 1).trans rfl
                have hcz23_2 : wr.cell? ⟨gb167, 2, none⟩ = some (.string ((rd_T45 l0 x6_2).f2)) := (blk_cell BK167.out 2).trans rfl
                have hcz23_3 : wr.cell? ⟨gb167, 3, none⟩ = some (.string ((rd_T45 l0 x6_2).f3)) := (blk_cell BK167.out 3).trans rfl
                have hcz23_4 : wr.cell? ⟨gb167, 4, none⟩ = some (.slice A166_4 ((rd_T45 l0 x6_2).f4).length c166_4) := (blk_cell BK167.out 4).trans rfl
                have hcz23_5 : wr.cell? ⟨gb167, 5, none⟩ = some (.slice A166_5 ((rd_T45 l0 x6_2).f5).length c166_5) := (blk_cell BK167.out 5).trans rfl
                have hcz23_6 : wr.cell? ⟨gb167, 6, none⟩ = some (.slice A166_6 ((rd_T45 l0 x6_2).f6).length c166_6) := (blk_cell BK167.out 6).trans rfl
                have hfz23_0 := blk_frozen BK167.out 0
                have hfz23_1 := blk_frozen BK167.out 1
                have hfz23_2 := blk_frozen BK167.out 2
                have hfz23_3 := blk_frozen BK167.out 3
                have hfz23_4 := blk_frozen BK167.out 4
                have hfz23_5 := blk_frozen BK167.out 5
                have hfz23_6 := blk_frozen BK167.out 6
                have p168 : 0 ≤ (x8_4 : Int) := of_decide_eq_true (by first | (with_reducible assumption) | assumption)
                have q168 : x8_4 < (((rd_T45 l0 x6_2).f4).length : Int) := of_decide_eq_true (by first | (with_reducible assumption) | assumption)
                obtain ⟨ad168, A168_3, c168_3, e168, hx168_0, hx168_1, hx168_2, hx168_3, hl168_3, hi168_3⟩ := at_T31 HR166_4.out x8_4 p168 q168
                cases e168
                replace hx168_0 := (HB.out.cell (World.block_lt_of_cell? w _ hx168_0)).trans hx168_0
                replace hx168_1 := (HB.out.cell (World.block_lt_of_cell? w _ hx168_1)).trans hx168_1
                replace hx168_2 := (HB.out.cell (World.block_lt_of_cell? w _ hx168_2)).trans hx168_2
                replace hx168_3 := (HB.out.cell (World.block_lt_of_cell? w _ hx168_3)).trans hx168_3
                have HR168_3 := Aside0.mk hi168_3
                have HC168_3 := Aside0.mk hl168_3
                clear hi168_3 hl168_3
                replace p168 := eq_true p168
                replace q168 := eq_true q168
                go_wp2_with (first | ((with_reducible refine gate_callee (f := 6) rfl ?_); refine goesL_ (some 57) rfl rfl Tryd.func6 (by kernel_rfl) rfl #[.agg #[.int .i64 ((rd_T31 ((rd_T45 l0 x6_2).f4) x8_4).f0), .int .i64 ((rd_T31 ((rd_T45 l0 x6_2).f4) x8_4).f1), .string ((rd_T31 ((rd_T45 l0 x6_2).f4) x8_4).f2), .slice A168_3 ((rd_T31 ((rd_T45 l0 x6_2).f4) x8_4).f3).length c168_3], .int .i64 0] rfl (by (try simp only [List.map_toArray, List.map_cons, List.map_nil]); first | done | rfl | (simp only [List.length_drop, List.length_take]; rfl)) ?_; (with_reducible refine (withemade_ExprSize.calls k4 ((rd_T31 ((rd_T45 l0 x6_2).f4) x8_4).f0) ((rd_T31 ((rd_T45 l0 x6_2).f4) x8_4).f1) ((rd_T31 ((rd_T45 l0 x6_2).f4) x8_4).f2) _ _ ((rd_T31 ((rd_T45 l0 x6_2).f4) x8_4).f3) 0 t169 _ ?side1 ?side2 A19.out).mono ?_); (case side1 => repeat (first | exact (Kd.C_below HR168_3.out HB.out) | (with_reducible refine Kd.C_alloc ?_ _) | (with_reducible refine Kd.C_drewN ?_ _) | (with_reducible refine Kd.C_drew ?_))); (case side2 => exact HC168_3.out); rintro e w24 ⟨rfl, hb⟩; refine ⟨_, rfl, ?_⟩; have n0_ := Aside0.mk (blk_below (g := gb167) (o := .cells #[.int .i64 ((rd_T45 l0 x6_2).f0), .int .i64 ((rd_T45 l0 x6_2).f1), .string ((rd_T45 l0 x6_2).f2), .string ((rd_T45 l0 x6_2).f3), .slice (some ad168) ((rd_T45 l0 x6_2).f4).length c166_4, .slice A166_5 ((rd_T45 l0 x6_2).f5).length c166_5, .slice A166_6 ((rd_T45 l0 x6_2).f6).length c166_6] 45 (0, 0)) (by (with_reducible repeat (first | refine blk_drewN ?_ _ | refine blk_drew ?_ | refine blk_alloc ?_ _)); exact BK167.out) hb); have n1_ := Aside0.mk (below_step (by repeat (first | (with_reducible first | exact HB.out | apply below_alloc | apply pw_below_drewN | apply below_drew1 | refine below_set ?_ GE167.out) | exact HB.out)) hb); clear BK167; clear HB; have BK167 := n0_; have HB := n1_; clear n0_ n1_; (try clear hb); (try clear hb2); (try clear hk); (try clear hi)))
                go_roundg k4
                case measure => have := HJ2.out; have := HK2.out; have := HJ7.out; have := HK4.out; omega
                case rel => exact ⟨(wrap64 (x5_4 + t169)), (wrap64 (x8_4 + 1)), (by first | rfl | (simp; done) | (simp [*]; done)), (by first | rfl | (simp; done) | (simp [*]; done)), H', ⟨by have := HJ2.out; have := HK2.out; have := HJ7.out; have := HK4.out; omega⟩, ⟨by (with_reducible repeat (first | refine blk_drewN ?_ _ | refine blk_drew ?_ | refine blk_alloc ?_ _)); exact BK167.out⟩, ⟨by repeat (first | (with_reducible first | exact HB.out | apply below_alloc | apply pw_below_drewN | apply below_drew1 | refine below_set ?_ GE167.out) | exact HB.out)⟩⟩
              ·rw [if_neg c18] at H
               exact absurd H (by simp)
             ·rw [if_neg c17] at H
              have c17b0 : decide (x8_4 < (((rd_T45 l0 x6_2).f4).length : Int)) = false := decide_eq_false c17
              clear c17
              replace H := Option.bind_eq_some_iff.mp H
              obtain ⟨t170, A250, H⟩ := H
              replace H : (if (wrap64 (x5_4 + t170)) > 300 then (some (wrap64 (x5_4 + t170))) else ((withemade_stmtsSize.f k4 ((rd_T45 l0 x6_2).f6) (wrap64 (a1 + 1))).bind fun t171 => (if (wrap64 ((wrap64 (x5_4 + t170)) + t171)) > 300 then (some (wrap64 ((wrap64 (x5_4 + t170)) + t171))) else (withemade_stmtsSize.l0 k4 l0 a1 (wrap64 ((wrap64 (x5_4 + t170)) + t171)) (wrap64 (x6_2 + 1)))))) = some r := H
              have A25 := Aside0.mk A250
              clear A250
              by_cases c26 : (wrap64 (x5_4 + t170)) > 300
              ·rw [if_pos c26] at H
               have c26b0 : decide (300 < (wrap64 (x5_4 + t170))) = true := decide_eq_true c26
               clear c26
               obtain rfl := Option.some.inj H
               have hcz27_0 : wr.cell? ⟨gb167, 0, none⟩ = some (.int .i64 ((rd_T45 l0 x6_2).f0)) := (blk_cell BK167.out 0).trans rfl
               have hcz27_1 : wr.cell? ⟨gb167, 1, none⟩ = some (.int .i64 ((rd_T45 l0 x6_2).f1)) := (blk_cell BK167.out 1).trans rfl
               have hcz27_2 : wr.cell? ⟨gb167, 2, none⟩ = some (.string ((rd_T45 l0 x6_2).f2)) := (blk_cell BK167.out 2).trans rfl
               have hcz27_3 : wr.cell? ⟨gb167, 3, none⟩ = some (.string ((rd_T45 l0 x6_2).f3)) := (blk_cell BK167.out 3).trans rfl
               have hcz27_4 : wr.cell? ⟨gb167, 4, none⟩ = some (.slice A166_4 ((rd_T45 l0 x6_2).f4).length c166_4) := (blk_cell BK167.out 4).trans rfl
               have hcz27_5 : wr.cell? ⟨gb167, 5, none⟩ = some (.slice A166_5 ((rd_T45 l0 x6_2).f5).length c166_5) := (blk_cell BK167.out 5).trans rfl
               have hcz27_6 : wr.cell? ⟨gb167, 6, none⟩ = some (.slice A166_6 ((rd_T45 l0 x6_2).f6).length c166_6) := (blk_cell BK167.out 6).trans rfl
               have hfz27_0 := blk_frozen BK167.out 0
               have hfz27_1 := blk_frozen BK167.out 1
               have hfz27_2 := blk_frozen BK167.out 2
               have hfz27_3 := blk_frozen BK167.out 3
               have hfz27_4 := blk_frozen BK167.out 4
               have hfz27_5 := blk_frozen BK167.out 5
               have hfz27_6 := blk_frozen BK167.out 6
               go_wp2_with (first | ((with_reducible refine gate_callee (f := 16) rfl ?_); refine goesL_ (some 67) rfl rfl Tryd.func16 (by kernel_rfl) rfl #[.slice A166_5 ((rd_T45 l0 x6_2).f5).length c166_5, .int .i64 (wrap64 (a1 + 1))] rfl (by (try simp only [List.map_toArray, List.map_cons, List.map_nil]); first | done | rfl | (simp only [List.length_drop, List.length_take]; rfl)) ?_; (with_reducible refine (ih k4 (by have := HJ2.out; have := HK2.out; have := HJ7.out; have := HK4.out; omega) _ _ ((rd_T45 l0 x6_2).f5) (wrap64 (a1 + 1)) t170 _ ?side1 ?side2 A25.out).mono ?_); (case side1 => repeat (first | exact (Kd.C_below HR166_5.out HB.out) | (with_reducible refine Kd.C_alloc ?_ _) | (with_reducible refine Kd.C_drewN ?_ _) | (with_reducible refine Kd.C_drew ?_))); (case side2 => exact HC166_5.out); rintro e w28 ⟨rfl, hb⟩; refine ⟨_, rfl, ?_⟩; have n0_ := Aside0.mk (blk_below (g := gb167) (o := .cells #[.int .i64 ((rd_T45 l0 x6_2).f0), .int .i64 ((rd_T45 l0 x6_2).f1), .string ((rd_T45 l0 x6_2).f2), .string ((rd_T45 l0 x6_2).f3), .slice A166_4 ((rd_T45 l0 x6_2).f4).length c166_4, .slice A166_5 ((rd_T45 l0 x6_2).f5).length c166_5, .slice A166_6 ((rd_T45 l0 x6_2).f6).length c166_6] 45 (0, 0)) (by (with_reducible repeat (first | refine blk_drewN ?_ _ | refine blk_drew ?_ | refine blk_alloc ?_ _)); exact BK167.out) hb); have n1_ := Aside0.mk (below_step (by repeat (first | (with_reducible first | exact HB.out | apply below_alloc | apply pw_below_drewN | apply below_drew1 | refine below_set ?_ GE167.out) | exact HB.out)) hb); clear BK167; clear HB; have BK167 := n0_; have HB := n1_; clear n0_ n1_; (try clear hb); (try clear hb2); (try clear hk); (try clear hi)))
               go_ret
               exact ⟨by first | rfl | (simp [errW_none, errW_some] <;> rfl) | (simp [*, errW_none, errW_some] <;> rfl), by repeat (first | (with_reducible first | exact HB.out | apply below_alloc | apply pw_below_drewN | apply below_drew1 | refine below_set ?_ GE167.out) | exact HB.out)⟩
              ·rw [if_neg c26] at H
               have c26b0 : decide (300 < (wrap64 (x5_4 + t170))) = false := decide_eq_false c26
               clear c26
               replace H := Option.bind_eq_some_iff.mp H
               obtain ⟨t171, A290, H⟩ := H
               replace H : (if (wrap64 ((wrap64 (x5_4 + t170)) + t171)) > 300 then (some (wrap64 ((wrap64 (x5_4 + t170)) + t171))) else (withemade_stmtsSize.l0 k4 l0 a1 (wrap64 ((wrap64 (x5_4 + t170)) + t171)) (wrap64 (x6_2 + 1)))) = some r := H
               have A29 := Aside0.mk A290
               clear A290
               by_cases c30 : (wrap64 ((wrap64 (x5_4 + t170)) + t171)) > 300
               ·rw [if_pos c30] at H
                have c30b0 : decide (300 < (wrap64 ((wrap64 (x5_4 + t170)) + t171))) = true := decide_eq_true c30
                clear c30
                obtain rfl := Option.some.inj H
                have hcz31_0 : wr.cell? ⟨gb167, 0, none⟩ = some (.int .i64 ((rd_T45 l0 x6_2).f0)) := (blk_cell BK167.out 0).trans rfl
                have hcz31_1 : wr.cell? ⟨gb167, 1, none⟩ = some (.int .i64 ((rd_T45 l0 x6_2).f1)) := (blk_cell BK167.out 1).trans rfl
                have hcz31_2 : wr.cell? ⟨gb167, 2, none⟩ = some (.string ((rd_T45 l0 x6_2).f2)) := (blk_cell BK167.out 2).trans rfl
                have hcz31_3 : wr.cell? ⟨gb167, 3, none⟩ = some (.string ((rd_T45 l0 x6_2).f3)) := (blk_cell BK167.out 3).trans rfl
                have hcz31_4 : wr.cell? ⟨gb167, 4, none⟩ = some (.slice A166_4 ((rd_T45 l0 x6_2).f4).length c166_4) := (blk_cell BK167.out 4).trans rfl
                have hcz31_5 : wr.cell? ⟨gb167, 5, none⟩ = some (.slice A166_5 ((rd_T45 l0 x6_2).f5).length c166_5) := (blk_cell BK167.out 5).trans rfl
                have hcz31_6 : wr.cell? ⟨gb167, 6, none⟩ = some (.slice A166_6 ((rd_T45 l0 x6_2).f6).length c166_6) := (blk_cell BK167.out 6).trans rfl
                have hfz31_0 := blk_frozen BK167.out 0
                have hfz31_1 := blk_frozen BK167.out 1
                have hfz31_2 := blk_frozen BK167.out 2
                have hfz31_3 := blk_frozen BK167.out 3
                have hfz31_4 := blk_frozen BK167.out 4
                have hfz31_5 := blk_frozen BK167.out 5
                have hfz31_6 := blk_frozen BK167.out 6
                go_wp2_with (first | ((with_reducible refine gate_callee (f := 16) rfl ?_); refine goesL_ (some 67) rfl rfl Tryd.func16 (by kernel_rfl) rfl #[.slice A166_5 ((rd_T45 l0 x6_2).f5).length c166_5, .int .i64 (wrap64 (a1 + 1))] rfl (by (try simp only [List.map_toArray, List.map_cons, List.map_nil]); first | done | rfl | (simp only [List.length_drop, List.length_take]; rfl)) ?_; (with_reducible refine (ih k4 (by have := HJ2.out; have := HK2.out; have := HJ7.out; have := HK4.out; omega) _ _ ((rd_T45 l0 x6_2).f5) (wrap64 (a1 + 1)) t170 _ ?side1 ?side2 A25.out).mono ?_); (case side1 => repeat (first | exact (Kd.C_below HR166_5.out HB.out) | (with_reducible refine Kd.C_alloc ?_ _) | (with_reducible refine Kd.C_drewN ?_ _) | (with_reducible refine Kd.C_drew ?_))); (case side2 => exact HC166_5.out); rintro e w32 ⟨rfl, hb⟩; refine ⟨_, rfl, ?_⟩; have n0_ := Aside0.mk (blk_below (g := gb167) (o := .cells #[.int .i64 ((rd_T45 l0 x6_2).f0), .int .i64 ((rd_T45 l0 x6_2).f1), .string ((rd_T45 l0 x6_2).f2), .string ((rd_T45 l0 x6_2).f3), .slice A166_4 ((rd_T45 l0 x6_2).f4).length c166_4, .slice A166_5 ((rd_T45 l0 x6_2).f5).length c166_5, .slice A166_6 ((rd_T45 l0 x6_2).f6).length c166_6] 45 (0, 0)) (by (with_reducible repeat (first | refine blk_drewN ?_ _ | refine blk_drew ?_ | refine blk_alloc ?_ _)); exact BK167.out) hb); have n1_ := Aside0.mk (below_step (by repeat (first | (with_reducible first | exact HB.out | apply below_alloc | apply pw_below_drewN | apply below_drew1 | refine below_set ?_ GE167.out) | exact HB.out)) hb); clear BK167; clear HB; have BK167 := n0_; have HB := n1_; clear n0_ n1_; (try clear hb); (try clear hb2); (try clear hk); (try clear hi); have hcz33_0 : w32.cell? ⟨gb167, 0, none⟩ = some (.int .i64 ((rd_T45 l0 x6_2).f0)) := (blk_cell BK167.out 0).trans rfl; have hcz33_1 : w32.cell? ⟨gb167, 1, none⟩ = some (.int .i64 ((rd_T45 l0 x6_2).f1)) := (blk_cell BK167.out 1).trans rfl; have hcz33_2 : w32.cell? ⟨gb167, 2, none⟩ = some (.string ((rd_T45 l0 x6_2).f2)) := (blk_cell BK167.out 2).trans rfl; have hcz33_3 : w32.cell? ⟨gb167, 3, none⟩ = some (.string ((rd_T45 l0 x6_2).f3)) := (blk_cell BK167.out 3).trans rfl; have hcz33_4 : w32.cell? ⟨gb167, 4, none⟩ = some (.slice A166_4 ((rd_T45 l0 x6_2).f4).length c166_4) := (blk_cell BK167.out 4).trans rfl; have hcz33_5 : w32.cell? ⟨gb167, 5, none⟩ = some (.slice A166_5 ((rd_T45 l0 x6_2).f5).length c166_5) := (blk_cell BK167.out 5).trans rfl; have hcz33_6 : w32.cell? ⟨gb167, 6, none⟩ = some (.slice A166_6 ((rd_T45 l0 x6_2).f6).length c166_6) := (blk_cell BK167.out 6).trans rfl; have hfz33_0 := blk_frozen BK167.out 0; have hfz33_1 := blk_frozen BK167.out 1; have hfz33_2 := blk_frozen BK167.out 2; have hfz33_3 := blk_frozen BK167.out 3; have hfz33_4 := blk_frozen BK167.out 4; have hfz33_5 := blk_frozen BK167.out 5; have hfz33_6 := blk_frozen BK167.out 6) | ((with_reducible refine gate_callee (f := 16) rfl ?_); refine goesL_ (some 77) rfl rfl Tryd.func16 (by kernel_rfl) rfl #[.slice A166_6 ((rd_T45 l0 x6_2).f6).length c166_6, .int .i64 (wrap64 (a1 + 1))] rfl (by (try simp only [List.map_toArray, List.map_cons, List.map_nil]); first | done | rfl | (simp only [List.length_drop, List.length_take]; rfl)) ?_; (with_reducible refine (ih k4 (by have := HJ2.out; have := HK2.out; have := HJ7.out; have := HK4.out; omega) _ _ ((rd_T45 l0 x6_2).f6) (wrap64 (a1 + 1)) t171 _ ?side1 ?side2 A29.out).mono ?_); (case side1 => repeat (first | exact (Kd.C_below HR166_6.out HB.out) | (with_reducible refine Kd.C_alloc ?_ _) | (with_reducible refine Kd.C_drewN ?_ _) | (with_reducible refine Kd.C_drew ?_))); (case side2 => exact HC166_6.out); rintro e w34 ⟨rfl, hb⟩; refine ⟨_, rfl, ?_⟩; have n0_ := Aside0.mk (blk_below (g := gb167) (o := .cells #[.int .i64 ((rd_T45 l0 x6_2).f0), .int .i64 ((rd_T45 l0 x6_2).f1), .string ((rd_T45 l0 x6_2).f2), .string ((rd_T45 l0 x6_2).f3), .slice A166_4 ((rd_T45 l0 x6_2).f4).length c166_4, .slice A166_5 ((rd_T45 l0 x6_2).f5).length c166_5, .slice A166_6 ((rd_T45 l0 x6_2).f6).length c166_6] 45 (0, 0)) (by (with_reducible repeat (first | refine blk_drewN ?_ _ | refine blk_drew ?_ | refine blk_alloc ?_ _)); exact BK167.out) hb); have n1_ := Aside0.mk (below_step (by repeat (first | (with_reducible first | exact HB.out | apply below_alloc | apply pw_below_drewN | apply below_drew1 | refine below_set ?_ GE167.out) | exact HB.out)) hb); clear BK167; clear HB; have BK167 := n0_; have HB := n1_; clear n0_ n1_; (try clear hb); (try clear hb2); (try clear hk); (try clear hi)))
                go_ret
                exact ⟨by first | rfl | (simp [errW_none, errW_some] <;> rfl) | (simp [*, errW_none, errW_some] <;> rfl), by repeat (first | (with_reducible first | exact HB.out | apply below_alloc | apply pw_below_drewN | apply below_drew1 | refine below_set ?_ GE167.out) | exact HB.out)⟩
               ·rw [if_neg c30] at H
                have c30b0 : decide (300 < (wrap64 ((wrap64 (x5_4 + t170)) + t171))) = false := decide_eq_false c30
                clear c30
                have H' := Aside0.mk H
                clear H
                have hcz35_0 : wr.cell? ⟨gb167, 0, none⟩ = some (.int .i64 ((rd_T45 l0 x6_2).f0)) := (blk_cell BK167.out 0).trans rfl
                have hcz35_1 : wr.cell? ⟨gb167, 1, none⟩ = some (.int .i64 ((rd_T45 l0 x6_2).f1)) := (blk_cell BK167.out 1).trans rfl
                have hcz35_2 : wr.cell? ⟨gb167, 2, none⟩ = some (.string ((rd_T45 l0 x6_2).f2)) := (blk_cell BK167.out 2).trans rfl
                have hcz35_3 : wr.cell? ⟨gb167, 3, none⟩ = some (.string ((rd_T45 l0 x6_2).f3)) := (blk_cell BK167.out 3).trans rfl
                have hcz35_4 : wr.cell? ⟨gb167, 4, none⟩ = some (.slice A166_4 ((rd_T45 l0 x6_2).f4).length c166_4) := (blk_cell BK167.out 4).trans rfl
                have hcz35_5 : wr.cell? ⟨gb167, 5, none⟩ = some (.slice A166_5 ((rd_T45 l0 x6_2).f5).length c166_5) := (blk_cell BK167.out 5).trans rfl
                have hcz35_6 : wr.cell? ⟨gb167, 6, none⟩ = some (.slice A166_6 ((rd_T45 l0 x6_2).f6).length c166_6) := (blk_cell BK167.out 6).trans rfl
                have hfz35_0 := blk_frozen BK167.out 0
                have hfz35_1 := blk_frozen BK167.out 1
                have hfz35_2 := blk_frozen BK167.out 2
                have hfz35_3 := blk_frozen BK167.out 3
                have hfz35_4 := blk_frozen BK167.out 4
                have hfz35_5 := blk_frozen BK167.out 5
                have hfz35_6 := blk_frozen BK167.out 6
                go_wp2_with (first | ((with_reducible refine gate_callee (f := 16) rfl ?_); refine goesL_ (some 67) rfl rfl Tryd.func16 (by kernel_rfl) rfl #[.slice A166_5 ((rd_T45 l0 x6_2).f5).length c166_5, .int .i64 (wrap64 (a1 + 1))] rfl (by (try simp only [List.map_toArray, List.map_cons, List.map_nil]); first | done | rfl | (simp only [List.length_drop, List.length_take]; rfl)) ?_; (with_reducible refine (ih k4 (by have := HJ2.out; have := HK2.out; have := HJ7.out; have := HK4.out; omega) _ _ ((rd_T45 l0 x6_2).f5) (wrap64 (a1 + 1)) t170 _ ?side1 ?side2 A25.out).mono ?_); (case side1 => repeat (first | exact (Kd.C_below HR166_5.out HB.out) | (with_reducible refine Kd.C_alloc ?_ _) | (with_reducible refine Kd.C_drewN ?_ _) | (with_reducible refine Kd.C_drew ?_))); (case side2 => exact HC166_5.out); rintro e w36 ⟨rfl, hb⟩; refine ⟨_, rfl, ?_⟩; have n0_ := Aside0.mk (blk_below (g := gb167) (o := .cells #[.int .i64 ((rd_T45 l0 x6_2).f0), .int .i64 ((rd_T45 l0 x6_2).f1), .string ((rd_T45 l0 x6_2).f2), .string ((rd_T45 l0 x6_2).f3), .slice A166_4 ((rd_T45 l0 x6_2).f4).length c166_4, .slice A166_5 ((rd_T45 l0 x6_2).f5).length c166_5, .slice A166_6 ((rd_T45 l0 x6_2).f6).length c166_6] 45 (0, 0)) (by (with_reducible repeat (first | refine blk_drewN ?_ _ | refine blk_drew ?_ | refine blk_alloc ?_ _)); exact BK167.out) hb); have n1_ := Aside0.mk (below_step (by repeat (first | (with_reducible first | exact HB.out | apply below_alloc | apply pw_below_drewN | apply below_drew1 | refine below_set ?_ GE167.out) | exact HB.out)) hb); clear BK167; clear HB; have BK167 := n0_; have HB := n1_; clear n0_ n1_; (try clear hb); (try clear hb2); (try clear hk); (try clear hi); have hcz37_0 : w36.cell? ⟨gb167, 0, none⟩ = some (.int .i64 ((rd_T45 l0 x6_2).f0)) := (blk_cell BK167.out 0).trans rfl; have hcz37_1 : w36.cell? ⟨gb167, 1, none⟩ = some (.int .i64 ((rd_T45 l0 x6_2).f1)) := (blk_cell BK167.out 1).trans rfl; have hcz37_2 : w36.cell? ⟨gb167, 2, none⟩ = some (.string ((rd_T45 l0 x6_2).f2)) := (blk_cell BK167.out 2).trans rfl; have hcz37_3 : w36.cell? ⟨gb167, 3, none⟩ = some (.string ((rd_T45 l0 x6_2).f3)) := (blk_cell BK167.out 3).trans rfl; have hcz37_4 : w36.cell? ⟨gb167, 4, none⟩ = some (.slice A166_4 ((rd_T45 l0 x6_2).f4).length c166_4) := (blk_cell BK167.out 4).trans rfl; have hcz37_5 : w36.cell? ⟨gb167, 5, none⟩ = some (.slice A166_5 ((rd_T45 l0 x6_2).f5).length c166_5) := (blk_cell BK167.out 5).trans rfl; have hcz37_6 : w36.cell? ⟨gb167, 6, none⟩ = some (.slice A166_6 ((rd_T45 l0 x6_2).f6).length c166_6) := (blk_cell BK167.out 6).trans rfl; have hfz37_0 := blk_frozen BK167.out 0; have hfz37_1 := blk_frozen BK167.out 1; have hfz37_2 := blk_frozen BK167.out 2; have hfz37_3 := blk_frozen BK167.out 3; have hfz37_4 := blk_frozen BK167.out 4; have hfz37_5 := blk_frozen BK167.out 5; have hfz37_6 := blk_frozen BK167.out 6) | ((with_reducible refine gate_callee (f := 16) rfl ?_); refine goesL_ (some 77) rfl rfl Tryd.func16 (by kernel_rfl) rfl #[.slice A166_6 ((rd_T45 l0 x6_2).f6).length c166_6, .int .i64 (wrap64 (a1 + 1))] rfl (by (try simp only [List.map_toArray, List.map_cons, List.map_nil]); first | done | rfl | (simp only [List.length_drop, List.length_take]; rfl)) ?_; (with_reducible refine (ih k4 (by have := HJ2.out; have := HK2.out; have := HJ7.out; have := HK4.out; omega) _ _ ((rd_T45 l0 x6_2).f6) (wrap64 (a1 + 1)) t171 _ ?side1 ?side2 A29.out).mono ?_); (case side1 => repeat (first | exact (Kd.C_below HR166_6.out HB.out) | (with_reducible refine Kd.C_alloc ?_ _) | (with_reducible refine Kd.C_drewN ?_ _) | (with_reducible refine Kd.C_drew ?_))); (case side2 => exact HC166_6.out); rintro e w38 ⟨rfl, hb⟩; refine ⟨_, rfl, ?_⟩; have n0_ := Aside0.mk (blk_below (g := gb167) (o := .cells #[.int .i64 ((rd_T45 l0 x6_2).f0), .int .i64 ((rd_T45 l0 x6_2).f1), .string ((rd_T45 l0 x6_2).f2), .string ((rd_T45 l0 x6_2).f3), .slice A166_4 ((rd_T45 l0 x6_2).f4).length c166_4, .slice A166_5 ((rd_T45 l0 x6_2).f5).length c166_5, .slice A166_6 ((rd_T45 l0 x6_2).f6).length c166_6] 45 (0, 0)) (by (with_reducible repeat (first | refine blk_drewN ?_ _ | refine blk_drew ?_ | refine blk_alloc ?_ _)); exact BK167.out) hb); have n1_ := Aside0.mk (below_step (by repeat (first | (with_reducible first | exact HB.out | apply below_alloc | apply pw_below_drewN | apply below_drew1 | refine below_set ?_ GE167.out) | exact HB.out)) hb); clear BK167; clear HB; have BK167 := n0_; have HB := n1_; clear n0_ n1_; (try clear hb); (try clear hb2); (try clear hk); (try clear hi)))
                go_roundg k4
                case measure => have := HJ2.out; have := HK2.out; have := HJ7.out; have := HK4.out; omega
                case rel => exact ⟨(wrap64 ((wrap64 (x5_4 + t170)) + t171)), (wrap64 (x6_2 + 1)), (by first | rfl | (simp; done) | (simp [*]; done)), (by first | rfl | (simp; done) | (simp [*]; done)), H', ⟨by have := HJ2.out; have := HK2.out; have := HJ7.out; have := HK4.out; omega⟩, ⟨by repeat (first | (with_reducible first | exact HB.out | apply below_alloc | apply pw_below_drewN | apply below_drew1 | refine below_set ?_ GE167.out) | exact HB.out)⟩⟩
       ·rw [if_neg c7] at H
        exact absurd H (by simp)
      ·rw [if_neg c6] at H
       have c6b0 : decide (x6_2 < (l0.length : Int)) = false := decide_eq_false c6
       clear c6
       obtain rfl := Option.some.inj H
       go_wp2
       go_ret
       exact ⟨by first | rfl | (simp [errW_none, errW_some] <;> rfl) | (simp [*, errW_none, errW_some] <;> rfl), by repeat (first | (with_reducible first | exact HB.out | apply below_alloc | apply pw_below_drewN | apply below_drew1) | exact HB.out)⟩

end Go.Proofs.YtpldhihdlgghlaaDoor.PS
