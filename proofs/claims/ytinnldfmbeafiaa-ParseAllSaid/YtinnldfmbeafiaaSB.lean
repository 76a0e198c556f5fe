/- Two copies of statements, of a program, are the same; walked by hand. -/
import Derived.Test.YtinnldfmbeafiaaSA
namespace Go.Proofs.Ytinnldfmbeafiaa.PA
open Go.RowKit Go.Proofs.YtinnldfmbeafiaaW.PrintWords Go.Proofs.YtinnldfmbeafiaaW.PrintLast Go.Proofs.YtinnldfmbeafiaaW.PrintMore
set_option linter.unusedVariables false
set_option linter.unusedSimpArgs false
attribute [local go_sem] cell_set_some
theorem zSBq1 {p : Prop} (h : p := by have := HI.out; omega) : p := h
def SS (l : List S62) : Prop := ∀ (A A' : Option Addr) (c c' : Nat) (w : World), Kd.C k62 w A l.length l → l.length ≤ c → Kd.C k62 w A' l.length l → l.length ≤ c' → Calls Try.prog 21 #[.slice A l.length c, .slice A' l.length c'] w fun e w' => e = .returned (.bool true) ∧ Below w.heap.size w w'
def sameST.T13 : Bool × List (List Nat × List Nat) := (true, [([], []), ([0], [0]), ([], []), ([1, 2], [1, 2]), ([3], [3]), ([], []), ([5], [5]), ([], []), ([6, 7], [6, 7]), ([8], [8]), ([4, 9], [4, 9]), ([10], [10])])
def sameST.B13 : List Nat := [0, 1, 0, 7, 15, 0, 32, 0, 224, 480, 1023, 2047]
theorem sameST.tab13 : rtab .any (opsOf Try.f21 13) = sameST.T13 := by kernel_rfl
theorem sameST.bits13 : waitsOk sameST.T13.2 sameST.B13 = true := by kernel_rfl
set_option maxHeartbeats 8000000 in
set_option maxRecDepth 100000 in
theorem sameS_s (l : List S62) (IH : ∀ y ∈ l, SS y.f5 ∧ SS y.f6) : SS l := by
 intro A A' c c' w hC hc hC2 hc2
 have HIH := Aside0.mk IH; have HC1 := Aside0.mk hC; have HC2 := Aside0.mk hC2; have HL := Aside0.mk (C_len hC)
 clear IH hC hC2 hc hc2
 have hu62 := Try.underlying62
 have HB := Aside0.mk (Below.refl w.heap.size w)
 go_enter Try.func21, Try.ntmps21
 go_wp2
 go_loopg [5] (l.length) (fun kq v_ w' => ∃ n : Nat, v_ = .int .i64 (n : Int) ∧ Aside0 (n + kq = l.length) ∧ Aside0 (Below w.heap.size w w'))
 case atStart => exact ⟨0, rfl, ⟨Nat.zero_add _⟩, HB⟩
 case round =>
  clear HB
  obtain ⟨n, rfl, HI, HB⟩ := hrel
  cases gk with
  | zero =>
   have p1 := eq_false (show ¬ (n : Int) < ((l.length : Nat) : Int) from zSBq1)
   have p3 := decide_eq_false (show ¬ (n : Int) < ((l.length : Nat) : Int) from zSBq1)
   have p2 := eq_false (show ¬ n < l.length from zSBq1)
   go_wp2
   go_ret
   exact ⟨rfl, HB.out⟩
  | succ k1 =>
   have hlt : n < l.length := by have := HI.out; omega
   have HLT := Aside0.mk hlt
   obtain ⟨y, hy⟩ : ∃ y, rd_T62 l (n : Int) = y := ⟨_, rfl⟩
   have HM := Aside0.mk (show y ∈ l from hy ▸ mem62 hlt)
   have HY := Aside0.mk hy
   clear hy
   have p1 := eq_true (show (n : Int) < ((l.length : Nat) : Int) from Int.ofNat_lt.mpr hlt)
   have p2 := eq_true (show n < l.length from hlt)
   have p0 := eq_true (show 0 ≤ (n : Int) from Int.natCast_nonneg _)
   have p3 := decide_eq_true (show (n : Int) < ((l.length : Nat) : Int) from Int.ofNat_lt.mpr hlt)
   go_upto_region 6 with (fail)
   obtain ⟨ady, Ay4, cy4, Ay5, cy5, Ay6, cy6, ey, y0, y1, y2, y3, y4, y5, y6, ly4, gy4, ly5, gy5, ly6, gy6⟩ := at_T62 (Kd.C_below HC1.out HB.out) (n : Int) (Int.natCast_nonneg _) (by omega)
   subst ey
   simp only [Int.toNat_natCast] at y0 y1 y2 y3 y4 y5 y6
   rw [HY.out] at y0 y1 y2 y3 y4 y5 y6 ly4 gy4 ly5 gy5 ly6 gy6
   have Cy4 := Aside0.mk gy4; have Ly4 := Aside0.mk ly4
   have Cy5 := Aside0.mk gy5; have Ly5 := Aside0.mk ly5
   have Cy6 := Aside0.mk gy6; have Ly6 := Aside0.mk ly6
   clear gy4 ly4 gy5 ly5 gy6 ly6
   go_upto_region 7 with (first | ((with_reducible refine gate_dst (N := 6) rfl ?_); refine bbX (N := 6) z62v 62 ?hr ?_; (case hr => first | (go_simp; done) | (go_simp; rfl)); intro g6 hg_ w6 hbox_ hq_; obtain ⟨z0_, f0_, z1_, f1_, z2_, f2_, z3_, f3_, z4_, f4_, z5_, f5_, z6_, f6_⟩ := cf7 hbox_))
   obtain ⟨F1_, F2_⟩ := fill62 hbox_ (.int .i64 y.f0) (.int .i64 y.f1) (.string y.f2) (.string y.f3) (.slice Ay4 y.f4.length cy4) (.slice Ay5 y.f5.length cy5) (.slice Ay6 y.f6.length cy6) _ rfl
   replace hq_ := hq_.trans (F2_.below.mono (Nat.le_of_eq hg_.out.symm))
   have G6 := Aside0.mk (show w.heap.size ≤ g6 from by rw [hg_.out]; exact HB.out.size)
   clear hg_ hbox_ F2_ z0_ f0_ z1_ f1_ z2_ f2_ z3_ f3_ z4_ f4_ z5_ f5_ z6_ f6_
   generalize ((((((w6.setCell ⟨g6, 0, none⟩ (.int .i64 y.f0)).setCell ⟨g6, 1, none⟩ (.int .i64 y.f1)).setCell ⟨g6, 2, none⟩ (.string y.f2)).setCell ⟨g6, 3, none⟩ (.string y.f3)).setCell ⟨g6, 4, none⟩ (.slice Ay4 y.f4.length cy4)).setCell ⟨g6, 5, none⟩ (.slice Ay5 y.f5.length cy5)).setCell ⟨g6, 6, none⟩ (.slice Ay6 y.f6.length cy6) = v6 at F1_ hq_ ⊢
   have H6 := Aside0.mk F1_
   replace Cy4 := Aside0.mk (Kd.C_below Cy4.out hq_)
   replace Cy5 := Aside0.mk (Kd.C_below Cy5.out hq_)
   replace Cy6 := Aside0.mk (Kd.C_below Cy6.out hq_)
   replace HB := Aside0.mk (below_step HB.out hq_)
   clear F1_ hq_
   clear y0 y1 y2 y3 y4 y5 y6
   obtain ⟨adu, Au4, cu4, Au5, cu5, Au6, cu6, eu, u0, u1, u2, u3, u4, u5, u6, lu4, gu4, lu5, gu5, lu6, gu6⟩ := at_T62 (Kd.C_below HC2.out HB.out) (n : Int) (Int.natCast_nonneg _) (by omega)
   subst eu
   simp only [Int.toNat_natCast] at u0 u1 u2 u3 u4 u5 u6
   rw [HY.out] at u0 u1 u2 u3 u4 u5 u6 lu4 gu4 lu5 gu5 lu6 gu6
   have Cu4 := Aside0.mk gu4; have Lu4 := Aside0.mk lu4
   have Cu5 := Aside0.mk gu5; have Lu5 := Aside0.mk lu5
   have Cu6 := Aside0.mk gu6; have Lu6 := Aside0.mk lu6
   clear gu4 lu4 gu5 lu5 gu6 lu6
   go_upto_region 8 with (first | ((with_reducible refine gate_dst (N := 7) rfl ?_); refine bbX (N := 7) z62v 62 ?hr ?_; (case hr => first | (go_simp; done) | (go_simp; rfl)); intro g7 hg_ w7 hbox_ hq_; obtain ⟨z0_, f0_, z1_, f1_, z2_, f2_, z3_, f3_, z4_, f4_, z5_, f5_, z6_, f6_⟩ := cf7 hbox_))
   obtain ⟨F1_, F2_⟩ := fill62 hbox_ (.int .i64 y.f0) (.int .i64 y.f1) (.string y.f2) (.string y.f3) (.slice Au4 y.f4.length cu4) (.slice Au5 y.f5.length cu5) (.slice Au6 y.f6.length cu6) _ rfl
   replace hq_ := hq_.trans (F2_.below.mono (Nat.le_of_eq hg_.out.symm))
   have G7 := Aside0.mk (show w.heap.size ≤ g7 from by rw [hg_.out]; exact HB.out.size)
   have N6_7 := Aside0.mk (ne_new H6.out hg_.out); have LT6_7 := Aside0.mk (lt_new H6.out hg_.out)
   clear hg_ hbox_ F2_ z0_ f0_ z1_ f1_ z2_ f2_ z3_ f3_ z4_ f4_ z5_ f5_ z6_ f6_
   generalize ((((((w7.setCell ⟨g7, 0, none⟩ (.int .i64 y.f0)).setCell ⟨g7, 1, none⟩ (.int .i64 y.f1)).setCell ⟨g7, 2, none⟩ (.string y.f2)).setCell ⟨g7, 3, none⟩ (.string y.f3)).setCell ⟨g7, 4, none⟩ (.slice Au4 y.f4.length cu4)).setCell ⟨g7, 5, none⟩ (.slice Au5 y.f5.length cu5)).setCell ⟨g7, 6, none⟩ (.slice Au6 y.f6.length cu6) = v7 at F1_ hq_ ⊢
   have H7 := Aside0.mk F1_
   replace H6 := mvB hq_ H6
   replace Cy4 := Aside0.mk (Kd.C_below Cy4.out hq_)
   replace Cy5 := Aside0.mk (Kd.C_below Cy5.out hq_)
   replace Cy6 := Aside0.mk (Kd.C_below Cy6.out hq_)
   replace Cu4 := Aside0.mk (Kd.C_below Cu4.out hq_)
   replace Cu5 := Aside0.mk (Kd.C_below Cu5.out hq_)
   replace Cu6 := Aside0.mk (Kd.C_below Cu6.out hq_)
   replace HB := Aside0.mk (below_step HB.out hq_)
   clear F1_ hq_
   clear u0 u1 u2 u3 u4 u5 u6
   clear p0 p1 p2 p3 hlt
   obtain ⟨z6_0, z6_1, z6_2, z6_3, z6_4, z6_5, z6_6⟩ := cn7 H6.out
   obtain ⟨z7_0, z7_1, z7_2, z7_3, z7_4, z7_5, z7_6⟩ := cn7 H7.out
   go_wp2_with (fail)
   refine Calls.mono ((HIH.out y HM.out).1 _ _ _ _ _ Cy5.out Ly5.out Cu5.out Lu5.out) ?_
   rintro e wa ⟨rfl, qb⟩
   replace H6 := mvB qb H6
   replace H7 := mvB qb H7
   replace Cy4 := Aside0.mk (Kd.C_below Cy4.out qb)
   replace Cy5 := Aside0.mk (Kd.C_below Cy5.out qb)
   replace Cy6 := Aside0.mk (Kd.C_below Cy6.out qb)
   replace Cu4 := Aside0.mk (Kd.C_below Cu4.out qb)
   replace Cu5 := Aside0.mk (Kd.C_below Cu5.out qb)
   replace Cu6 := Aside0.mk (Kd.C_below Cu6.out qb)
   replace HB := Aside0.mk (below_step HB.out qb)
   clear qb
   clear z6_0 z6_1 z6_2 z6_3 z6_4 z6_5 z6_6
   clear z7_0 z7_1 z7_2 z7_3 z7_4 z7_5 z7_6
   obtain ⟨z6_0, z6_1, z6_2, z6_3, z6_4, z6_5, z6_6⟩ := cn7 H6.out
   obtain ⟨z7_0, z7_1, z7_2, z7_3, z7_4, z7_5, z7_6⟩ := cn7 H7.out
   go_wp2_with (fail)
   refine Calls.mono ((HIH.out y HM.out).2 _ _ _ _ _ Cy6.out Ly6.out Cu6.out Lu6.out) ?_
   rintro e wb ⟨rfl, qb⟩
   replace H6 := mvB qb H6
   replace H7 := mvB qb H7
   replace Cy4 := Aside0.mk (Kd.C_below Cy4.out qb)
   replace Cy5 := Aside0.mk (Kd.C_below Cy5.out qb)
   replace Cy6 := Aside0.mk (Kd.C_below Cy6.out qb)
   replace Cu4 := Aside0.mk (Kd.C_below Cu4.out qb)
   replace Cu5 := Aside0.mk (Kd.C_below Cu5.out qb)
   replace Cu6 := Aside0.mk (Kd.C_below Cu6.out qb)
   replace HB := Aside0.mk (below_step HB.out qb)
   clear qb
   clear z6_0 z6_1 z6_2 z6_3 z6_4 z6_5 z6_6
   clear z7_0 z7_1 z7_2 z7_3 z7_4 z7_5 z7_6
   go_wp2
   go_loopg [8] (y.f4.length) (fun kq v_ w' => ∃ n : Nat, v_ = .int .i64 (n : Int) ∧ Aside0 (n + kq = y.f4.length) ∧ Aside0 (Below w.heap.size w w') ∧ Aside0 (w'.heap[g6]? = some (.cells #[.int .i64 y.f0, .int .i64 y.f1, .string y.f2, .string y.f3, .slice Ay4 y.f4.length cy4, .slice Ay5 y.f5.length cy5, .slice Ay6 y.f6.length cy6] 62 (0, 0))) ∧ Aside0 (w'.heap[g7]? = some (.cells #[.int .i64 y.f0, .int .i64 y.f1, .string y.f2, .string y.f3, .slice Au4 y.f4.length cu4, .slice Au5 y.f5.length cu5, .slice Au6 y.f6.length cu6] 62 (0, 0))) ∧ Aside0 (Kd.C k94 w' Ay4 y.f4.length y.f4) ∧ Aside0 (Kd.C k94 w' Au4 y.f4.length y.f4))
   case atStart => exact ⟨0, rfl, ⟨Nat.zero_add _⟩, HB, H6, H7, Cy4, Cu4⟩
   case round =>
    clear HB H6 H7 Cy4 Cu4 Cy5 Cy6 Cu5 Cu6
    obtain ⟨m, rfl, HJ, HB, H6, H7, Cy4, Cu4⟩ := hrel
    have z6_4 := blk_celln H6.out 4 _ rfl
    cases gk with
    | zero =>
     have p1 := eq_false (show ¬ (m : Int) < ((y.f4.length : Nat) : Int) from by have := HJ.out; omega)
     have p3 := decide_eq_false (show ¬ (m : Int) < ((y.f4.length : Nat) : Int) from by have := HJ.out; omega)
     have p2 := eq_false (show ¬ m < y.f4.length from by have := HJ.out; omega)
     go_wp2
     go_roundg k1
     case measure => exact Nat.lt_succ_self _
     case rel => exact ⟨n + 1, (by rw [wrap_succ HLT.out HL.out]), ⟨zSBq1⟩, HB⟩
    | succ k2 =>
     have hlt : m < y.f4.length := by have := HJ.out; omega
     have HLM := Aside0.mk hlt
     have p1 := eq_true (show (m : Int) < ((y.f4.length : Nat) : Int) from Int.ofNat_lt.mpr hlt)
     have p2 := eq_true (show m < y.f4.length from hlt)
     have p0 := eq_true (show 0 ≤ (m : Int) from Int.natCast_nonneg _)
     have p3 := decide_eq_true (show (m : Int) < ((y.f4.length : Nat) : Int) from Int.ofNat_lt.mpr hlt)
     go_upto_region 13 with (fail)
     clear z6_4
     replace H6 := mvB (below_drew (Below.refl _ _)) H6
     replace H7 := mvB (below_drew (Below.refl _ _)) H7
     replace Cy4 := Aside0.mk (Kd.C_below Cy4.out (below_drew (Below.refl _ _)))
     replace Cu4 := Aside0.mk (Kd.C_below Cu4.out (below_drew (Below.refl _ _)))
     replace HB := Aside0.mk (below_step HB.out (below_drew (Below.refl _ _)))
     obtain ⟨adv, Av3, cv3, ev, v0, v1, v2, v3, lv3, gv3⟩ := at_T94 (Cy4.out) (m : Int) (Int.natCast_nonneg _) (by omega)
     subst ev
     simp only [Int.toNat_natCast] at v0 v1 v2 v3
     obtain ⟨adt, At3, ct3, et, t0, t1, t2, t3, lt3, gt3⟩ := at_T94 (Cu4.out) (m : Int) (Int.natCast_nonneg _) (by omega)
     subst et
     simp only [Int.toNat_natCast] at t0 t1 t2 t3
     have GV := Aside0.mk gv3; have GT := Aside0.mk gt3; have LM := Aside0.mk (C_len Cy4.out)
     clear gv3 gt3
     refine start_ (n := 12) (S := fun w' => w'.cell? ⟨g6, 4, none⟩ = some (.slice (some adv) y.f4.length cy4) ∧ w'.cell? (adv.add (m * 4)) = some (.int .i64 (rd_T94 y.f4 (m : Int)).f0) ∧ w'.cell? ⟨(adv.add (m * 4)).block, (adv.add (m * 4)).off + 1, none⟩ = some (.int .i64 (rd_T94 y.f4 (m : Int)).f1) ∧ w'.cell? ⟨(adv.add (m * 4)).block, (adv.add (m * 4)).off + 2, none⟩ = some (.string (rd_T94 y.f4 (m : Int)).f2) ∧ w'.cell? ⟨(adv.add (m * 4)).block, (adv.add (m * 4)).off + 3, none⟩ = some (.slice Av3 (rd_T94 y.f4 (m : Int)).f3.length cv3) ∧ w'.cell? ⟨g7, 4, none⟩ = some (.slice (some adt) y.f4.length cu4) ∧ w'.cell? (adt.add (m * 4)) = some (.int .i64 (rd_T94 y.f4 (m : Int)).f0) ∧ w'.cell? ⟨(adt.add (m * 4)).block, (adt.add (m * 4)).off + 1, none⟩ = some (.int .i64 (rd_T94 y.f4 (m : Int)).f1) ∧ w'.cell? ⟨(adt.add (m * 4)).block, (adt.add (m * 4)).off + 2, none⟩ = some (.string (rd_T94 y.f4 (m : Int)).f2) ∧ w'.cell? ⟨(adt.add (m * 4)).block, (adt.add (m * 4)).off + 3, none⟩ = some (.slice At3 (rd_T94 y.f4 (m : Int)).f3.length ct3)) (ds := [10]) #[Z,Z,Z,Z,Z,Z,Z,Z,Z,Z,Z,Z] (by kernel_rfl) rfl rfl ⟨(blk_celln H6.out 4 _ rfl), v0, v1, v2, v3, (blk_celln H7.out 4 _ rfl), t0, t1, t2, t3⟩ (fun hHeld => ?_)
     refine with_tabW sameST.tab13 sameST.bits13 (fun HT_ HW_ => ?_)
     generalize World.drew _ = wd at HB H6 H7 Cy4 Cu4 GV GT v0 v1 v2 v3 t0 t1 t2 t3 hHeld ⊢
     refine ppU (i := 0) (N := some 86) #[Y,Z,Z,Z,Z,Z,Z,Z,Z,Z,Z,Z] HT_ ?_
     refine take_ (i := 1) (N := some 87) (v := ?_) (a' := ?_) #[Y,Y,Z,Z,Z,Z,Z,Z,Z,Z,Z,Z] rfl rfl (take_ofW HT_.out HW_.out (by kernel_rfl)) (fun _ _ _ h => h) (Or.inl ⟨by rfl, ?_⟩) hHeld ?_ ?_
     rotate_left
     ·rintro w' ⟨s0, s1, s2, s3, s4, s5, s6, s7, s8, s9⟩
      go_simp
      with_reducible rfl
     rotate_left
     ·simp only [Act.put, pA, pB, pC, i64_w, i32_w]
      rfl
     refine ppU (i := 2) (N := some 88) #[Y,Y,Y,Z,Z,Z,Z,Z,Z,Z,Z,Z] HT_ ?_
     refine ppU (i := 3) (N := some 89) #[Y,Y,Y,Y,Z,Z,Z,Z,Z,Z,Z,Z] HT_ ?_
     refine take_ (i := 4) (N := some 90) (v := ?_) (a' := ?_) #[Y,Y,Y,Y,Y,Z,Z,Z,Z,Z,Z,Z] rfl rfl (take_ofW HT_.out HW_.out (by kernel_rfl)) (fun _ _ _ h => h) (Or.inl ⟨by rfl, ?_⟩) hHeld ?_ ?_
     rotate_left
     ·rintro w' ⟨s0, s1, s2, s3, s4, s5, s6, s7, s8, s9⟩
      go_simp
      with_reducible rfl
     rotate_left
     ·simp only [Act.put, pA, pB, pC, i64_w, i32_w]
      rfl
     refine ppU (i := 5) (N := some 91) #[Y,Y,Y,Y,Y,Y,Z,Z,Z,Z,Z,Z] HT_ ?_
     refine take_ (i := 6) (N := some 92) (v := ?_) (a' := ?_) #[Y,Y,Y,Y,Y,Y,Y,Z,Z,Z,Z,Z] rfl rfl (take_ofW HT_.out HW_.out (by kernel_rfl)) (fun _ _ _ h => h) (Or.inl ⟨by rfl, ?_⟩) hHeld ?_ ?_
     rotate_left
     ·rintro w' ⟨s0, s1, s2, s3, s4, s5, s6, s7, s8, s9⟩
      go_simp
      with_reducible rfl
     rotate_left
     ·simp only [Act.put, pA, pB, pC, i64_w, i32_w]
      rfl
     refine ppU (i := 7) (N := some 93) #[Y,Y,Y,Y,Y,Y,Y,Y,Z,Z,Z,Z] HT_ ?_
     refine ppU (i := 8) (N := some 94) #[Y,Y,Y,Y,Y,Y,Y,Y,Y,Z,Z,Z] HT_ ?_
     refine take_ (i := 9) (N := some 95) (v := ?_) (a' := ?_) #[Y,Y,Y,Y,Y,Y,Y,Y,Y,Y,Z,Z] rfl rfl (take_ofW HT_.out HW_.out (by kernel_rfl)) (fun _ _ _ h => h) (Or.inl ⟨by rfl, ?_⟩) hHeld ?_ ?_
     rotate_left
     ·rintro w' ⟨s0, s1, s2, s3, s4, s5, s6, s7, s8, s9⟩
      go_simp
      with_reducible rfl
     rotate_left
     ·simp only [Act.put, pA, pB, pC, i64_w, i32_w]
      rfl
     refine last_ (i := 10) (N := some 96) #[Y,Y,Y,Y,Y,Y,Y,Y,Y,Y,Y,Z] rfl rfl (one_of HT_.out (by kernel_rfl)) (by decide) (fun K hK => ?_)
     refine goes_ Try.func42 (by kernel_rfl) rfl _ (by rfl) rfl rfl (by (try simp only [List.map_toArray, List.map_cons, List.map_nil]); first | done | rfl) ?_
     refine Calls.mono (sameE_c _ _ _ _ _ _ GV.out lv3 GT.out lt3) ?_
     rintro e wc ⟨rfl, qb⟩
     refine ⟨_, rfl, ?_⟩
     replace H6 := mvB qb H6
     replace H7 := mvB qb H7
     replace Cy4 := Aside0.mk (Kd.C_below Cy4.out qb)
     replace Cu4 := Aside0.mk (Kd.C_below Cu4.out qb)
     replace HB := Aside0.mk (below_step HB.out qb)
     clear qb
     refine hK.out _ _ ?_
     clear hK K
     refine norm_ (a' := ?_) ?_ ?_
     rotate_left
     ·show Act.put _ (some 96) _ = _
      simp only [Act.put, pA, pB, pC, i64_w, i32_w]
      rfl
     refine ppU (i := 11) (N := some 97) #[Y,Y,Y,Y,Y,Y,Y,Y,Y,Y,Y,Y] HT_ ?_
     refine done_ (done_of HT_.out (by kernel_rfl)) ?_
     clear hHeld p0 p1 p2 p3 GV GT v0 v1 v2 v3 t0 t1 t2 t3
     go_wp2
     clear hlt
     go_roundg k2
     case measure => exact Nat.lt_succ_self _
     case rel => exact ⟨m + 1, (by rw [wrap_succ HLM.out LM.out]), ⟨by have := HJ.out; omega⟩, HB, H6, H7, Cy4, Cu4⟩
theorem sameS_c (l : List S62) : SS l := sameS_s l (fun y hy => ⟨sameS_c y.f5, sameS_c y.f6⟩)
termination_by SizeOf.sizeOf l
decreasing_by
 all_goals
  have h1 : SizeOf.sizeOf y < SizeOf.sizeOf l := List.sizeOf_lt_of_mem hy
  have h2 : SizeOf.sizeOf y.f5 < SizeOf.sizeOf y ∧ SizeOf.sizeOf y.f6 < SizeOf.sizeOf y := by
   cases y
   simp
   omega
  omega
def samePT.T11 : Bool × List (List Nat × List Nat) := (true, [([], []), ([0], [0]), ([], []), ([1, 2], [1, 2]), ([3], [3]), ([], []), ([5], [5]), ([], []), ([6, 7], [6, 7]), ([8], [8]), ([4, 9], [4, 9]), ([10], [10])])
def samePT.B11 : List Nat := [0, 1, 0, 7, 15, 0, 32, 0, 224, 480, 1023, 2047]
theorem samePT.tab11 : rtab .any (opsOf Try.f11 11) = samePT.T11 := by kernel_rfl
theorem samePT.bits11 : waitsOk samePT.T11.2 samePT.B11 = true := by kernel_rfl
set_option maxHeartbeats 8000000 in
set_option maxRecDepth 100000 in
theorem sameP_c (x : PR) (AI1 AT1 AC1 AI2 AT2 AC2 : Option Addr) (cI1 cT1 cC1 cI2 cT2 cC2 : Nat) (w : World) (hI1 : Kd.C k68 w AI1 x.init.length x.init) (hI2 : Kd.C k68 w AI2 x.init.length x.init) (hT1 : Kd.C (Kd.slice 62 k62) w AT1 x.thr.length x.thr) (hT2 : Kd.C (Kd.slice 62 k62) w AT2 x.thr.length x.thr) (lC1 : x.cnd.f4.length ≤ cC1) (hC1 : Kd.C k27 w AC1 x.cnd.f4.length x.cnd.f4) (lC2 : x.cnd.f4.length ≤ cC2) (hC2 : Kd.C k27 w AC2 x.cnd.f4.length x.cnd.f4) : Calls Try.prog 11 #[.agg #[.string x.nm, .int .i64 x.vals, .slice AI1 x.init.length cI1, .slice AT1 x.thr.length cT1, .int .i64 x.ask, .int .i64 x.cnd.f0, .int .i64 x.cnd.f1, .string x.cnd.f2, .int .i64 x.cnd.f3, .slice AC1 x.cnd.f4.length cC1], .agg #[.string x.nm, .int .i64 x.vals, .slice AI2 x.init.length cI2, .slice AT2 x.thr.length cT2, .int .i64 x.ask, .int .i64 x.cnd.f0, .int .i64 x.cnd.f1, .string x.cnd.f2, .int .i64 x.cnd.f3, .slice AC2 x.cnd.f4.length cC2]] w fun e w' => e = .returned (.bool true) ∧ Below w.heap.size w w' := by
 have CI1 := Aside0.mk hI1; have CI2 := Aside0.mk hI2; have CT1 := Aside0.mk hT1; have CT2 := Aside0.mk hT2; have CC1 := Aside0.mk hC1; have CC2 := Aside0.mk hC2; have LI := Aside0.mk (C_len hI1); have LT_ := Aside0.mk (C_len hT1)
 clear hI1 hI2 hT1 hT2 hC1 hC2
 have hu29 := Try.underlying29
 have hu27 := Try.underlying27
 have hu68 := Try.underlying68
 have HB := Aside0.mk (Below.refl w.heap.size w)
 go_enter Try.func11, Try.ntmps11
 go_upto_region 1 with (first | ((with_reducible refine gate_dst (N := 2) rfl ?_); refine bbX (N := 2) #[.string x.nm, .int .i64 x.vals, .slice AI1 x.init.length cI1, .slice AT1 x.thr.length cT1, .int .i64 x.ask, .int .i64 x.cnd.f0, .int .i64 x.cnd.f1, .string x.cnd.f2, .int .i64 x.cnd.f3, .slice AC1 x.cnd.f4.length cC1] 29 ?hr ?_; (case hr => first | (go_simp; done) | (go_simp; rfl)); intro g2 hg_ w2 hbox_ hq_; have G2 := Aside0.mk (show w.heap.size ≤ g2 from by rw [hg_.out]; exact HB.out.size); have H2 := Aside0.mk hbox_; replace HB := Aside0.mk (below_step HB.out hq_); clear hg_ hbox_ hq_) | ((with_reducible refine gate_dst (N := 3) rfl ?_); refine bbX (N := 3) #[.string x.nm, .int .i64 x.vals, .slice AI2 x.init.length cI2, .slice AT2 x.thr.length cT2, .int .i64 x.ask, .int .i64 x.cnd.f0, .int .i64 x.cnd.f1, .string x.cnd.f2, .int .i64 x.cnd.f3, .slice AC2 x.cnd.f4.length cC2] 29 ?hr ?_; (case hr => first | (go_simp; done) | (go_simp; rfl)); intro g3 hg_ w3 hbox_ hq_; have G3 := Aside0.mk (show w.heap.size ≤ g3 from by rw [hg_.out]; exact HB.out.size); have N2_3 := Aside0.mk (ne_new H2.out hg_.out); have LT2_3 := Aside0.mk (lt_new H2.out hg_.out); have H3 := Aside0.mk hbox_; replace H2 := mvB hq_ H2; replace HB := Aside0.mk (below_step HB.out hq_); clear hg_ hbox_ hq_))
 obtain ⟨z2_0, z2_1, z2_2, z2_3, z2_4, z2_5, z2_6, z2_7, z2_8, z2_9⟩ := cn10 H2.out
 obtain ⟨z3_0, z3_1, z3_2, z3_3, z3_4, z3_5, z3_6, z3_7, z3_8, z3_9⟩ := cn10 H3.out
 go_wp2_with (fail)
 refine Calls.mono (sameC_c ⟨x.cnd.f0, x.cnd.f1, x.cnd.f2, x.cnd.f3, x.cnd.f4⟩ _ _ _ _ _ (Kd.C_below CC1.out HB.out) lC1 (Kd.C_below CC2.out HB.out) lC2) ?_
 rintro e wa ⟨rfl, qb⟩
 replace H2 := mvB qb H2
 replace H3 := mvB qb H3
 replace HB := Aside0.mk (below_step HB.out qb)
 clear qb
 clear z2_0 z2_1 z2_2 z2_3 z2_4 z2_5 z2_6 z2_7 z2_8 z2_9
 clear z3_0 z3_1 z3_2 z3_3 z3_4 z3_5 z3_6 z3_7 z3_8 z3_9
 go_wp2
 go_loopg [5] (x.init.length) (fun kq v_ w' => ∃ n : Nat, v_ = .int .i64 (n : Int) ∧ Aside0 (n + kq = x.init.length) ∧ Aside0 (Below w.heap.size w w') ∧ Aside0 (w'.heap[g2]? = some (.cells #[.string x.nm, .int .i64 x.vals, .slice AI1 x.init.length cI1, .slice AT1 x.thr.length cT1, .int .i64 x.ask, .int .i64 x.cnd.f0, .int .i64 x.cnd.f1, .string x.cnd.f2, .int .i64 x.cnd.f3, .slice AC1 x.cnd.f4.length cC1] 29 (0, 0))) ∧ Aside0 (w'.heap[g3]? = some (.cells #[.string x.nm, .int .i64 x.vals, .slice AI2 x.init.length cI2, .slice AT2 x.thr.length cT2, .int .i64 x.ask, .int .i64 x.cnd.f0, .int .i64 x.cnd.f1, .string x.cnd.f2, .int .i64 x.cnd.f3, .slice AC2 x.cnd.f4.length cC2] 29 (0, 0))))
 case atStart => exact ⟨0, rfl, ⟨Nat.zero_add _⟩, HB, H2, H3⟩
 case round =>
  clear HB H2 H3
  obtain ⟨n, rfl, HI, HB, H2, H3⟩ := hrel
  have z2_2 := blk_celln H2.out 2 _ rfl
  cases gk with
  | succ k1 =>
   have hlt : n < x.init.length := by have := HI.out; omega
   have HLT := Aside0.mk hlt
   have p1 := eq_true (show (n : Int) < ((x.init.length : Nat) : Int) from Int.ofNat_lt.mpr hlt)
   have p2 := eq_true (show n < x.init.length from hlt)
   have p0 := eq_true (show 0 ≤ (n : Int) from Int.natCast_nonneg _)
   have p3 := decide_eq_true (show (n : Int) < ((x.init.length : Nat) : Int) from Int.ofNat_lt.mpr hlt)
   go_upto_region 6 with (fail)
   clear z2_2
   replace H2 := mvB (below_drew (Below.refl _ _)) H2
   replace H3 := mvB (below_drew (Below.refl _ _)) H3
   replace HB := Aside0.mk (below_step HB.out (below_drew (Below.refl _ _)))
   have z2_2 := blk_celln H2.out 2 _ rfl
   have z3_2 := blk_celln H3.out 2 _ rfl
   obtain ⟨ady, ey, y0, y1⟩ := at_T68 (Kd.C_below CI1.out HB.out) (n : Int) (Int.natCast_nonneg _) (by omega)
   subst ey
   simp only [Int.toNat_natCast] at y0 y1
   obtain ⟨adu, eu, u0, u1⟩ := at_T68 (Kd.C_below CI2.out HB.out) (n : Int) (Int.natCast_nonneg _) (by omega)
   subst eu
   simp only [Int.toNat_natCast] at u0 u1
   go_region
   all_goals
    clear p0 p1 p2 p3 y0 y1 u0 u1 z2_2 z3_2
    go_wp2
    clear hlt
    go_roundg k1
    case measure => exact Nat.lt_succ_self _
    case rel => exact ⟨n + 1, (by rw [wrap_succ HLT.out LI.out]), ⟨zSBq1⟩, HB, H2, H3⟩
  | zero =>
   have p1 := eq_false (show ¬ (n : Int) < ((x.init.length : Nat) : Int) from zSBq1)
   have p3 := decide_eq_false (show ¬ (n : Int) < ((x.init.length : Nat) : Int) from zSBq1)
   have p2 := eq_false (show ¬ n < x.init.length from zSBq1)
   go_wp2
   clear p1 p2 p3 z2_2
   go_loopg [6] (x.thr.length) (fun kq v_ w' => ∃ n : Nat, v_ = .int .i64 (n : Int) ∧ Aside0 (n + kq = x.thr.length) ∧ Aside0 (Below w.heap.size w w') ∧ Aside0 (w'.heap[g2]? = some (.cells #[.string x.nm, .int .i64 x.vals, .slice AI1 x.init.length cI1, .slice AT1 x.thr.length cT1, .int .i64 x.ask, .int .i64 x.cnd.f0, .int .i64 x.cnd.f1, .string x.cnd.f2, .int .i64 x.cnd.f3, .slice AC1 x.cnd.f4.length cC1] 29 (0, 0))) ∧ Aside0 (w'.heap[g3]? = some (.cells #[.string x.nm, .int .i64 x.vals, .slice AI2 x.init.length cI2, .slice AT2 x.thr.length cT2, .int .i64 x.ask, .int .i64 x.cnd.f0, .int .i64 x.cnd.f1, .string x.cnd.f2, .int .i64 x.cnd.f3, .slice AC2 x.cnd.f4.length cC2] 29 (0, 0))))
   case atStart => exact ⟨0, rfl, ⟨Nat.zero_add _⟩, HB, H2, H3⟩
   case round =>
    clear HB H2 H3 HI
    obtain ⟨n, rfl, HI, HB, H2, H3⟩ := hrel
    have z2_3 := blk_celln H2.out 3 _ rfl
    cases gk with
    | zero =>
     have p1 := eq_false (show ¬ (n : Int) < ((x.thr.length : Nat) : Int) from zSBq1)
     have p3 := decide_eq_false (show ¬ (n : Int) < ((x.thr.length : Nat) : Int) from zSBq1)
     have p2 := eq_false (show ¬ n < x.thr.length from zSBq1)
     go_wp2
     go_ret
     exact ⟨rfl, HB.out⟩
    | succ k1 =>
     have hlt : n < x.thr.length := by have := HI.out; omega
     have HLT := Aside0.mk hlt
     have p1 := eq_true (show (n : Int) < ((x.thr.length : Nat) : Int) from Int.ofNat_lt.mpr hlt)
     have p2 := eq_true (show n < x.thr.length from hlt)
     have p0 := eq_true (show 0 ≤ (n : Int) from Int.natCast_nonneg _)
     have p3 := decide_eq_true (show (n : Int) < ((x.thr.length : Nat) : Int) from Int.ofNat_lt.mpr hlt)
     go_upto_region 11 with (fail)
     clear z2_3
     replace H2 := mvB (below_drew (Below.refl _ _)) H2
     replace H3 := mvB (below_drew (Below.refl _ _)) H3
     replace HB := Aside0.mk (below_step HB.out (below_drew (Below.refl _ _)))
     obtain ⟨ady, Ay0, cy0, ey, y0, ly0, gy0⟩ := at_L8 (Kd.C_below CT1.out HB.out) (n : Int) (Int.natCast_nonneg _) (by omega)
     subst ey
     simp only [Int.toNat_natCast] at y0
     have Gy := Aside0.mk gy0
     clear gy0
     obtain ⟨adu, Au0, cu0, eu, u0, lu0, gu0⟩ := at_L8 (Kd.C_below CT2.out HB.out) (n : Int) (Int.natCast_nonneg _) (by omega)
     subst eu
     simp only [Int.toNat_natCast] at u0
     have Gu := Aside0.mk gu0
     clear gu0
     refine start_ (n := 12) (S := fun w' => w'.cell? ⟨g2, 3, none⟩ = some (.slice (some ady) x.thr.length cT1) ∧ w'.cell? (ady.add n) = some (.slice Ay0 (rd_L8 x.thr (n : Int)).length cy0) ∧ w'.cell? ⟨g3, 3, none⟩ = some (.slice (some adu) x.thr.length cT2) ∧ w'.cell? (adu.add n) = some (.slice Au0 (rd_L8 x.thr (n : Int)).length cu0)) (ds := [10]) #[Z,Z,Z,Z,Z,Z,Z,Z,Z,Z,Z,Z] (by kernel_rfl) rfl rfl ⟨(blk_celln H2.out 3 _ rfl), y0, (blk_celln H3.out 3 _ rfl), u0⟩ (fun hHeld => ?_)
     refine with_tabW samePT.tab11 samePT.bits11 (fun HT_ HW_ => ?_)
     generalize World.drew _ = wd at HB H2 H3 Gy Gu y0 u0 hHeld ⊢
     refine ppU (i := 0) (N := some 77) #[Y,Z,Z,Z,Z,Z,Z,Z,Z,Z,Z,Z] HT_ ?_
     refine take_ (i := 1) (N := some 78) (v := ?_) (a' := ?_) #[Y,Y,Z,Z,Z,Z,Z,Z,Z,Z,Z,Z] rfl rfl (take_ofW HT_.out HW_.out (by kernel_rfl)) (fun _ _ _ h => h) (Or.inl ⟨by rfl, ?_⟩) hHeld ?_ ?_
     rotate_left
     ·rintro w' ⟨s0, s1, s2, s3⟩
      go_simp
      with_reducible rfl
     rotate_left
     ·simp only [Act.put, pA, pB, pC, i64_w, i32_w]
      rfl
     refine ppU (i := 2) (N := some 79) #[Y,Y,Y,Z,Z,Z,Z,Z,Z,Z,Z,Z] HT_ ?_
     refine ppU (i := 3) (N := some 80) #[Y,Y,Y,Y,Z,Z,Z,Z,Z,Z,Z,Z] HT_ ?_
     refine take_ (i := 4) (N := some 81) (v := ?_) (a' := ?_) #[Y,Y,Y,Y,Y,Z,Z,Z,Z,Z,Z,Z] rfl rfl (take_ofW HT_.out HW_.out (by kernel_rfl)) (fun _ _ _ h => h) (Or.inl ⟨by rfl, ?_⟩) hHeld ?_ ?_
     rotate_left
     ·rintro w' ⟨s0, s1, s2, s3⟩
      go_simp
      with_reducible rfl
     rotate_left
     ·simp only [Act.put, pA, pB, pC, i64_w, i32_w]
      rfl
     refine ppU (i := 5) (N := some 82) #[Y,Y,Y,Y,Y,Y,Z,Z,Z,Z,Z,Z] HT_ ?_
     refine take_ (i := 6) (N := some 83) (v := ?_) (a' := ?_) #[Y,Y,Y,Y,Y,Y,Y,Z,Z,Z,Z,Z] rfl rfl (take_ofW HT_.out HW_.out (by kernel_rfl)) (fun _ _ _ h => h) (Or.inl ⟨by rfl, ?_⟩) hHeld ?_ ?_
     rotate_left
     ·rintro w' ⟨s0, s1, s2, s3⟩
      go_simp
      with_reducible rfl
     rotate_left
     ·simp only [Act.put, pA, pB, pC, i64_w, i32_w]
      rfl
     refine ppU (i := 7) (N := some 84) #[Y,Y,Y,Y,Y,Y,Y,Y,Z,Z,Z,Z] HT_ ?_
     refine ppU (i := 8) (N := some 85) #[Y,Y,Y,Y,Y,Y,Y,Y,Y,Z,Z,Z] HT_ ?_
     refine take_ (i := 9) (N := some 86) (v := ?_) (a' := ?_) #[Y,Y,Y,Y,Y,Y,Y,Y,Y,Y,Z,Z] rfl rfl (take_ofW HT_.out HW_.out (by kernel_rfl)) (fun _ _ _ h => h) (Or.inl ⟨by rfl, ?_⟩) hHeld ?_ ?_
     rotate_left
     ·rintro w' ⟨s0, s1, s2, s3⟩
      go_simp
      with_reducible rfl
     rotate_left
     ·simp only [Act.put, pA, pB, pC, i64_w, i32_w]
      rfl
     refine last_ (i := 10) (N := some 87) #[Y,Y,Y,Y,Y,Y,Y,Y,Y,Y,Y,Z] rfl rfl (one_of HT_.out (by kernel_rfl)) (by decide) (fun K hK => ?_)
     refine goes_ Try.func21 (by kernel_rfl) rfl _ (by rfl) rfl rfl (by (try simp only [List.map_toArray, List.map_cons, List.map_nil]); first | done | rfl) ?_
     refine Calls.mono (sameS_c _ _ _ _ _ _ Gy.out ly0 Gu.out lu0) ?_
     rintro e wc ⟨rfl, qb⟩
     refine ⟨_, rfl, ?_⟩
     replace H2 := mvB qb H2
     replace H3 := mvB qb H3
     replace HB := Aside0.mk (below_step HB.out qb)
     clear qb
     refine hK.out _ _ ?_
     clear hK K
     refine norm_ (a' := ?_) ?_ ?_
     rotate_left
     ·show Act.put _ (some 87) _ = _
      simp only [Act.put, pA, pB, pC, i64_w, i32_w]
      rfl
     refine ppU (i := 11) (N := some 88) #[Y,Y,Y,Y,Y,Y,Y,Y,Y,Y,Y,Y] HT_ ?_
     refine done_ (done_of HT_.out (by kernel_rfl)) ?_
     clear hHeld p0 p1 p2 p3 Gy Gu y0 u0
     go_wp2
     clear hlt
     go_roundg k1
     case measure => exact Nat.lt_succ_self _
     case rel => exact ⟨n + 1, (by rw [wrap_succ HLT.out LT_.out]), ⟨zSBq1⟩, HB, H2, H3⟩
end Go.Proofs.Ytinnldfmbeafiaa.PA
