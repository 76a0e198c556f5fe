/- Two copies of one thing are the same: expressions, conditions, statements, programs; walked by hand. -/
import Derived.Test.YtinnldfmbeafiaaQM
namespace Go.Proofs.Ytinnldfmbeafiaa.PA
open Go.RowKit Go.Proofs.YtinnldfmbeafiaaW.PrintWords Go.Proofs.YtinnldfmbeafiaaW.PrintLast Go.Proofs.YtinnldfmbeafiaaW.PrintMore
set_option linter.unusedVariables false
set_option linter.unusedSimpArgs false
attribute [local go_sem] cell_set_some
theorem zSAq1 {p : Prop} (h : p := by have := HI.out; omega) : p := h
theorem C_len {α : Type} {d : Kd α} {w : World} {A : Option Addr} {n : Nat} {xs : List α} (h : Kd.C d w A n xs) : xs.length ≤ 9223372036854775807 := by
 obtain ⟨h1, h2, _⟩ := h
 omega
theorem wrap_succ {n L : Nat} (h : n < L) (hL : L ≤ 9223372036854775807) : wrap64 ((n : Int) + 1) = ((n + 1 : Nat) : Int) := by
 unfold wrap64
 omega
theorem mem94 {l : List S94} {n : Nat} (h : n < l.length) : rd_T94 l (n : Int) ∈ l := by
 unfold rd_T94
 rw [Int.toNat_natCast, List.getD_eq_getElem?_getD, List.getElem?_eq_getElem h]
 exact List.getElem_mem h
theorem mem27 {l : List S27} {n : Nat} (h : n < l.length) : rd_T27 l (n : Int) ∈ l := by
 unfold rd_T27
 rw [Int.toNat_natCast, List.getD_eq_getElem?_getD, List.getElem?_eq_getElem h]
 exact List.getElem_mem h
theorem mem62 {l : List S62} {n : Nat} (h : n < l.length) : rd_T62 l (n : Int) ∈ l := by
 unfold rd_T62
 rw [Int.toNat_natCast, List.getD_eq_getElem?_getD, List.getElem?_eq_getElem h]
 exact List.getElem_mem h
def SE (x : S94) : Prop := ∀ (A A' : Option Addr) (c c' : Nat) (w : World), Kd.C k94 w A x.f3.length x.f3 → x.f3.length ≤ c → Kd.C k94 w A' x.f3.length x.f3 → x.f3.length ≤ c' → Calls Try.prog 42 #[.agg #[.int .i64 x.f0, .int .i64 x.f1, .string x.f2, .slice A x.f3.length c], .agg #[.int .i64 x.f0, .int .i64 x.f1, .string x.f2, .slice A' x.f3.length c']] w fun e w' => e = .returned (.bool true) ∧ Below w.heap.size w w'
def SC (x : S27) : Prop := ∀ (A A' : Option Addr) (c c' : Nat) (w : World), Kd.C k27 w A x.f4.length x.f4 → x.f4.length ≤ c → Kd.C k27 w A' x.f4.length x.f4 → x.f4.length ≤ c' → Calls Try.prog 20 #[.agg #[.int .i64 x.f0, .int .i64 x.f1, .string x.f2, .int .i64 x.f3, .slice A x.f4.length c], .agg #[.int .i64 x.f0, .int .i64 x.f1, .string x.f2, .int .i64 x.f3, .slice A' x.f4.length c']] w fun e w' => e = .returned (.bool true) ∧ Below w.heap.size w w'
def sameET.T6 : Bool × List (List Nat × List Nat) := (true, [([], []), ([0], [0]), ([], []), ([1, 2], [1, 2]), ([3], [3]), ([], []), ([5], [5]), ([], []), ([6, 7], [6, 7]), ([8], [8]), ([4, 9], [4, 9]), ([10], [10])])
def sameET.B6 : List Nat := [0, 1, 0, 7, 15, 0, 32, 0, 224, 480, 1023, 2047]
theorem sameET.tab6 : rtab .any (opsOf Try.f42 6) = sameET.T6 := by kernel_rfl
theorem sameET.bits6 : waitsOk sameET.T6.2 sameET.B6 = true := by kernel_rfl
set_option maxHeartbeats 8000000 in
set_option maxRecDepth 100000 in
theorem sameE_s (x : S94) (IH : ∀ y ∈ x.f3, SE y) : SE x := by
 intro A A' c c' w hC hc hC2 hc2
 have HIH := Aside0.mk IH; have HC1 := Aside0.mk hC; have HC2 := Aside0.mk hC2; have HL := Aside0.mk (C_len hC)
 clear IH hC hC2 hc hc2
 have hu94 := Try.underlying94
 have HB := Aside0.mk (Below.refl w.heap.size w)
 go_enter Try.func42, Try.ntmps42
 go_upto_region 1 with (first | ((with_reducible refine gate_dst (N := 2) rfl ?_); refine bbX (N := 2) #[.int .i64 x.f0, .int .i64 x.f1, .string x.f2, .slice A x.f3.length c] 94 ?hr ?_; (case hr => first | (go_simp; done) | (go_simp; rfl)); intro g2 hg_ w2 hbox_ hq_; have G2 := Aside0.mk (show w.heap.size ≤ g2 from by rw [hg_.out]; exact HB.out.size); have H2 := Aside0.mk hbox_; replace HB := Aside0.mk (below_step HB.out hq_); clear hg_ hbox_ hq_) | ((with_reducible refine gate_dst (N := 3) rfl ?_); refine bbX (N := 3) #[.int .i64 x.f0, .int .i64 x.f1, .string x.f2, .slice A' x.f3.length c'] 94 ?hr ?_; (case hr => first | (go_simp; done) | (go_simp; rfl)); intro g3 hg_ w3 hbox_ hq_; have G3 := Aside0.mk (show w.heap.size ≤ g3 from by rw [hg_.out]; exact HB.out.size); have N2_3 := Aside0.mk (ne_new H2.out hg_.out); have LT2_3 := Aside0.mk (lt_new H2.out hg_.out); have H3 := Aside0.mk hbox_; replace H2 := mvB hq_ H2; replace HB := Aside0.mk (below_step HB.out hq_); clear hg_ hbox_ hq_))
 obtain ⟨z2_0, z2_1, z2_2, z2_3⟩ := cn4 H2.out
 obtain ⟨z3_0, z3_1, z3_2, z3_3⟩ := cn4 H3.out
 go_wp2
 go_loopg [5] (x.f3.length) (fun kq v5 w' => ∃ n : Nat, v5 = .int .i64 (n : Int) ∧ Aside0 (n + kq = x.f3.length) ∧ Aside0 (Below w.heap.size w w') ∧ Aside0 (w'.heap[g2]? = some (.cells #[.int .i64 x.f0, .int .i64 x.f1, .string x.f2, .slice A x.f3.length c] 94 (0, 0))) ∧ Aside0 (w'.heap[g3]? = some (.cells #[.int .i64 x.f0, .int .i64 x.f1, .string x.f2, .slice A' x.f3.length c'] 94 (0, 0))))
 case atStart => exact ⟨0, rfl, ⟨Nat.zero_add _⟩, HB, H2, H3⟩
 case round =>
  clear z2_0 z2_1 z2_2 z2_3
  clear z3_0 z3_1 z3_2 z3_3
  clear HB H2 H3
  obtain ⟨n, rfl, HI, HB, H2, H3⟩ := hrel
  have z2_3 := blk_celln H2.out 3 _ rfl
  cases gk with
  | zero =>
   have p1 := eq_false (show ¬ (n : Int) < ((x.f3.length : Nat) : Int) from zSAq1)
   have p3 := decide_eq_false (show ¬ (n : Int) < ((x.f3.length : Nat) : Int) from zSAq1)
   have p2 := eq_false (show ¬ n < x.f3.length from zSAq1)
   go_wp2
   go_ret
   exact ⟨rfl, HB.out⟩
  | succ k1 =>
   have hlt : n < x.f3.length := by have := HI.out; omega
   have HLT := Aside0.mk hlt
   have p1 := eq_true (show (n : Int) < ((x.f3.length : Nat) : Int) from Int.ofNat_lt.mpr hlt)
   have p2 := eq_true (show n < x.f3.length from hlt)
   have p0 := eq_true (show 0 ≤ (n : Int) from Int.natCast_nonneg _)
   have p3 := decide_eq_true (show (n : Int) < ((x.f3.length : Nat) : Int) from Int.ofNat_lt.mpr hlt)
   go_upto_region 6 with (fail)
   clear z2_3
   replace H2 := mvB (below_drew (Below.refl _ _)) H2
   replace H3 := mvB (below_drew (Below.refl _ _)) H3
   replace HB := Aside0.mk (below_step HB.out (below_drew (Below.refl _ _)))
   obtain ⟨ady, Ay3, cy3, ey, y0, y1, y2, y3, ly3, gy3⟩ := at_T94 (Kd.C_below HC1.out HB.out) (n : Int) (Int.natCast_nonneg _) (by omega)
   subst ey
   simp only [Int.toNat_natCast] at y0 y1 y2 y3
   obtain ⟨adu, Au3, cu3, eu, u0, u1, u2, u3, lu3, gu3⟩ := at_T94 (Kd.C_below HC2.out HB.out) (n : Int) (Int.natCast_nonneg _) (by omega)
   subst eu
   simp only [Int.toNat_natCast] at u0 u1 u2 u3
   have GY := Aside0.mk gy3; have GU := Aside0.mk gu3
   clear gy3 gu3
   refine start_ (n := 12) (S := fun w' => w'.cell? ⟨g2, 3, none⟩ = some (.slice (some ady) x.f3.length c) ∧ w'.cell? (ady.add (n * 4)) = some (.int .i64 (rd_T94 x.f3 (n : Int)).f0) ∧ w'.cell? ⟨(ady.add (n * 4)).block, (ady.add (n * 4)).off + 1, none⟩ = some (.int .i64 (rd_T94 x.f3 (n : Int)).f1) ∧ w'.cell? ⟨(ady.add (n * 4)).block, (ady.add (n * 4)).off + 2, none⟩ = some (.string (rd_T94 x.f3 (n : Int)).f2) ∧ w'.cell? ⟨(ady.add (n * 4)).block, (ady.add (n * 4)).off + 3, none⟩ = some (.slice Ay3 (rd_T94 x.f3 (n : Int)).f3.length cy3) ∧ w'.cell? ⟨g3, 3, none⟩ = some (.slice (some adu) x.f3.length c') ∧ w'.cell? (adu.add (n * 4)) = some (.int .i64 (rd_T94 x.f3 (n : Int)).f0) ∧ w'.cell? ⟨(adu.add (n * 4)).block, (adu.add (n * 4)).off + 1, none⟩ = some (.int .i64 (rd_T94 x.f3 (n : Int)).f1) ∧ w'.cell? ⟨(adu.add (n * 4)).block, (adu.add (n * 4)).off + 2, none⟩ = some (.string (rd_T94 x.f3 (n : Int)).f2) ∧ w'.cell? ⟨(adu.add (n * 4)).block, (adu.add (n * 4)).off + 3, none⟩ = some (.slice Au3 (rd_T94 x.f3 (n : Int)).f3.length cu3)) (ds := [10]) #[Z,Z,Z,Z,Z,Z,Z,Z,Z,Z,Z,Z] (by kernel_rfl) rfl rfl ⟨(blk_celln H2.out 3 _ rfl), y0, y1, y2, y3, (blk_celln H3.out 3 _ rfl), u0, u1, u2, u3⟩ (fun hHeld => ?_)
   refine with_tabW sameET.tab6 sameET.bits6 (fun HT_ HW_ => ?_)
   generalize World.drew _ = wd at HB H2 H3 GY GU y0 y1 y2 y3 u0 u1 u2 u3 hHeld ⊢
   refine ppU (i := 0) (N := some 41) #[Y,Z,Z,Z,Z,Z,Z,Z,Z,Z,Z,Z] HT_ ?_
   refine take_ (i := 1) (N := some 42) (v := ?_) (a' := ?_) #[Y,Y,Z,Z,Z,Z,Z,Z,Z,Z,Z,Z] rfl rfl (take_ofW HT_.out HW_.out (by kernel_rfl)) (fun _ _ _ h => h) (Or.inl ⟨by rfl, ?_⟩) hHeld ?_ ?_
   rotate_left
   ·rintro w' ⟨s0, s1, s2, s3, s4, s5, s6, s7, s8, s9⟩
    go_simp
    with_reducible rfl
   rotate_left
   ·simp only [Act.put, pA, pB, pC, i64_w, i32_w]
    rfl
   refine ppU (i := 2) (N := some 43) #[Y,Y,Y,Z,Z,Z,Z,Z,Z,Z,Z,Z] HT_ ?_
   refine ppU (i := 3) (N := some 44) #[Y,Y,Y,Y,Z,Z,Z,Z,Z,Z,Z,Z] HT_ ?_
   refine take_ (i := 4) (N := some 45) (v := ?_) (a' := ?_) #[Y,Y,Y,Y,Y,Z,Z,Z,Z,Z,Z,Z] rfl rfl (take_ofW HT_.out HW_.out (by kernel_rfl)) (fun _ _ _ h => h) (Or.inl ⟨by rfl, ?_⟩) hHeld ?_ ?_
   rotate_left
   ·rintro w' ⟨s0, s1, s2, s3, s4, s5, s6, s7, s8, s9⟩
    go_simp
    with_reducible rfl
   rotate_left
   ·simp only [Act.put, pA, pB, pC, i64_w, i32_w]
    rfl
   refine ppU (i := 5) (N := some 46) #[Y,Y,Y,Y,Y,Y,Z,Z,Z,Z,Z,Z] HT_ ?_
   refine take_ (i := 6) (N := some 47) (v := ?_) (a' := ?_) #[Y,Y,Y,Y,Y,Y,Y,Z,Z,Z,Z,Z] rfl rfl (take_ofW HT_.out HW_.out (by kernel_rfl)) (fun _ _ _ h => h) (Or.inl ⟨by rfl, ?_⟩) hHeld ?_ ?_
   rotate_left
   ·rintro w' ⟨s0, s1, s2, s3, s4, s5, s6, s7, s8, s9⟩
    go_simp
    with_reducible rfl
   rotate_left
   ·simp only [Act.put, pA, pB, pC, i64_w, i32_w]
    rfl
   refine ppU (i := 7) (N := some 48) #[Y,Y,Y,Y,Y,Y,Y,Y,Z,Z,Z,Z] HT_ ?_
   refine ppU (i := 8) (N := some 49) #[Y,Y,Y,Y,Y,Y,Y,Y,Y,Z,Z,Z] HT_ ?_
   refine take_ (i := 9) (N := some 50) (v := ?_) (a' := ?_) #[Y,Y,Y,Y,Y,Y,Y,Y,Y,Y,Z,Z] rfl rfl (take_ofW HT_.out HW_.out (by kernel_rfl)) (fun _ _ _ h => h) (Or.inl ⟨by rfl, ?_⟩) hHeld ?_ ?_
   rotate_left
   ·rintro w' ⟨s0, s1, s2, s3, s4, s5, s6, s7, s8, s9⟩
    go_simp
    with_reducible rfl
   rotate_left
   ·simp only [Act.put, pA, pB, pC, i64_w, i32_w]
    rfl
   refine last_ (i := 10) (N := some 51) #[Y,Y,Y,Y,Y,Y,Y,Y,Y,Y,Y,Z] rfl rfl (one_of HT_.out (by kernel_rfl)) (by decide) (fun K hK => ?_)
   refine goes_ Try.func42 (by kernel_rfl) rfl _ (by rfl) rfl rfl (by (try simp only [List.map_toArray, List.map_cons, List.map_nil]); first | done | rfl) ?_
   refine Calls.mono (HIH.out _ (mem94 HLT.out) _ _ _ _ _ GY.out ly3 GU.out lu3) ?_
   rintro e wc ⟨rfl, qb⟩
   refine ⟨_, rfl, ?_⟩
   replace H2 := mvB qb H2
   replace H3 := mvB qb H3
   replace HB := Aside0.mk (below_step HB.out qb)
   clear qb
   refine hK.out _ _ ?_
   clear hK K
   refine norm_ (a' := ?_) ?_ ?_
   rotate_left
   ·show Act.put _ (some 51) _ = _
    simp only [Act.put, pA, pB, pC, i64_w, i32_w]
    rfl
   refine ppU (i := 11) (N := some 52) #[Y,Y,Y,Y,Y,Y,Y,Y,Y,Y,Y,Y] HT_ ?_
   refine done_ (done_of HT_.out (by kernel_rfl)) ?_
   clear hHeld p0 p1 p2 p3 GY GU y0 y1 y2 y3 u0 u1 u2 u3
   go_wp2
   clear hlt
   go_roundg k1
   case measure => exact Nat.lt_succ_self _
   case rel => exact ⟨n + 1, (by rw [wrap_succ HLT.out HL.out]), ⟨zSAq1⟩, HB, H2, H3⟩
def sameCT.T6 : Bool × List (List Nat × List Nat) := (true, [([], []), ([0], [0]), ([], []), ([1, 2], [1, 2]), ([3], [3]), ([], []), ([5], [5]), ([], []), ([6, 7], [6, 7]), ([8], [8]), ([4, 9], [4, 9]), ([10], [10])])
def sameCT.B6 : List Nat := [0, 1, 0, 7, 15, 0, 32, 0, 224, 480, 1023, 2047]
theorem sameCT.tab6 : rtab .any (opsOf Try.f20 6) = sameCT.T6 := by kernel_rfl
theorem sameCT.bits6 : waitsOk sameCT.T6.2 sameCT.B6 = true := by kernel_rfl
set_option maxHeartbeats 8000000 in
set_option maxRecDepth 100000 in
theorem sameC_s (x : S27) (IH : ∀ y ∈ x.f4, SC y) : SC x := by
 intro A A' c c' w hC hc hC2 hc2
 have HIH := Aside0.mk IH; have HC1 := Aside0.mk hC; have HC2 := Aside0.mk hC2; have HL := Aside0.mk (C_len hC)
 clear IH hC hC2 hc hc2
 have hu27 := Try.underlying27
 have HB := Aside0.mk (Below.refl w.heap.size w)
 go_enter Try.func20, Try.ntmps20
 go_upto_region 1 with (first | ((with_reducible refine gate_dst (N := 2) rfl ?_); refine bbX (N := 2) #[.int .i64 x.f0, .int .i64 x.f1, .string x.f2, .int .i64 x.f3, .slice A x.f4.length c] 27 ?hr ?_; (case hr => first | (go_simp; done) | (go_simp; rfl)); intro g2 hg_ w2 hbox_ hq_; have G2 := Aside0.mk (show w.heap.size ≤ g2 from by rw [hg_.out]; exact HB.out.size); have H2 := Aside0.mk hbox_; replace HB := Aside0.mk (below_step HB.out hq_); clear hg_ hbox_ hq_) | ((with_reducible refine gate_dst (N := 3) rfl ?_); refine bbX (N := 3) #[.int .i64 x.f0, .int .i64 x.f1, .string x.f2, .int .i64 x.f3, .slice A' x.f4.length c'] 27 ?hr ?_; (case hr => first | (go_simp; done) | (go_simp; rfl)); intro g3 hg_ w3 hbox_ hq_; have G3 := Aside0.mk (show w.heap.size ≤ g3 from by rw [hg_.out]; exact HB.out.size); have N2_3 := Aside0.mk (ne_new H2.out hg_.out); have LT2_3 := Aside0.mk (lt_new H2.out hg_.out); have H3 := Aside0.mk hbox_; replace H2 := mvB hq_ H2; replace HB := Aside0.mk (below_step HB.out hq_); clear hg_ hbox_ hq_))
 obtain ⟨z2_0, z2_1, z2_2, z2_3, z2_4⟩ := cn5 H2.out
 obtain ⟨z3_0, z3_1, z3_2, z3_3, z3_4⟩ := cn5 H3.out
 go_wp2
 go_loopg [5] (x.f4.length) (fun kq v5 w' => ∃ n : Nat, v5 = .int .i64 (n : Int) ∧ Aside0 (n + kq = x.f4.length) ∧ Aside0 (Below w.heap.size w w') ∧ Aside0 (w'.heap[g2]? = some (.cells #[.int .i64 x.f0, .int .i64 x.f1, .string x.f2, .int .i64 x.f3, .slice A x.f4.length c] 27 (0, 0))) ∧ Aside0 (w'.heap[g3]? = some (.cells #[.int .i64 x.f0, .int .i64 x.f1, .string x.f2, .int .i64 x.f3, .slice A' x.f4.length c'] 27 (0, 0))))
 case atStart => exact ⟨0, rfl, ⟨Nat.zero_add _⟩, HB, H2, H3⟩
 case round =>
  clear z2_0 z2_1 z2_2 z2_3 z2_4
  clear z3_0 z3_1 z3_2 z3_3 z3_4
  clear HB H2 H3
  obtain ⟨n, rfl, HI, HB, H2, H3⟩ := hrel
  have z2_4 := blk_celln H2.out 4 _ rfl
  cases gk with
  | zero =>
   have p1 := eq_false (show ¬ (n : Int) < ((x.f4.length : Nat) : Int) from zSAq1)
   have p3 := decide_eq_false (show ¬ (n : Int) < ((x.f4.length : Nat) : Int) from zSAq1)
   have p2 := eq_false (show ¬ n < x.f4.length from zSAq1)
   go_wp2
   go_ret
   exact ⟨rfl, HB.out⟩
  | succ k1 =>
   have hlt : n < x.f4.length := by have := HI.out; omega
   have HLT := Aside0.mk hlt
   have p1 := eq_true (show (n : Int) < ((x.f4.length : Nat) : Int) from Int.ofNat_lt.mpr hlt)
   have p2 := eq_true (show n < x.f4.length from hlt)
   have p0 := eq_true (show 0 ≤ (n : Int) from Int.natCast_nonneg _)
   have p3 := decide_eq_true (show (n : Int) < ((x.f4.length : Nat) : Int) from Int.ofNat_lt.mpr hlt)
   go_upto_region 6 with (fail)
   clear z2_4
   replace H2 := mvB (below_drew (Below.refl _ _)) H2
   replace H3 := mvB (below_drew (Below.refl _ _)) H3
   replace HB := Aside0.mk (below_step HB.out (below_drew (Below.refl _ _)))
   obtain ⟨ady, Ay4, cy4, ey, y0, y1, y2, y3, y4, ly4, gy4⟩ := at_T27 (Kd.C_below HC1.out HB.out) (n : Int) (Int.natCast_nonneg _) (by omega)
   subst ey
   simp only [Int.toNat_natCast] at y0 y1 y2 y3 y4
   obtain ⟨adu, Au4, cu4, eu, u0, u1, u2, u3, u4, lu4, gu4⟩ := at_T27 (Kd.C_below HC2.out HB.out) (n : Int) (Int.natCast_nonneg _) (by omega)
   subst eu
   simp only [Int.toNat_natCast] at u0 u1 u2 u3 u4
   have GY := Aside0.mk gy4; have GU := Aside0.mk gu4
   clear gy4 gu4
   refine start_ (n := 12) (S := fun w' => w'.cell? ⟨g2, 4, none⟩ = some (.slice (some ady) x.f4.length c) ∧ w'.cell? (ady.add (n * 5)) = some (.int .i64 (rd_T27 x.f4 (n : Int)).f0) ∧ w'.cell? ⟨(ady.add (n * 5)).block, (ady.add (n * 5)).off + 1, none⟩ = some (.int .i64 (rd_T27 x.f4 (n : Int)).f1) ∧ w'.cell? ⟨(ady.add (n * 5)).block, (ady.add (n * 5)).off + 2, none⟩ = some (.string (rd_T27 x.f4 (n : Int)).f2) ∧ w'.cell? ⟨(ady.add (n * 5)).block, (ady.add (n * 5)).off + 3, none⟩ = some (.int .i64 (rd_T27 x.f4 (n : Int)).f3) ∧ w'.cell? ⟨(ady.add (n * 5)).block, (ady.add (n * 5)).off + 4, none⟩ = some (.slice Ay4 (rd_T27 x.f4 (n : Int)).f4.length cy4) ∧ w'.cell? ⟨g3, 4, none⟩ = some (.slice (some adu) x.f4.length c') ∧ w'.cell? (adu.add (n * 5)) = some (.int .i64 (rd_T27 x.f4 (n : Int)).f0) ∧ w'.cell? ⟨(adu.add (n * 5)).block, (adu.add (n * 5)).off + 1, none⟩ = some (.int .i64 (rd_T27 x.f4 (n : Int)).f1) ∧ w'.cell? ⟨(adu.add (n * 5)).block, (adu.add (n * 5)).off + 2, none⟩ = some (.string (rd_T27 x.f4 (n : Int)).f2) ∧ w'.cell? ⟨(adu.add (n * 5)).block, (adu.add (n * 5)).off + 3, none⟩ = some (.int .i64 (rd_T27 x.f4 (n : Int)).f3) ∧ w'.cell? ⟨(adu.add (n * 5)).block, (adu.add (n * 5)).off + 4, none⟩ = some (.slice Au4 (rd_T27 x.f4 (n : Int)).f4.length cu4)) (ds := [10]) #[Z,Z,Z,Z,Z,Z,Z,Z,Z,Z,Z,Z] (by kernel_rfl) rfl rfl ⟨(blk_celln H2.out 4 _ rfl), y0, y1, y2, y3, y4, (blk_celln H3.out 4 _ rfl), u0, u1, u2, u3, u4⟩ (fun hHeld => ?_)
   refine with_tabW sameCT.tab6 sameCT.bits6 (fun HT_ HW_ => ?_)
   generalize World.drew _ = wd at HB H2 H3 GY GU y0 y1 y2 y3 y4 u0 u1 u2 u3 u4 hHeld ⊢
   refine ppU (i := 0) (N := some 48) #[Y,Z,Z,Z,Z,Z,Z,Z,Z,Z,Z,Z] HT_ ?_
   refine take_ (i := 1) (N := some 49) (v := ?_) (a' := ?_) #[Y,Y,Z,Z,Z,Z,Z,Z,Z,Z,Z,Z] rfl rfl (take_ofW HT_.out HW_.out (by kernel_rfl)) (fun _ _ _ h => h) (Or.inl ⟨by rfl, ?_⟩) hHeld ?_ ?_
   rotate_left
   ·rintro w' ⟨s0, s1, s2, s3, s4, s5, s6, s7, s8, s9, s10, s11⟩
    go_simp
    with_reducible rfl
   rotate_left
   ·simp only [Act.put, pA, pB, pC, i64_w, i32_w]
    rfl
   refine ppU (i := 2) (N := some 50) #[Y,Y,Y,Z,Z,Z,Z,Z,Z,Z,Z,Z] HT_ ?_
   refine ppU (i := 3) (N := some 51) #[Y,Y,Y,Y,Z,Z,Z,Z,Z,Z,Z,Z] HT_ ?_
   refine take_ (i := 4) (N := some 52) (v := ?_) (a' := ?_) #[Y,Y,Y,Y,Y,Z,Z,Z,Z,Z,Z,Z] rfl rfl (take_ofW HT_.out HW_.out (by kernel_rfl)) (fun _ _ _ h => h) (Or.inl ⟨by rfl, ?_⟩) hHeld ?_ ?_
   rotate_left
   ·rintro w' ⟨s0, s1, s2, s3, s4, s5, s6, s7, s8, s9, s10, s11⟩
    go_simp
    with_reducible rfl
   rotate_left
   ·simp only [Act.put, pA, pB, pC, i64_w, i32_w]
    rfl
   refine ppU (i := 5) (N := some 53) #[Y,Y,Y,Y,Y,Y,Z,Z,Z,Z,Z,Z] HT_ ?_
   refine take_ (i := 6) (N := some 54) (v := ?_) (a' := ?_) #[Y,Y,Y,Y,Y,Y,Y,Z,Z,Z,Z,Z] rfl rfl (take_ofW HT_.out HW_.out (by kernel_rfl)) (fun _ _ _ h => h) (Or.inl ⟨by rfl, ?_⟩) hHeld ?_ ?_
   rotate_left
   ·rintro w' ⟨s0, s1, s2, s3, s4, s5, s6, s7, s8, s9, s10, s11⟩
    go_simp
    with_reducible rfl
   rotate_left
   ·simp only [Act.put, pA, pB, pC, i64_w, i32_w]
    rfl
   refine ppU (i := 7) (N := some 55) #[Y,Y,Y,Y,Y,Y,Y,Y,Z,Z,Z,Z] HT_ ?_
   refine ppU (i := 8) (N := some 56) #[Y,Y,Y,Y,Y,Y,Y,Y,Y,Z,Z,Z] HT_ ?_
   refine take_ (i := 9) (N := some 57) (v := ?_) (a' := ?_) #[Y,Y,Y,Y,Y,Y,Y,Y,Y,Y,Z,Z] rfl rfl (take_ofW HT_.out HW_.out (by kernel_rfl)) (fun _ _ _ h => h) (Or.inl ⟨by rfl, ?_⟩) hHeld ?_ ?_
   rotate_left
   ·rintro w' ⟨s0, s1, s2, s3, s4, s5, s6, s7, s8, s9, s10, s11⟩
    go_simp
    with_reducible rfl
   rotate_left
   ·simp only [Act.put, pA, pB, pC, i64_w, i32_w]
    rfl
   refine last_ (i := 10) (N := some 58) #[Y,Y,Y,Y,Y,Y,Y,Y,Y,Y,Y,Z] rfl rfl (one_of HT_.out (by kernel_rfl)) (by decide) (fun K hK => ?_)
   refine goes_ Try.func20 (by kernel_rfl) rfl _ (by rfl) rfl rfl (by (try simp only [List.map_toArray, List.map_cons, List.map_nil]); first | done | rfl) ?_
   refine Calls.mono (HIH.out _ (mem27 HLT.out) _ _ _ _ _ GY.out ly4 GU.out lu4) ?_
   rintro e wc ⟨rfl, qb⟩
   refine ⟨_, rfl, ?_⟩
   replace H2 := mvB qb H2
   replace H3 := mvB qb H3
   replace HB := Aside0.mk (below_step HB.out qb)
   clear qb
   refine hK.out _ _ ?_
   clear hK K
   refine norm_ (a' := ?_) ?_ ?_
   rotate_left
   ·show Act.put _ (some 58) _ = _
    simp only [Act.put, pA, pB, pC, i64_w, i32_w]
    rfl
   refine ppU (i := 11) (N := some 59) #[Y,Y,Y,Y,Y,Y,Y,Y,Y,Y,Y,Y] HT_ ?_
   refine done_ (done_of HT_.out (by kernel_rfl)) ?_
   clear hHeld p0 p1 p2 p3 GY GU y0 y1 y2 y3 y4 u0 u1 u2 u3 u4
   go_wp2
   clear hlt
   go_roundg k1
   case measure => exact Nat.lt_succ_self _
   case rel => exact ⟨n + 1, (by rw [wrap_succ HLT.out HL.out]), ⟨zSAq1⟩, HB, H2, H3⟩
theorem sameE_c (x : S94) : SE x := sameE_s x (fun y hy => sameE_c y)
termination_by SizeOf.sizeOf x
decreasing_by
 have h1 : SizeOf.sizeOf y < SizeOf.sizeOf x.f3 := List.sizeOf_lt_of_mem hy
 have h2 : SizeOf.sizeOf x.f3 < SizeOf.sizeOf x := by cases x; simp; omega
 omega
theorem sameC_c (x : S27) : SC x := sameC_s x (fun y hy => sameC_c y)
termination_by SizeOf.sizeOf x
decreasing_by
 have h1 : SizeOf.sizeOf y < SizeOf.sizeOf x.f4 := List.sizeOf_lt_of_mem hy
 have h2 : SizeOf.sizeOf x.f4 < SizeOf.sizeOf x := by cases x; simp; omega
 omega
end Go.Proofs.Ytinnldfmbeafiaa.PA
