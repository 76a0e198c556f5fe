/- witheref9.walk's one (what is wrong of a statement), at one load: walked by hand. -/
import Derived.Test.YtlpdcdkjmcpfdaaDoorPTx2
import Derived.Test.YtlpdcdkjmcpfdaaDoorTF
namespace Go.Proofs.YtlpdcdkjmcpfdaaDoor.PT
open Go.RowKit Go.Proofs.YtlpdcdkjmcpfdaaDoorW.PrintWords Go.Proofs.YtlpdcdkjmcpfdaaDoorW.PrintLast Go.Proofs.YtlpdcdkjmcpfdaaDoorW.PrintMore
set_option linter.unusedVariables false
set_option linter.unusedSimpArgs false
attribute [local go_sem] cell_set_some
/-- What stays beside blocks of type 113, and below b. -/
def TV (b : Nat) (w w' : World) : Prop := Below b w w' ∧ ∀ (k : Nat) (cs : Array Value) (t : TypeId), w.heap[k]? = some (.cells cs t (0, 0)) → t ≠ 113 → w'.heap[k]? = some (.cells cs t (0, 0))
theorem TV.refl (b : Nat) (w : World) : TV b w w := ⟨Below.refl _ _, fun _ _ _ h _ => h⟩
theorem TV.trans {b : Nat} {w w1 w2 : World} (h : TV b w w1) (k : TV b w1 w2) : TV b w w2 := ⟨h.1.trans k.1, fun i cs t hi h1 => k.2 i cs t (h.2 i cs t hi h1) h1⟩
theorem TV.step {b : Nat} {w w1 w2 : World} (h : TV b w w1) (hs : b ≤ w.heap.size) (q : Below w1.heap.size w1 w2) : TV b w w2 :=
  ⟨below_then h.1 (Nat.le_trans hs h.1.size) q, fun k cs t hk h1 => blk_below (h.2 k cs t hk h1) q⟩
theorem TV.drew {b : Nat} {w w1 : World} (h : TV b w w1) : TV b w w1.drew := ⟨below_drew h.1, h.2⟩
theorem TV.drewN {b : Nat} {w w1 : World} (h : TV b w w1) (n : Nat) : TV b w (w1.drewN n) := ⟨pw_below_drewN h.1 n, h.2⟩
theorem TV.set {b : Nat} {w w1 : World} (h : TV b w w1) {g j : Nat} {cs : Array Value} (hb : w1.heap[g]? = some (.cells cs 113 (0, 0))) (hg : b ≤ g) (u : Value) : TV b w (w1.setCell ⟨g, j, none⟩ u) :=
  ⟨h.1.setCell hg _, fun k cs' t' hk h1 => by
    have e := h.2 k cs' t' hk h1
    have ne : k ≠ g := by
      rintro rfl
      rw [hb] at e
      injection e with e
      injection e with e1 e2
      exact h1 e2.symm
    rw [Below.heap_setCell w1 ⟨g, j, none⟩ u k ne]
    exact e⟩
theorem TV.cell {b : Nat} {w w1 : World} (h : TV b w w1) {a : Addr} (hlt : a.block < b) : w1.cell? a = w.cell? a := by
  unfold World.cell?
  rw [h.1.block _ hlt]
theorem blk_celln {w : World} {g : Nat} {l : List Value} {t : TypeId} (h : w.heap[g]? = some (.cells ⟨l⟩ t (0, 0))) (k : Nat) (v : Value) {tl : List Value} (hv : l.drop k = v :: tl) : w.cell? ⟨g, k, none⟩ = some v := by
  rw [blk_cell h k]
  have e : l[k]? = some v := by
    have e1 : l[k]? = (l.drop k)[0]? := by simp
    rw [e1, hv]
    rfl
  simpa using e
theorem str_ne {w : World} {A : Option Addr} {xs : List ByteArray} {c : Nat} {base : Nat} (h : Kd.R Kd.string 9 w base (fun _ => True) (.slice A xs.length c) xs) {b : Nat} {w' : World} (k : TV b w w') : Kd.R Kd.string 9 w' base (fun _ => True) (.slice A xs.length c) xs :=
  Kd.R_mono (Kd.R_step (Kd.R_tight rfl h) (fun k1 e _ => by
    obtain ⟨cs, a⟩ := Kd.R_typed h k1 e.symm
    rw [a]
    exact k.2 k1 cs 9 a (by decide))) (fun _ _ => trivial)
def one.T15 : Bool × List (List Nat × List Nat) := (true, [([], []), ([0], [0]), ([1], [1]), ([2], [2]), ([3, 2], [3]), ([4], [4]), ([5, 4], [4, 5]), ([6, 4], [4, 6]), ([7, 4], [4, 7]), ([4], [4]), ([9, 4], [4, 9]), ([8, 10, 4, 4], [4, 8, 10]), ([4, 11], [4, 11])])
def one.B15 : List Nat := [0, 1, 3, 7, 15, 31, 63, 127, 255, 31, 543, 2047, 4095]
theorem one.tab15 : rtab .any (opsOf Tryd.f96 15) = one.T15 := by kernel_rfl
theorem one.bits15 : waitsOk one.T15.2 one.B15 = true := by kernel_rfl
def one.T20 : Bool × List (List Nat × List Nat) := (true, [([], []), ([], []), ([], []), ([1, 2], [1, 2]), ([], []), ([4], [4]), ([5], [5]), ([3, 6, 3], [3, 6]), ([0, 0, 1, 2, 3, 4, 5, 6, 7], [0]), ([8, 0, 1, 2, 3, 4, 5, 6, 7], [8]), ([9, 7, 7, 0, 1, 2, 3, 4, 5, 6, 7], [7, 9])])
def one.B20 : List Nat := [0, 0, 0, 6, 0, 16, 48, 126, 255, 511, 1023]
theorem one.tab20 : rtab .any (opsOf Tryd.f96 20) = one.T20 := by kernel_rfl
theorem one.bits20 : waitsOk one.T20.2 one.B20 = true := by kernel_rfl
def one.T30 : Bool × List (List Nat × List Nat) := (true, [([], []), ([0], [0]), ([1], [1]), ([2], [2]), ([], []), ([4], [4]), ([3, 5], [3, 5]), ([6], [6])])
def one.B30 : List Nat := [0, 1, 3, 7, 0, 16, 63, 127]
theorem one.tab30 : rtab .any (opsOf Tryd.f96 30) = one.T30 := by kernel_rfl
theorem one.bits30 : waitsOk one.T30.2 one.B30 = true := by kernel_rfl
set_option maxHeartbeats 8000000 in
set_option maxRecDepth 100000 in
theorem one_calls (w : World) (gw b0 : Nat) (AL A4 A5 A6 : Option Addr) (cL c4 c5 c6 : Nat) (p : Int) (x r : ByteArray) (m : Int) (hm : m = 4) (hx : x = ⟨#[120]⟩) (hr : r = ⟨#[114]⟩) (hl : Kd.R Kd.string 9 w b0 (fun _ => True) (.slice AL 1 cL) [x])
    (hb : w.heap[gw]? = some (.cells #[.int .i64 2, .slice AL 1 cL, .slice none 0 0, .int .i64 0, .int .i64 p] 113 (0, 0))) (hg : b0 ≤ gw) (hs : b0 ≤ w.heap.size) :
    Calls Tryd.prog 96 #[.pointer (some ⟨gw, 0, none⟩), .agg #[.int .i64 2, .int .i64 m, .string r, .string x, .slice A4 0 c4, .slice A5 0 c5, .slice A6 0 c6], .int .i64 0] w fun e w' => ∃ vk, e = .returned (.int .i64 0) ∧
      w'.heap[gw]? = some (.cells #[.int .i64 2, .slice AL 1 cL, vk, .int .i64 1, .int .i64 p] 113 (0, 0)) ∧ Kd.R Kd.string 9 w' b0 (fun _ => True) vk [r] ∧ Kd.R Kd.string 9 w' b0 (fun _ => True) (.slice AL 1 cL) [x] ∧ TV b0 w w' := by
  have hu113 := Tryd.underlying113
  have hu61 := Tryd.underlying61
  subst hm hx hr
  have HL := Aside0.mk hl
  have hz0 := blk_celln (hb) 0 _ rfl; have hz1 := blk_celln (hb) 1 _ rfl; have hz2 := blk_celln (hb) 2 _ rfl; have hz3 := blk_celln (hb) 3 _ rfl; have hz4 := blk_celln (hb) 4 _ rfl
  have hf3 := blk_frozen hb 3
  clear hl
  go_enter Tryd.func96, Tryd.ntmps96
  go_wp2_with (first | ((with_reducible refine gate_dst (N := 4) rfl ?_); refine box_event ?hg (N := 4) ?hd (cs := #[.int .i64 2, .int .i64 4, .string ⟨#[114]⟩, .string ⟨#[120]⟩, .slice A4 0 c4, .slice A5 0 c5, .slice A6 0 c6]) (t := 61) ?hr ?_; (case hd => rfl); (case hg => rfl); (case hr => first | (go_simp; done) | (go_simp; rfl)); intro g1 hg1 w1 hbox hb1; replace hb := blk_below hb hb1; replace hz0 := blk_celln (hb) 0 _ rfl; replace hz1 := blk_celln (hb) 1 _ rfl; replace hz2 := blk_celln (hb) 2 _ rfl; replace hz3 := blk_celln (hb) 3 _ rfl; replace hz4 := blk_celln (hb) 4 _ rfl; replace hf3 := blk_frozen hb 3; replace HL := Aside0.mk (Kd.R_below HL.out hb1); have HT := Aside0.mk ((TV.refl b0 _).step hs hb1); have hx0 := blk_celln (hbox) 0 _ rfl; have hx1 := blk_celln (hbox) 1 _ rfl; have hx2 := blk_celln (hbox) 2 _ rfl; have hx3 := blk_celln (hbox) 3 _ rfl; have hx4 := blk_celln (hbox) 4 _ rfl; have hx5 := blk_celln (hbox) 5 _ rfl; have hx6 := blk_celln (hbox) 6 _ rfl; clear hg1 hb1))
  (with_reducible refine (witheref9_may.calls 9 2 4 true _ (by kernel_rfl)).mono ?_)
  rintro e w2 ⟨rfl, nd, rfl⟩
  have k1 : TV b0 w1 (w1.setCell ⟨gw, 3, none⟩ (.int .i64 1)) := (TV.refl b0 w1).set hb hg _
  replace hbox := blk_drewN (k1.2 _ _ _ hbox (by decide)) nd
  replace HL := Aside0.mk (Kd.R_drewN (str_ne (xs := [⟨#[120]⟩]) HL.out k1) nd)
  replace hb := blk_drewN (blk_put hb 3 (.int .i64 1) rfl) nd
  replace HT := Aside0.mk ((HT.out.trans k1).drewN nd)
  clear k1 hz0 hz1 hz2 hz3 hz4 hf3 hx0 hx1 hx2 hx3 hx4 hx5 hx6
  generalize (w1.setCell ⟨gw, 3, none⟩ (.int .i64 1)).drewN nd = wB at hb hbox HL HT ⊢
  have hz0 := blk_celln (hb) 0 _ rfl; have hz1 := blk_celln (hb) 1 _ rfl; have hz2 := blk_celln (hb) 2 _ rfl; have hz3 := blk_celln (hb) 3 _ rfl; have hz4 := blk_celln (hb) 4 _ rfl
  have hx0 := blk_celln (hbox) 0 _ rfl; have hx1 := blk_celln (hbox) 1 _ rfl; have hx2 := blk_celln (hbox) 2 _ rfl; have hx3 := blk_celln (hbox) 3 _ rfl; have hx4 := blk_celln (hbox) 4 _ rfl; have hx5 := blk_celln (hbox) 5 _ rfl; have hx6 := blk_celln (hbox) 6 _ rfl
  go_upto_region 15 with (go_at_call 97; (with_reducible refine (witheref9_sets.calls 2 true _ (by kernel_rfl)).mono ?_); rintro e w3 ⟨rfl, n3, rfl⟩; replace hb := blk_drewN hb n3; replace hbox := blk_drewN hbox n3; replace HL := Aside0.mk (Kd.R_drewN HL.out n3); replace HT := Aside0.mk (HT.out.drewN n3); replace hz0 := blk_celln (hb) 0 _ rfl; replace hz1 := blk_celln (hb) 1 _ rfl; replace hz2 := blk_celln (hb) 2 _ rfl; replace hz3 := blk_celln (hb) 3 _ rfl; replace hz4 := blk_celln (hb) 4 _ rfl; replace hx0 := blk_celln (hbox) 0 _ rfl; replace hx1 := blk_celln (hbox) 1 _ rfl; replace hx2 := blk_celln (hbox) 2 _ rfl; replace hx3 := blk_celln (hbox) 3 _ rfl; replace hx4 := blk_celln (hbox) 4 _ rfl; replace hx5 := blk_celln (hbox) 5 _ rfl; replace hx6 := blk_celln (hbox) 6 _ rfl)
  have HG := Aside0.mk (blk_drew hb)
  have HX := Aside0.mk (blk_drew hbox)
  replace HL := Aside0.mk (Kd.R_drew HL.out)
  replace HT := Aside0.mk HT.out.drew
  clear hb hbox hz0 hz1 hz2 hz3 hz4 hx0 hx1 hx2 hx3 hx4 hx5 hx6
  refine start_ (n := 13) (S := fun w' => w'.cell? ⟨gw, 1, none⟩ = some (.slice AL 1 cL) ∧ w'.cell? ⟨g1, 2, none⟩ = some (.string ⟨#[114]⟩)) (ds := []) #[Z,Z,Z,Z,Z,Z,Z,Z,Z,Z,Z,Z,Z] (by kernel_rfl) rfl rfl ⟨(blk_celln HG.out 1 _ rfl), (blk_celln HX.out 2 _ rfl)⟩ (fun hHeld => ?_)
  refine with_tabW one.tab15 one.bits15 (fun HT_ HW_ => ?_)
  generalize World.drew _ = wE at HG HX HL HT hHeld ⊢
  refine pure_ (i := 0) (N := some 79) (v := ?_) (a' := ?_) #[Y,Z,Z,Z,Z,Z,Z,Z,Z,Z,Z,Z,Z] rfl rfl (any_of HT_.out (by kernel_rfl)) (fun _ _ _ h => h) (Or.inl ⟨by rfl, ?_⟩) ?_ ?_
  rotate_left
  · intro w'
    go_simp
    with_reducible rfl
  rotate_left
  · simp only [Act.put, pA, pB, pC, i64_w, i32_w]
    rfl
  refine take_ (i := 1) (N := some 80) (v := ?_) (a' := ?_) #[Y,Y,Z,Z,Z,Z,Z,Z,Z,Z,Z,Z,Z] rfl rfl (take_ofW HT_.out HW_.out (by kernel_rfl)) (fun _ _ _ h => h) (Or.inl ⟨by rfl, ?_⟩) hHeld ?_ ?_
  rotate_left
  · rintro w' ⟨s0, s1⟩
    go_simp
    with_reducible rfl
  rotate_left
  · simp only [Act.put, pA, pB, pC, i64_w, i32_w]
    rfl
  refine one_ (i := 2) (N := some 81) #[Y,Y,Y,Z,Z,Z,Z,Z,Z,Z,Z,Z,Z] rfl rfl (one_of HT_.out (by kernel_rfl)) (by decide) (fun K hK => ?_)
  refine goes_ Tryd.func73 (by kernel_rfl) rfl #[.string ⟨#[114]⟩] (by rfl) rfl rfl (by (try simp only [List.map_toArray, List.map_cons, List.map_nil]); first | done | rfl) ?_
  with_reducible refine (witheref6_Name.calls 40 ⟨#[114]⟩ true _ (by kernel_rfl)).mono ?_
  rintro e w4 ⟨rfl, qn⟩
  refine ⟨_, rfl, ?_⟩
  replace HG := Aside0.mk (blk_below HG.out qn); replace HX := Aside0.mk (blk_below HX.out qn); replace HL := Aside0.mk (Kd.R_below HL.out qn); replace HT := Aside0.mk (HT.out.step hs qn)
  clear qn
  refine hK.out _ _ ⟨(blk_celln HG.out 1 _ rfl), (blk_celln HX.out 2 _ rfl)⟩ (fun hHeld => ?_)
  clear hK K
  refine norm_ (a' := ?_) ?_ ?_
  rotate_left
  · show Act.put _ (some 81) _ = _
    simp only [Act.put, pA, pB, pC, i64_w, i32_w]
    rfl
  refine pure_ (i := 3) (N := some 82) (v := ?_) (a' := ?_) #[Y,Y,Y,Y,Z,Z,Z,Z,Z,Z,Z,Z,Z] rfl rfl (any_of HT_.out (by kernel_rfl)) (fun _ _ _ h => h) (Or.inl ⟨by rfl, ?_⟩) ?_ ?_
  rotate_left
  · intro w'
    go_simp
    with_reducible rfl
  rotate_left
  · simp only [Act.put, pA, pB, pC, i64_w, i32_w]
    rfl
  refine pure_ (i := 4) (N := some 83) (v := ?_) (a' := ?_) #[Y,Y,Y,Y,Y,Z,Z,Z,Z,Z,Z,Z,Z] rfl rfl (any_of HT_.out (by kernel_rfl)) (fun _ _ _ h => h) (Or.inl ⟨by rfl, ?_⟩) ?_ ?_
  rotate_left
  · intro w'
    go_simp
    with_reducible rfl
  rotate_left
  · simp only [Act.put, pA, pB, pC, i64_w, i32_w]
    rfl
  refine pure_ (i := 5) (N := some 84) (v := ?_) (a' := ?_) #[Y,Y,Y,Y,Y,Y,Z,Z,Z,Z,Z,Z,Z] rfl rfl (any_of HT_.out (by kernel_rfl)) (fun _ _ _ h => h) (Or.inl ⟨by rfl, ?_⟩) ?_ ?_
  rotate_left
  · intro w'
    go_simp
    with_reducible rfl
  rotate_left
  · simp only [Act.put, pA, pB, pC, i64_w, i32_w]
    rfl
  refine pure_ (i := 6) (N := some 85) (v := ?_) (a' := ?_) #[Y,Y,Y,Y,Y,Y,Y,Z,Z,Z,Z,Z,Z] rfl rfl (any_of HT_.out (by kernel_rfl)) (fun _ _ _ h => h) (Or.inl ⟨by rfl, ?_⟩) ?_ ?_
  rotate_left
  · intro w'
    go_simp
    with_reducible rfl
  rotate_left
  · simp only [Act.put, pA, pB, pC, i64_w, i32_w]
    rfl
  refine pure_ (i := 7) (N := some 86) (v := ?_) (a' := ?_) #[Y,Y,Y,Y,Y,Y,Y,Y,Z,Z,Z,Z,Z] rfl rfl (any_of HT_.out (by kernel_rfl)) (fun _ _ _ h => h) (Or.inl ⟨by rfl, ?_⟩) ?_ ?_
  rotate_left
  · intro w'
    go_simp
    with_reducible rfl
  rotate_left
  · simp only [Act.put, pA, pB, pC, i64_w, i32_w]
    rfl
  refine take_ (i := 8) (N := some 87) (v := ?_) (a' := ?_) #[Y,Y,Y,Y,Y,Y,Y,Y,Y,Z,Z,Z,Z] rfl rfl (take_ofW HT_.out HW_.out (by kernel_rfl)) (fun _ _ _ h => h) (Or.inl ⟨by rfl, ?_⟩) hHeld ?_ ?_
  rotate_left
  · rintro w' ⟨s0, s1⟩
    go_simp
    with_reducible rfl
  rotate_left
  · simp only [Act.put, pA, pB, pC, i64_w, i32_w]
    rfl
  refine pure_ (i := 9) (N := some 88) (v := ?_) (a' := ?_) #[Y,Y,Y,Y,Y,Y,Y,Y,Y,Y,Z,Z,Z] rfl rfl (any_of HT_.out (by kernel_rfl)) (fun _ _ _ h => h) (Or.inl ⟨by rfl, ?_⟩) ?_ ?_
  rotate_left
  · intro w'
    go_simp
    with_reducible rfl
  rotate_left
  · simp only [Act.put, pA, pB, pC, i64_w, i32_w]
    rfl
  refine take_ (i := 10) (N := some 89) (v := ?_) (a' := ?_) #[Y,Y,Y,Y,Y,Y,Y,Y,Y,Y,Y,Z,Z] rfl rfl (take_ofW HT_.out HW_.out (by kernel_rfl)) (fun _ _ _ h => h) (Or.inl ⟨by rfl, ?_⟩) hHeld ?_ ?_
  rotate_left
  · rintro w' ⟨s0, s1⟩
    go_simp
    with_reducible rfl
  rotate_left
  · simp only [Act.put, pA, pB, pC, i64_w, i32_w]
    rfl
  refine one_ (i := 11) (N := some 90) #[Y,Y,Y,Y,Y,Y,Y,Y,Y,Y,Y,Y,Z] rfl rfl (one_of HT_.out (by kernel_rfl)) (by decide) (fun K hK => ?_)
  refine goes_ Tryd.func74 (by kernel_rfl) rfl #[.slice AL 1 cL, .string ⟨#[114]⟩] (by rfl) rfl rfl (by (try simp only [List.map_toArray, List.map_cons, List.map_nil]); first | done | rfl) ?_
  refine (witheref9_In.calls 9 AL cL [⟨#[120]⟩] ⟨#[114]⟩ false _ (Kd.R_reads' HL.out).2.2 (Kd.R_reads' HL.out).2.1 (by kernel_rfl)).mono ?_
  rintro e w5 ⟨rfl, n5, rfl⟩
  refine ⟨_, rfl, ?_⟩
  replace HG := Aside0.mk (blk_drewN HG.out n5); replace HX := Aside0.mk (blk_drewN HX.out n5); replace HL := Aside0.mk (Kd.R_drewN HL.out n5); replace HT := Aside0.mk (HT.out.drewN n5)
  refine hK.out _ _ ⟨(blk_celln HG.out 1 _ rfl), (blk_celln HX.out 2 _ rfl)⟩ (fun hHeld => ?_)
  clear hK K
  refine norm_ (a' := ?_) ?_ ?_
  rotate_left
  · show Act.put _ (some 90) _ = _
    simp only [Act.put, pA, pB, pC, i64_w, i32_w]
    rfl
  refine pure_ (i := 12) (N := some 91) (v := ?_) (a' := ?_) #[Y,Y,Y,Y,Y,Y,Y,Y,Y,Y,Y,Y,Y] rfl rfl (any_of HT_.out (by kernel_rfl)) (fun _ _ _ h => h) (Or.inl ⟨by rfl, ?_⟩) ?_ ?_
  rotate_left
  · intro w'
    go_simp
    with_reducible rfl
  rotate_left
  · simp only [Act.put, pA, pB, pC, i64_w, i32_w]
    rfl
  refine done_ (done_of HT_.out (by kernel_rfl)) ?_
  clear hHeld
  generalize w4.drewN n5 = wX at HG HX HL HT ⊢
  have hx2 := blk_celln (HX.out) 2 _ rfl
  go_upto_region 20 with (go_at_call 74; refine (witheref9_In.calls 9 none 0 [] ⟨#[114]⟩ false _ (Kd.C_nil Kd.string _) (by decide) (by kernel_rfl)).mono ?_; rintro e w6 ⟨rfl, n6, rfl⟩)
  replace HG := Aside0.mk (blk_drew (blk_drewN HG.out n6))
  replace HX := Aside0.mk (blk_drew (blk_drewN HX.out n6))
  replace HL := Aside0.mk (Kd.R_drew (Kd.R_drewN HL.out n6))
  replace HT := Aside0.mk (HT.out.drewN n6).drew
  clear hx2
  refine start_ (n := 11) (S := fun w' => w'.cell? ⟨g1, 2, none⟩ = some (.string ⟨#[114]⟩)) (ds := [10]) #[Z,Z,Z,Z,Z,Z,Z,Z,Z,Z,Z] (by kernel_rfl) rfl rfl (blk_celln HX.out 2 _ rfl) (fun hHeld => ?_)
  refine with_tabW one.tab20 one.bits20 (fun HT_ HW_ => ?_)
  generalize World.drew _ = wF at HG HX HL HT hHeld ⊢
  have HB := Aside0.mk (Below.refl wF.heap.size wF)
  have hx2 := blk_celln HX.out 2 _ rfl
  refine pure_ (i := 0) (N := some 100) (v := ?_) (a' := ?_) #[Y,Z,Z,Z,Z,Z,Z,Z,Z,Z,Z] rfl rfl (any_of HT_.out (by kernel_rfl)) (fun _ _ _ h => h) (Or.inl ⟨by rfl, ?_⟩) ?_ ?_
  rotate_left
  · intro w'
    go_simp
    with_reducible rfl
  rotate_left
  · simp only [Act.put, pA, pB, pC, i64_w, i32_w]
    rfl
  refine pure_ (i := 2) (N := some 102) (v := ?_) (a' := ?_) #[Y,Z,Y,Z,Z,Z,Z,Z,Z,Z,Z] rfl rfl (any_of HT_.out (by kernel_rfl)) (fun _ _ _ h => h) (Or.inl ⟨by rfl, ?_⟩) ?_ ?_
  rotate_left
  · intro w'
    go_simp
    with_reducible rfl
  rotate_left
  · simp only [Act.put, pA, pB, pC, i64_w, i32_w]
    rfl
  refine pure_ (i := 4) (N := some 104) (v := ?_) (a' := ?_) #[Y,Z,Y,Z,Y,Z,Z,Z,Z,Z,Z] rfl rfl (any_of HT_.out (by kernel_rfl)) (fun _ _ _ h => h) (Or.inl ⟨by rfl, ?_⟩) ?_ ?_
  rotate_left
  · intro w'
    go_simp
    with_reducible rfl
  rotate_left
  · simp only [Act.put, pA, pB, pC, i64_w, i32_w]
    rfl
  refine take_ (i := 5) (N := some 105) (v := ?_) (a' := ?_) #[Y,Z,Y,Z,Y,Y,Z,Z,Z,Z,Z] rfl rfl (take_ofW HT_.out HW_.out (by kernel_rfl)) (fun _ _ _ h => h) (Or.inl ⟨by rfl, ?_⟩) hHeld ?_ ?_
  rotate_left
  · rintro w' s0
    go_simp
    with_reducible rfl
  rotate_left
  · simp only [Act.put, pA, pB, pC, i64_w, i32_w]
    rfl
  refine join_ (σ := Value × Value) 4 #[Y,Y,Y,Y,Y,Y,Y,Z,Z,Z,Z] (fun s_ => [(101, s_.1), (103, s_.1), (106, s_.2)]) (fun s_ w' => (w'.cell? ⟨g1, 2, none⟩ = some (.string ⟨#[114]⟩)) ∧ (∃ A1 c1, s_.1 = .slice A1 ([] : List ByteArray).length c1) ∧ Kd.R Kd.string 9 w' wF.heap.size (fun _ => True) s_.1 [] ∧ Kd.R Kd.string 9 w' wF.heap.size (fun _ => True) s_.2 [⟨#[114]⟩] ∧ Below wF.heap.size wF w') ?_ ?_
  rotate_left
  · intro hCont
    refine two_ (i := 1) (j := 6) (Ni := some 101) (Nj := some 106) #[Y,Y,Y,Z,Y,Y,Z,Z,Z,Z,Z] #[Y,Z,Y,Z,Y,Y,Y,Z,Z,Z,Z] rfl rfl rfl rfl (two_of HT_.out (by kernel_rfl)) (by decide) (by decide) (fun K hK => ?_) (fun K hK => ?_)
    · skip
      refine Kd.R_lit_step Kd.string _ 9 ?hg (N := 101) ?hd (xs := ([] : List ByteArray)) (inner := []) (ok := fun _ => True) (okp := fun _ => True) ?hr (Reps.none _ _) (fun _ hk => hk) trivial (Below.refl _ _) (Nat.le_refl _) (by decide) ?_; (case hd => rfl); (case hg => rfl); (case hr => first | (go_simp; done) | (go_simp; rfl))
      intro v101 w1 q1 q2 q3 q4
      clear q3
      have HO101 := Aside0.mk (Kd.R_lower q1 (below_size HB.out))
      replace HB := Aside0.mk (below_step HB.out q2)
      clear q1 q2
      refine hK.out _ _ ((HB.out.cell (World.block_lt_of_cell? _ _ hx2)).trans hx2) (fun hHeld => ?_)
      clear hK K
      obtain ⟨A1, c1, rfl⟩ := Kd.R_slice HO101.out
      obtain ⟨a1, rfl⟩ : ∃ a1, A1 = some a1 := by obtain ⟨b1, eb, _⟩ := q4; cases A1 with | none => simp [Value.ownBlock] at eb | some a => exact ⟨a, rfl⟩
      clear q4
      refine norm_ (a' := ?_) ?_ ?_
      rotate_left
      · show Act.put _ (some 101) _ = _
        simp only [Act.put, pA, pB, pC, i64_w, i32_w]
        rfl
      refine two_ (i := 3) (j := 6) (Ni := some 103) (Nj := some 106) #[Y,Y,Y,Y,Y,Y,Z,Z,Z,Z,Z] #[Y,Y,Y,Z,Y,Y,Y,Z,Z,Z,Z] rfl rfl rfl rfl (two_of HT_.out (by kernel_rfl)) (by decide) (by decide) (fun K hK => ?_) (fun K hK => ?_)
      · skip
        refine value_ (w1 := ?_) (v := ?_) (by rfl) rfl ?_ ?_
        rotate_left 2
        · go_simp
          constructor
          · rfl
          · rfl
        refine hK.out _ _ hHeld (fun hHeld => ?_)
        clear hK K
        refine norm_ (a' := ?_) ?_ ?_
        rotate_left
        · show Act.put _ (some 103) _ = _
          simp only [Act.put, pA, pB, pC, i64_w, i32_w]
          rfl
        refine one_ (i := 6) (N := some 106) #[Y,Y,Y,Y,Y,Y,Y,Z,Z,Z,Z] rfl rfl (one_of HT_.out (by kernel_rfl)) (by decide) (fun K hK => ?_)
        refine Kd.R_lit_step Kd.string _ 9 ?hg (N := 106) ?hd (xs := ([⟨#[114]⟩] : List ByteArray)) (inner := [.string ⟨#[114]⟩]) (ok := fun _ => True) (okp := fun _ => True) ?hr (Reps.one (show Kd.M Kd.string _ _ _ (⟨#[114]⟩ : ByteArray) [.string ⟨#[114]⟩] from rfl) (Reps.none _ _)) (fun _ hk => hk) trivial (Below.refl _ _) (Nat.le_refl _) (by decide) ?_; (case hd => rfl); (case hg => rfl); (case hr => first | (go_simp; done) | (go_simp; rfl))
        intro v106 w1 q1 q2 q3 q4
        clear q3
        replace HO101 := Aside0.mk (Kd.R_below HO101.out q2)
        have HO106 := Aside0.mk (Kd.R_lower q1 (below_size HB.out))
        replace HB := Aside0.mk (below_step HB.out q2)
        clear q1 q2
        refine hK.out _ _ ((HB.out.cell (World.block_lt_of_cell? _ _ hx2)).trans hx2) (fun hHeld => ?_)
        clear hK K
        refine norm_ (a' := ?_) ?_ ?_
        rotate_left
        · show Act.put _ (some 106) _ = _
          simp only [Act.put, pA, pB, pC, i64_w, i32_w]
          rfl
        exact norm_ (by simp only [putAll, Act.put, pA, pB, pC]; rfl) (hCont (.slice (some a1) ([] : List ByteArray).length c1, v106) _ ⟨hHeld, ⟨some a1, c1, rfl⟩, HO101.out, HO106.out, HB.out⟩)
      · skip
        refine Kd.R_lit_step Kd.string _ 9 ?hg (N := 106) ?hd (xs := ([⟨#[114]⟩] : List ByteArray)) (inner := [.string ⟨#[114]⟩]) (ok := fun _ => True) (okp := fun _ => True) ?hr (Reps.one (show Kd.M Kd.string _ _ _ (⟨#[114]⟩ : ByteArray) [.string ⟨#[114]⟩] from rfl) (Reps.none _ _)) (fun _ hk => hk) trivial (Below.refl _ _) (Nat.le_refl _) (by decide) ?_; (case hd => rfl); (case hg => rfl); (case hr => first | (go_simp; done) | (go_simp; rfl))
        intro v106 w1 q1 q2 q3 q4
        clear q3
        replace HO101 := Aside0.mk (Kd.R_below HO101.out q2)
        have HO106 := Aside0.mk (Kd.R_lower q1 (below_size HB.out))
        replace HB := Aside0.mk (below_step HB.out q2)
        clear q1 q2
        refine hK.out _ _ ((HB.out.cell (World.block_lt_of_cell? _ _ hx2)).trans hx2) (fun hHeld => ?_)
        clear hK K
        refine norm_ (a' := ?_) ?_ ?_
        rotate_left
        · show Act.put _ (some 106) _ = _
          simp only [Act.put, pA, pB, pC, i64_w, i32_w]
          rfl
        refine one_ (i := 3) (N := some 103) #[Y,Y,Y,Y,Y,Y,Y,Z,Z,Z,Z] rfl rfl (one_of HT_.out (by kernel_rfl)) (by decide) (fun K hK => ?_)
        refine value_ (w1 := ?_) (v := ?_) (by rfl) rfl ?_ ?_
        rotate_left 2
        · go_simp
          constructor
          · rfl
          · rfl
        refine hK.out _ _ hHeld (fun hHeld => ?_)
        clear hK K
        refine norm_ (a' := ?_) ?_ ?_
        rotate_left
        · show Act.put _ (some 103) _ = _
          simp only [Act.put, pA, pB, pC, i64_w, i32_w]
          rfl
        exact norm_ (by simp only [putAll, Act.put, pA, pB, pC]; rfl) (hCont (.slice (some a1) ([] : List ByteArray).length c1, v106) _ ⟨hHeld, ⟨some a1, c1, rfl⟩, HO101.out, HO106.out, HB.out⟩)
    · skip
      refine Kd.R_lit_step Kd.string _ 9 ?hg (N := 106) ?hd (xs := ([⟨#[114]⟩] : List ByteArray)) (inner := [.string ⟨#[114]⟩]) (ok := fun _ => True) (okp := fun _ => True) ?hr (Reps.one (show Kd.M Kd.string _ _ _ (⟨#[114]⟩ : ByteArray) [.string ⟨#[114]⟩] from rfl) (Reps.none _ _)) (fun _ hk => hk) trivial (Below.refl _ _) (Nat.le_refl _) (by decide) ?_; (case hd => rfl); (case hg => rfl); (case hr => first | (go_simp; done) | (go_simp; rfl))
      intro v106 w1 q1 q2 q3 q4
      clear q3
      have HO106 := Aside0.mk (Kd.R_lower q1 (below_size HB.out))
      replace HB := Aside0.mk (below_step HB.out q2)
      clear q1 q2
      refine hK.out _ _ ((HB.out.cell (World.block_lt_of_cell? _ _ hx2)).trans hx2) (fun hHeld => ?_)
      clear hK K
      refine norm_ (a' := ?_) ?_ ?_
      rotate_left
      · show Act.put _ (some 106) _ = _
        simp only [Act.put, pA, pB, pC, i64_w, i32_w]
        rfl
      refine one_ (i := 1) (N := some 101) #[Y,Y,Y,Z,Y,Y,Y,Z,Z,Z,Z] rfl rfl (one_of HT_.out (by kernel_rfl)) (by decide) (fun K hK => ?_)
      refine Kd.R_lit_step Kd.string _ 9 ?hg (N := 101) ?hd (xs := ([] : List ByteArray)) (inner := []) (ok := fun _ => True) (okp := fun _ => True) ?hr (Reps.none _ _) (fun _ hk => hk) trivial (Below.refl _ _) (Nat.le_refl _) (by decide) ?_; (case hd => rfl); (case hg => rfl); (case hr => first | (go_simp; done) | (go_simp; rfl))
      intro v101 w1 q1 q2 q3 q4
      clear q3
      replace HO106 := Aside0.mk (Kd.R_below HO106.out q2)
      have HO101 := Aside0.mk (Kd.R_lower q1 (below_size HB.out))
      replace HB := Aside0.mk (below_step HB.out q2)
      clear q1 q2
      refine hK.out _ _ ((HB.out.cell (World.block_lt_of_cell? _ _ hx2)).trans hx2) (fun hHeld => ?_)
      clear hK K
      obtain ⟨A1, c1, rfl⟩ := Kd.R_slice HO101.out
      obtain ⟨a1, rfl⟩ : ∃ a1, A1 = some a1 := by obtain ⟨b1, eb, _⟩ := q4; cases A1 with | none => simp [Value.ownBlock] at eb | some a => exact ⟨a, rfl⟩
      clear q4
      refine norm_ (a' := ?_) ?_ ?_
      rotate_left
      · show Act.put _ (some 101) _ = _
        simp only [Act.put, pA, pB, pC, i64_w, i32_w]
        rfl
      refine one_ (i := 3) (N := some 103) #[Y,Y,Y,Y,Y,Y,Y,Z,Z,Z,Z] rfl rfl (one_of HT_.out (by kernel_rfl)) (by decide) (fun K hK => ?_)
      refine value_ (w1 := ?_) (v := ?_) (by rfl) rfl ?_ ?_
      rotate_left 2
      · go_simp
        constructor
        · rfl
        · rfl
      refine hK.out _ _ hHeld (fun hHeld => ?_)
      clear hK K
      refine norm_ (a' := ?_) ?_ ?_
      rotate_left
      · show Act.put _ (some 103) _ = _
        simp only [Act.put, pA, pB, pC, i64_w, i32_w]
        rfl
      exact norm_ (by simp only [putAll, Act.put, pA, pB, pC]; rfl) (hCont (.slice (some a1) ([] : List ByteArray).length c1, v106) _ ⟨hHeld, ⟨some a1, c1, rfl⟩, HO101.out, HO106.out, HB.out⟩)
  rintro ⟨v101, v106⟩ wJ ⟨hHeld, ⟨A1, c1, e1⟩, q1, q2, q3⟩
  dsimp only at e1 q1 q2
  subst e1
  replace HB := Aside0.mk q3
  have HO101 := Aside0.mk q1
  have HO106 := Aside0.mk q2
  clear q1 q2 q3
  obtain ⟨A6, c6, rfl⟩ := Kd.R_slice HO106.out
  refine norm_ (a' := ?_) ?_ ?_
  rotate_left
  · simp only [putAll, Act.put, pA, pB, pC]
    rfl
  refine one_ (i := 7) (N := some 107) #[Y,Y,Y,Y,Y,Y,Y,Y,Z,Z,Z] rfl rfl (one_of HT_.out (by kernel_rfl)) (by decide) (fun K hK => ?_)
  refine Kd.R_append_rows_step Kd.string (w0 := wF) wF.heap.size (by rfl) (.tmp 103) (.tmp 106) 24 9 (.string ⟨#[]⟩) 16 rfl Tryd.underlying24 info9 rfl (by decide) (by decide) (.slice A1 ([] : List ByteArray).length c1) [] [⟨#[114]⟩] A6 _ c6 (fun _ => True) (fun _ => False) rfl rfl HO101.out (Kd.R_reads' HO106.out).2.2 (fun _ _ h => h) (fun _ h => h.elim) (fun _ _ => trivial) HB.out HB.out.size (by decide) ?_
  intro va w9 q4 q5 q6 _
  obtain ⟨Aa, ca, rfl⟩ := Kd.R_slice q4
  refine hK.out _ _ ((q5.cell (World.block_lt_of_cell? _ _ hx2)).trans hx2) (fun hHeld => ?_)
  clear hK K
  refine norm_ (a' := ?_) ?_ ?_
  rotate_left
  · show Act.put _ (some 107) _ = _
    simp only [Act.put, pA, pB, pC, i64_w, i32_w]
    rfl
  replace hb := blk_below HG.out q5
  have hf2 := blk_frozen hb 2
  have hg2 := blk_celln hb 2 _ rfl
  refine pure_ (i := 8) (N := some 108) (v := ?_) (a' := ?_) #[Y,Y,Y,Y,Y,Y,Y,Y,Y,Z,Z] rfl rfl (any_of HT_.out (by kernel_rfl)) (fun _ _ _ h => h) (Or.inl ⟨by rfl, ?_⟩) ?_ ?_
  rotate_left
  · intro w'
    go_simp
    with_reducible rfl
  rotate_left
  · simp only [Act.put, pA, pB, pC, i64_w, i32_w]
    rfl
  refine pure_ (i := 9) (N := some 109) (v := ?_) (a' := ?_) #[Y,Y,Y,Y,Y,Y,Y,Y,Y,Y,Z] rfl rfl (any_of HT_.out (by kernel_rfl)) (fun _ _ _ h => h) (Or.inl ⟨by rfl, ?_⟩) ?_ ?_
  rotate_left
  · intro w'
    go_simp
    with_reducible rfl
  rotate_left
  · simp only [Act.put, pA, pB, pC, i64_w, i32_w]
    rfl
  refine last_ (i := 10) (N := none) #[Y,Y,Y,Y,Y,Y,Y,Y,Y,Y,Y] rfl rfl (one_of HT_.out (by kernel_rfl)) (by decide) (fun K hK => ?_)
  refine skip_ (w1 := ?_) (by rfl) rfl ?_ ?_
  rotate_left
  · go_simp
    rfl
  refine hK.out _ _ ?_
  clear hK K
  refine done_ (done_of HT_.out (by kernel_rfl)) ?_
  have k9 : TV b0 w9 (w9.setCell ⟨gw, 2, none⟩ (.slice Aa 1 ca)) := (TV.refl b0 w9).set hb hg _
  replace HG := Aside0.mk (show (w9.setCell ⟨gw, 2, none⟩ (.slice Aa 1 ca)).heap[gw]? = some (.cells #[.int .i64 2, .slice AL 1 cL, .slice Aa 1 ca, .int .i64 1, .int .i64 p] 113 (0, 0)) from blk_put hb 2 (.slice Aa 1 ca) rfl)
  replace HX := Aside0.mk (k9.2 _ _ _ (blk_below HX.out q5) (by decide))
  replace HL := Aside0.mk (str_ne (Kd.R_below HL.out q5) k9)
  have HV := Aside0.mk (str_ne (xs := [⟨#[114]⟩]) (Kd.R_lower q4 (Nat.le_trans hs HT.out.1.size)) k9)
  replace HT := Aside0.mk ((HT.out.step hs q5).trans k9)
  clear q4 q5 q6 hb hf2 hg2 hHeld HO101 HO106 HB hx2 k9
  generalize w9.setCell ⟨gw, 2, none⟩ (.slice Aa 1 ca) = wY at HG HX HL HT HV ⊢
  have hz0 := blk_celln (HG.out) 0 _ rfl; have hz1 := blk_celln (HG.out) 1 _ rfl; have hz2 := blk_celln (HG.out) 2 _ rfl; have hz3 := blk_celln (HG.out) 3 _ rfl; have hz4 := blk_celln (HG.out) 4 _ rfl
  have hx0 := blk_celln (HX.out) 0 _ rfl; have hx1 := blk_celln (HX.out) 1 _ rfl; have hx2 := blk_celln (HX.out) 2 _ rfl; have hx3 := blk_celln (HX.out) 3 _ rfl; have hx4 := blk_celln (HX.out) 4 _ rfl; have hx5 := blk_celln (HX.out) 5 _ rfl; have hx6 := blk_celln (HX.out) 6 _ rfl
  go_upto_region 30 with (fail)
  replace HG := Aside0.mk (blk_drew HG.out)
  replace HX := Aside0.mk (blk_drew HX.out)
  replace HL := Aside0.mk (Kd.R_drew HL.out)
  replace HV := Aside0.mk (Kd.R_drew HV.out)
  replace HT := Aside0.mk HT.out.drew
  clear hz0 hz1 hz2 hz3 hz4 hx0 hx1 hx2 hx3 hx4 hx5 hx6
  refine start_ (n := 8) (S := fun w' => w'.cell? ⟨gw, 1, none⟩ = some (.slice AL 1 cL) ∧ w'.cell? ⟨g1, 3, none⟩ = some (.string ⟨#[120]⟩)) (ds := []) #[Z,Z,Z,Z,Z,Z,Z,Z] (by kernel_rfl) rfl rfl ⟨(blk_celln HG.out 1 _ rfl), (blk_celln HX.out 3 _ rfl)⟩ (fun hHeld => ?_)
  refine with_tabW one.tab30 one.bits30 (fun HT_ HW_ => ?_)
  generalize World.drew _ = wG at HG HX HL HT HV hHeld ⊢
  refine pure_ (i := 0) (N := some 123) (v := ?_) (a' := ?_) #[Y,Z,Z,Z,Z,Z,Z,Z] rfl rfl (any_of HT_.out (by kernel_rfl)) (fun _ _ _ h => h) (Or.inl ⟨by rfl, ?_⟩) ?_ ?_
  rotate_left
  · intro w'
    go_simp
    with_reducible rfl
  rotate_left
  · simp only [Act.put, pA, pB, pC, i64_w, i32_w]
    rfl
  refine pure_ (i := 1) (N := some 124) (v := ?_) (a' := ?_) #[Y,Y,Z,Z,Z,Z,Z,Z] rfl rfl (any_of HT_.out (by kernel_rfl)) (fun _ _ _ h => h) (Or.inl ⟨by rfl, ?_⟩) ?_ ?_
  rotate_left
  · intro w'
    go_simp
    with_reducible rfl
  rotate_left
  · simp only [Act.put, pA, pB, pC, i64_w, i32_w]
    rfl
  refine pure_ (i := 2) (N := some 125) (v := ?_) (a' := ?_) #[Y,Y,Y,Z,Z,Z,Z,Z] rfl rfl (any_of HT_.out (by kernel_rfl)) (fun _ _ _ h => h) (Or.inl ⟨by rfl, ?_⟩) ?_ ?_
  rotate_left
  · intro w'
    go_simp
    with_reducible rfl
  rotate_left
  · simp only [Act.put, pA, pB, pC, i64_w, i32_w]
    rfl
  refine take_ (i := 3) (N := some 126) (v := ?_) (a' := ?_) #[Y,Y,Y,Y,Z,Z,Z,Z] rfl rfl (take_ofW HT_.out HW_.out (by kernel_rfl)) (fun _ _ _ h => h) (Or.inl ⟨by rfl, ?_⟩) hHeld ?_ ?_
  rotate_left
  · rintro w' ⟨s0, s1⟩
    go_simp
    with_reducible rfl
  rotate_left
  · simp only [Act.put, pA, pB, pC, i64_w, i32_w]
    rfl
  refine pure_ (i := 4) (N := some 127) (v := ?_) (a' := ?_) #[Y,Y,Y,Y,Y,Z,Z,Z] rfl rfl (any_of HT_.out (by kernel_rfl)) (fun _ _ _ h => h) (Or.inl ⟨by rfl, ?_⟩) ?_ ?_
  rotate_left
  · intro w'
    go_simp
    with_reducible rfl
  rotate_left
  · simp only [Act.put, pA, pB, pC, i64_w, i32_w]
    rfl
  refine take_ (i := 5) (N := some 128) (v := ?_) (a' := ?_) #[Y,Y,Y,Y,Y,Y,Z,Z] rfl rfl (take_ofW HT_.out HW_.out (by kernel_rfl)) (fun _ _ _ h => h) (Or.inl ⟨by rfl, ?_⟩) hHeld ?_ ?_
  rotate_left
  · rintro w' ⟨s0, s1⟩
    go_simp
    with_reducible rfl
  rotate_left
  · simp only [Act.put, pA, pB, pC, i64_w, i32_w]
    rfl
  refine one_ (i := 6) (N := some 129) #[Y,Y,Y,Y,Y,Y,Y,Z] rfl rfl (one_of HT_.out (by kernel_rfl)) (by decide) (fun K hK => ?_)
  refine goes_ Tryd.func74 (by kernel_rfl) rfl #[.slice AL 1 cL, .string ⟨#[120]⟩] (by rfl) rfl rfl (by (try simp only [List.map_toArray, List.map_cons, List.map_nil]); first | done | rfl) ?_
  refine (witheref9_In.calls 9 AL cL [⟨#[120]⟩] ⟨#[120]⟩ true _ (Kd.R_reads' HL.out).2.2 (Kd.R_reads' HL.out).2.1 (by kernel_rfl)).mono ?_
  rintro e w5 ⟨rfl, n5, rfl⟩
  refine ⟨_, rfl, ?_⟩
  refine hK.out _ _ hHeld (fun hHeld => ?_)
  clear hK K
  refine norm_ (a' := ?_) ?_ ?_
  rotate_left
  · show Act.put _ (some 129) _ = _
    simp only [Act.put, pA, pB, pC, i64_w, i32_w]
    rfl
  refine pure_ (i := 7) (N := some 130) (v := ?_) (a' := ?_) #[Y,Y,Y,Y,Y,Y,Y,Y] rfl rfl (any_of HT_.out (by kernel_rfl)) (fun _ _ _ h => h) (Or.inl ⟨by rfl, ?_⟩) ?_ ?_
  rotate_left
  · intro w'
    go_simp
    with_reducible rfl
  rotate_left
  · simp only [Act.put, pA, pB, pC, i64_w, i32_w]
    rfl
  refine done_ (done_of HT_.out (by kernel_rfl)) ?_
  clear hHeld
  replace HG := Aside0.mk (blk_drewN HG.out n5)
  replace HX := Aside0.mk (blk_drewN HX.out n5)
  replace HL := Aside0.mk (Kd.R_drewN HL.out n5)
  replace HV := Aside0.mk (Kd.R_drewN HV.out n5)
  replace HT := Aside0.mk (HT.out.drewN n5)
  generalize wG.drewN n5 = wH at HG HX HL HT HV ⊢
  have hz0 := blk_celln (HG.out) 0 _ rfl; have hz1 := blk_celln (HG.out) 1 _ rfl; have hz2 := blk_celln (HG.out) 2 _ rfl; have hz3 := blk_celln (HG.out) 3 _ rfl; have hz4 := blk_celln (HG.out) 4 _ rfl
  have hx0 := blk_celln (HX.out) 0 _ rfl; have hx1 := blk_celln (HX.out) 1 _ rfl; have hx2 := blk_celln (HX.out) 2 _ rfl; have hx3 := blk_celln (HX.out) 3 _ rfl; have hx4 := blk_celln (HX.out) 4 _ rfl; have hx5 := blk_celln (HX.out) 5 _ rfl; have hx6 := blk_celln (HX.out) 6 _ rfl
  go_wp2
  refine wp_loop_rounds 1 ?_
  rw [rounds_succ]
  go_wp2
  go_ret
  exact ⟨_, rfl, HG.out, HV.out, HL.out, HT.out⟩
end Go.Proofs.YtlpdcdkjmcpfdaaDoor.PT
