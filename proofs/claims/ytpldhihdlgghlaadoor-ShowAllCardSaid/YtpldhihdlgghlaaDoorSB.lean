/- show's Cond: walked by hand. -/
import Derived.Test.YtpldhihdlgghlaaDoorSA
namespace Go.Proofs.YtpldhihdlgghlaaDoor.PS
open Go.RowKit Go.Proofs.YtpldhihdlgghlaaDoorW.PrintWords Go.Proofs.YtpldhihdlgghlaaDoorW.PrintLast Go.Proofs.YtpldhihdlgghlaaDoorW.PrintMore
set_option linter.unusedVariables false
set_option linter.unusedSimpArgs false
attribute [local go_sem] cell_set_some
abbrev Y : Bool := true
abbrev Z : Bool := false
theorem pA {α : Type} (l : List α) (i : Nat) (a : α) : l.toArray.setIfInBounds i a = (l.set i a).toArray := List.setIfInBounds_toArray ..
theorem pB {α : Type} (x : α) (xs : List α) (b : α) : (x :: xs).set 0 b = b :: xs := rfl
theorem pC {α : Type} (x : α) (xs : List α) (i : Nat) (b : α) : (x :: xs).set (i + 1) b = x :: xs.set i b := rfl
theorem blk_celln {w : World} {g : Nat} {l : List Value} {t : TypeId} (h : w.heap[g]? = some (.cells ⟨l⟩ t (0, 0))) (k : Nat) (v : Value) {tl : List Value} (hv : l.drop k = v :: tl) : w.cell? ⟨g, k, none⟩ = some v := by
  rw [blk_cell h k]
  have e : l[k]? = some v := by
    have e1 : l[k]? = (l.drop k)[0]? := by simp
    rw [e1, hv]
    rfl
  simpa using e
/-- What Cond's contract says at a depth. -/
def CondAt (k : Nat) : Prop := ∀ (x : S26) (A : Option Addr) (c : Nat) (w : World), CX k x → Kd.C k26 w A x.f4.length x.f4 → x.f4.length ≤ c → GOk w → Calls Tryd.prog 12 #[.agg #[.int .i64 x.f0, .int .i64 x.f1, .string x.f2, .int .i64 x.f3, .slice A x.f4.length c]] w fun e w' => e = .returned (.string (cdS k x)) ∧ Below w.heap.size w w'
theorem side_rd {l : List S26} {i : Int} (h0 : 0 ≤ i) (h1 : i < l.length) (f : S26 → ByteArray) : sideM f l i.toNat = f (rd_T26 l i) ∧ rd_T26 l i ∈ l := by
  have hl : i.toNat < l.length := by omega
  constructor
  · simp [sideM, rd_T26, List.getElem?_eq_getElem hl]
  · simp [rd_T26, hl]
set_option maxHeartbeats 8000000 in
set_option maxRecDepth 100000 in
theorem at_cond (k : Nat) (IH : CondAt k) (w : World) (A : Option Addr) (c : Nat) (l : List S26) (i : Int) (h0 : 0 ≤ i) (hr : Kd.C k26 w A l.length l) (hc : l.length ≤ c) (hx : ∀ x ∈ l, CX k x) (hG : GOk w) :
    Calls Tryd.prog 27 #[.slice A l.length c, .int .i64 i, .func (.func 12) #[] #[]] w fun e w' => e = .returned (.string (sideM (cdS k) l i.toNat)) ∧ Below w.heap.size w w' := by
  have hu26 := Tryd.underlying26
  by_cases h1 : i < (l.length : Int)
  · obtain ⟨ad, A4, c4, rfl, x0, x1, x2, x3, x4, l4, r4⟩ := at_T26 hr i h0 h1
    obtain ⟨e1, e2⟩ := side_rd h0 h1 (cdS k)
    have b1 : decide ((l.length : Int) ≤ i) = false := decide_eq_false (by omega)
    have p0 := eq_true h0
    have p1 := eq_true h1
    rw [e1]
    have HH := Aside0.mk (IH (rd_T26 l i) A4 c4 w (hx _ e2) r4 l4 hG)
    clear hr hx r4 e1 e2 h0 h1
    go_enter Tryd.func27, Tryd.ntmps27
    go_wp2_with (fail)
    refine HH.out.mono ?_
    rintro e w2 ⟨rfl, qb⟩
    go_wp2
    go_ret
    exact ⟨rfl, qb⟩
  · have b1 : decide ((l.length : Int) ≤ i) = true := decide_eq_true (by omega)
    have e1 : sideM (cdS k) l i.toNat = ⟨#[]⟩ := by
      unfold sideM
      rw [List.getElem?_eq_none (by omega)]
    rw [e1]
    clear hr hx e1
    go_enter Tryd.func27, Tryd.ntmps27
    go_wp2
    go_ret
    exact ⟨rfl, Below.refl _ _⟩
def both.T1 : Bool × List (List Nat × List Nat) := (true, [([], []), ([0], [0]), ([1], [1]), ([2], [2]), ([3], [3]), ([], []), ([4, 5], [4, 5]), ([6], [6]), ([], []), ([8], [8]), ([9, 2], [9]), ([7, 10], [7, 10]), ([11], [11]), ([12, 10, 0, 1, 2, 3, 4, 5, 6, 7, 8, 9, 10, 11, 12], [12])])
def both.B1 : List Nat := [0, 1, 3, 7, 15, 0, 63, 127, 0, 256, 775, 2047, 4095, 8191]
theorem both.tab1 : rtab .any (opsOf Tryd.f26 1) = both.T1 := by kernel_rfl
theorem both.bits1 : waitsOk both.T1.2 both.B1 = true := by kernel_rfl
set_option maxHeartbeats 8000000 in
set_option maxRecDepth 100000 in
theorem both_cond (k : Nat) (hk : k ≤ 13) (IH : CondAt k) (w : World) (g1 : Nat) (x : S26) (A : Option Addr) (c : Nat) (wd : ByteArray) (hw : wd.size ≤ 10) (hb : w.heap[g1]? = some (.cells #[.int .i64 x.f0, .int .i64 x.f1, .string x.f2, .int .i64 x.f3, .slice A x.f4.length c] 26 (0, 0))) (hr : Kd.C k26 w A x.f4.length x.f4) (hc : x.f4.length ≤ c) (hx : ∀ y ∈ x.f4, CX k y) (hG : GOk w) :
    Calls Tryd.prog 26 #[.string wd, .pointer (some ⟨g1, 0, none⟩)] w fun e w' => e = .returned (.string (((((((⟨#[40]⟩ : ByteArray) ++ sideM (cdS k) x.f4 0) ++ ⟨#[32]⟩) ++ wd) ++ ⟨#[32]⟩) ++ sideM (cdS k) x.f4 1) ++ ⟨#[41]⟩)) ∧ Below w.heap.size w w' := by
  have hu26 := Tryd.underlying26
  have s0 := Nat.le_trans (sideM_size (k := k) (cdS k) (bndC k) (fun y hy => cdS_size k y (hx y hy)) 0) (bndC_le k hk)
  have s1 := Nat.le_trans (sideM_size (k := k) (cdS k) (bndC k) (fun y hy => cdS_size k y (hx y hy)) 1) (bndC_le k hk)
  have kb1 : (9223372036854775807 < 1 + ((sideM (cdS k) x.f4 0)).size) = False := eq_false (by omega)
  have kb2 : (9223372036854775807 < 1 + ((sideM (cdS k) x.f4 0)).size + 1) = False := eq_false (by omega)
  have kb3 : (9223372036854775807 < 1 + ((sideM (cdS k) x.f4 0)).size + 1 + (wd).size) = False := eq_false (by omega)
  have kb4 : (9223372036854775807 < 1 + ((sideM (cdS k) x.f4 0)).size + 1 + (wd).size + 1) = False := eq_false (by omega)
  have kb5 : (9223372036854775807 < 1 + ((sideM (cdS k) x.f4 0)).size + 1 + (wd).size + 1 + ((sideM (cdS k) x.f4 1)).size) = False := eq_false (by omega)
  have kb6 : (9223372036854775807 < 1 + ((sideM (cdS k) x.f4 0)).size + 1 + (wd).size + 1 + ((sideM (cdS k) x.f4 1)).size + 1) = False := eq_false (by omega)
  have HX := Aside0.mk hb
  have HR := Aside0.mk hr
  have HG := Aside0.mk hG
  have HB := Aside0.mk (Below.refl w.heap.size w)
  clear hb hr hG s0 s1
  go_enter Tryd.func26, Tryd.ntmps26
  go_upto_region 1 with (fail)
  replace HX := Aside0.mk (blk_drew HX.out)
  replace HB := Aside0.mk (below_drew HB.out)
  refine start_ (n := 14) (S := fun w' => w'.cell? ⟨g1, 4, none⟩ = some (.slice A x.f4.length c)) (ds := []) #[Z,Z,Z,Z,Z,Z,Z,Z,Z,Z,Z,Z,Z,Z] (by kernel_rfl) rfl rfl (blk_celln HX.out 4 _ rfl) (fun hHeld => ?_)
  refine with_tabW both.tab1 both.bits1 (fun HT_ HW_ => ?_)
  generalize World.drew _ = wa at HX HB hHeld ⊢
  refine pure_ (i := 0) (N := some 4) (v := ?_) (a' := ?_) #[Y,Z,Z,Z,Z,Z,Z,Z,Z,Z,Z,Z,Z,Z] rfl rfl (any_of HT_.out (by kernel_rfl)) (fun _ _ _ h => h) (Or.inl ⟨by rfl, ?_⟩) ?_ ?_
  rotate_left
  · intro w'
    go_simp
    with_reducible rfl
  rotate_left
  · simp only [Act.put, pA, pB, pC, i64_w, i32_w]
    rfl
  refine take_ (i := 1) (N := some 5) (v := ?_) (a' := ?_) #[Y,Y,Z,Z,Z,Z,Z,Z,Z,Z,Z,Z,Z,Z] rfl rfl (take_ofW HT_.out HW_.out (by kernel_rfl)) (fun _ _ _ h => h) (Or.inl ⟨by rfl, ?_⟩) hHeld ?_ ?_
  rotate_left
  · rintro w' s0
    go_simp
    with_reducible rfl
  rotate_left
  · simp only [Act.put, pA, pB, pC, i64_w, i32_w]
    rfl
  refine pure_ (i := 5) (N := some 9) (v := ?_) (a' := ?_) #[Y,Y,Z,Z,Z,Y,Z,Z,Z,Z,Z,Z,Z,Z] rfl rfl (any_of HT_.out (by kernel_rfl)) (fun _ _ _ h => h) (Or.inl ⟨by rfl, ?_⟩) ?_ ?_
  rotate_left
  · intro w'
    go_simp
    with_reducible rfl
  rotate_left
  · simp only [Act.put, pA, pB, pC, i64_w, i32_w]
    rfl
  refine pure_ (i := 8) (N := some 12) (v := ?_) (a' := ?_) #[Y,Y,Z,Z,Z,Y,Z,Z,Y,Z,Z,Z,Z,Z] rfl rfl (any_of HT_.out (by kernel_rfl)) (fun _ _ _ h => h) (Or.inl ⟨by rfl, ?_⟩) ?_ ?_
  rotate_left
  · intro w'
    go_simp
    with_reducible rfl
  rotate_left
  · simp only [Act.put, pA, pB, pC, i64_w, i32_w]
    rfl
  refine take_ (i := 9) (N := some 13) (v := ?_) (a' := ?_) #[Y,Y,Z,Z,Z,Y,Z,Z,Y,Y,Z,Z,Z,Z] rfl rfl (take_ofW HT_.out HW_.out (by kernel_rfl)) (fun _ _ _ h => h) (Or.inl ⟨by rfl, ?_⟩) hHeld ?_ ?_
  rotate_left
  · rintro w' s0
    go_simp
    with_reducible rfl
  rotate_left
  · simp only [Act.put, pA, pB, pC, i64_w, i32_w]
    rfl
  refine one_ (i := 2) (N := some 6) #[Y,Y,Y,Z,Z,Y,Z,Z,Y,Y,Z,Z,Z,Z] rfl rfl (one_of HT_.out (by kernel_rfl)) (by decide) (fun K hK => ?_)
  refine goes_ Tryd.func27 (by kernel_rfl) rfl #[.slice A x.f4.length c, .int .i64 0, .func (.func 12) #[] #[]] (by rfl) rfl rfl (by (try simp only [List.map_toArray, List.map_cons, List.map_nil]); first | done | rfl) ?_
  refine (at_cond k IH _ A c x.f4 0 (by decide) (Kd.C_below HR.out HB.out) hc hx (GOk.le HG.out HB.out)).mono ?_
  rintro e wx6 ⟨rfl, qb⟩
  refine ⟨_, rfl, ?_⟩
  replace HX := Aside0.mk (blk_below HX.out qb)
  replace HB := Aside0.mk (below_step HB.out qb)
  clear qb
  refine hK.out _ _ (blk_celln HX.out 4 _ rfl) (fun hHeld => ?_)
  clear hK K
  refine norm_ (a' := ?_) ?_ ?_
  rotate_left
  · show Act.put _ (some 6) _ = _
    simp only [Act.put, pA, pB, pC, i64_w, i32_w]
    rfl
  refine pure_ (i := 3) (N := some 7) (v := ?_) (a' := ?_) #[Y,Y,Y,Y,Z,Y,Z,Z,Y,Y,Z,Z,Z,Z] rfl rfl (any_of HT_.out (by kernel_rfl)) (fun _ _ _ h => h) (Or.inl ⟨by rfl, ?_⟩) ?_ ?_
  rotate_left
  · intro w'
    go_simp
    with_reducible rfl
  rotate_left
  · simp only [Act.put, pA, pB, pC, i64_w, i32_w]
    rfl
  refine pure_ (i := 4) (N := some 8) (v := ?_) (a' := ?_) #[Y,Y,Y,Y,Y,Y,Z,Z,Y,Y,Z,Z,Z,Z] rfl rfl (any_of HT_.out (by kernel_rfl)) (fun _ _ _ h => h) (Or.inl ⟨by rfl, ?_⟩) ?_ ?_
  rotate_left
  · intro w'
    go_simp
    with_reducible rfl
  rotate_left
  · simp only [Act.put, pA, pB, pC, i64_w, i32_w]
    rfl
  refine pure_ (i := 6) (N := some 10) (v := ?_) (a' := ?_) #[Y,Y,Y,Y,Y,Y,Y,Z,Y,Y,Z,Z,Z,Z] rfl rfl (any_of HT_.out (by kernel_rfl)) (fun _ _ _ h => h) (Or.inl ⟨by rfl, ?_⟩) ?_ ?_
  rotate_left
  · intro w'
    go_simp
    with_reducible rfl
  rotate_left
  · simp only [Act.put, pA, pB, pC, i64_w, i32_w]
    rfl
  refine pure_ (i := 7) (N := some 11) (v := ?_) (a' := ?_) #[Y,Y,Y,Y,Y,Y,Y,Y,Y,Y,Z,Z,Z,Z] rfl rfl (any_of HT_.out (by kernel_rfl)) (fun _ _ _ h => h) (Or.inl ⟨by rfl, ?_⟩) ?_ ?_
  rotate_left
  · intro w'
    go_simp
    with_reducible rfl
  rotate_left
  · simp only [Act.put, pA, pB, pC, i64_w, i32_w]
    rfl
  refine one_ (i := 10) (N := some 14) #[Y,Y,Y,Y,Y,Y,Y,Y,Y,Y,Y,Z,Z,Z] rfl rfl (one_of HT_.out (by kernel_rfl)) (by decide) (fun K hK => ?_)
  refine goes_ Tryd.func27 (by kernel_rfl) rfl #[.slice A x.f4.length c, .int .i64 1, .func (.func 12) #[] #[]] (by rfl) rfl rfl (by (try simp only [List.map_toArray, List.map_cons, List.map_nil]); first | done | rfl) ?_
  refine (at_cond k IH _ A c x.f4 1 (by decide) (Kd.C_below HR.out HB.out) hc hx (GOk.le HG.out HB.out)).mono ?_
  rintro e wx14 ⟨rfl, qb⟩
  refine ⟨_, rfl, ?_⟩
  replace HX := Aside0.mk (blk_below HX.out qb)
  replace HB := Aside0.mk (below_step HB.out qb)
  clear qb
  refine hK.out _ _ (blk_celln HX.out 4 _ rfl) (fun hHeld => ?_)
  clear hK K
  refine norm_ (a' := ?_) ?_ ?_
  rotate_left
  · show Act.put _ (some 14) _ = _
    simp only [Act.put, pA, pB, pC, i64_w, i32_w]
    rfl
  refine pure_ (i := 11) (N := some 15) (v := ?_) (a' := ?_) #[Y,Y,Y,Y,Y,Y,Y,Y,Y,Y,Y,Y,Z,Z] rfl rfl (any_of HT_.out (by kernel_rfl)) (fun _ _ _ h => h) (Or.inl ⟨by rfl, ?_⟩) ?_ ?_
  rotate_left
  · intro w'
    go_simp
    with_reducible rfl
  rotate_left
  · simp only [Act.put, pA, pB, pC, i64_w, i32_w]
    rfl
  refine pure_ (i := 12) (N := some 16) (v := ?_) (a' := ?_) #[Y,Y,Y,Y,Y,Y,Y,Y,Y,Y,Y,Y,Y,Z] rfl rfl (any_of HT_.out (by kernel_rfl)) (fun _ _ _ h => h) (Or.inl ⟨by rfl, ?_⟩) ?_ ?_
  rotate_left
  · intro w'
    go_simp
    with_reducible rfl
  rotate_left
  · simp only [Act.put, pA, pB, pC, i64_w, i32_w]
    rfl
  refine pure_ (i := 13) (N := some 3) (v := ?_) (a' := ?_) #[Y,Y,Y,Y,Y,Y,Y,Y,Y,Y,Y,Y,Y,Y] rfl rfl (any_of HT_.out (by kernel_rfl)) (fun _ _ _ h => h) (Or.inl ⟨by rfl, ?_⟩) ?_ ?_
  rotate_left
  · intro w'
    go_simp
    with_reducible rfl
  rotate_left
  · simp only [Act.put, pA, pB, pC, i64_w, i32_w]
    rfl
  refine done_ (done_of HT_.out (by kernel_rfl)) ?_
  clear hHeld
  go_wp2
  go_ret
  exact ⟨rfl, HB.out⟩
def condT.T1 : Bool × List (List Nat × List Nat) := (true, [([], []), ([0], [0]), ([1], [1]), ([], []), ([3], [3]), ([4], [4]), ([2, 5], [2, 5]), ([6, 5, 0, 1, 2, 3, 4, 5, 6], [6])])
def condT.B1 : List Nat := [0, 1, 3, 0, 8, 24, 63, 127]
theorem condT.tab1 : rtab .any (opsOf Tryd.f12 1) = condT.T1 := by kernel_rfl
theorem condT.bits1 : waitsOk condT.T1.2 condT.B1 = true := by kernel_rfl
set_option maxHeartbeats 8000000 in
set_option maxRecDepth 100000 in
theorem cond_c : ∀ k, k ≤ 14 → CondAt k
  | 0, _ => fun x A c w h => h.elim
  | k + 1, hk => by
    intro x A c w h hr hc hG
    have IH := cond_c k (by omega)
    obtain ⟨h1, h3, h2, hx⟩ := h
    have i1 := it_size h1
    have i3 := it_size h3
    have s0 := Nat.le_trans (sideM_size (k := k) (cdS k) (bndC k) (fun y hy => cdS_size k y (hx y hy)) 0) (bndC_le k (by omega))
    have hu26 := Tryd.underlying26
    obtain ⟨T, hT⟩ : ∃ T, cdS (k + 1) x = T := ⟨_, rfl⟩
    rw [hT]
    have ki1 : (9223372036854775807 < (x.f2).size + 4) = False := eq_false (by omega)
    have ki2 : (9223372036854775807 < (x.f2).size + 4 + ((it x.f3)).size) = False := eq_false (by omega)
    have kj1 : (9223372036854775807 < ((it x.f1)).size + 1) = False := eq_false (by omega)
    have kj2 : (9223372036854775807 < ((it x.f1)).size + 1 + (x.f2.size + 4 + (it x.f3).size)) = False := eq_false (by omega)
    have kn1 : (9223372036854775807 < 4 + ((sideM (cdS k) x.f4 0)).size) = False := eq_false (by omega)
    have HR := Aside0.mk hr
    have HG := Aside0.mk hG
    clear hr hG s0 i1 i3
    go_enter Tryd.func12, Tryd.ntmps12
    go_upto_region 1 with ((with_reducible refine gate_dst (N := 1) rfl ?_); refine box_event ?hg (N := 1) ?hd (cs := #[.int .i64 x.f0, .int .i64 x.f1, .string x.f2, .int .i64 x.f3, .slice A x.f4.length c]) (t := 26) ?hr ?_; (case hd => rfl); (case hg => rfl); (case hr => first | (go_simp; done) | (go_simp; rfl)); intro g1 hg1 w1 hbox hb1; have HX := Aside0.mk hbox; have HB := Aside0.mk hb1; clear hg1 hb1 hbox)
    replace HX := Aside0.mk (blk_drew HX.out)
    replace HB := Aside0.mk (below_drew HB.out)
    refine start_ (n := 8) (S := fun w' => w'.cell? ⟨g1, 2, none⟩ = some (.string x.f2) ∧ w'.cell? ⟨g1, 3, none⟩ = some (.int .i64 x.f3)) (ds := []) #[Z,Z,Z,Z,Z,Z,Z,Z] (by kernel_rfl) rfl rfl ⟨(blk_celln HX.out 2 _ rfl), (blk_celln HX.out 3 _ rfl)⟩ (fun hHeld => ?_)
    refine with_tabW condT.tab1 condT.bits1 (fun HT_ HW_ => ?_)
    generalize World.drew _ = wa at HX HB hHeld ⊢
    refine pure_ (i := 0) (N := some 5) (v := ?_) (a' := ?_) #[Y,Z,Z,Z,Z,Z,Z,Z] rfl rfl (any_of HT_.out (by kernel_rfl)) (fun _ _ _ h => h) (Or.inl ⟨by rfl, ?_⟩) ?_ ?_
    rotate_left
    · intro w'
      go_simp
      with_reducible rfl
    rotate_left
    · simp only [Act.put, pA, pB, pC, i64_w, i32_w]
      rfl
    refine take_ (i := 1) (N := some 6) (v := ?_) (a' := ?_) #[Y,Y,Z,Z,Z,Z,Z,Z] rfl rfl (take_ofW HT_.out HW_.out (by kernel_rfl)) (fun _ _ _ h => h) (Or.inl ⟨by rfl, ?_⟩) hHeld ?_ ?_
    rotate_left
    · rintro w' ⟨s0, s1⟩
      go_simp
      with_reducible rfl
    rotate_left
    · simp only [Act.put, pA, pB, pC, i64_w, i32_w]
      rfl
    refine pure_ (i := 2) (N := some 7) (v := ?_) (a' := ?_) #[Y,Y,Y,Z,Z,Z,Z,Z] rfl rfl (any_of HT_.out (by kernel_rfl)) (fun _ _ _ h => h) (Or.inl ⟨by rfl, ?_⟩) ?_ ?_
    rotate_left
    · intro w'
      go_simp
      with_reducible rfl
    rotate_left
    · simp only [Act.put, pA, pB, pC, i64_w, i32_w]
      rfl
    refine pure_ (i := 3) (N := some 8) (v := ?_) (a' := ?_) #[Y,Y,Y,Y,Z,Z,Z,Z] rfl rfl (any_of HT_.out (by kernel_rfl)) (fun _ _ _ h => h) (Or.inl ⟨by rfl, ?_⟩) ?_ ?_
    rotate_left
    · intro w'
      go_simp
      with_reducible rfl
    rotate_left
    · simp only [Act.put, pA, pB, pC, i64_w, i32_w]
      rfl
    refine take_ (i := 4) (N := some 9) (v := ?_) (a' := ?_) #[Y,Y,Y,Y,Y,Z,Z,Z] rfl rfl (take_ofW HT_.out HW_.out (by kernel_rfl)) (fun _ _ _ h => h) (Or.inl ⟨by rfl, ?_⟩) hHeld ?_ ?_
    rotate_left
    · rintro w' ⟨s0, s1⟩
      go_simp
      with_reducible rfl
    rotate_left
    · simp only [Act.put, pA, pB, pC, i64_w, i32_w]
      rfl
    refine one_ (i := 5) (N := some 10) #[Y,Y,Y,Y,Y,Y,Z,Z] rfl rfl (one_of HT_.out (by kernel_rfl)) (by decide) (fun K hK => ?_)
    refine goes_ Tryd.func18 (by kernel_rfl) rfl #[.int .i64 x.f3] (by rfl) rfl rfl (by (try simp only [List.map_toArray, List.map_cons, List.map_nil]); first | done | rfl) ?_
    refine (strconv_Itoa_18.calls x.f3 (it x.f3) _ (ito_f h3) (GOk.le HG.out HB.out)).mono ?_
    rintro e wx ⟨rfl, qb⟩
    refine ⟨_, rfl, ?_⟩
    replace HX := Aside0.mk (blk_below HX.out qb)
    replace HB := Aside0.mk (below_step HB.out qb)
    clear qb
    refine hK.out _ _ ⟨(blk_celln HX.out 2 _ rfl), (blk_celln HX.out 3 _ rfl)⟩ (fun hHeld => ?_)
    clear hK K
    refine norm_ (a' := ?_) ?_ ?_
    rotate_left
    · show Act.put _ (some 10) _ = _
      simp only [Act.put, pA, pB, pC, i64_w, i32_w]
      rfl
    refine pure_ (i := 6) (N := some 11) (v := ?_) (a' := ?_) #[Y,Y,Y,Y,Y,Y,Y,Z] rfl rfl (any_of HT_.out (by kernel_rfl)) (fun _ _ _ h => h) (Or.inl ⟨by rfl, ?_⟩) ?_ ?_
    rotate_left
    · intro w'
      go_simp
      with_reducible rfl
    rotate_left
    · simp only [Act.put, pA, pB, pC, i64_w, i32_w]
      rfl
    refine pure_ (i := 7) (N := some 3) (v := ?_) (a' := ?_) #[Y,Y,Y,Y,Y,Y,Y,Y] rfl rfl (any_of HT_.out (by kernel_rfl)) (fun _ _ _ h => h) (Or.inl ⟨by rfl, ?_⟩) ?_ ?_
    rotate_left
    · intro w'
      go_simp
      with_reducible rfl
    rotate_left
    · simp only [Act.put, pA, pB, pC, i64_w, i32_w]
      rfl
    refine done_ (done_of HT_.out (by kernel_rfl)) ?_
    clear hHeld
    have hz0 := blk_celln (HX.out) 0 _ rfl; have hz1 := blk_celln (HX.out) 1 _ rfl; have hz4 := blk_celln (HX.out) 4 _ rfl
    rcases Bool.eq_false_or_eq_true (x.f0 == 1) with e1 | e1
    · have q1 : x.f0 = 1 := eq_of_beq e1
      unfold cdS at hT
      rw [if_pos q1] at hT
      go_wp2
      go_ret
      exact ⟨by rw [← hT]; rfl, HB.out⟩
    have n1 : ¬ x.f0 = 1 := fun q => by rw [q] at e1; exact absurd e1 (by decide)
    rcases Bool.eq_false_or_eq_true (x.f0 == 2) with e2 | e2
    · have q2 : x.f0 = 2 := eq_of_beq e2
      unfold cdS at hT
      rw [if_neg n1, if_pos q2] at hT
      go_wp2_with (fail)
      refine (strconv_Itoa_18.calls x.f1 (it x.f1) _ (ito_f h1) (GOk.le HG.out HB.out)).mono ?_
      rintro e w2 ⟨rfl, qb⟩
      replace HB := Aside0.mk (below_step HB.out qb)
      clear qb hz0 hz1 hz4
      go_wp2
      go_ret
      exact ⟨by rw [← hT]; rfl, HB.out⟩
    have n2 : ¬ x.f0 = 2 := fun q => by rw [q] at e2; exact absurd e2 (by decide)
    rcases Bool.eq_false_or_eq_true (x.f0 == 3) with e3 | e3
    · have q3 : x.f0 = 3 := eq_of_beq e3
      unfold cdS at hT
      rw [if_neg n1, if_neg n2, if_pos q3] at hT
      go_wp2_with (fail)
      refine (at_cond k IH _ A c x.f4 0 (by decide) (Kd.C_below HR.out HB.out) hc hx (GOk.le HG.out HB.out)).mono ?_
      rintro e w2 ⟨rfl, qb⟩
      replace HB := Aside0.mk (below_step HB.out qb)
      clear qb hz0 hz1 hz4
      go_wp2
      go_ret
      exact ⟨by rw [← hT]; rfl, HB.out⟩
    have n3 : ¬ x.f0 = 3 := fun q => by rw [q] at e3; exact absurd e3 (by decide)
    rcases Bool.eq_false_or_eq_true (x.f0 == 4) with e4 | e4
    · have q4 : x.f0 = 4 := eq_of_beq e4
      unfold cdS at hT
      rw [if_neg n1, if_neg n2, if_neg n3, if_pos q4] at hT
      go_wp2_with (fail)
      refine (both_cond k (by omega) IH _ g1 x A c ⟨#[97, 110, 100]⟩ (by decide) HX.out (Kd.C_below HR.out HB.out) hc hx (GOk.le HG.out HB.out)).mono ?_
      rintro e w2 ⟨rfl, qb⟩
      replace HB := Aside0.mk (below_step HB.out qb)
      clear qb hz0 hz1 hz4
      go_wp2
      go_ret
      refine ⟨?_, HB.out⟩
      rw [← hT]
      refine congrArg (fun s => Ending.returned (Value.string s)) ?_
      simp only [ByteArray.append_assoc]
      rfl
    have n4 : ¬ x.f0 = 4 := fun q => by rw [q] at e4; exact absurd e4 (by decide)
    rcases Bool.eq_false_or_eq_true (x.f0 == 5) with e5 | e5
    · have q5 : x.f0 = 5 := eq_of_beq e5
      unfold cdS at hT
      rw [if_neg n1, if_neg n2, if_neg n3, if_neg n4, if_pos q5] at hT
      go_wp2_with (fail)
      refine (both_cond k (by omega) IH _ g1 x A c ⟨#[111, 114]⟩ (by decide) HX.out (Kd.C_below HR.out HB.out) hc hx (GOk.le HG.out HB.out)).mono ?_
      rintro e w2 ⟨rfl, qb⟩
      replace HB := Aside0.mk (below_step HB.out qb)
      clear qb hz0 hz1 hz4
      go_wp2
      go_ret
      refine ⟨?_, HB.out⟩
      rw [← hT]
      refine congrArg (fun s => Ending.returned (Value.string s)) ?_
      simp only [ByteArray.append_assoc]
      rfl
    have n5 : ¬ x.f0 = 5 := fun q => by rw [q] at e5; exact absurd e5 (by decide)
    unfold cdS at hT
    rw [if_neg n1, if_neg n2, if_neg n3, if_neg n4, if_neg n5] at hT
    go_wp2
    go_ret
    exact ⟨by rw [← hT]; rfl, HB.out⟩
end Go.Proofs.YtpldhihdlgghlaaDoor.PS
