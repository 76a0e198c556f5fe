-- made by fvprint.py over the kit's print
import Derived.Test.YtcehnbneiabaaaaDoorPRx0
namespace Go.Proofs.YtcehnbneiabaaaaDoor.PR
open Go.RowKit Go.Proofs.YtcehnbneiabaaaaDoorW.PrintWords Go.Proofs.YtcehnbneiabaaaaDoorW.PrintLast Go.Proofs.YtcehnbneiabaaaaDoorW.PrintMore
attribute [local go_sem] max2_int min2_int max_two min_two max_three min_three max_four min_four   -- for this text's walks alone
set_option linter.unusedVariables false
set_option linter.unusedSimpArgs false

attribute [local go_sem] cell_set_some
/-! ### the table that is looked into -/
def GOk (w : World) : Prop := Go.Proofs.TabAt 0 Go.Lib.deBruijn64tab w
theorem GOk.le {w0 W : World} (h : GOk w0) (hb : Below w0.heap.size w0 W) : GOk W := fun j hj => by
  have h1 := h j hj
  have hlt := World.block_lt_of_cell? w0 _ h1
  rw [hb.cell (p := ⟨0, j, none⟩) hlt]
  exact h1

/-! ### bits_one: function 54 -/
def bits_one.f (a0 : Int) : Option (Int) := if a0 < 0 then (some 0) else (if a0 ≥ 64 then (some 0) else (if 0 ≤ a0 then (some (shl .u64 1 a0)) else (none)))
set_option maxHeartbeats 8000000 in
set_option maxRecDepth 100000 in
theorem bits_one.calls (a0 : Int) (r : Int) (w : World) (h : bits_one.f a0 = some r) :
    Calls Tryd.prog 54 #[.int .i64 a0] w fun e w' => e = .returned (.int .u64 r) ∧ Drawn0 w w' := by
  have H : (if a0 < 0 then (some 0) else (if a0 ≥ 64 then (some 0) else (if 0 ≤ a0 then (some (shl .u64 1 a0)) else (none)))) = some r := h
  clear h
  by_cases c2 : a0 < 0
  · rw [if_pos c2] at H
    have c2b0 : decide (a0 < 0) = true := decide_eq_true c2
    clear c2
    obtain rfl := Option.some.inj H
    go_enter Tryd.func54, Tryd.ntmps54
    go_wp2
    go_ret
    exact ⟨by first | rfl | (simp; done) | (simp [*]; done), by repeat (first | exact Drawn0.refl _ | apply Drawn0.step)⟩
  · rw [if_neg c2] at H
    have c2b0 : decide (a0 < 0) = false := decide_eq_false c2
    clear c2
    by_cases c3 : a0 ≥ 64
    · rw [if_pos c3] at H
      have c3b0 : decide (64 ≤ a0) = true := decide_eq_true c3
      clear c3
      obtain rfl := Option.some.inj H
      go_enter Tryd.func54, Tryd.ntmps54
      go_wp2
      go_ret
      exact ⟨by first | rfl | (simp; done) | (simp [*]; done), by repeat (first | exact Drawn0.refl _ | apply Drawn0.step)⟩
    · rw [if_neg c3] at H
      have c3b0 : decide (64 ≤ a0) = false := decide_eq_false c3
      clear c3
      by_cases c4 : 0 ≤ a0
      · rw [if_pos c4] at H
        have c4b0 := eq_true c4
        have c4b1 : decide (0 ≤ a0) = true := decide_eq_true c4
        clear c4
        obtain ⟨ji5, hji5⟩ : ∃ j_ : Int, (shl .u64 1 a0) = j_ := ⟨_, rfl⟩
        replace H : (some ji5) = some r := by first | (rw [hji5] at H; exact H) | (simp only [hji5] at H ⊢; exact H)
        have hji5_ : (IntKind.u64.wrap (1 * 2 ^ min a0.toNat 64)) = ji5 := hji5
        have hji5z : a0 ≤ 64 → (IntKind.u64.wrap (1 * 2 ^ a0.toNat)) = ji5 := shl_small hji5
        have hji5u : (IntKind.u64.wrap (2 ^ min a0.toNat 64)) = ji5 := by have h_ := hji5_; rw [Int.one_mul] at h_; exact h_
        have hji5v : a0 ≤ 64 → (IntKind.u64.wrap (2 ^ a0.toNat)) = ji5 := fun hle_ => by have h_ := hji5z hle_; rw [Int.one_mul] at h_; exact h_
        obtain rfl := Option.some.inj H
        go_enter Tryd.func54, Tryd.ntmps54
        go_wp2
        go_ret
        exact ⟨by first | rfl | (simp; done) | (simp only [← hji5] <;> (first | rfl | simp)) | (simp [*]; done), by repeat (first | exact Drawn0.refl _ | apply Drawn0.step)⟩
      · rw [if_neg c4] at H
        exact absurd H (by simp)

/-! ### bits_Range: function 37 -/
def bits_Range.l0 : Nat → Int → Int → Int → Option (Int)
  | 0, _, _, _ => none
  | k + 1, x1, x5, x6 => if x6 < (mn x1 64) then ((bits_one.f x6).bind fun t101 => (bits_Range.l0 k x1 (Go.bits .or .u64 x5 t101) (wrap64 (x6 + 1)))) else (some x5)
def bits_Range.f (k : Nat) (a0 : Int) (a1 : Int) : Option (Int) := bits_Range.l0 k a1 0 (mx a0 0)
theorem bits_Range.mono_l : ∀ k, (∀ y0 y1 y2, LeO (bits_Range.l0 k y0 y1 y2) (bits_Range.l0 (k + 1) y0 y1 y2))
  | 0 => fun _ _ _ r h => by simp [bits_Range.l0] at h
  | k + 1 => by
    have ih0 := bits_Range.mono_l k
    · intro y0 y1 y2
      unfold bits_Range.l0
      repeat' first
      | (with_reducible exact ih0 _ _ _)
      | (with_reducible exact LeO.refl _)
      | (with_reducible exact LeO.none _)
      | (with_reducible refine LeO.ite ?_ ?_)
      | (with_reducible refine LeO.bind ?_ (fun _ => ?_))
      | exact ih0 _ _ _
      | exact LeO.none _
      | refine LeO.ite ?_ ?_
      | refine LeO.bind ?_ (fun _ => ?_)
theorem bits_Range.mono : ∀ a0 a1 k, LeO (bits_Range.f k a0 a1) (bits_Range.f (k + 1) a0 a1) := by
  intro a0 a1 k
  have ih0 := bits_Range.mono_l k
  unfold bits_Range.f
  repeat' first
      | (with_reducible exact ih0 _ _ _)
      | (with_reducible exact LeO.refl _)
      | (with_reducible exact LeO.none _)
      | (with_reducible refine LeO.ite ?_ ?_)
      | (with_reducible refine LeO.bind ?_ (fun _ => ?_))
      | exact ih0 _ _ _
      | exact LeO.none _
      | refine LeO.ite ?_ ?_
      | refine LeO.bind ?_ (fun _ => ?_)
set_option maxHeartbeats 8000000 in
set_option maxRecDepth 100000 in
theorem bits_Range.calls (k : Nat) (a0 : Int) (a1 : Int) (r : Int) (w : World) (h : bits_Range.f k a0 a1 = some r) :
    Calls Tryd.prog 37 #[.int .i64 a0, .int .i64 a1] w fun e w' => e = .returned (.int .u64 r) ∧ Below w.heap.size w w' := by
  have HB := Aside0.mk (Below.refl w.heap.size w)
  have H : (bits_Range.l0 k a1 0 (mx a0 0)) = some r := h
  clear h
  obtain ⟨ji3, hji3⟩ : ∃ j_ : Int, (mx a0 0) = j_ := ⟨_, rfl⟩
  replace H : (bits_Range.l0 k a1 0 ji3) = some r := by first | (rw [hji3] at H; exact H) | (simp only [hji3] at H ⊢; exact H)
  (try (have hji3l : 0 ≤ ji3 := by (rw [← hji3]; unfold mx; (repeat' split) <;> omega)))
  (try (have hji3m : 0 ≤ ji3 := by omega))
  have hji3_ : (if a0 < 0 then 0 else a0) = ji3 := hji3
  have H' := Aside0.mk H
  clear H
  go_enter Tryd.func37, Tryd.ntmps37
  go_wp2
  try go_simp
  go_loopg [5, 6] k (fun kq v5 v6 w' => ∃ (x5_1 : Int) (x6_1 : Int), v5 = .int .u64 x5_1 ∧ v6 = .int .i64 x6_1 ∧ Aside0 (bits_Range.l0 kq a1 x5_1 x6_1 = some r) ∧ Aside0 (kq ≤ k) ∧ Aside0 (Below w.heap.size w w'))
  case atStart => exact ⟨(0), (ji3), (by first | rfl | (simp; done) | (simp [*]; done)), (by first | rfl | (simp; done) | (simp only [← hji3] <;> (first | rfl | simp)) | (simp [*]; done)), H', ⟨Nat.le_refl _⟩, ⟨by repeat (first | (with_reducible first | exact HB.out | apply below_alloc | apply pw_below_drewN | apply below_drew1) | exact HB.out)⟩⟩
  case round =>
    clear H'
    try clear p2
    try clear c3
    obtain ⟨x5_1, x6_1, rfl, rfl, HA, HK1, HB⟩ := hrel
    cases gk with
    | zero => exact absurd HA.out (by simp [bits_Range.l0])
    | succ k1 =>
      have H := HA.out
      clear HA
      simp only [bits_Range.l0] at H
      obtain ⟨ji4, hji4⟩ : ∃ j_ : Int, (mn a1 64) = j_ := ⟨_, rfl⟩
      replace H : (if x6_1 < (ji4) then ((bits_one.f x6_1).bind fun t101 => (bits_Range.l0 k1 a1 (Go.bits .or .u64 x5_1 t101) (wrap64 (x6_1 + 1)))) else (some x5_1)) = some r := by first | (rw [hji4] at H; exact H) | (simp only [hji4] at H ⊢; exact H)
      have hji4_ : (if 64 < a1 then 64 else a1) = ji4 := hji4
      by_cases c5 : x6_1 < (ji4)
      · rw [if_pos c5] at H
        have c5b0 : decide (x6_1 < (ji4)) = true := decide_eq_true c5
        clear c5
        replace H := Option.bind_eq_some_iff.mp H
        obtain ⟨t101, A60, H⟩ := H
        replace H : (bits_Range.l0 k1 a1 (Go.bits .or .u64 x5_1 t101) (wrap64 (x6_1 + 1))) = some r := H
        have A6 := Aside0.mk A60
        clear A60
        have H' := Aside0.mk H
        clear H
        go_wp2_with (first | ((with_reducible refine gate_callee (f := 54) rfl ?_); refine goesL_ (some 17) rfl rfl Tryd.func54 (by kernel_rfl) rfl #[.int .i64 x6_1] rfl (by (try simp only [List.map_toArray, List.map_cons, List.map_nil]); first | done | rfl | (simp only [List.length_drop, List.length_take]; rfl)) ?_; (with_reducible refine (bits_one.calls x6_1 t101 _ A6.out).mono ?_); rintro e w' ⟨rfl, ⟨nd, rfl⟩⟩; refine ⟨_, rfl, ?_⟩))
        go_roundg k1
        case measure => have := HK1.out; omega
        case rel => exact ⟨(Go.bits .or .u64 x5_1 t101), (wrap64 (x6_1 + 1)), (by first | rfl | (simp; done) | (simp [*]; done)), (by first | rfl | (simp; done) | (simp [*]; done)), H', ⟨by have := HK1.out; omega⟩, ⟨by repeat (first | (with_reducible first | exact HB.out | apply below_alloc | apply pw_below_drewN | apply below_drew1) | exact HB.out)⟩⟩
      · rw [if_neg c5] at H
        have c5b0 : decide (x6_1 < (ji4)) = false := decide_eq_false c5
        clear c5
        obtain rfl := Option.some.inj H
        go_wp2
        go_ret
        exact ⟨by first | rfl | (simp [errW_none, errW_some] <;> rfl) | (simp only [← hji3, ← hji4]; first | rfl | (simp [errW_none, errW_some] <;> rfl)) | (simp [*, errW_none, errW_some] <;> rfl), by repeat (first | (with_reducible first | exact HB.out | apply below_alloc | apply pw_below_drewN | apply below_drew1) | exact HB.out)⟩

-- NOT PRINTED: function 55 (slices_IndexFunc_uint64_uint64)

-- NOT PRINTED: function 38 (slices_ContainsFunc_uint64_uint64)

/-! ### rel_May: function 13 -/
def outOf (a s : Int) : Bool := !(bits .andNot .u64 s a == 0)
theorem mayWithin_ (s a : Int) (w : World) : Calls Tryd.prog 40 #[.int .u64 s, .int .u64 a] w fun e w' => e = .returned (.bool (!(outOf a s))) ∧ w' = w := by
  go_enter Tryd.func40, Tryd.ntmps40
  go_wp2
  go_ret
  exact ⟨by simp [outOf], rfl⟩
theorem mayLit_ (s a : Int) (g : Nat) (w : World) (hg : w.cell? ⟨g, 0, none⟩ = some (.int .u64 a)) : Calls Tryd.prog 39 #[.int .u64 s, .pointer (some ⟨g, 0, none⟩)] w fun e w' => e = .returned (.bool (outOf a s)) ∧ w' = w := by
  go_enter Tryd.func39, Tryd.ntmps39
  go_wp2_with (go_at_call 40; refine (mayWithin_ s a _).mono ?_; rintro e w2 ⟨rfl, rfl⟩)
  go_ret
  exact ⟨by simp, rfl⟩
set_option maxHeartbeats 1000000 in
set_option maxRecDepth 100000 in
theorem index_may (A0 : Option Addr) (c0 : Nat) (l0 : List Int) (g : Nat) (a : Int) (w : World) (hr : Kd.C (Kd.int .u64) w A0 l0.length l0) (hc : l0.length ≤ 64) (hg : w.cell? ⟨g, 0, none⟩ = some (.int .u64 a)) :
    Calls Tryd.prog 55 #[.slice A0 l0.length c0, .func (.func 39) #[] #[.pointer (some ⟨g, 0, none⟩)]] w fun e w' => (∃ i : Int, e = .returned (.int .i64 i) ∧ (decide (i ≥ 0)) = l0.any (outOf a)) ∧ Drawn0 w w' := by
  have HR := Aside0.mk hr
  have HGG := Aside0.mk hg
  clear hr hg
  go_enter Tryd.func55, Tryd.ntmps55
  go_wp2
  go_loopw [8] (fun t w' => ∃ (i n : Nat), t = .int .i64 i ∧ i ≤ l0.length ∧ w' = w.drewN n ∧ Aside0 (l0.any (outOf a) = (l0.drop i).any (outOf a))) (fun t _ => l0.length - (intOf t).toNat)
  case atStart => exact ⟨0, 0, rfl, by omega, rfl, ⟨rfl⟩⟩
  case round =>
    obtain ⟨i, n, rfl, hi, rfl, HE⟩ := hrel
    by_cases hlt : i < l0.length
    · obtain ⟨ad, rfl, hcell⟩ := Kd.at_int HR.out (i : Int) (by omega) (by omega)
      have hrd : rd l0 (i : Int) = l0[i] := by unfold rd; simp [hlt]
      have hdrop : (l0.drop i).any (outOf a) = (outOf a l0[i] || (l0.drop (i + 1)).any (outOf a)) := by rw [List.drop_eq_getElem_cons hlt, List.any_cons]
      rw [hrd, Int.toNat_natCast] at hcell
      have HD := Aside0.mk hdrop
      clear hdrop hrd
      cases hb : outOf a l0[i] with
      | true =>
        have HBB := Aside0.mk hb
        clear hb
        go_wp2_with (go_at_call 39; (refine (mayLit_ _ a g _ (by first | exact HGG.out | exact (World.cell?_drewN _ _ _).trans HGG.out | (have h := HGG.out; simpa using h))).mono ?_; rintro e w2 ⟨rfl, rfl⟩; (try rw [HBB.out])))
        go_ret
        exact ⟨⟨_, rfl, by rw [HE.out, HD.out, HBB.out]; simp⟩, ⟨n, rfl⟩⟩
      | false =>
        have HBB := Aside0.mk hb
        clear hb
        go_wp2_with (go_at_call 39; refine (mayLit_ _ a g _ (by first | exact HGG.out | exact (World.cell?_drewN _ _ _).trans HGG.out | (have h := HGG.out; simpa using h))).mono ?_; rintro e w2 ⟨rfl, rfl⟩; (try rw [HBB.out]))
        go_roundw
        case rel => exact ⟨i + 1, _, by go_num, by omega, rfl, ⟨by rw [HE.out, HD.out, HBB.out, Bool.false_or]⟩⟩
        case measure => simp [intOf]; omega
    · go_wp2
      go_ret
      have h1 := HE.out
      rw [List.drop_of_length_le (by omega)] at h1
      exact ⟨⟨_, rfl, by rw [h1]; simp⟩, ⟨n, rfl⟩⟩
theorem contains_may (A0 : Option Addr) (c0 : Nat) (l0 : List Int) (g : Nat) (a : Int) (w : World) (hr : Kd.C (Kd.int .u64) w A0 l0.length l0) (hc : l0.length ≤ 64) (hg : w.cell? ⟨g, 0, none⟩ = some (.int .u64 a)) :
    Calls Tryd.prog 38 #[.slice A0 l0.length c0, .func (.func 39) #[] #[.pointer (some ⟨g, 0, none⟩)]] w fun e w' => e = .returned (.bool (l0.any (outOf a))) ∧ Drawn0 w w' := by
  go_enter Tryd.func38, Tryd.ntmps38
  go_wp2_with (go_at_call 55; refine (index_may A0 c0 l0 g a _ hr hc hg).mono ?_; rintro e w2 ⟨⟨i, rfl, hi⟩, ⟨m, rfl⟩⟩; have HI := Aside0.mk hi; clear hi)
  go_ret
  exact ⟨by rw [← HI.out]; rfl, ⟨m, rfl⟩⟩
def rel_May.f (k : Nat) (l0 : List Int) : Option Bool := if l0.length > 64 then some false else (bits_Range.f k 0 (l0.length : Int)).bind fun a => some (!(l0.any (outOf a)))
theorem rel_May.mono : ∀ a0 k, LeO (rel_May.f k a0) (rel_May.f (k + 1) a0) := by
  intro a0 k
  unfold rel_May.f
  exact LeO.ite (LeO.refl _) (LeO.bind (bits_Range.mono _ _ k) (fun _ => LeO.refl _))
set_option maxHeartbeats 1000000 in
set_option maxRecDepth 100000 in
theorem rel_May.calls (k : Nat) (A0 : Option Addr) (c0 : Nat) (l0 : List Int) (r : Bool) (w : World) (hr0 : Kd.C (Kd.int .u64) w A0 l0.length l0) (hc0 : l0.length ≤ c0) (h : rel_May.f k l0 = some r) :
    Calls Tryd.prog 13 #[.slice A0 l0.length c0] w fun e w' => e = .returned (.bool r) ∧ Below w.heap.size w w' := by
  unfold rel_May.f at h
  by_cases hc : l0.length > 64
  · rw [if_pos hc] at h
    obtain rfl := Option.some.inj h
    have h1 : decide (64 < (l0.length : Int)) = true := decide_eq_true (by omega)
    have h2 : decide (64 < l0.length) = true := decide_eq_true hc
    go_enter Tryd.func13, Tryd.ntmps13
    go_wp2
    go_ret
    exact ⟨rfl, Below.refl _ _⟩
  · rw [if_neg hc] at h
    have h1 : decide (64 < (l0.length : Int)) = false := decide_eq_false (by omega)
    have h2 : decide (64 < l0.length) = false := decide_eq_false hc
    obtain ⟨a, ha, h⟩ := Option.bind_eq_some_iff.mp h
    obtain rfl := Option.some.inj h
    have HR := Aside0.mk hr0
    have HA := Aside0.mk ha
    clear hr0 ha h
    go_enter Tryd.func13, Tryd.ntmps13
    go_wp2_with (first | (go_at_call 37; refine (bits_Range.calls k 0 _ a _ HA.out).mono ?_; rintro e w2 ⟨rfl, hb⟩; have HB := Aside0.mk hb; clear hb) | (go_at_call 38; (refine (contains_may A0 c0 l0 w2.heap.size a _ (Kd.C_below HR.out (below_alloc HB.out _)) (by omega) ((blk_cell (blk_new w2 _) 0).trans rfl)).mono ?_; rintro e w3 ⟨rfl, ⟨m, rfl⟩⟩)))
    go_ret
    exact ⟨rfl, pw_below_drewN (below_alloc HB.out _) _⟩

-- NOT PRINTED: function 60 (bits_TrailingZeros64)

-- NOT PRINTED: function 56 (bits_each)

/-! ### bits_List: function 41 -/
theorem infoInt_ : (Tryd.prog.info? 3).map (fun i => (i.zero, i.size, i.bytes)) = some (some (.int .i64 0), 1, 8) := by kernel_rfl
set_option maxHeartbeats 1000000 in
set_option maxRecDepth 100000 in
theorem row_add (g : Nat) (v : Value) (xs : List Int) (i : Int) (w0 w : World) (hg : w.heap[g]? = some (.cells #[v] 68 (0, 0))) (hge : w0.heap.size ≤ g)
    (HO : Kd.R (Kd.int .i64) 3 w w0.heap.size (fun k => k ≠ g) v xs) (HB : Below w0.heap.size w0 w) (hl : xs.length ≤ 100) :
    Calls Tryd.prog 57 #[.pointer (some ⟨g, 0, none⟩), .int .i64 i] w fun e w' => e = .returned (.tuple #[]) ∧ ∃ v', w'.heap[g]? = some (.cells #[v'] 68 (0, 0)) ∧
      Kd.R (Kd.int .i64) 3 w' w0.heap.size (fun k => k ≠ g) v' (xs ++ [i]) ∧ Below w0.heap.size w0 w' := by
  have hu68 := Tryd.underlying68
  have hcell : w.cell? ⟨g, 0, none⟩ = some v := (blk_cell hg 0).trans rfl
  have hfr := blk_frozen hg 0
  have HG := Aside0.mk hg
  have HO' := Aside0.mk HO
  have HB' := Aside0.mk HB
  have HE := Aside0.mk hge
  clear hg HO HB hge
  go_enter Tryd.func57, Tryd.ntmps57
  go_wp2_with (at_builtin; refine Kd.R_append (Kd.int .i64) (w0 := w0) w0.heap.size rfl (.tmp 8) (.tmp 10) 56 3 (.int .i64 0) 8 rfl Tryd.underlying56 infoInt_ rfl (by decide) (by decide) v xs i [.int .i64 i] (fun k => k ≠ g) (fun _ => False) rfl (by first | (go_simp; done) | (go_simp; rfl)) rfl (fun _ hk => hk.elim) (fun k hk => by have := blk_lt HG.out; omega) HO'.out HB'.out HB'.out.size (by omega) ?_; intro v1 w1 h1 h2 h3 h4; obtain ⟨A1, c1, rfl, hle1, _⟩ := Kd.R_reads h1; (rw [show (xs ++ [i]).length = xs.length + 1 from by simp] at h1); have H1 := Aside0.mk h1; have H2 := Aside0.mk h2; have H3 := Aside0.mk h3; have HG1 := Aside0.mk (blk_grown HG.out h3 (fun e_ => HO'.out.1 _ e_.symm rfl)); have hcell1 : w1.cell? ⟨g, 0, none⟩ = some v := (blk_cell HG1.out 0).trans rfl; have hfr1 := blk_frozen HG1.out 0; clear h1 h2 h3 h4)
  first | go_end0 | ((try simp only [Exit.inBlock, Exit.then]); refine bodyPost_ret (results_none rfl _ _ _) rfl ?_)
  refine ⟨rfl, _, blk_put HG1.out 0 _ rfl, Kd.R_mono (Kd.R_set H1.out HG1.out (by decide) 0 _) (fun _ h => h), H2.out.setCell HE.out _⟩

theorem tz_core (x k idx : Nat) (w : World) (hx0 : ((x : Int) == 0) = false)
    (key : IntKind.u64.wrap (bits BinOp.and IntKind.u64 (x : Int) (IntKind.u64.wrap (-(x : Int))) * 285870213051353865) / 288230376151711744 = (idx : Int))
    (hi : idx < 64) (hk : k < 64) (hcell : w.cell? ⟨0, idx, none⟩ = some (.int .u8 k)) :
    Calls Tryd.prog 60 #[.int .u64 x] w fun e w' => e = .returned (.int .i64 k) ∧ w' = w := by
  have t71 := Tryd.underlying71
  go_enter Tryd.func60, Tryd.ntmps60
  go_wp2_with (simp only [key])
  go_ret
  exact ⟨rfl, rfl⟩
theorem tz_f (x : Nat) (h0 : x ≠ 0) (hx : x < 18446744073709551616) (w : World) (hT : Go.Proofs.TabAt 0 Go.Lib.deBruijn64tab w) :
    Calls Tryd.prog 60 #[.int .u64 x] w fun e w' => e = .returned (.int .i64 (Go.Lib.ctz 64 x : Nat)) ∧ w' = w := by
  obtain ⟨hlow, hk⟩ := Go.Lib.lowest_bit 64 x h0 hx
  obtain ⟨hi, htab⟩ := Go.Lib.deBruijn64_at _ hk
  have hcell := hT _ hi
  rw [htab] at hcell
  exact tz_core x _ _ w (by simp; omega) (Go.Proofs.tz64_key x _ hx h0 hlow) hi hk hcell
/-- The numbers in a set, rising. -/
def bitsFrom : Nat → Nat → Nat → List Int
  | 0, _, _ => []
  | f + 1, s, j => if s % 2 = 1 then (j : Int) :: bitsFrom f (s / 2) (j + 1) else bitsFrom f (s / 2) (j + 1)
theorem bitsFrom_zero : ∀ (f j : Nat), bitsFrom f 0 j = []
  | 0, _ => rfl
  | f + 1, j => by rw [bitsFrom, if_neg (by decide)]; exact bitsFrom_zero f (j + 1)
theorem bitsFrom_len : ∀ (f s j : Nat), (bitsFrom f s j).length ≤ f
  | 0, _, _ => by simp [bitsFrom]
  | f + 1, s, j => by
    have := bitsFrom_len f (s / 2) (j + 1)
    rw [bitsFrom]
    split
    · rw [List.length_cons]; omega
    · omega
theorem and_pred (s : Nat) (h : s ≠ 0) : (s &&& (s - 1)) % 2 = 0 ∧ (s &&& (s - 1)) / 2 = if s % 2 = 1 then s / 2 else (s / 2) &&& (s / 2 - 1) := by
  have h2 := Nat.and_div_two (a := s) (b := s - 1)
  have h3 : (s &&& (s - 1)) % 2 = 0 := by
    have := Nat.and_mod_two_pow (a := s) (b := s - 1) (n := 1)
    simp only [Nat.pow_one] at this
    rw [this]
    rcases Nat.mod_two_eq_zero_or_one s with e | e
    · rw [e, Nat.zero_and]
    · have : (s - 1) % 2 = 0 := by omega
      rw [this, Nat.and_zero]
  refine ⟨h3, ?_⟩
  rw [h2]
  split
  · have : (s - 1) / 2 = s / 2 := by omega
    rw [this, Nat.and_self]
  · have : (s - 1) / 2 = s / 2 - 1 := by omega
    rw [this]
theorem bitsFrom_step : ∀ (f s j : Nat), s ≠ 0 → s < 2 ^ f → bitsFrom f s j = ((j + Go.Lib.ctzFrom f s : Nat) : Int) :: bitsFrom f (s &&& (s - 1)) j
  | 0, s, j, h0, h => by simp at h; omega
  | f + 1, s, j, h0, h => by
    obtain ⟨e1, e2⟩ := and_pred s h0
    rw [bitsFrom, bitsFrom, Go.Lib.ctzFrom, if_neg (show ¬ (s &&& (s - 1)) % 2 = 1 by omega), e2]
    by_cases ho : s % 2 = 1
    · rw [if_pos ho, if_pos ho, if_pos ho]; rfl
    · rw [if_neg ho, if_neg ho, if_neg ho, bitsFrom_step f (s / 2) (j + 1) (by omega) (by rw [Nat.pow_succ] at h; omega)]
      congr 2
      omega
/-- What 'each' does with a set, handing on to a row. -/
theorem each_add (s : Nat) (hs : s < 18446744073709551616) (g : Nat) (v : Value) (xs : List Int) (w0 w : World) (hg : w.heap[g]? = some (.cells #[v] 68 (0, 0))) (hge : w0.heap.size ≤ g)
    (HO : Kd.R (Kd.int .i64) 3 w w0.heap.size (fun k => k ≠ g) v xs) (HB : Below w0.heap.size w0 w) (hl : xs.length + (bitsFrom 64 s 0).length ≤ 100) (hT : Go.Proofs.TabAt 0 Go.Lib.deBruijn64tab w0) :
    Calls Tryd.prog 56 #[.int .u64 s, .func (.func 57) #[.pointer (some ⟨g, 0, none⟩)] #[]] w fun e w' => e = .returned (.tuple #[]) ∧ ∃ v', w'.heap[g]? = some (.cells #[v'] 68 (0, 0)) ∧
      Kd.R (Kd.int .i64) 3 w' w0.heap.size (fun k => k ≠ g) v' (xs ++ bitsFrom 64 s 0) ∧ Below w0.heap.size w0 w' := by
  have HT : ∀ W, Below w0.heap.size w0 W → Go.Proofs.TabAt 0 Go.Lib.deBruijn64tab W := fun W hb j hj => by
    have h1 := hT j hj
    have hlt := World.block_lt_of_cell? w0 _ h1
    rw [hb.cell (p := ⟨0, j, none⟩) hlt]
    exact h1
  have HG := Aside0.mk hg
  have HO' := Aside0.mk HO
  have HB' := Aside0.mk HB
  have HE := Aside0.mk hge
  have HTT := Aside0.mk HT
  have HL := Aside0.mk hl
  clear hg HO HB hge hT HT hl
  go_enter Tryd.func56, Tryd.ntmps56
  go_wp2
  go_loopw [0] (fun t w' => ∃ (s' : Nat) (v' : Value) (ys : List Int), s' < 18446744073709551616 ∧ t = .int .u64 s' ∧ Aside0 (w'.heap[g]? = some (.cells #[v'] 68 (0, 0))) ∧ Aside0 (Kd.R (Kd.int .i64) 3 w' w0.heap.size (fun k => k ≠ g) v' ys) ∧ Aside0 (Below w0.heap.size w0 w') ∧ Aside0 (ys ++ bitsFrom 64 s' 0 = xs ++ bitsFrom 64 s 0)) (fun t _ => (intOf t).toNat)
  case atStart => exact ⟨s, v, xs, hs, rfl, HG, HO', HB', ⟨rfl⟩⟩
  case round =>
    obtain ⟨s', v', ys, hs', rfl, HG2, HO2, HB2, HE2⟩ := hrel
    clear HG HO' HB'
    by_cases h0 : s' = 0
    · subst h0
      go_wp2
      first | go_end0 | ((try simp only [Exit.inBlock, Exit.then]); refine bodyPost_ret (results_none rfl _ _ _) rfl ?_)
      have := HE2.out
      rw [bitsFrom_zero, List.append_nil] at this
      exact ⟨rfl, v', HG2.out, this ▸ HO2.out, HB2.out⟩
    · have hne : ((s' : Int) == 0) = false := by simp; omega
      have hne2 : ((s' : Int) != 0) = true := by simp; omega
      have hstep := bitsFrom_step 64 s' 0 h0 hs'
      have hctz : Go.Lib.ctz 64 s' = Go.Lib.ctzFrom 64 s' := by simp [Go.Lib.ctz, h0]
      have hlen : ys.length ≤ 100 := by
        have := congrArg List.length HE2.out
        have h1 := HL.out
        simp only [List.length_append] at this
        omega
      have HS := Aside0.mk hstep
      have HC := Aside0.mk hctz
      clear hstep hctz
      have hw1 : IntKind.u64.wrap ((s' : Int) - 1) = ((s' - 1 : Nat) : Int) := by rw [IntKind.wrap_u64]; omega
      have hand : bits .and .u64 (s' : Int) ((s' - 1 : Nat) : Int) = ((s' &&& (s' - 1) : Nat) : Int) := bits_and_u64_nat s' (s' - 1) hs' (by omega)
      have hle : s' &&& (s' - 1) ≤ s' - 1 := Nat.and_le_right
      have HA := Aside0.mk hand
      have HLE := Aside0.mk hle
      clear hand hle
      go_wp2_with (first | (go_at_call 60; refine (tz_f s' h0 hs' _ (HTT.out _ HB2.out)).mono ?_; rintro e w2 ⟨rfl, rfl⟩) | (go_at_call 57; refine (row_add g v' ys _ w0 _ HG2.out HE.out HO2.out HB2.out hlen).mono ?_; rintro e w2 ⟨rfl, v2, hg2, ho2, hb2⟩; have HG3 := Aside0.mk hg2; have HO3 := Aside0.mk ho2; have HB3 := Aside0.mk hb2; clear hg2 ho2 hb2))
      go_roundw
      case rel =>
        refine ⟨s' &&& (s' - 1), v2, _, by have := HLE.out; omega, ?_, HG3, HO3, HB3, ⟨?_⟩⟩
        · first | rfl | (rw [← HA.out]; rfl) | (rw [← HA.out, ← hw1])
        · rw [← HE2.out, HS.out, HC.out]
          simp
      case measure =>
        have h1 := HA.out
        have h2 := HLE.out
        simp [intOf]
        omega
def bits_List.f (a0 : Int) : Option (List Int) := if 0 ≤ a0 ∧ a0 < 18446744073709551616 then some (bitsFrom 64 a0.toNat 0) else none
theorem bits_List.calls (a0 : Int) (r : List Int) (w : World) (h : bits_List.f a0 = some r) (hG : GOk w := by first | exact Aside0.out (by assumption) | exact GOk.le (Aside0.out (by assumption)) (by repeat (first | exact Aside0.out (by assumption) | exact Below.refl _ _ | apply below_alloc | apply pw_below_drewN | apply below_drew1 | refine below_set ?_ (Aside0.out (by assumption))))) :
    Calls Tryd.prog 41 #[.int .u64 a0] w fun e w' => ∃ v0_ : Value, e = .returned v0_ ∧ Kd.R (Kd.int .i64) 3 w' w.heap.size (fun _ => True) v0_ r ∧ Below w.heap.size w w' := by
  unfold bits_List.f at h
  by_cases hs0 : 0 ≤ a0 ∧ a0 < 18446744073709551616
  · rw [if_pos hs0] at h
    obtain rfl := Option.some.inj h
    obtain ⟨s, rfl⟩ := Int.eq_ofNat_of_zero_le hs0.1
    have hs : s < 18446744073709551616 := by omega
    have hT : Go.Proofs.TabAt 0 Go.Lib.deBruijn64tab w := hG
    rw [Int.toNat_natCast]
    clear h hs0
    have hu68 := Tryd.underlying68
    have HTT := Aside0.mk hT
    clear hT
    go_enter Tryd.func41, Tryd.ntmps41
    go_wp2_with (go_at_call 56; refine (each_add s hs w.heap.size _ [] w _ (blk_new w _) (Nat.le_refl _) (Kd.R_nil _ _ _ _ _) ((Below.refl _ _).alloc (Nat.le_refl _) _) (by have := bitsFrom_len 64 s 0; simp; omega) HTT.out).mono ?_; rintro e w2 ⟨rfl, v2, hg2, ho2, hb2⟩; have HG3 := Aside0.mk hg2; have HO3 := Aside0.mk ho2; have HB3 := Aside0.mk hb2; have hc2 : w2.cell? ⟨w.heap.size, 0, none⟩ = some v2 := (blk_cell hg2 0).trans rfl; clear hg2 ho2 hb2)
    go_ret
    exact ⟨_, rfl, Kd.R_mono HO3.out (fun _ _ => trivial), HB3.out⟩

  · rw [if_neg hs0] at h
    exact absurd h (by simp)

end Go.Proofs.YtcehnbneiabaaaaDoor.PR
