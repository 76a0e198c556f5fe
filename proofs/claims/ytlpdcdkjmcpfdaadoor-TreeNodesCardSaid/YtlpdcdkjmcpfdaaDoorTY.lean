-- printed by fvprint.py over the kit's print (parts)
import Derived.Test.YtlpdcdkjmcpfdaaDoorTU
import Derived.Test.YtlpdcdkjmcpfdaaDoorTV
import Derived.Test.YtlpdcdkjmcpfdaaDoorPTx1
namespace Go.Proofs.YtlpdcdkjmcpfdaaDoor.PT
open Go.RowKit Go.Proofs.YtlpdcdkjmcpfdaaDoorW.PrintWords Go.Proofs.YtlpdcdkjmcpfdaaDoorW.PrintLast Go.Proofs.YtlpdcdkjmcpfdaaDoorW.PrintMore
attribute [local go_sem] max2_int min2_int max_two min_two max_three min_three max_four min_four   -- for this text's walks alone
set_option linter.unusedVariables false
set_option linter.unusedSimpArgs false

attribute [local go_sem] cell_set_some
/-! ### bits_List: function 47 -/
theorem infoInt_ : (Tryd.prog.info? 3).map (fun i => (i.zero, i.size, i.bytes)) = some (some (.int .i64 0), 1, 8) := by kernel_rfl
set_option maxHeartbeats 1000000 in
set_option maxRecDepth 100000 in
theorem row_add (g : Nat) (v : Value) (xs : List Int) (i : Int) (w0 w : World) (hg : w.heap[g]? = some (.cells #[v] 103 (0, 0))) (hge : w0.heap.size ≤ g)
    (HO : Kd.R (Kd.int .i64) 3 w w0.heap.size (fun k => k ≠ g) v xs) (HB : Below w0.heap.size w0 w) (hl : xs.length ≤ 100) :
    Calls Tryd.prog 66 #[.pointer (some ⟨g, 0, none⟩), .int .i64 i] w fun e w' => e = .returned (.tuple #[]) ∧ ∃ v', w'.heap[g]? = some (.cells #[v'] 103 (0, 0)) ∧
      Kd.R (Kd.int .i64) 3 w' w0.heap.size (fun k => k ≠ g) v' (xs ++ [i]) ∧ Below w0.heap.size w0 w' := by
  have hu68 := Tryd.underlying103
  have hcell : w.cell? ⟨g, 0, none⟩ = some v := (blk_cell hg 0).trans rfl
  have hfr := blk_frozen hg 0
  have HG := Aside0.mk hg
  have HO' := Aside0.mk HO
  have HB' := Aside0.mk HB
  have HE := Aside0.mk hge
  clear hg HO HB hge
  go_enter Tryd.func66, Tryd.ntmps66
  go_wp2_with (at_builtin; refine Kd.R_append (Kd.int .i64) (w0 := w0) w0.heap.size rfl (.tmp 8) (.tmp 10) 41 3 (.int .i64 0) 8 rfl Tryd.underlying41 infoInt_ rfl (by decide) (by decide) v xs i [.int .i64 i] (fun k => k ≠ g) (fun _ => False) rfl (by first | (go_simp; done) | (go_simp; rfl)) rfl (fun _ hk => hk.elim) (fun k hk => by have := blk_lt HG.out; omega) HO'.out HB'.out HB'.out.size (by omega) ?_; intro v1 w1 h1 h2 h3 h4; obtain ⟨A1, c1, rfl, hle1, _⟩ := Kd.R_reads h1; (rw [show (xs ++ [i]).length = xs.length + 1 from by simp] at h1); have H1 := Aside0.mk h1; have H2 := Aside0.mk h2; have H3 := Aside0.mk h3; have HG1 := Aside0.mk (blk_grown HG.out h3 (fun e_ => HO'.out.1 _ e_.symm rfl)); have hcell1 : w1.cell? ⟨g, 0, none⟩ = some v := (blk_cell HG1.out 0).trans rfl; have hfr1 := blk_frozen HG1.out 0; clear h1 h2 h3 h4)
  first | go_end0 | ((try simp only [Exit.inBlock, Exit.then]); refine bodyPost_ret (results_none rfl _ _ _) rfl ?_)
  refine ⟨rfl, _, blk_put HG1.out 0 _ rfl, Kd.R_mono (Kd.R_set H1.out HG1.out (by decide) 0 _) (fun _ h => h), H2.out.setCell HE.out _⟩

theorem tz_core (x k idx : Nat) (w : World) (hx0 : ((x : Int) == 0) = false)
    (key : IntKind.u64.wrap (bits BinOp.and IntKind.u64 (x : Int) (IntKind.u64.wrap (-(x : Int))) * 285870213051353865) / 288230376151711744 = (idx : Int))
    (hi : idx < 64) (hk : k < 64) (hcell : w.cell? ⟨0, idx, none⟩ = some (.int .u8 k)) :
    Calls Tryd.prog 92 #[.int .u64 x] w fun e w' => e = .returned (.int .i64 k) ∧ w' = w := by
  have t71 := Tryd.underlying137
  go_enter Tryd.func92, Tryd.ntmps92
  go_wp2_with (simp only [key])
  go_ret
  exact ⟨rfl, rfl⟩
theorem tz_f (x : Nat) (h0 : x ≠ 0) (hx : x < 18446744073709551616) (w : World) (hT : Go.Proofs.TabAt 0 Go.Lib.deBruijn64tab w) :
    Calls Tryd.prog 92 #[.int .u64 x] w fun e w' => e = .returned (.int .i64 (Go.Lib.ctz 64 x : Nat)) ∧ w' = w := by
  obtain ⟨hlow, hk⟩ := Go.Lib.lowest_bit 64 x h0 hx
  obtain ⟨hi, htab⟩ := Go.Lib.deBruijn64_at _ hk
  have hcell := hT _ hi
  rw [htab] at hcell
  exact tz_core x _ _ w (by simp; omega) (Go.Proofs.tz64_key x _ hx h0 hlow) hi hk hcell
/-- The numbers in a set, rising. -/
def bitsFrom : Nat → Nat → Nat → List Int
  | 0, _, _ => []
  | f + 1, s, j => if s % 2 = 1 then (j : Int) :: bitsFrom f (s / 2) (j + 1) else bitsFrom f (s / 2) (j + 1)
theorem bitsFrom_zero : ∀ (f j : Nat), bitsFrom f 0 j = []
  | 0, _ => rfl
  | f + 1, j => by rw [bitsFrom, if_neg (by decide)]; exact bitsFrom_zero f (j + 1)
theorem bitsFrom_len : ∀ (f s j : Nat), (bitsFrom f s j).length ≤ f
  | 0, _, _ => by simp [bitsFrom]
  | f + 1, s, j => by
    have := bitsFrom_len f (s / 2) (j + 1)
    rw [bitsFrom]
    split
    · rw [List.length_cons]; omega
    · omega
theorem and_pred (s : Nat) (h : s ≠ 0) : (s &&& (s - 1)) % 2 = 0 ∧ (s &&& (s - 1)) / 2 = if s % 2 = 1 then s / 2 else (s / 2) &&& (s / 2 - 1) := by
  have h2 := Nat.and_div_two (a := s) (b := s - 1)
  have h3 : (s &&& (s - 1)) % 2 = 0 := by
    have := Nat.and_mod_two_pow (a := s) (b := s - 1) (n := 1)
    simp only [Nat.pow_one] at this
    rw [this]
    rcases Nat.mod_two_eq_zero_or_one s with e | e
    · rw [e, Nat.zero_and]
    · have : (s - 1) % 2 = 0 := by omega
      rw [this, Nat.and_zero]
  refine ⟨h3, ?_⟩
  rw [h2]
  split
  · have : (s - 1) / 2 = s / 2 := by omega
    rw [this, Nat.and_self]
  · have : (s - 1) / 2 = s / 2 - 1 := by omega
    rw [this]
theorem bitsFrom_step : ∀ (f s j : Nat), s ≠ 0 → s < 2 ^ f → bitsFrom f s j = ((j + Go.Lib.ctzFrom f s : Nat) : Int) :: bitsFrom f (s &&& (s - 1)) j
  | 0, s, j, h0, h => by simp at h; omega
  | f + 1, s, j, h0, h => by
    obtain ⟨e1, e2⟩ := and_pred s h0
    rw [bitsFrom, bitsFrom, Go.Lib.ctzFrom, if_neg (show ¬ (s &&& (s - 1)) % 2 = 1 by omega), e2]
    by_cases ho : s % 2 = 1
    · rw [if_pos ho, if_pos ho, if_pos ho]; rfl
    · rw [if_neg ho, if_neg ho, if_neg ho, bitsFrom_step f (s / 2) (j + 1) (by omega) (by rw [Nat.pow_succ] at h; omega)]
      congr 2
      omega
/-- What 'each' does with a set, handing on to a row. -/
theorem each_add (s : Nat) (hs : s < 18446744073709551616) (g : Nat) (v : Value) (xs : List Int) (w0 w : World) (hg : w.heap[g]? = some (.cells #[v] 103 (0, 0))) (hge : w0.heap.size ≤ g)
    (HO : Kd.R (Kd.int .i64) 3 w w0.heap.size (fun k => k ≠ g) v xs) (HB : Below w0.heap.size w0 w) (hl : xs.length + (bitsFrom 64 s 0).length ≤ 100) (hT : Go.Proofs.TabAt 0 Go.Lib.deBruijn64tab w0) :
    Calls Tryd.prog 65 #[.int .u64 s, .func (.func 66) #[.pointer (some ⟨g, 0, none⟩)] #[]] w fun e w' => e = .returned (.tuple #[]) ∧ ∃ v', w'.heap[g]? = some (.cells #[v'] 103 (0, 0)) ∧
      Kd.R (Kd.int .i64) 3 w' w0.heap.size (fun k => k ≠ g) v' (xs ++ bitsFrom 64 s 0) ∧ Below w0.heap.size w0 w' := by
  have HT : ∀ W, Below w0.heap.size w0 W → Go.Proofs.TabAt 0 Go.Lib.deBruijn64tab W := fun W hb j hj => by
    have h1 := hT j hj
    have hlt := World.block_lt_of_cell? w0 _ h1
    rw [hb.cell (p := ⟨0, j, none⟩) hlt]
    exact h1
  have HG := Aside0.mk hg
  have HO' := Aside0.mk HO
  have HB' := Aside0.mk HB
  have HE := Aside0.mk hge
  have HTT := Aside0.mk HT
  have HL := Aside0.mk hl
  clear hg HO HB hge hT HT hl
  go_enter Tryd.func65, Tryd.ntmps65
  go_wp2
  go_loopw [0] (fun t w' => ∃ (s' : Nat) (v' : Value) (ys : List Int), s' < 18446744073709551616 ∧ t = .int .u64 s' ∧ Aside0 (w'.heap[g]? = some (.cells #[v'] 103 (0, 0))) ∧ Aside0 (Kd.R (Kd.int .i64) 3 w' w0.heap.size (fun k => k ≠ g) v' ys) ∧ Aside0 (Below w0.heap.size w0 w') ∧ Aside0 (ys ++ bitsFrom 64 s' 0 = xs ++ bitsFrom 64 s 0)) (fun t _ => (intOf t).toNat)
  case atStart => exact ⟨s, v, xs, hs, rfl, HG, HO', HB', ⟨rfl⟩⟩
  case round =>
    obtain ⟨s', v', ys, hs', rfl, HG2, HO2, HB2, HE2⟩ := hrel
    clear HG HO' HB'
    by_cases h0 : s' = 0
    · subst h0
      go_wp2
      first | go_end0 | ((try simp only [Exit.inBlock, Exit.then]); refine bodyPost_ret (results_none rfl _ _ _) rfl ?_)
      have := HE2.out
      rw [bitsFrom_zero, List.append_nil] at this
      exact ⟨rfl, v', HG2.out, this ▸ HO2.out, HB2.out⟩
    · have hne : ((s' : Int) == 0) = false := by simp; omega
      have hne2 : ((s' : Int) != 0) = true := by simp; omega
      have hstep := bitsFrom_step 64 s' 0 h0 hs'
      have hctz : Go.Lib.ctz 64 s' = Go.Lib.ctzFrom 64 s' := by simp [Go.Lib.ctz, h0]
      have hlen : ys.length ≤ 100 := by
        have := congrArg List.length HE2.out
        have h1 := HL.out
        simp only [List.length_append] at this
        omega
      have HS := Aside0.mk hstep
      have HC := Aside0.mk hctz
      clear hstep hctz
      have hw1 : IntKind.u64.wrap ((s' : Int) - 1) = ((s' - 1 : Nat) : Int) := by rw [IntKind.wrap_u64]; omega
      have hand : bits .and .u64 (s' : Int) ((s' - 1 : Nat) : Int) = ((s' &&& (s' - 1) : Nat) : Int) := bits_and_u64_nat s' (s' - 1) hs' (by omega)
      have hle : s' &&& (s' - 1) ≤ s' - 1 := Nat.and_le_right
      have HA := Aside0.mk hand
      have HLE := Aside0.mk hle
      clear hand hle
      go_wp2_with (first | (go_at_call 92; refine (tz_f s' h0 hs' _ (HTT.out _ HB2.out)).mono ?_; rintro e w2 ⟨rfl, rfl⟩) | (go_at_call 66; refine (row_add g v' ys _ w0 _ HG2.out HE.out HO2.out HB2.out hlen).mono ?_; rintro e w2 ⟨rfl, v2, hg2, ho2, hb2⟩; have HG3 := Aside0.mk hg2; have HO3 := Aside0.mk ho2; have HB3 := Aside0.mk hb2; clear hg2 ho2 hb2))
      go_roundw
      case rel =>
        refine ⟨s' &&& (s' - 1), v2, _, by have := HLE.out; omega, ?_, HG3, HO3, HB3, ⟨?_⟩⟩
        · first | rfl | (rw [← HA.out]; rfl) | (rw [← HA.out, ← hw1])
        · rw [← HE2.out, HS.out, HC.out]
          simp
      case measure =>
        have h1 := HA.out
        have h2 := HLE.out
        simp [intOf]
        omega
def bits_List.f (a0 : Int) : Option (List Int) := if 0 ≤ a0 ∧ a0 < 18446744073709551616 then some (bitsFrom 64 a0.toNat 0) else none
theorem bits_List.calls (a0 : Int) (r : List Int) (w : World) (h : bits_List.f a0 = some r) (hG : GOk w := by first | exact Aside0.out (by assumption) | exact GOk.le (Aside0.out (by assumption)) (by repeat (first | exact Aside0.out (by assumption) | exact Below.refl _ _ | apply below_alloc | apply pw_below_drewN | apply below_drew1 | refine below_set ?_ (Aside0.out (by assumption))))) :
    Calls Tryd.prog 47 #[.int .u64 a0] w fun e w' => ∃ v0_ : Value, e = .returned v0_ ∧ Kd.R (Kd.int .i64) 3 w' w.heap.size (fun _ => True) v0_ r ∧ Below w.heap.size w w' := by
  unfold bits_List.f at h
  by_cases hs0 : 0 ≤ a0 ∧ a0 < 18446744073709551616
  · rw [if_pos hs0] at h
    obtain rfl := Option.some.inj h
    obtain ⟨s, rfl⟩ := Int.eq_ofNat_of_zero_le hs0.1
    have hs : s < 18446744073709551616 := by omega
    have hT : Go.Proofs.TabAt 0 Go.Lib.deBruijn64tab w := hG
    rw [Int.toNat_natCast]
    clear h hs0
    have hu68 := Tryd.underlying103
    have HTT := Aside0.mk hT
    clear hT
    go_enter Tryd.func47, Tryd.ntmps47
    go_wp2_with (go_at_call 65; refine (each_add s hs w.heap.size _ [] w _ (blk_new w _) (Nat.le_refl _) (Kd.R_nil _ _ _ _ _) ((Below.refl _ _).alloc (Nat.le_refl _) _) (by have := bitsFrom_len 64 s 0; simp; omega) HTT.out).mono ?_; rintro e w2 ⟨rfl, v2, hg2, ho2, hb2⟩; have HG3 := Aside0.mk hg2; have HO3 := Aside0.mk ho2; have HB3 := Aside0.mk hb2; have hc2 : w2.cell? ⟨w.heap.size, 0, none⟩ = some v2 := (blk_cell hg2 0).trans rfl; clear hg2 ho2 hb2)
    go_ret
    exact ⟨_, rfl, Kd.R_mono HO3.out (fun _ _ => trivial), HB3.out⟩

  · rw [if_neg hs0] at h
    exact absurd h (by simp)

-- NOT PRINTED: function 18 (tree_Ends)

-- NOT PRINTED: function 49 (tree_deep_rows)

/-! ### tree_deep_rows_at_tree_deep_before: function 49 -/
mutual
def tree_deep_rows_at_tree_deep_before.l0 : Nat → List Int → Int → Int → Int → List ByteArray → List (List ByteArray) → List (S53) → List Int → List Int → Option (List Int)
  | 0, _, _, _, _, _, _, _, _, _ => none
  | k + 1, x5, x14, x15, x620, x621, x622, x623, x624, x625 => if x15 < x14 then (tree_deep_rows_at_tree_deep_before.l1 k x5 x15 x14 x15 (x5.length : Int) 0 x620 x621 x622 x623 x624 x625) else (some x5)
def tree_deep_rows_at_tree_deep_before.l1 : Nat → List Int → Int → Int → Int → Int → Int → Int → List ByteArray → List (List ByteArray) → List (S53) → List Int → List Int → Option (List Int)
  | 0, _, _, _, _, _, _, _, _, _, _, _, _ => none
  | k + 1, x5, x6, x14, x15, x19, x20, x620, x621, x622, x623, x624, x625 => if x20 < x19 then ((tree_deep_before.f x620 x621 x622 x623 x624 x625 x6 x20).bind fun t365 => (if t365 = true then (if 0 ≤ x6 then (if x6 < (x5.length : Int) then ((bits_Put.f (rd x5 x6) x20).bind fun t367 => (tree_deep_rows_at_tree_deep_before.l1 k (x5.set (x6 : Int).toNat t367) x6 x14 x15 x19 (wrap64 (x20 + 1)) x620 x621 x622 x623 x624 x625)) else (none)) else (none)) else (tree_deep_rows_at_tree_deep_before.l1 k x5 x6 x14 x15 x19 (wrap64 (x20 + 1)) x620 x621 x622 x623 x624 x625))) else (tree_deep_rows_at_tree_deep_before.l0 k x5 x14 (wrap64 (x15 + 1)) x620 x621 x622 x623 x624 x625)
end
def tree_deep_rows_at_tree_deep_before.f (k : Nat) (a0_0 : Int) (l0_1 : List ByteArray) (l0_2 : List (List ByteArray)) (l0_3 : List (S53)) (l0_4 : List Int) (l0_5 : List Int) (a1_0 : Int) (l1_1 : List ByteArray) (l1_2 : List (List ByteArray)) (l1_3 : List (S53)) (l1_4 : List Int) (l1_5 : List Int) : Option (List Int) := if 0 ≤ (l0_3.length : Int) then (if ((l0_3.length : Int) : Int).toNat ≤ 35184372088832 then ((some (List.replicate ((l0_3.length : Int) : Int).toNat 0 : List Int)).bind fun y362 => (tree_deep_rows_at_tree_deep_before.l0 k y362 (y362.length : Int) 0 a1_0 l1_1 l1_2 l1_3 l1_4 l1_5)) else (none)) else (none)
theorem tree_deep_rows_at_tree_deep_before.mono_l : ∀ k, (∀ y0 y1 y2 y3 y4 y5 y6 y7 y8, LeO (tree_deep_rows_at_tree_deep_before.l0 k y0 y1 y2 y3 y4 y5 y6 y7 y8) (tree_deep_rows_at_tree_deep_before.l0 (k + 1) y0 y1 y2 y3 y4 y5 y6 y7 y8)) ∧ (∀ y0 y1 y2 y3 y4 y5 y6 y7 y8 y9 y10 y11, LeO (tree_deep_rows_at_tree_deep_before.l1 k y0 y1 y2 y3 y4 y5 y6 y7 y8 y9 y10 y11) (tree_deep_rows_at_tree_deep_before.l1 (k + 1) y0 y1 y2 y3 y4 y5 y6 y7 y8 y9 y10 y11))
  | 0 => ⟨fun _ _ _ _ _ _ _ _ _ r h => by simp [tree_deep_rows_at_tree_deep_before.l0] at h, fun _ _ _ _ _ _ _ _ _ _ _ _ r h => by simp [tree_deep_rows_at_tree_deep_before.l1] at h⟩
  | k + 1 => by
    obtain ⟨ih0, ih1⟩ := tree_deep_rows_at_tree_deep_before.mono_l k
    refine ⟨?_, ?_⟩
    · intro y0 y1 y2 y3 y4 y5 y6 y7 y8
      unfold tree_deep_rows_at_tree_deep_before.l0
      repeat' first
      | (with_reducible exact ih0 _ _ _ _ _ _ _ _ _)
      | (with_reducible exact ih1 _ _ _ _ _ _ _ _ _ _ _ _)
      | (with_reducible exact LeO.refl _)
      | (with_reducible exact LeO.none _)
      | (with_reducible refine LeO.ite ?_ ?_)
      | (with_reducible refine LeO.bind ?_ (fun _ => ?_))
      | exact ih0 _ _ _ _ _ _ _ _ _
      | exact ih1 _ _ _ _ _ _ _ _ _ _ _ _
      | exact LeO.none _
      | refine LeO.ite ?_ ?_
      | refine LeO.bind ?_ (fun _ => ?_)
    · intro y0 y1 y2 y3 y4 y5 y6 y7 y8 y9 y10 y11
      unfold tree_deep_rows_at_tree_deep_before.l1
      repeat' first
      | (with_reducible exact ih0 _ _ _ _ _ _ _ _ _)
      | (with_reducible exact ih1 _ _ _ _ _ _ _ _ _ _ _ _)
      | (with_reducible exact LeO.refl _)
      | (with_reducible exact LeO.none _)
      | (with_reducible refine LeO.ite ?_ ?_)
      | (with_reducible refine LeO.bind ?_ (fun _ => ?_))
      | exact ih0 _ _ _ _ _ _ _ _ _
      | exact ih1 _ _ _ _ _ _ _ _ _ _ _ _
      | exact LeO.none _
      | refine LeO.ite ?_ ?_
      | refine LeO.bind ?_ (fun _ => ?_)
theorem tree_deep_rows_at_tree_deep_before.mono : ∀ a0 a1 a2 a3 a4 a5 a6 a7 a8 a9 a10 a11 k, LeO (tree_deep_rows_at_tree_deep_before.f k a0 a1 a2 a3 a4 a5 a6 a7 a8 a9 a10 a11) (tree_deep_rows_at_tree_deep_before.f (k + 1) a0 a1 a2 a3 a4 a5 a6 a7 a8 a9 a10 a11) := by
  intro a0 a1 a2 a3 a4 a5 a6 a7 a8 a9 a10 a11 k
  obtain ⟨ih0, ih1⟩ := tree_deep_rows_at_tree_deep_before.mono_l k
  unfold tree_deep_rows_at_tree_deep_before.f
  repeat' first
      | (with_reducible exact ih0 _ _ _ _ _ _ _ _ _)
      | (with_reducible exact ih1 _ _ _ _ _ _ _ _ _ _ _ _)
      | (with_reducible exact LeO.refl _)
      | (with_reducible exact LeO.none _)
      | (with_reducible refine LeO.ite ?_ ?_)
      | (with_reducible refine LeO.bind ?_ (fun _ => ?_))
      | exact ih0 _ _ _ _ _ _ _ _ _
      | exact ih1 _ _ _ _ _ _ _ _ _ _ _ _
      | exact LeO.none _
      | refine LeO.ite ?_ ?_
      | refine LeO.bind ?_ (fun _ => ?_)
set_option maxHeartbeats 8000000 in
set_option maxRecDepth 100000 in
theorem tree_deep_rows_at_tree_deep_before.calls (k : Nat) (a0_0 : Int) (A0_1 : Option Addr) (c0_1 : Nat) (l0_1 : List ByteArray) (A0_2 : Option Addr) (c0_2 : Nat) (l0_2 : List (List ByteArray)) (A0_3 : Option Addr) (c0_3 : Nat) (l0_3 : List (S53)) (A0_4 : Option Addr) (c0_4 : Nat) (l0_4 : List Int) (A0_5 : Option Addr) (c0_5 : Nat) (l0_5 : List Int) (a1_0 : Int) (A1_1 : Option Addr) (c1_1 : Nat) (l1_1 : List ByteArray) (A1_2 : Option Addr) (c1_2 : Nat) (l1_2 : List (List ByteArray)) (A1_3 : Option Addr) (c1_3 : Nat) (l1_3 : List (S53)) (A1_4 : Option Addr) (c1_4 : Nat) (l1_4 : List Int) (A1_5 : Option Addr) (c1_5 : Nat) (l1_5 : List Int) (r : List Int) (w : World) (hr0_1 : Kd.C Kd.string w A0_1 l0_1.length l0_1) (hc0_1 : l0_1.length ≤ c0_1) (hr0_2 : Kd.C (Kd.slice 9 Kd.string) w A0_2 l0_2.length l0_2) (hc0_2 : l0_2.length ≤ c0_2) (hr0_3 : Kd.C k53 w A0_3 l0_3.length l0_3) (hc0_3 : l0_3.length ≤ c0_3) (hr0_4 : Kd.C (Kd.int .i64) w A0_4 l0_4.length l0_4) (hc0_4 : l0_4.length ≤ c0_4) (hr0_5 : Kd.C (Kd.int .u64) w A0_5 l0_5.length l0_5) (hc0_5 : l0_5.length ≤ c0_5) (hr1_1 : Kd.C Kd.string w A1_1 l1_1.length l1_1) (hc1_1 : l1_1.length ≤ c1_1) (hr1_2 : Kd.C (Kd.slice 9 Kd.string) w A1_2 l1_2.length l1_2) (hc1_2 : l1_2.length ≤ c1_2) (hr1_3 : Kd.C k53 w A1_3 l1_3.length l1_3) (hc1_3 : l1_3.length ≤ c1_3) (hr1_4 : Kd.C (Kd.int .i64) w A1_4 l1_4.length l1_4) (hc1_4 : l1_4.length ≤ c1_4) (hr1_5 : Kd.C (Kd.int .u64) w A1_5 l1_5.length l1_5) (hc1_5 : l1_5.length ≤ c1_5) (h : tree_deep_rows_at_tree_deep_before.f k a0_0 l0_1 l0_2 l0_3 l0_4 l0_5 a1_0 l1_1 l1_2 l1_3 l1_4 l1_5 = some r) :
    Calls Tryd.prog 49 #[.agg #[.int .i64 a0_0, .slice A0_1 l0_1.length c0_1, .slice A0_2 l0_2.length c0_2, .slice A0_3 l0_3.length c0_3, .slice A0_4 l0_4.length c0_4, .slice A0_5 l0_5.length c0_5], .func (.func 38) #[.agg #[.int .i64 a1_0, .slice A1_1 l1_1.length c1_1, .slice A1_2 l1_2.length c1_2, .slice A1_3 l1_3.length c1_3, .slice A1_4 l1_4.length c1_4, .slice A1_5 l1_5.length c1_5]] #[]] w fun e w' => ∃ v0_ : Value, e = .returned (v0_) ∧ Kd.R (Kd.int .u64) 44 w' w.heap.size (fun _ => True) v0_ r ∧ Below w.heap.size w w' := by
  have hu72 := Tryd.underlying72
  have HR0_1 := Aside0.mk hr0_1
  have HC0_1 := Aside0.mk hc0_1
  clear hr0_1 hc0_1
  have HR0_2 := Aside0.mk hr0_2
  have HC0_2 := Aside0.mk hc0_2
  clear hr0_2 hc0_2
  have HR0_3 := Aside0.mk hr0_3
  have HC0_3 := Aside0.mk hc0_3
  clear hr0_3 hc0_3
  have HR0_4 := Aside0.mk hr0_4
  have HC0_4 := Aside0.mk hc0_4
  clear hr0_4 hc0_4
  have HR0_5 := Aside0.mk hr0_5
  have HC0_5 := Aside0.mk hc0_5
  clear hr0_5 hc0_5
  have HR1_1 := Aside0.mk hr1_1
  have HC1_1 := Aside0.mk hc1_1
  clear hr1_1 hc1_1
  have HR1_2 := Aside0.mk hr1_2
  have HC1_2 := Aside0.mk hc1_2
  clear hr1_2 hc1_2
  have HR1_3 := Aside0.mk hr1_3
  have HC1_3 := Aside0.mk hc1_3
  clear hr1_3 hc1_3
  have HR1_4 := Aside0.mk hr1_4
  have HC1_4 := Aside0.mk hc1_4
  clear hr1_4 hc1_4
  have HR1_5 := Aside0.mk hr1_5
  have HC1_5 := Aside0.mk hc1_5
  clear hr1_5 hc1_5
  have HB := Aside0.mk (Below.refl w.heap.size w)
  have H : (if 0 ≤ (l0_3.length : Int) then (if ((l0_3.length : Int) : Int).toNat ≤ 35184372088832 then ((some (List.replicate ((l0_3.length : Int) : Int).toNat 0 : List Int)).bind fun y362 => (tree_deep_rows_at_tree_deep_before.l0 k y362 (y362.length : Int) 0 a1_0 l1_1 l1_2 l1_3 l1_4 l1_5)) else (none)) else (none)) = some r := h
  clear h
  by_cases c3 : 0 ≤ (l0_3.length : Int)
  · rw [if_pos c3] at H
    have c3b0 := eq_true c3
    have c3b1 : decide (0 ≤ (l0_3.length : Int)) = true := decide_eq_true c3
    clear c3
    by_cases c4 : ((l0_3.length : Int) : Int).toNat ≤ 35184372088832
    · rw [if_pos c4] at H
      have c4b0 := eq_true c4
      have c4b1 : decide (((l0_3.length : Int) : Int).toNat ≤ 35184372088832) = true := decide_eq_true c4
      clear c4
      obtain ⟨y362, hy362⟩ : ∃ y_ : List Int, y_ = (List.replicate ((l0_3.length : Int) : Int).toNat 0) := ⟨_, rfl⟩
      replace H : (tree_deep_rows_at_tree_deep_before.l0 k y362 (y362.length : Int) 0 a1_0 l1_1 l1_2 l1_3 l1_4 l1_5) = some r := by first | (rw [hy362]; with_reducible exact H) | (have H2_ := (Option.bind_some _ _).symm.trans H; rw [hy362]; with_reducible exact H2_) | (have H2_ := (Option.bind_some _ _).symm.trans H; with_reducible exact H2_) | with_reducible exact H | (rw [hy362]; exact H) | exact H
      have Ny362 := Aside0.mk hy362
      clear hy362
      have H' := Aside0.mk H
      clear H
      go_enter Tryd.func49, Tryd.ntmps49
      go_wp2_with (first | ((with_reducible refine gate_dst (N := 2) rfl ?_); refine box_event ?hg (N := 2) ?hd (cs := #[.int .i64 a0_0, .slice A0_1 l0_1.length c0_1, .slice A0_2 l0_2.length c0_2, .slice A0_3 l0_3.length c0_3, .slice A0_4 l0_4.length c0_4, .slice A0_5 l0_5.length c0_5]) (t := 72) ?hr ?_; (case hd => rfl); (case hg => rfl); (case hr => first | (go_simp; done) | (go_simp; rfl)); intro gb361 hg w5 hbox hb; have n0_ := Aside0.mk (below_step (by repeat (first | (with_reducible first | exact HB.out | apply below_alloc | apply pw_below_drewN | apply below_drew1) | exact HB.out)) hb); have n1_ := Aside0.mk (hbox); have n2_ := Aside0.mk ((by rw [hg]; exact (below_size (by repeat (first | (with_reducible first | exact HB.out | apply below_alloc | apply pw_below_drewN | apply below_drew1) | exact HB.out))) : w.heap.size ≤ gb361)); have n3_ := Aside0.mk ((by rw [hg]; exact (below_size (by repeat (first | (with_reducible first | exact HB.out | apply below_alloc | apply pw_below_drewN | apply below_drew1) | exact HB.out))) : w.heap.size ≤ gb361)); clear HB; have HB := n0_; have BK361 := n1_; have GW361 := n2_; have GE361 := n3_; clear n0_ n1_ n2_ n3_; clear hb hbox hg; have hcz6_0 : w5.cell? ⟨gb361, 0, none⟩ = some (.int .i64 a0_0) := (blk_cell BK361.out 0).trans rfl; have hcz6_1 : w5.cell? ⟨gb361, 1, none⟩ = some (.slice A0_1 l0_1.length c0_1) := (blk_cell BK361.out 1).trans rfl; have hcz6_2 : w5.cell? ⟨gb361, 2, none⟩ = some (.slice A0_2 l0_2.length c0_2) := (blk_cell BK361.out 2).trans rfl; have hcz6_3 : w5.cell? ⟨gb361, 3, none⟩ = some (.slice A0_3 l0_3.length c0_3) := (blk_cell BK361.out 3).trans rfl; have hcz6_4 : w5.cell? ⟨gb361, 4, none⟩ = some (.slice A0_4 l0_4.length c0_4) := (blk_cell BK361.out 4).trans rfl; have hcz6_5 : w5.cell? ⟨gb361, 5, none⟩ = some (.slice A0_5 l0_5.length c0_5) := (blk_cell BK361.out 5).trans rfl; have hfz6_0 := blk_frozen BK361.out 0; have hfz6_1 := blk_frozen BK361.out 1; have hfz6_2 := blk_frozen BK361.out 2; have hfz6_3 := blk_frozen BK361.out 3; have hfz6_4 := blk_frozen BK361.out 4; have hfz6_5 := blk_frozen BK361.out 5) | ((with_reducible refine gate_dst (N := 12) rfl ?_); refine Kd.R_make (Kd.int .u64) _ 44 rfl (N := 12) rfl 48 _ _ rfl (l0_3.length : Int) rfl rfl Tryd.underlying48 (.int .u64 0) 8 info44 rfl (by decide) (by omega) 0 (ok := fun _ => True) (okp := fun _ => True) rfl (fun _ hk => hk) trivial (of_decide_eq_true (by first | (with_reducible assumption) | assumption)) (Nat.le_trans (Nat.mul_le_mul_right _ (of_decide_eq_true (by first | (with_reducible assumption) | assumption) : (l0_3.length : Int).toNat ≤ 35184372088832)) (by omega)) (Below.refl _ _) (Nat.le_refl _) ?_; intro v363 w7 ho8 hb hg_ hnew_; clear hg_ hnew_; (first | rw [← Ny362.out] at ho8 | (simp only [Int.reduceToNat] at ho8; rw [← Ny362.out] at ho8)); have n0_ := Aside0.mk (Kd.R_lower ho8 (below_size (by repeat (first | (with_reducible first | exact HB.out | apply below_alloc | apply pw_below_drewN | apply below_drew1 | refine below_set ?_ GE361.out) | exact HB.out)))); have n1_ := Aside0.mk (blk_below (g := gb361) (o := .cells #[.int .i64 a0_0, .slice A0_1 l0_1.length c0_1, .slice A0_2 l0_2.length c0_2, .slice A0_3 l0_3.length c0_3, .slice A0_4 l0_4.length c0_4, .slice A0_5 l0_5.length c0_5] 72 (0, 0)) (by (with_reducible repeat (first | refine blk_drewN ?_ _ | refine blk_drew ?_ | refine blk_alloc ?_ _)); exact BK361.out) hb); have n2_ := Aside0.mk (below_step (by repeat (first | (with_reducible first | exact HB.out | apply below_alloc | apply pw_below_drewN | apply below_drew1 | refine below_set ?_ GE361.out) | exact HB.out)) hb); clear BK361; clear HB; have HO364 := n0_; have BK361 := n1_; have HB := n2_; clear n0_ n1_ n2_; clear hb ho8; obtain ⟨Ao9, co9, eo9⟩ := Kd.R_slice HO364.out; subst eo9))
      try go_simp
      go_loopg [15] k (fun kq v15 w' => ∃ (x5_1 : List Int) (x15_1 : Int), v15 = .int .i64 x15_1 ∧ Aside0 (tree_deep_rows_at_tree_deep_before.l0 kq x5_1 (y362.length : Int) x15_1 a1_0 l1_1 l1_2 l1_3 l1_4 l1_5 = some r) ∧ Aside0 (kq ≤ k) ∧ Aside0 (Kd.R (Kd.int .u64) 44 w' w.heap.size (fun _ => True) (.slice Ao9 y362.length co9) x5_1) ∧ Aside0 (w'.heap[gb361]? = some (.cells #[.int .i64 a0_0, (.slice A0_1 l0_1.length c0_1), (.slice A0_2 l0_2.length c0_2), (.slice A0_3 l0_3.length c0_3), (.slice A0_4 l0_4.length c0_4), (.slice A0_5 l0_5.length c0_5)] 72 (0, 0))) ∧ Aside0 (Below w.heap.size w w'))
      case atStart => exact ⟨(y362), (0), (by first | rfl | (simp; done) | (simp [*]; done)), H', ⟨Nat.le_refl _⟩, ⟨by (with_reducible repeat (first | apply Kd.R_alloc | apply Kd.R_drewN | apply Kd.R_drew)); exact HO364.out⟩, ⟨by (with_reducible repeat (first | refine blk_drewN ?_ _ | refine blk_drew ?_ | refine blk_alloc ?_ _)); exact BK361.out⟩, ⟨by repeat (first | (with_reducible first | exact HB.out | apply below_alloc | apply pw_below_drewN | apply below_drew1 | refine below_set ?_ GE361.out) | exact HB.out)⟩⟩
      case round =>
        clear H'
        try clear c1
        try clear p2
        try clear c3
        try clear c3b0
        try clear c3b1
        try clear c4
        try clear c4b0
        try clear c4b1
        try clear c7
        try clear hcz6_0
        try clear hcz6_1
        try clear hcz6_2
        try clear hcz6_3
        try clear hcz6_4
        try clear hcz6_5
        try clear hfz6_0
        try clear hfz6_1
        try clear hfz6_2
        try clear hfz6_3
        try clear hfz6_4
        try clear hfz6_5
        obtain ⟨x5_1, x15_1, rfl, HA, HK1, HO_5, BK361, HB⟩ := hrel
        have hl5_1 := (Kd.R_reads' HO_5.out).1
        rw [hl5_1] at HO_5
        (try simp only [hl5_1])
        (try simp only [hl5_1] at BK361)
        cases gk with
        | zero => exact absurd HA.out (by simp [tree_deep_rows_at_tree_deep_before.l0])
        | succ k1 =>
          have H := HA.out
          clear HA
          simp only [tree_deep_rows_at_tree_deep_before.l0] at H
          by_cases c10 : x15_1 < (y362.length : Int)
          · rw [if_pos c10] at H
            have c10b0 : decide (x15_1 < (y362.length : Int)) = true := decide_eq_true c10
            try (have c10b0h5_1 := c10b0; simp only [hl5_1] at c10b0h5_1)
            clear c10
            have H' := Aside0.mk H
            clear H
            go_wp2
            try go_simp
            go_loopg [20] k1 (fun kq v20 w' => ∃ (x5_2 : List Int) (x20_2 : Int), v20 = .int .i64 x20_2 ∧ Aside0 (tree_deep_rows_at_tree_deep_before.l1 kq x5_2 x15_1 (y362.length : Int) x15_1 (x5_1.length : Int) x20_2 a1_0 l1_1 l1_2 l1_3 l1_4 l1_5 = some r) ∧ Aside0 (kq ≤ k1) ∧ Aside0 (Kd.R (Kd.int .u64) 44 w' w.heap.size (fun _ => True) (.slice Ao9 x5_1.length co9) x5_2) ∧ Aside0 (w'.heap[gb361]? = some (.cells #[.int .i64 a0_0, (.slice A0_1 l0_1.length c0_1), (.slice A0_2 l0_2.length c0_2), (.slice A0_3 l0_3.length c0_3), (.slice A0_4 l0_4.length c0_4), (.slice A0_5 l0_5.length c0_5)] 72 (0, 0))) ∧ Aside0 (Below w.heap.size w w'))
            case atStart => exact ⟨(x5_1), (0), (by first | rfl | (simp; done) | (simp [*]; done)), H', ⟨Nat.le_refl _⟩, ⟨by (try simp only [hl5_1]); (with_reducible repeat (first | apply Kd.R_alloc | apply Kd.R_drewN | apply Kd.R_drew)); exact HO_5.out⟩, ⟨by (try simp only [hl5_1]); (with_reducible repeat (first | refine blk_drewN ?_ _ | refine blk_drew ?_ | refine blk_alloc ?_ _)); exact BK361.out⟩, ⟨by repeat (first | (with_reducible first | exact HB.out | apply below_alloc | apply pw_below_drewN | apply below_drew1 | refine below_set ?_ GE361.out) | exact HB.out)⟩⟩
            case round =>
              clear H'
              try clear c1
              try clear p2
              try clear c3
              try clear c3b0
              try clear c3b1
              try clear c4
              try clear c4b0
              try clear c4b1
              try clear c7
              try clear c10
              try clear c10b0
              try clear hcz6_0
              try clear hcz6_1
              try clear hcz6_2
              try clear hcz6_3
              try clear hcz6_4
              try clear hcz6_5
              try clear hfz6_0
              try clear hfz6_1
              try clear hfz6_2
              try clear hfz6_3
              try clear hfz6_4
              try clear hfz6_5
              try clear p2
              obtain ⟨x5_2, x20_2, rfl, HA, HK2, HO_5, BK361, HB⟩ := hrel
              have hl5_2 := (Kd.R_reads' HO_5.out).1
              rw [hl5_2] at HO_5
              (try simp only [hl5_2])
              (try simp only [hl5_2] at BK361)
              cases gk with
              | zero => exact absurd HA.out (by simp [tree_deep_rows_at_tree_deep_before.l1])
              | succ k2 =>
                have H := HA.out
                clear HA
                simp only [tree_deep_rows_at_tree_deep_before.l1] at H
                by_cases c11 : x20_2 < (x5_1.length : Int)
                · rw [if_pos c11] at H
                  have c11b0 : decide (x20_2 < (x5_1.length : Int)) = true := decide_eq_true c11
                  try (have c11b0h5_1 := c11b0; simp only [hl5_1] at c11b0h5_1)
                  try (have c11b0h5_2 := c11b0; simp only [hl5_2] at c11b0h5_2)
                  clear c11
                  replace H := Option.bind_eq_some_iff.mp H
                  obtain ⟨t365, A120, H⟩ := H
                  replace H : (if t365 = true then (if 0 ≤ x15_1 then (if x15_1 < (x5_2.length : Int) then ((bits_Put.f (rd x5_2 x15_1) x20_2).bind fun t367 => (tree_deep_rows_at_tree_deep_before.l1 k2 (x5_2.set (x15_1 : Int).toNat t367) x15_1 (y362.length : Int) x15_1 (x5_1.length : Int) (wrap64 (x20_2 + 1)) a1_0 l1_1 l1_2 l1_3 l1_4 l1_5)) else (none)) else (none)) else (tree_deep_rows_at_tree_deep_before.l1 k2 x5_2 x15_1 (y362.length : Int) x15_1 (x5_1.length : Int) (wrap64 (x20_2 + 1)) a1_0 l1_1 l1_2 l1_3 l1_4 l1_5)) = some r := H
                  have A12 := Aside0.mk A120
                  clear A120
                  by_cases c13 : t365 = true
                  · subst c13
                    have H1 : (if 0 ≤ x15_1 then (if x15_1 < (x5_2.length : Int) then ((bits_Put.f (rd x5_2 x15_1) x20_2).bind fun t367 => (tree_deep_rows_at_tree_deep_before.l1 k2 (x5_2.set (x15_1 : Int).toNat t367) x15_1 (y362.length : Int) x15_1 (x5_1.length : Int) (wrap64 (x20_2 + 1)) a1_0 l1_1 l1_2 l1_3 l1_4 l1_5)) else (none)) else (none)) = some r := by rw [if_pos rfl] at H; exact H
                    clear H
                    have H := H1
                    clear H1
                    by_cases c14 : 0 ≤ x15_1
                    · rw [if_pos c14] at H
                      have c14b0 : decide (0 ≤ x15_1) = true := decide_eq_true c14
                      clear c14
                      by_cases c15 : x15_1 < (x5_2.length : Int)
                      · rw [if_pos c15] at H
                        have c15b0 : decide (x15_1 < (x5_2.length : Int)) = true := decide_eq_true c15
                        try (have c15b0h5_1 := c15b0; simp only [hl5_1] at c15b0h5_1)
                        try (have c15b0h5_2 := c15b0; simp only [hl5_2] at c15b0h5_2)
                        clear c15
                        replace H := Option.bind_eq_some_iff.mp H
                        obtain ⟨t367, A160, H⟩ := H
                        replace H : (tree_deep_rows_at_tree_deep_before.l1 k2 (x5_2.set (x15_1 : Int).toNat t367) x15_1 (y362.length : Int) x15_1 (x5_1.length : Int) (wrap64 (x20_2 + 1)) a1_0 l1_1 l1_2 l1_3 l1_4 l1_5) = some r := H
                        have A16 := Aside0.mk A160
                        clear A160
                        obtain ⟨y368, hy368⟩ : ∃ y_ : List Int, y_ = (x5_2.set (x15_1 : Int).toNat t367) := ⟨_, rfl⟩
                        replace H : (tree_deep_rows_at_tree_deep_before.l1 k2 y368 x15_1 (y362.length : Int) x15_1 (x5_1.length : Int) (wrap64 (x20_2 + 1)) a1_0 l1_1 l1_2 l1_3 l1_4 l1_5) = some r := by first | (rw [hy368]; with_reducible exact H) | (have H2_ := (Option.bind_some _ _).symm.trans H; rw [hy368]; with_reducible exact H2_) | (have H2_ := (Option.bind_some _ _).symm.trans H; with_reducible exact H2_) | with_reducible exact H | (rw [hy368]; exact H) | exact H
                        have Ny368 := Aside0.mk hy368
                        clear hy368
                        have H' := Aside0.mk H
                        clear H
                        go_wp2_with (first | (go_at_call 38; (with_reducible refine (tree_deep_before.calls a1_0 _ _ l1_1 _ _ l1_2 _ _ l1_3 _ _ l1_4 _ _ l1_5 x15_1 x20_2 true _ ?side1 ?side2 ?side3 ?side4 ?side5 ?side6 ?side7 ?side8 ?side9 ?side10 A12.out).mono ?_); (case side1 => repeat (first | exact (Kd.C_below HR1_1.out HB.out) | (with_reducible refine Kd.C_alloc ?_ _) | (with_reducible refine Kd.C_drewN ?_ _) | (with_reducible refine Kd.C_drew ?_))); (case side2 => exact HC1_1.out); (case side3 => repeat (first | exact (Kd.C_below HR1_2.out HB.out) | (with_reducible refine Kd.C_alloc ?_ _) | (with_reducible refine Kd.C_drewN ?_ _) | (with_reducible refine Kd.C_drew ?_))); (case side4 => exact HC1_2.out); (case side5 => repeat (first | exact (Kd.C_below HR1_3.out HB.out) | (with_reducible refine Kd.C_alloc ?_ _) | (with_reducible refine Kd.C_drewN ?_ _) | (with_reducible refine Kd.C_drew ?_))); (case side6 => exact HC1_3.out); (case side7 => repeat (first | exact (Kd.C_below HR1_4.out HB.out) | (with_reducible refine Kd.C_alloc ?_ _) | (with_reducible refine Kd.C_drewN ?_ _) | (with_reducible refine Kd.C_drew ?_))); (case side8 => exact HC1_4.out); (case side9 => repeat (first | exact (Kd.C_below HR1_5.out HB.out) | (with_reducible refine Kd.C_alloc ?_ _) | (with_reducible refine Kd.C_drewN ?_ _) | (with_reducible refine Kd.C_drew ?_))); (case side10 => exact HC1_5.out); rintro e w18 ⟨rfl, hb⟩; have n0_ := Aside0.mk (Kd.R_below (by (with_reducible repeat (first | apply Kd.R_alloc | apply Kd.R_drewN | apply Kd.R_drew)); exact HO_5.out) hb); have n1_ := Aside0.mk (blk_below (g := gb361) (o := .cells #[.int .i64 a0_0, .slice A0_1 l0_1.length c0_1, .slice A0_2 l0_2.length c0_2, .slice A0_3 l0_3.length c0_3, .slice A0_4 l0_4.length c0_4, .slice A0_5 l0_5.length c0_5] 72 (0, 0)) (by (with_reducible repeat (first | refine blk_drewN ?_ _ | refine blk_drew ?_ | refine blk_alloc ?_ _)); exact BK361.out) hb); have n2_ := Aside0.mk (below_step (by repeat (first | (with_reducible first | exact HB.out | apply below_alloc | apply pw_below_drewN | apply below_drew1 | refine below_set ?_ GE361.out) | exact HB.out)) hb); clear HO_5; clear BK361; clear HB; have HO_5 := n0_; have BK361 := n1_; have HB := n2_; clear n0_ n1_ n2_; (try clear hb); (try clear hb2); (try clear hk); (try clear hi); have p366 : 0 ≤ (x15_1 : Int) := of_decide_eq_true (by first | (with_reducible assumption) | assumption); have q366 : x15_1 < (x5_2.length : Int) := of_decide_eq_true (by first | (with_reducible assumption) | assumption); obtain ⟨ad366, e366, hx366_0⟩ := Kd.at_int (Kd.R_reads' HO_5.out).2.2 x15_1 p366 q366; cases e366; replace p366 := eq_true p366; replace q366 := eq_true q366) | ((with_reducible refine gate_callee (f := 42) rfl ?_); refine goesL_ (some 34) rfl rfl Tryd.func42 (by kernel_rfl) rfl #[.int .u64 (rd x5_2 x15_1), .int .i64 x20_2] rfl (by (try simp only [List.map_toArray, List.map_cons, List.map_nil]); first | done | rfl | (simp only [List.length_drop, List.length_take]; rfl)) ?_; (with_reducible refine (bits_Put.calls (rd x5_2 x15_1) x20_2 t367 _ A16.out).mono ?_); rintro e w' ⟨rfl, ⟨nd, rfl⟩⟩; refine ⟨_, rfl, ?_⟩; (try (rw [drewN_self w18]; generalize hq_ : World.drewN w18 _ = w18; have n0_ : Aside0 (Kd.R (Kd.int .u64) 44 w18 w.heap.size (fun _ => True) (.slice (some ad366) x5_2.length co9) x5_2) := ⟨by rw [← hq_]; exact (by (with_reducible repeat (first | apply Kd.R_alloc | apply Kd.R_drewN | apply Kd.R_drew)); exact HO_5.out)⟩; have n1_ : Aside0 (w18.heap[gb361]? = some (.cells #[.int .i64 a0_0, .slice A0_1 l0_1.length c0_1, .slice A0_2 l0_2.length c0_2, .slice A0_3 l0_3.length c0_3, .slice A0_4 l0_4.length c0_4, .slice A0_5 l0_5.length c0_5] 72 (0, 0))) := ⟨by rw [← hq_]; exact (by (with_reducible repeat (first | refine blk_drewN ?_ _ | refine blk_drew ?_ | refine blk_alloc ?_ _)); exact BK361.out)⟩; have n2_ : Aside0 (Below w.heap.size w w18) := ⟨by rw [← hq_]; exact (by repeat (first | (with_reducible first | exact HB.out | apply below_alloc | apply pw_below_drewN | apply below_drew1 | refine below_set ?_ GE361.out) | exact HB.out))⟩; clear HO_5 BK361 HB hq_; have HO_5 := n0_; have BK361 := n1_; have HB := n2_; clear n0_ n1_ n2_)); have p17 : 0 ≤ (x15_1 : Int) := of_decide_eq_true (by first | (with_reducible assumption) | assumption); have q17 : (x15_1 : Int) < ((x5_2.length : Int) : Int) := of_decide_eq_true (by first | (with_reducible assumption) | assumption); obtain ⟨go17, co17, eo17, gb17, gl17, cl17, HG17⟩ := Kd.R_form HO_5.out (by omega); (first | cases eo17 | (injection eo17 with ea_ en_ ec_; (first | subst ea_ | (injection ea_ with ea_; subst ea_)); subst ec_; clear en_)); have GB17 := Aside0.mk gb17; have GG17 := Aside0.mk HG17; clear gb17 gl17 HG17; (first | simp only [add_plain] at hx366_0 | skip); obtain ⟨hx17_0, hf17_0⟩ := Kd.R_celln 0 HO_5.out (x15_1 : Int) p17 q17; replace p17 := eq_true p17; replace q17 := eq_true q17; obtain ⟨hy19_, hz19_⟩ := Kd.R_celln 0 HO_5.out (x15_1 : Int) (of_decide_eq_true (by first | (with_reducible assumption) | assumption)) (of_decide_eq_true (by first | (with_reducible assumption) | assumption)); have HP19 := Kd.R_putg HO_5.out (x15_1 : Int) t367) | ((with_reducible refine gate_store (t := 44) (p := 35) rfl ?_); refine store_event (t := 44) (p := 35) (v := ?vo_w20) (w1 := (w18.setCell ⟨go17, (x15_1 : Int).toNat, none⟩ (.int .u64 t367))) ?hg ?ho ?hn ?hr ?_; (case ho => rfl); (case hg => rfl); (case hn => rfl); (case hr => first | (go_simp; done) | (go_simp; rfl)); intro w20 hw; have hg : w18.grownBy w20 (some go17) := (by rw [hw]; exact HP19.2); have hp_ : Kd.R (Kd.int .u64) 44 w20 w.heap.size (fun _ => True) (.slice (some ⟨go17, 0, none⟩) x5_2.length co9) y368 := (by rw [hw, Ny368.out]; exact HP19.1); clear HP19; have n0_ := Aside0.mk (hp_); have n1_ := Aside0.mk (blk_grown (g := gb361) (o := .cells #[.int .i64 a0_0, .slice A0_1 l0_1.length c0_1, .slice A0_2 l0_2.length c0_2, .slice A0_3 l0_3.length c0_3, .slice A0_4 l0_4.length c0_4, .slice A0_5 l0_5.length c0_5] 72 (0, 0)) (by (with_reducible repeat (first | refine blk_drewN ?_ _ | refine blk_drew ?_ | refine blk_alloc ?_ _)); exact BK361.out) hg (Kd.R_ne HO_5.out BK361.out (by decide))); have n2_ := Aside0.mk ((by rw [hw]; exact below_set (HB.out) GB17.out : Below w.heap.size w w20)); clear HO_5; clear BK361; clear HB; have HO_5 := n0_; have BK361 := n1_; have HB := n2_; clear n0_ n1_ n2_; clear hg hw hp_))
                        (try simp only [← hl5_2])
                        go_roundg k2
                        case measure => have := HK1.out; have := HK2.out; omega
                        case rel => exact ⟨(y368), (wrap64 (x20_2 + 1)), (by first | rfl | (simp; done) | (simp [*]; done)), H', ⟨by have := HK1.out; have := HK2.out; omega⟩, ⟨by (try simp only [hl5_1]); (try simp only [hl5_2]); (with_reducible repeat (first | apply Kd.R_alloc | apply Kd.R_drewN | apply Kd.R_drew)); exact HO_5.out⟩, ⟨by (try simp only [hl5_1]); (try simp only [hl5_2]); (with_reducible repeat (first | refine blk_drewN ?_ _ | refine blk_drew ?_ | refine blk_alloc ?_ _)); exact BK361.out⟩, ⟨by repeat (first | (with_reducible first | exact HB.out | apply below_alloc | apply pw_below_drewN | apply below_drew1 | refine below_set ?_ GE361.out) | exact HB.out)⟩⟩
                      · rw [if_neg c15] at H
                        exact absurd H (by simp)
                    · rw [if_neg c14] at H
                      exact absurd H (by simp)
                  · replace c13 := Bool.eq_false_iff.mpr c13
                    subst c13
                    have H1 : (tree_deep_rows_at_tree_deep_before.l1 k2 x5_2 x15_1 (y362.length : Int) x15_1 (x5_1.length : Int) (wrap64 (x20_2 + 1)) a1_0 l1_1 l1_2 l1_3 l1_4 l1_5) = some r := by rw [if_neg (show ¬ (false = true) by decide)] at H; exact H
                    clear H
                    have H := H1
                    clear H1
                    have H' := Aside0.mk H
                    clear H
                    go_wp2_with (first | (go_at_call 38; (with_reducible refine (tree_deep_before.calls a1_0 _ _ l1_1 _ _ l1_2 _ _ l1_3 _ _ l1_4 _ _ l1_5 x15_1 x20_2 false _ ?side1 ?side2 ?side3 ?side4 ?side5 ?side6 ?side7 ?side8 ?side9 ?side10 A12.out).mono ?_); (case side1 => repeat (first | exact (Kd.C_below HR1_1.out HB.out) | (with_reducible refine Kd.C_alloc ?_ _) | (with_reducible refine Kd.C_drewN ?_ _) | (with_reducible refine Kd.C_drew ?_))); (case side2 => exact HC1_1.out); (case side3 => repeat (first | exact (Kd.C_below HR1_2.out HB.out) | (with_reducible refine Kd.C_alloc ?_ _) | (with_reducible refine Kd.C_drewN ?_ _) | (with_reducible refine Kd.C_drew ?_))); (case side4 => exact HC1_2.out); (case side5 => repeat (first | exact (Kd.C_below HR1_3.out HB.out) | (with_reducible refine Kd.C_alloc ?_ _) | (with_reducible refine Kd.C_drewN ?_ _) | (with_reducible refine Kd.C_drew ?_))); (case side6 => exact HC1_3.out); (case side7 => repeat (first | exact (Kd.C_below HR1_4.out HB.out) | (with_reducible refine Kd.C_alloc ?_ _) | (with_reducible refine Kd.C_drewN ?_ _) | (with_reducible refine Kd.C_drew ?_))); (case side8 => exact HC1_4.out); (case side9 => repeat (first | exact (Kd.C_below HR1_5.out HB.out) | (with_reducible refine Kd.C_alloc ?_ _) | (with_reducible refine Kd.C_drewN ?_ _) | (with_reducible refine Kd.C_drew ?_))); (case side10 => exact HC1_5.out); rintro e w21 ⟨rfl, hb⟩; have n0_ := Aside0.mk (Kd.R_below (by (with_reducible repeat (first | apply Kd.R_alloc | apply Kd.R_drewN | apply Kd.R_drew)); exact HO_5.out) hb); have n1_ := Aside0.mk (blk_below (g := gb361) (o := .cells #[.int .i64 a0_0, .slice A0_1 l0_1.length c0_1, .slice A0_2 l0_2.length c0_2, .slice A0_3 l0_3.length c0_3, .slice A0_4 l0_4.length c0_4, .slice A0_5 l0_5.length c0_5] 72 (0, 0)) (by (with_reducible repeat (first | refine blk_drewN ?_ _ | refine blk_drew ?_ | refine blk_alloc ?_ _)); exact BK361.out) hb); have n2_ := Aside0.mk (below_step (by repeat (first | (with_reducible first | exact HB.out | apply below_alloc | apply pw_below_drewN | apply below_drew1 | refine below_set ?_ GE361.out) | exact HB.out)) hb); clear HO_5; clear BK361; clear HB; have HO_5 := n0_; have BK361 := n1_; have HB := n2_; clear n0_ n1_ n2_; (try clear hb); (try clear hb2); (try clear hk); (try clear hi)))
                    (try simp only [← hl5_2])
                    go_roundg k2
                    case measure => have := HK1.out; have := HK2.out; omega
                    case rel => exact ⟨(x5_2), (wrap64 (x20_2 + 1)), (by first | rfl | (simp; done) | (simp [*]; done)), H', ⟨by have := HK1.out; have := HK2.out; omega⟩, ⟨by (try simp only [hl5_1]); (try simp only [hl5_2]); (with_reducible repeat (first | apply Kd.R_alloc | apply Kd.R_drewN | apply Kd.R_drew)); exact HO_5.out⟩, ⟨by (try simp only [hl5_1]); (try simp only [hl5_2]); (with_reducible repeat (first | refine blk_drewN ?_ _ | refine blk_drew ?_ | refine blk_alloc ?_ _)); exact BK361.out⟩, ⟨by repeat (first | (with_reducible first | exact HB.out | apply below_alloc | apply pw_below_drewN | apply below_drew1 | refine below_set ?_ GE361.out) | exact HB.out)⟩⟩
                · rw [if_neg c11] at H
                  have c11b0 : decide (x20_2 < (x5_1.length : Int)) = false := decide_eq_false c11
                  try (have c11b0h5_1 := c11b0; simp only [hl5_1] at c11b0h5_1)
                  try (have c11b0h5_2 := c11b0; simp only [hl5_2] at c11b0h5_2)
                  clear c11
                  have H' := Aside0.mk H
                  clear H
                  go_wp2
                  (try simp only [← hl5_1, ← hl5_2])
                  go_roundg k2
                  case measure => have := HK1.out; have := HK2.out; omega
                  case rel => exact ⟨(x5_2), (wrap64 (x15_1 + 1)), (by first | rfl | (simp; done) | (simp [*]; done)), H', ⟨by have := HK1.out; have := HK2.out; omega⟩, ⟨by (try simp only [hl5_1]); (try simp only [hl5_2]); (with_reducible repeat (first | apply Kd.R_alloc | apply Kd.R_drewN | apply Kd.R_drew)); exact HO_5.out⟩, ⟨by (try simp only [hl5_1]); (try simp only [hl5_2]); (with_reducible repeat (first | refine blk_drewN ?_ _ | refine blk_drew ?_ | refine blk_alloc ?_ _)); exact BK361.out⟩, ⟨by repeat (first | (with_reducible first | exact HB.out | apply below_alloc | apply pw_below_drewN | apply below_drew1 | refine below_set ?_ GE361.out) | exact HB.out)⟩⟩
          · rw [if_neg c10] at H
            have c10b0 : decide (x15_1 < (y362.length : Int)) = false := decide_eq_false c10
            try (have c10b0h5_1 := c10b0; simp only [hl5_1] at c10b0h5_1)
            try (have c10b0h5_2 := c10b0; simp only [hl5_2] at c10b0h5_2)
            clear c10
            obtain rfl := Option.some.inj H
            go_wp2
            go_ret
            exact ⟨_, by first | rfl | (simp [errW_none, errW_some] <;> rfl) | (simp [*, errW_none, errW_some] <;> rfl), by (with_reducible repeat (first | apply Kd.R_alloc | apply Kd.R_drewN | apply Kd.R_drew)); exact HO_5.out, by repeat (first | (with_reducible first | exact HB.out | apply below_alloc | apply pw_below_drewN | apply below_drew1 | refine below_set ?_ GE361.out) | exact HB.out)⟩
    · rw [if_neg c4] at H
      exact absurd H (by simp)
  · rw [if_neg c3] at H
    exact absurd H (by simp)

/-! ### tree_deep_rows_at_tree_deep_against: function 49 -/
mutual
def tree_deep_rows_at_tree_deep_against.l0 : Nat → List Int → Int → Int → Int → List ByteArray → List (List ByteArray) → List (S53) → List Int → List Int → Option (List Int)
  | 0, _, _, _, _, _, _, _, _, _ => none
  | k + 1, x5, x14, x15, x620, x621, x622, x623, x624, x625 => if x15 < x14 then (tree_deep_rows_at_tree_deep_against.l1 k x5 x15 x14 x15 (x5.length : Int) 0 x620 x621 x622 x623 x624 x625) else (some x5)
def tree_deep_rows_at_tree_deep_against.l1 : Nat → List Int → Int → Int → Int → Int → Int → Int → List ByteArray → List (List ByteArray) → List (S53) → List Int → List Int → Option (List Int)
  | 0, _, _, _, _, _, _, _, _, _, _, _, _ => none
  | k + 1, x5, x6, x14, x15, x19, x20, x620, x621, x622, x623, x624, x625 => if x20 < x19 then ((tree_deep_against.f x620 x621 x622 x623 x624 x625 x6 x20).bind fun t395 => (if t395 = true then (if 0 ≤ x6 then (if x6 < (x5.length : Int) then ((bits_Put.f (rd x5 x6) x20).bind fun t397 => (tree_deep_rows_at_tree_deep_against.l1 k (x5.set (x6 : Int).toNat t397) x6 x14 x15 x19 (wrap64 (x20 + 1)) x620 x621 x622 x623 x624 x625)) else (none)) else (none)) else (tree_deep_rows_at_tree_deep_against.l1 k x5 x6 x14 x15 x19 (wrap64 (x20 + 1)) x620 x621 x622 x623 x624 x625))) else (tree_deep_rows_at_tree_deep_against.l0 k x5 x14 (wrap64 (x15 + 1)) x620 x621 x622 x623 x624 x625)
end
def tree_deep_rows_at_tree_deep_against.f (k : Nat) (a0_0 : Int) (l0_1 : List ByteArray) (l0_2 : List (List ByteArray)) (l0_3 : List (S53)) (l0_4 : List Int) (l0_5 : List Int) (a1_0 : Int) (l1_1 : List ByteArray) (l1_2 : List (List ByteArray)) (l1_3 : List (S53)) (l1_4 : List Int) (l1_5 : List Int) : Option (List Int) := if 0 ≤ (l0_3.length : Int) then (if ((l0_3.length : Int) : Int).toNat ≤ 35184372088832 then ((some (List.replicate ((l0_3.length : Int) : Int).toNat 0 : List Int)).bind fun y392 => (tree_deep_rows_at_tree_deep_against.l0 k y392 (y392.length : Int) 0 a1_0 l1_1 l1_2 l1_3 l1_4 l1_5)) else (none)) else (none)
theorem tree_deep_rows_at_tree_deep_against.mono_l : ∀ k, (∀ y0 y1 y2 y3 y4 y5 y6 y7 y8, LeO (tree_deep_rows_at_tree_deep_against.l0 k y0 y1 y2 y3 y4 y5 y6 y7 y8) (tree_deep_rows_at_tree_deep_against.l0 (k + 1) y0 y1 y2 y3 y4 y5 y6 y7 y8)) ∧ (∀ y0 y1 y2 y3 y4 y5 y6 y7 y8 y9 y10 y11, LeO (tree_deep_rows_at_tree_deep_against.l1 k y0 y1 y2 y3 y4 y5 y6 y7 y8 y9 y10 y11) (tree_deep_rows_at_tree_deep_against.l1 (k + 1) y0 y1 y2 y3 y4 y5 y6 y7 y8 y9 y10 y11))
  | 0 => ⟨fun _ _ _ _ _ _ _ _ _ r h => by simp [tree_deep_rows_at_tree_deep_against.l0] at h, fun _ _ _ _ _ _ _ _ _ _ _ _ r h => by simp [tree_deep_rows_at_tree_deep_against.l1] at h⟩
  | k + 1 => by
    obtain ⟨ih0, ih1⟩ := tree_deep_rows_at_tree_deep_against.mono_l k
    refine ⟨?_, ?_⟩
    · intro y0 y1 y2 y3 y4 y5 y6 y7 y8
      unfold tree_deep_rows_at_tree_deep_against.l0
      repeat' first
      | (with_reducible exact ih0 _ _ _ _ _ _ _ _ _)
      | (with_reducible exact ih1 _ _ _ _ _ _ _ _ _ _ _ _)
      | (with_reducible exact LeO.refl _)
      | (with_reducible exact LeO.none _)
      | (with_reducible refine LeO.ite ?_ ?_)
      | (with_reducible refine LeO.bind ?_ (fun _ => ?_))
      | exact ih0 _ _ _ _ _ _ _ _ _
      | exact ih1 _ _ _ _ _ _ _ _ _ _ _ _
      | exact LeO.none _
      | refine LeO.ite ?_ ?_
      | refine LeO.bind ?_ (fun _ => ?_)
    · intro y0 y1 y2 y3 y4 y5 y6 y7 y8 y9 y10 y11
      unfold tree_deep_rows_at_tree_deep_against.l1
      repeat' first
      | (with_reducible exact ih0 _ _ _ _ _ _ _ _ _)
      | (with_reducible exact ih1 _ _ _ _ _ _ _ _ _ _ _ _)
      | (with_reducible exact LeO.refl _)
      | (with_reducible exact LeO.none _)
      | (with_reducible refine LeO.ite ?_ ?_)
      | (with_reducible refine LeO.bind ?_ (fun _ => ?_))
      | exact ih0 _ _ _ _ _ _ _ _ _
      | exact ih1 _ _ _ _ _ _ _ _ _ _ _ _
      | exact LeO.none _
      | refine LeO.ite ?_ ?_
      | refine LeO.bind ?_ (fun _ => ?_)
theorem tree_deep_rows_at_tree_deep_against.mono : ∀ a0 a1 a2 a3 a4 a5 a6 a7 a8 a9 a10 a11 k, LeO (tree_deep_rows_at_tree_deep_against.f k a0 a1 a2 a3 a4 a5 a6 a7 a8 a9 a10 a11) (tree_deep_rows_at_tree_deep_against.f (k + 1) a0 a1 a2 a3 a4 a5 a6 a7 a8 a9 a10 a11) := by
  intro a0 a1 a2 a3 a4 a5 a6 a7 a8 a9 a10 a11 k
  obtain ⟨ih0, ih1⟩ := tree_deep_rows_at_tree_deep_against.mono_l k
  unfold tree_deep_rows_at_tree_deep_against.f
  repeat' first
      | (with_reducible exact ih0 _ _ _ _ _ _ _ _ _)
      | (with_reducible exact ih1 _ _ _ _ _ _ _ _ _ _ _ _)
      | (with_reducible exact LeO.refl _)
      | (with_reducible exact LeO.none _)
      | (with_reducible refine LeO.ite ?_ ?_)
      | (with_reducible refine LeO.bind ?_ (fun _ => ?_))
      | exact ih0 _ _ _ _ _ _ _ _ _
      | exact ih1 _ _ _ _ _ _ _ _ _ _ _ _
      | exact LeO.none _
      | refine LeO.ite ?_ ?_
      | refine LeO.bind ?_ (fun _ => ?_)
set_option maxHeartbeats 8000000 in
set_option maxRecDepth 100000 in
theorem tree_deep_rows_at_tree_deep_against.calls (k : Nat) (a0_0 : Int) (A0_1 : Option Addr) (c0_1 : Nat) (l0_1 : List ByteArray) (A0_2 : Option Addr) (c0_2 : Nat) (l0_2 : List (List ByteArray)) (A0_3 : Option Addr) (c0_3 : Nat) (l0_3 : List (S53)) (A0_4 : Option Addr) (c0_4 : Nat) (l0_4 : List Int) (A0_5 : Option Addr) (c0_5 : Nat) (l0_5 : List Int) (a1_0 : Int) (A1_1 : Option Addr) (c1_1 : Nat) (l1_1 : List ByteArray) (A1_2 : Option Addr) (c1_2 : Nat) (l1_2 : List (List ByteArray)) (A1_3 : Option Addr) (c1_3 : Nat) (l1_3 : List (S53)) (A1_4 : Option Addr) (c1_4 : Nat) (l1_4 : List Int) (A1_5 : Option Addr) (c1_5 : Nat) (l1_5 : List Int) (r : List Int) (w : World) (hr0_1 : Kd.C Kd.string w A0_1 l0_1.length l0_1) (hc0_1 : l0_1.length ≤ c0_1) (hr0_2 : Kd.C (Kd.slice 9 Kd.string) w A0_2 l0_2.length l0_2) (hc0_2 : l0_2.length ≤ c0_2) (hr0_3 : Kd.C k53 w A0_3 l0_3.length l0_3) (hc0_3 : l0_3.length ≤ c0_3) (hr0_4 : Kd.C (Kd.int .i64) w A0_4 l0_4.length l0_4) (hc0_4 : l0_4.length ≤ c0_4) (hr0_5 : Kd.C (Kd.int .u64) w A0_5 l0_5.length l0_5) (hc0_5 : l0_5.length ≤ c0_5) (hr1_1 : Kd.C Kd.string w A1_1 l1_1.length l1_1) (hc1_1 : l1_1.length ≤ c1_1) (hr1_2 : Kd.C (Kd.slice 9 Kd.string) w A1_2 l1_2.length l1_2) (hc1_2 : l1_2.length ≤ c1_2) (hr1_3 : Kd.C k53 w A1_3 l1_3.length l1_3) (hc1_3 : l1_3.length ≤ c1_3) (hr1_4 : Kd.C (Kd.int .i64) w A1_4 l1_4.length l1_4) (hc1_4 : l1_4.length ≤ c1_4) (hr1_5 : Kd.C (Kd.int .u64) w A1_5 l1_5.length l1_5) (hc1_5 : l1_5.length ≤ c1_5) (h : tree_deep_rows_at_tree_deep_against.f k a0_0 l0_1 l0_2 l0_3 l0_4 l0_5 a1_0 l1_1 l1_2 l1_3 l1_4 l1_5 = some r) :
    Calls Tryd.prog 49 #[.agg #[.int .i64 a0_0, .slice A0_1 l0_1.length c0_1, .slice A0_2 l0_2.length c0_2, .slice A0_3 l0_3.length c0_3, .slice A0_4 l0_4.length c0_4, .slice A0_5 l0_5.length c0_5], .func (.func 41) #[.agg #[.int .i64 a1_0, .slice A1_1 l1_1.length c1_1, .slice A1_2 l1_2.length c1_2, .slice A1_3 l1_3.length c1_3, .slice A1_4 l1_4.length c1_4, .slice A1_5 l1_5.length c1_5]] #[]] w fun e w' => ∃ v0_ : Value, e = .returned (v0_) ∧ Kd.R (Kd.int .u64) 44 w' w.heap.size (fun _ => True) v0_ r ∧ Below w.heap.size w w' := by
  have hu72 := Tryd.underlying72
  have HR0_1 := Aside0.mk hr0_1
  have HC0_1 := Aside0.mk hc0_1
  clear hr0_1 hc0_1
  have HR0_2 := Aside0.mk hr0_2
  have HC0_2 := Aside0.mk hc0_2
  clear hr0_2 hc0_2
  have HR0_3 := Aside0.mk hr0_3
  have HC0_3 := Aside0.mk hc0_3
  clear hr0_3 hc0_3
  have HR0_4 := Aside0.mk hr0_4
  have HC0_4 := Aside0.mk hc0_4
  clear hr0_4 hc0_4
  have HR0_5 := Aside0.mk hr0_5
  have HC0_5 := Aside0.mk hc0_5
  clear hr0_5 hc0_5
  have HR1_1 := Aside0.mk hr1_1
  have HC1_1 := Aside0.mk hc1_1
  clear hr1_1 hc1_1
  have HR1_2 := Aside0.mk hr1_2
  have HC1_2 := Aside0.mk hc1_2
  clear hr1_2 hc1_2
  have HR1_3 := Aside0.mk hr1_3
  have HC1_3 := Aside0.mk hc1_3
  clear hr1_3 hc1_3
  have HR1_4 := Aside0.mk hr1_4
  have HC1_4 := Aside0.mk hc1_4
  clear hr1_4 hc1_4
  have HR1_5 := Aside0.mk hr1_5
  have HC1_5 := Aside0.mk hc1_5
  clear hr1_5 hc1_5
  have HB := Aside0.mk (Below.refl w.heap.size w)
  have H : (if 0 ≤ (l0_3.length : Int) then (if ((l0_3.length : Int) : Int).toNat ≤ 35184372088832 then ((some (List.replicate ((l0_3.length : Int) : Int).toNat 0 : List Int)).bind fun y392 => (tree_deep_rows_at_tree_deep_against.l0 k y392 (y392.length : Int) 0 a1_0 l1_1 l1_2 l1_3 l1_4 l1_5)) else (none)) else (none)) = some r := h
  clear h
  by_cases c3 : 0 ≤ (l0_3.length : Int)
  · rw [if_pos c3] at H
    have c3b0 := eq_true c3
    have c3b1 : decide (0 ≤ (l0_3.length : Int)) = true := decide_eq_true c3
    clear c3
    by_cases c4 : ((l0_3.length : Int) : Int).toNat ≤ 35184372088832
    · rw [if_pos c4] at H
      have c4b0 := eq_true c4
      have c4b1 : decide (((l0_3.length : Int) : Int).toNat ≤ 35184372088832) = true := decide_eq_true c4
      clear c4
      obtain ⟨y392, hy392⟩ : ∃ y_ : List Int, y_ = (List.replicate ((l0_3.length : Int) : Int).toNat 0) := ⟨_, rfl⟩
      replace H : (tree_deep_rows_at_tree_deep_against.l0 k y392 (y392.length : Int) 0 a1_0 l1_1 l1_2 l1_3 l1_4 l1_5) = some r := by first | (rw [hy392]; with_reducible exact H) | (have H2_ := (Option.bind_some _ _).symm.trans H; rw [hy392]; with_reducible exact H2_) | (have H2_ := (Option.bind_some _ _).symm.trans H; with_reducible exact H2_) | with_reducible exact H | (rw [hy392]; exact H) | exact H
      have Ny392 := Aside0.mk hy392
      clear hy392
      have H' := Aside0.mk H
      clear H
      go_enter Tryd.func49, Tryd.ntmps49
      go_wp2_with (first | ((with_reducible refine gate_dst (N := 2) rfl ?_); refine box_event ?hg (N := 2) ?hd (cs := #[.int .i64 a0_0, .slice A0_1 l0_1.length c0_1, .slice A0_2 l0_2.length c0_2, .slice A0_3 l0_3.length c0_3, .slice A0_4 l0_4.length c0_4, .slice A0_5 l0_5.length c0_5]) (t := 72) ?hr ?_; (case hd => rfl); (case hg => rfl); (case hr => first | (go_simp; done) | (go_simp; rfl)); intro gb391 hg w5 hbox hb; have n0_ := Aside0.mk (below_step (by repeat (first | (with_reducible first | exact HB.out | apply below_alloc | apply pw_below_drewN | apply below_drew1) | exact HB.out)) hb); have n1_ := Aside0.mk (hbox); have n2_ := Aside0.mk ((by rw [hg]; exact (below_size (by repeat (first | (with_reducible first | exact HB.out | apply below_alloc | apply pw_below_drewN | apply below_drew1) | exact HB.out))) : w.heap.size ≤ gb391)); have n3_ := Aside0.mk ((by rw [hg]; exact (below_size (by repeat (first | (with_reducible first | exact HB.out | apply below_alloc | apply pw_below_drewN | apply below_drew1) | exact HB.out))) : w.heap.size ≤ gb391)); clear HB; have HB := n0_; have BK391 := n1_; have GW391 := n2_; have GE391 := n3_; clear n0_ n1_ n2_ n3_; clear hb hbox hg; have hcz6_0 : w5.cell? ⟨gb391, 0, none⟩ = some (.int .i64 a0_0) := (blk_cell BK391.out 0).trans rfl; have hcz6_1 : w5.cell? ⟨gb391, 1, none⟩ = some (.slice A0_1 l0_1.length c0_1) := (blk_cell BK391.out 1).trans rfl; have hcz6_2 : w5.cell? ⟨gb391, 2, none⟩ = some (.slice A0_2 l0_2.length c0_2) := (blk_cell BK391.out 2).trans rfl; have hcz6_3 : w5.cell? ⟨gb391, 3, none⟩ = some (.slice A0_3 l0_3.length c0_3) := (blk_cell BK391.out 3).trans rfl; have hcz6_4 : w5.cell? ⟨gb391, 4, none⟩ = some (.slice A0_4 l0_4.length c0_4) := (blk_cell BK391.out 4).trans rfl; have hcz6_5 : w5.cell? ⟨gb391, 5, none⟩ = some (.slice A0_5 l0_5.length c0_5) := (blk_cell BK391.out 5).trans rfl; have hfz6_0 := blk_frozen BK391.out 0; have hfz6_1 := blk_frozen BK391.out 1; have hfz6_2 := blk_frozen BK391.out 2; have hfz6_3 := blk_frozen BK391.out 3; have hfz6_4 := blk_frozen BK391.out 4; have hfz6_5 := blk_frozen BK391.out 5) | ((with_reducible refine gate_dst (N := 12) rfl ?_); refine Kd.R_make (Kd.int .u64) _ 44 rfl (N := 12) rfl 48 _ _ rfl (l0_3.length : Int) rfl rfl Tryd.underlying48 (.int .u64 0) 8 info44 rfl (by decide) (by omega) 0 (ok := fun _ => True) (okp := fun _ => True) rfl (fun _ hk => hk) trivial (of_decide_eq_true (by first | (with_reducible assumption) | assumption)) (Nat.le_trans (Nat.mul_le_mul_right _ (of_decide_eq_true (by first | (with_reducible assumption) | assumption) : (l0_3.length : Int).toNat ≤ 35184372088832)) (by omega)) (Below.refl _ _) (Nat.le_refl _) ?_; intro v393 w7 ho8 hb hg_ hnew_; clear hg_ hnew_; (first | rw [← Ny392.out] at ho8 | (simp only [Int.reduceToNat] at ho8; rw [← Ny392.out] at ho8)); have n0_ := Aside0.mk (Kd.R_lower ho8 (below_size (by repeat (first | (with_reducible first | exact HB.out | apply below_alloc | apply pw_below_drewN | apply below_drew1 | refine below_set ?_ GE391.out) | exact HB.out)))); have n1_ := Aside0.mk (blk_below (g := gb391) (o := .cells #[.int .i64 a0_0, .slice A0_1 l0_1.length c0_1, .slice A0_2 l0_2.length c0_2, .slice A0_3 l0_3.length c0_3, .slice A0_4 l0_4.length c0_4, .slice A0_5 l0_5.length c0_5] 72 (0, 0)) (by (with_reducible repeat (first | refine blk_drewN ?_ _ | refine blk_drew ?_ | refine blk_alloc ?_ _)); exact BK391.out) hb); have n2_ := Aside0.mk (below_step (by repeat (first | (with_reducible first | exact HB.out | apply below_alloc | apply pw_below_drewN | apply below_drew1 | refine below_set ?_ GE391.out) | exact HB.out)) hb); clear BK391; clear HB; have HO394 := n0_; have BK391 := n1_; have HB := n2_; clear n0_ n1_ n2_; clear hb ho8; obtain ⟨Ao9, co9, eo9⟩ := Kd.R_slice HO394.out; subst eo9))
      try go_simp
      go_loopg [15] k (fun kq v15 w' => ∃ (x5_1 : List Int) (x15_1 : Int), v15 = .int .i64 x15_1 ∧ Aside0 (tree_deep_rows_at_tree_deep_against.l0 kq x5_1 (y392.length : Int) x15_1 a1_0 l1_1 l1_2 l1_3 l1_4 l1_5 = some r) ∧ Aside0 (kq ≤ k) ∧ Aside0 (Kd.R (Kd.int .u64) 44 w' w.heap.size (fun _ => True) (.slice Ao9 y392.length co9) x5_1) ∧ Aside0 (w'.heap[gb391]? = some (.cells #[.int .i64 a0_0, (.slice A0_1 l0_1.length c0_1), (.slice A0_2 l0_2.length c0_2), (.slice A0_3 l0_3.length c0_3), (.slice A0_4 l0_4.length c0_4), (.slice A0_5 l0_5.length c0_5)] 72 (0, 0))) ∧ Aside0 (Below w.heap.size w w'))
      case atStart => exact ⟨(y392), (0), (by first | rfl | (simp; done) | (simp [*]; done)), H', ⟨Nat.le_refl _⟩, ⟨by (with_reducible repeat (first | apply Kd.R_alloc | apply Kd.R_drewN | apply Kd.R_drew)); exact HO394.out⟩, ⟨by (with_reducible repeat (first | refine blk_drewN ?_ _ | refine blk_drew ?_ | refine blk_alloc ?_ _)); exact BK391.out⟩, ⟨by repeat (first | (with_reducible first | exact HB.out | apply below_alloc | apply pw_below_drewN | apply below_drew1 | refine below_set ?_ GE391.out) | exact HB.out)⟩⟩
      case round =>
        clear H'
        try clear c1
        try clear p2
        try clear c3
        try clear c3b0
        try clear c3b1
        try clear c4
        try clear c4b0
        try clear c4b1
        try clear c7
        try clear hcz6_0
        try clear hcz6_1
        try clear hcz6_2
        try clear hcz6_3
        try clear hcz6_4
        try clear hcz6_5
        try clear hfz6_0
        try clear hfz6_1
        try clear hfz6_2
        try clear hfz6_3
        try clear hfz6_4
        try clear hfz6_5
        obtain ⟨x5_1, x15_1, rfl, HA, HK1, HO_5, BK391, HB⟩ := hrel
        have hl5_1 := (Kd.R_reads' HO_5.out).1
        rw [hl5_1] at HO_5
        (try simp only [hl5_1])
        (try simp only [hl5_1] at BK391)
        cases gk with
        | zero => exact absurd HA.out (by simp [tree_deep_rows_at_tree_deep_against.l0])
        | succ k1 =>
          have H := HA.out
          clear HA
          simp only [tree_deep_rows_at_tree_deep_against.l0] at H
          by_cases c10 : x15_1 < (y392.length : Int)
          · rw [if_pos c10] at H
            have c10b0 : decide (x15_1 < (y392.length : Int)) = true := decide_eq_true c10
            try (have c10b0h5_1 := c10b0; simp only [hl5_1] at c10b0h5_1)
            clear c10
            have H' := Aside0.mk H
            clear H
            go_wp2
            try go_simp
            go_loopg [20] k1 (fun kq v20 w' => ∃ (x5_2 : List Int) (x20_2 : Int), v20 = .int .i64 x20_2 ∧ Aside0 (tree_deep_rows_at_tree_deep_against.l1 kq x5_2 x15_1 (y392.length : Int) x15_1 (x5_1.length : Int) x20_2 a1_0 l1_1 l1_2 l1_3 l1_4 l1_5 = some r) ∧ Aside0 (kq ≤ k1) ∧ Aside0 (Kd.R (Kd.int .u64) 44 w' w.heap.size (fun _ => True) (.slice Ao9 x5_1.length co9) x5_2) ∧ Aside0 (w'.heap[gb391]? = some (.cells #[.int .i64 a0_0, (.slice A0_1 l0_1.length c0_1), (.slice A0_2 l0_2.length c0_2), (.slice A0_3 l0_3.length c0_3), (.slice A0_4 l0_4.length c0_4), (.slice A0_5 l0_5.length c0_5)] 72 (0, 0))) ∧ Aside0 (Below w.heap.size w w'))
            case atStart => exact ⟨(x5_1), (0), (by first | rfl | (simp; done) | (simp [*]; done)), H', ⟨Nat.le_refl _⟩, ⟨by (try simp only [hl5_1]); (with_reducible repeat (first | apply Kd.R_alloc | apply Kd.R_drewN | apply Kd.R_drew)); exact HO_5.out⟩, ⟨by (try simp only [hl5_1]); (with_reducible repeat (first | refine blk_drewN ?_ _ | refine blk_drew ?_ | refine blk_alloc ?_ _)); exact BK391.out⟩, ⟨by repeat (first | (with_reducible first | exact HB.out | apply below_alloc | apply pw_below_drewN | apply below_drew1 | refine below_set ?_ GE391.out) | exact HB.out)⟩⟩
            case round =>
              clear H'
              try clear c1
              try clear p2
              try clear c3
              try clear c3b0
              try clear c3b1
              try clear c4
              try clear c4b0
              try clear c4b1
              try clear c7
              try clear c10
              try clear c10b0
              try clear hcz6_0
              try clear hcz6_1
              try clear hcz6_2
              try clear hcz6_3
              try clear hcz6_4
              try clear hcz6_5
              try clear hfz6_0
              try clear hfz6_1
              try clear hfz6_2
              try clear hfz6_3
              try clear hfz6_4
              try clear hfz6_5
              try clear p2
              obtain ⟨x5_2, x20_2, rfl, HA, HK2, HO_5, BK391, HB⟩ := hrel
              have hl5_2 := (Kd.R_reads' HO_5.out).1
              rw [hl5_2] at HO_5
              (try simp only [hl5_2])
              (try simp only [hl5_2] at BK391)
              cases gk with
              | zero => exact absurd HA.out (by simp [tree_deep_rows_at_tree_deep_against.l1])
              | succ k2 =>
                have H := HA.out
                clear HA
                simp only [tree_deep_rows_at_tree_deep_against.l1] at H
                by_cases c11 : x20_2 < (x5_1.length : Int)
                · rw [if_pos c11] at H
                  have c11b0 : decide (x20_2 < (x5_1.length : Int)) = true := decide_eq_true c11
                  try (have c11b0h5_1 := c11b0; simp only [hl5_1] at c11b0h5_1)
                  try (have c11b0h5_2 := c11b0; simp only [hl5_2] at c11b0h5_2)
                  clear c11
                  replace H := Option.bind_eq_some_iff.mp H
                  obtain ⟨t395, A120, H⟩ := H
                  replace H : (if t395 = true then (if 0 ≤ x15_1 then (if x15_1 < (x5_2.length : Int) then ((bits_Put.f (rd x5_2 x15_1) x20_2).bind fun t397 => (tree_deep_rows_at_tree_deep_against.l1 k2 (x5_2.set (x15_1 : Int).toNat t397) x15_1 (y392.length : Int) x15_1 (x5_1.length : Int) (wrap64 (x20_2 + 1)) a1_0 l1_1 l1_2 l1_3 l1_4 l1_5)) else (none)) else (none)) else (tree_deep_rows_at_tree_deep_against.l1 k2 x5_2 x15_1 (y392.length : Int) x15_1 (x5_1.length : Int) (wrap64 (x20_2 + 1)) a1_0 l1_1 l1_2 l1_3 l1_4 l1_5)) = some r := H
                  have A12 := Aside0.mk A120
                  clear A120
                  by_cases c13 : t395 = true
                  · subst c13
                    have H1 : (if 0 ≤ x15_1 then (if x15_1 < (x5_2.length : Int) then ((bits_Put.f (rd x5_2 x15_1) x20_2).bind fun t397 => (tree_deep_rows_at_tree_deep_against.l1 k2 (x5_2.set (x15_1 : Int).toNat t397) x15_1 (y392.length : Int) x15_1 (x5_1.length : Int) (wrap64 (x20_2 + 1)) a1_0 l1_1 l1_2 l1_3 l1_4 l1_5)) else (none)) else (none)) = some r := by rw [if_pos rfl] at H; exact H
                    clear H
                    have H := H1
                    clear H1
                    by_cases c14 : 0 ≤ x15_1
                    · rw [if_pos c14] at H
                      have c14b0 : decide (0 ≤ x15_1) = true := decide_eq_true c14
                      clear c14
                      by_cases c15 : x15_1 < (x5_2.length : Int)
                      · rw [if_pos c15] at H
                        have c15b0 : decide (x15_1 < (x5_2.length : Int)) = true := decide_eq_true c15
                        try (have c15b0h5_1 := c15b0; simp only [hl5_1] at c15b0h5_1)
                        try (have c15b0h5_2 := c15b0; simp only [hl5_2] at c15b0h5_2)
                        clear c15
                        replace H := Option.bind_eq_some_iff.mp H
                        obtain ⟨t397, A160, H⟩ := H
                        replace H : (tree_deep_rows_at_tree_deep_against.l1 k2 (x5_2.set (x15_1 : Int).toNat t397) x15_1 (y392.length : Int) x15_1 (x5_1.length : Int) (wrap64 (x20_2 + 1)) a1_0 l1_1 l1_2 l1_3 l1_4 l1_5) = some r := H
                        have A16 := Aside0.mk A160
                        clear A160
                        obtain ⟨y398, hy398⟩ : ∃ y_ : List Int, y_ = (x5_2.set (x15_1 : Int).toNat t397) := ⟨_, rfl⟩
                        replace H : (tree_deep_rows_at_tree_deep_against.l1 k2 y398 x15_1 (y392.length : Int) x15_1 (x5_1.length : Int) (wrap64 (x20_2 + 1)) a1_0 l1_1 l1_2 l1_3 l1_4 l1_5) = some r := by first | (rw [hy398]; with_reducible exact H) | (have H2_ := (Option.bind_some _ _).symm.trans H; rw [hy398]; with_reducible exact H2_) | (have H2_ := (Option.bind_some _ _).symm.trans H; with_reducible exact H2_) | with_reducible exact H | (rw [hy398]; exact H) | exact H
                        have Ny398 := Aside0.mk hy398
                        clear hy398
                        have H' := Aside0.mk H
                        clear H
                        go_wp2_with (first | (go_at_call 41; (with_reducible refine (tree_deep_against.calls a1_0 _ _ l1_1 _ _ l1_2 _ _ l1_3 _ _ l1_4 _ _ l1_5 x15_1 x20_2 true _ ?side1 ?side2 ?side3 ?side4 ?side5 ?side6 ?side7 ?side8 ?side9 ?side10 A12.out).mono ?_); (case side1 => repeat (first | exact (Kd.C_below HR1_1.out HB.out) | (with_reducible refine Kd.C_alloc ?_ _) | (with_reducible refine Kd.C_drewN ?_ _) | (with_reducible refine Kd.C_drew ?_))); (case side2 => exact HC1_1.out); (case side3 => repeat (first | exact (Kd.C_below HR1_2.out HB.out) | (with_reducible refine Kd.C_alloc ?_ _) | (with_reducible refine Kd.C_drewN ?_ _) | (with_reducible refine Kd.C_drew ?_))); (case side4 => exact HC1_2.out); (case side5 => repeat (first | exact (Kd.C_below HR1_3.out HB.out) | (with_reducible refine Kd.C_alloc ?_ _) | (with_reducible refine Kd.C_drewN ?_ _) | (with_reducible refine Kd.C_drew ?_))); (case side6 => exact HC1_3.out); (case side7 => repeat (first | exact (Kd.C_below HR1_4.out HB.out) | (with_reducible refine Kd.C_alloc ?_ _) | (with_reducible refine Kd.C_drewN ?_ _) | (with_reducible refine Kd.C_drew ?_))); (case side8 => exact HC1_4.out); (case side9 => repeat (first | exact (Kd.C_below HR1_5.out HB.out) | (with_reducible refine Kd.C_alloc ?_ _) | (with_reducible refine Kd.C_drewN ?_ _) | (with_reducible refine Kd.C_drew ?_))); (case side10 => exact HC1_5.out); rintro e w18 ⟨rfl, hb⟩; have n0_ := Aside0.mk (Kd.R_below (by (with_reducible repeat (first | apply Kd.R_alloc | apply Kd.R_drewN | apply Kd.R_drew)); exact HO_5.out) hb); have n1_ := Aside0.mk (blk_below (g := gb391) (o := .cells #[.int .i64 a0_0, .slice A0_1 l0_1.length c0_1, .slice A0_2 l0_2.length c0_2, .slice A0_3 l0_3.length c0_3, .slice A0_4 l0_4.length c0_4, .slice A0_5 l0_5.length c0_5] 72 (0, 0)) (by (with_reducible repeat (first | refine blk_drewN ?_ _ | refine blk_drew ?_ | refine blk_alloc ?_ _)); exact BK391.out) hb); have n2_ := Aside0.mk (below_step (by repeat (first | (with_reducible first | exact HB.out | apply below_alloc | apply pw_below_drewN | apply below_drew1 | refine below_set ?_ GE391.out) | exact HB.out)) hb); clear HO_5; clear BK391; clear HB; have HO_5 := n0_; have BK391 := n1_; have HB := n2_; clear n0_ n1_ n2_; (try clear hb); (try clear hb2); (try clear hk); (try clear hi); have p396 : 0 ≤ (x15_1 : Int) := of_decide_eq_true (by first | (with_reducible assumption) | assumption); have q396 : x15_1 < (x5_2.length : Int) := of_decide_eq_true (by first | (with_reducible assumption) | assumption); obtain ⟨ad396, e396, hx396_0⟩ := Kd.at_int (Kd.R_reads' HO_5.out).2.2 x15_1 p396 q396; cases e396; replace p396 := eq_true p396; replace q396 := eq_true q396) | ((with_reducible refine gate_callee (f := 42) rfl ?_); refine goesL_ (some 34) rfl rfl Tryd.func42 (by kernel_rfl) rfl #[.int .u64 (rd x5_2 x15_1), .int .i64 x20_2] rfl (by (try simp only [List.map_toArray, List.map_cons, List.map_nil]); first | done | rfl | (simp only [List.length_drop, List.length_take]; rfl)) ?_; (with_reducible refine (bits_Put.calls (rd x5_2 x15_1) x20_2 t397 _ A16.out).mono ?_); rintro e w' ⟨rfl, ⟨nd, rfl⟩⟩; refine ⟨_, rfl, ?_⟩; (try (rw [drewN_self w18]; generalize hq_ : World.drewN w18 _ = w18; have n0_ : Aside0 (Kd.R (Kd.int .u64) 44 w18 w.heap.size (fun _ => True) (.slice (some ad396) x5_2.length co9) x5_2) := ⟨by rw [← hq_]; exact (by (with_reducible repeat (first | apply Kd.R_alloc | apply Kd.R_drewN | apply Kd.R_drew)); exact HO_5.out)⟩; have n1_ : Aside0 (w18.heap[gb391]? = some (.cells #[.int .i64 a0_0, .slice A0_1 l0_1.length c0_1, .slice A0_2 l0_2.length c0_2, .slice A0_3 l0_3.length c0_3, .slice A0_4 l0_4.length c0_4, .slice A0_5 l0_5.length c0_5] 72 (0, 0))) := ⟨by rw [← hq_]; exact (by (with_reducible repeat (first | refine blk_drewN ?_ _ | refine blk_drew ?_ | refine blk_alloc ?_ _)); exact BK391.out)⟩; have n2_ : Aside0 (Below w.heap.size w w18) := ⟨by rw [← hq_]; exact (by repeat (first | (with_reducible first | exact HB.out | apply below_alloc | apply pw_below_drewN | apply below_drew1 | refine below_set ?_ GE391.out) | exact HB.out))⟩; clear HO_5 BK391 HB hq_; have HO_5 := n0_; have BK391 := n1_; have HB := n2_; clear n0_ n1_ n2_)); have p17 : 0 ≤ (x15_1 : Int) := of_decide_eq_true (by first | (with_reducible assumption) | assumption); have q17 : (x15_1 : Int) < ((x5_2.length : Int) : Int) := of_decide_eq_true (by first | (with_reducible assumption) | assumption); obtain ⟨go17, co17, eo17, gb17, gl17, cl17, HG17⟩ := Kd.R_form HO_5.out (by omega); (first | cases eo17 | (injection eo17 with ea_ en_ ec_; (first | subst ea_ | (injection ea_ with ea_; subst ea_)); subst ec_; clear en_)); have GB17 := Aside0.mk gb17; have GG17 := Aside0.mk HG17; clear gb17 gl17 HG17; (first | simp only [add_plain] at hx396_0 | skip); obtain ⟨hx17_0, hf17_0⟩ := Kd.R_celln 0 HO_5.out (x15_1 : Int) p17 q17; replace p17 := eq_true p17; replace q17 := eq_true q17; obtain ⟨hy19_, hz19_⟩ := Kd.R_celln 0 HO_5.out (x15_1 : Int) (of_decide_eq_true (by first | (with_reducible assumption) | assumption)) (of_decide_eq_true (by first | (with_reducible assumption) | assumption)); have HP19 := Kd.R_putg HO_5.out (x15_1 : Int) t397) | ((with_reducible refine gate_store (t := 44) (p := 35) rfl ?_); refine store_event (t := 44) (p := 35) (v := ?vo_w20) (w1 := (w18.setCell ⟨go17, (x15_1 : Int).toNat, none⟩ (.int .u64 t397))) ?hg ?ho ?hn ?hr ?_; (case ho => rfl); (case hg => rfl); (case hn => rfl); (case hr => first | (go_simp; done) | (go_simp; rfl)); intro w20 hw; have hg : w18.grownBy w20 (some go17) := (by rw [hw]; exact HP19.2); have hp_ : Kd.R (Kd.int .u64) 44 w20 w.heap.size (fun _ => True) (.slice (some ⟨go17, 0, none⟩) x5_2.length co9) y398 := (by rw [hw, Ny398.out]; exact HP19.1); clear HP19; have n0_ := Aside0.mk (hp_); have n1_ := Aside0.mk (blk_grown (g := gb391) (o := .cells #[.int .i64 a0_0, .slice A0_1 l0_1.length c0_1, .slice A0_2 l0_2.length c0_2, .slice A0_3 l0_3.length c0_3, .slice A0_4 l0_4.length c0_4, .slice A0_5 l0_5.length c0_5] 72 (0, 0)) (by (with_reducible repeat (first | refine blk_drewN ?_ _ | refine blk_drew ?_ | refine blk_alloc ?_ _)); exact BK391.out) hg (Kd.R_ne HO_5.out BK391.out (by decide))); have n2_ := Aside0.mk ((by rw [hw]; exact below_set (HB.out) GB17.out : Below w.heap.size w w20)); clear HO_5; clear BK391; clear HB; have HO_5 := n0_; have BK391 := n1_; have HB := n2_; clear n0_ n1_ n2_; clear hg hw hp_))
                        (try simp only [← hl5_2])
                        go_roundg k2
                        case measure => have := HK1.out; have := HK2.out; omega
                        case rel => exact ⟨(y398), (wrap64 (x20_2 + 1)), (by first | rfl | (simp; done) | (simp [*]; done)), H', ⟨by have := HK1.out; have := HK2.out; omega⟩, ⟨by (try simp only [hl5_1]); (try simp only [hl5_2]); (with_reducible repeat (first | apply Kd.R_alloc | apply Kd.R_drewN | apply Kd.R_drew)); exact HO_5.out⟩, ⟨by (try simp only [hl5_1]); (try simp only [hl5_2]); (with_reducible repeat (first | refine blk_drewN ?_ _ | refine blk_drew ?_ | refine blk_alloc ?_ _)); exact BK391.out⟩, ⟨by repeat (first | (with_reducible first | exact HB.out | apply below_alloc | apply pw_below_drewN | apply below_drew1 | refine below_set ?_ GE391.out) | exact HB.out)⟩⟩
                      · rw [if_neg c15] at H
                        exact absurd H (by simp)
                    · rw [if_neg c14] at H
                      exact absurd H (by simp)
                  · replace c13 := Bool.eq_false_iff.mpr c13
                    subst c13
                    have H1 : (tree_deep_rows_at_tree_deep_against.l1 k2 x5_2 x15_1 (y392.length : Int) x15_1 (x5_1.length : Int) (wrap64 (x20_2 + 1)) a1_0 l1_1 l1_2 l1_3 l1_4 l1_5) = some r := by rw [if_neg (show ¬ (false = true) by decide)] at H; exact H
                    clear H
                    have H := H1
                    clear H1
                    have H' := Aside0.mk H
                    clear H
                    go_wp2_with (first | (go_at_call 41; (with_reducible refine (tree_deep_against.calls a1_0 _ _ l1_1 _ _ l1_2 _ _ l1_3 _ _ l1_4 _ _ l1_5 x15_1 x20_2 false _ ?side1 ?side2 ?side3 ?side4 ?side5 ?side6 ?side7 ?side8 ?side9 ?side10 A12.out).mono ?_); (case side1 => repeat (first | exact (Kd.C_below HR1_1.out HB.out) | (with_reducible refine Kd.C_alloc ?_ _) | (with_reducible refine Kd.C_drewN ?_ _) | (with_reducible refine Kd.C_drew ?_))); (case side2 => exact HC1_1.out); (case side3 => repeat (first | exact (Kd.C_below HR1_2.out HB.out) | (with_reducible refine Kd.C_alloc ?_ _) | (with_reducible refine Kd.C_drewN ?_ _) | (with_reducible refine Kd.C_drew ?_))); (case side4 => exact HC1_2.out); (case side5 => repeat (first | exact (Kd.C_below HR1_3.out HB.out) | (with_reducible refine Kd.C_alloc ?_ _) | (with_reducible refine Kd.C_drewN ?_ _) | (with_reducible refine Kd.C_drew ?_))); (case side6 => exact HC1_3.out); (case side7 => repeat (first | exact (Kd.C_below HR1_4.out HB.out) | (with_reducible refine Kd.C_alloc ?_ _) | (with_reducible refine Kd.C_drewN ?_ _) | (with_reducible refine Kd.C_drew ?_))); (case side8 => exact HC1_4.out); (case side9 => repeat (first | exact (Kd.C_below HR1_5.out HB.out) | (with_reducible refine Kd.C_alloc ?_ _) | (with_reducible refine Kd.C_drewN ?_ _) | (with_reducible refine Kd.C_drew ?_))); (case side10 => exact HC1_5.out); rintro e w21 ⟨rfl, hb⟩; have n0_ := Aside0.mk (Kd.R_below (by (with_reducible repeat (first | apply Kd.R_alloc | apply Kd.R_drewN | apply Kd.R_drew)); exact HO_5.out) hb); have n1_ := Aside0.mk (blk_below (g := gb391) (o := .cells #[.int .i64 a0_0, .slice A0_1 l0_1.length c0_1, .slice A0_2 l0_2.length c0_2, .slice A0_3 l0_3.length c0_3, .slice A0_4 l0_4.length c0_4, .slice A0_5 l0_5.length c0_5] 72 (0, 0)) (by (with_reducible repeat (first | refine blk_drewN ?_ _ | refine blk_drew ?_ | refine blk_alloc ?_ _)); exact BK391.out) hb); have n2_ := Aside0.mk (below_step (by repeat (first | (with_reducible first | exact HB.out | apply below_alloc | apply pw_below_drewN | apply below_drew1 | refine below_set ?_ GE391.out) | exact HB.out)) hb); clear HO_5; clear BK391; clear HB; have HO_5 := n0_; have BK391 := n1_; have HB := n2_; clear n0_ n1_ n2_; (try clear hb); (try clear hb2); (try clear hk); (try clear hi)))
                    (try simp only [← hl5_2])
                    go_roundg k2
                    case measure => have := HK1.out; have := HK2.out; omega
                    case rel => exact ⟨(x5_2), (wrap64 (x20_2 + 1)), (by first | rfl | (simp; done) | (simp [*]; done)), H', ⟨by have := HK1.out; have := HK2.out; omega⟩, ⟨by (try simp only [hl5_1]); (try simp only [hl5_2]); (with_reducible repeat (first | apply Kd.R_alloc | apply Kd.R_drewN | apply Kd.R_drew)); exact HO_5.out⟩, ⟨by (try simp only [hl5_1]); (try simp only [hl5_2]); (with_reducible repeat (first | refine blk_drewN ?_ _ | refine blk_drew ?_ | refine blk_alloc ?_ _)); exact BK391.out⟩, ⟨by repeat (first | (with_reducible first | exact HB.out | apply below_alloc | apply pw_below_drewN | apply below_drew1 | refine below_set ?_ GE391.out) | exact HB.out)⟩⟩
                · rw [if_neg c11] at H
                  have c11b0 : decide (x20_2 < (x5_1.length : Int)) = false := decide_eq_false c11
                  try (have c11b0h5_1 := c11b0; simp only [hl5_1] at c11b0h5_1)
                  try (have c11b0h5_2 := c11b0; simp only [hl5_2] at c11b0h5_2)
                  clear c11
                  have H' := Aside0.mk H
                  clear H
                  go_wp2
                  (try simp only [← hl5_1, ← hl5_2])
                  go_roundg k2
                  case measure => have := HK1.out; have := HK2.out; omega
                  case rel => exact ⟨(x5_2), (wrap64 (x15_1 + 1)), (by first | rfl | (simp; done) | (simp [*]; done)), H', ⟨by have := HK1.out; have := HK2.out; omega⟩, ⟨by (try simp only [hl5_1]); (try simp only [hl5_2]); (with_reducible repeat (first | apply Kd.R_alloc | apply Kd.R_drewN | apply Kd.R_drew)); exact HO_5.out⟩, ⟨by (try simp only [hl5_1]); (try simp only [hl5_2]); (with_reducible repeat (first | refine blk_drewN ?_ _ | refine blk_drew ?_ | refine blk_alloc ?_ _)); exact BK391.out⟩, ⟨by repeat (first | (with_reducible first | exact HB.out | apply below_alloc | apply pw_below_drewN | apply below_drew1 | refine below_set ?_ GE391.out) | exact HB.out)⟩⟩
          · rw [if_neg c10] at H
            have c10b0 : decide (x15_1 < (y392.length : Int)) = false := decide_eq_false c10
            try (have c10b0h5_1 := c10b0; simp only [hl5_1] at c10b0h5_1)
            try (have c10b0h5_2 := c10b0; simp only [hl5_2] at c10b0h5_2)
            clear c10
            obtain rfl := Option.some.inj H
            go_wp2
            go_ret
            exact ⟨_, by first | rfl | (simp [errW_none, errW_some] <;> rfl) | (simp [*, errW_none, errW_some] <;> rfl), by (with_reducible repeat (first | apply Kd.R_alloc | apply Kd.R_drewN | apply Kd.R_drew)); exact HO_5.out, by repeat (first | (with_reducible first | exact HB.out | apply below_alloc | apply pw_below_drewN | apply below_drew1 | refine below_set ?_ GE391.out) | exact HB.out)⟩
    · rw [if_neg c4] at H
      exact absurd H (by simp)
  · rw [if_neg c3] at H
    exact absurd H (by simp)

end Go.Proofs.YtlpdcdkjmcpfdaaDoor.PT
