-- made by fvprint.py over the kit's print
import Derived.Test.YtmifncmnchnioaaPLx0
import Derived.Test.YtmifncmnchnioaaPLx1
import Derived.Test.YtmifncmnchnioaaPLx2
import Derived.Test.YtmifncmnchnioaaPLx4
import Derived.Test.YtmifncmnchnioaaPLx5
import Derived.Test.YtmifncmnchnioaaPLx6
namespace Go.Proofs.Ytmifncmnchnioaa.PL
open Go.RowKit Go.Proofs.YtmifncmnchnioaaW.PrintWords Go.Proofs.YtmifncmnchnioaaW.PrintLast Go.Proofs.YtmifncmnchnioaaW.PrintMore
attribute [local go_sem] max2_int min2_int max_two min_two max_three min_three max_four min_four   -- for this text's walks alone
set_option linter.unusedVariables false
set_option linter.unusedSimpArgs false

attribute [local go_sem high] eqA26 eqA37
attribute [local go_sem] cell_set_some
/-! ### slices_Contains_string_string: function 25 -/
def slices_Contains_string_string.f (k : Nat) (l0 : List ByteArray) (a1 : ByteArray) : Option (Bool) := (slices_Index_string_string.f k l0 a1).bind fun t138 => (some (decide (t138 ≥ 0)))
theorem slices_Contains_string_string.mono : ∀ a0 a1 k, LeO (slices_Contains_string_string.f k a0 a1) (slices_Contains_string_string.f (k + 1) a0 a1) := by
  intro a0 a1 k
  unfold slices_Contains_string_string.f
  repeat' first
      | (with_reducible exact slices_Index_string_string.mono _ _ _)
      | (with_reducible exact LeO.refl _)
      | (with_reducible exact LeO.none _)
      | (with_reducible refine LeO.ite ?_ ?_)
      | (with_reducible refine LeO.bind ?_ (fun _ => ?_))
      | exact slices_Index_string_string.mono _ _ _
      | exact LeO.none _
      | refine LeO.ite ?_ ?_
      | refine LeO.bind ?_ (fun _ => ?_)
set_option maxHeartbeats 8000000 in
set_option maxRecDepth 100000 in
theorem slices_Contains_string_string.calls (k : Nat) (A0 : Option Addr) (c0 : Nat) (l0 : List ByteArray) (a1 : ByteArray) (r : Bool) (w : World) (hr0 : Kd.C Kd.string w A0 l0.length l0) (hc0 : l0.length ≤ c0) (h : slices_Contains_string_string.f k l0 a1 = some r) :
    Calls Try.prog 25 #[.slice A0 l0.length c0, .string a1] w fun e w' => e = .returned (.bool r) ∧ Drawn0 w w' := by
  have HR0 := Aside0.mk hr0
  have HC0 := Aside0.mk hc0
  clear hr0 hc0
  have H : ((slices_Index_string_string.f k l0 a1).bind fun t138 => (some (decide (t138 ≥ 0)))) = some r := h
  clear h
  replace H := Option.bind_eq_some_iff.mp H
  obtain ⟨t138, A30, H⟩ := H
  replace H : (some (decide (t138 ≥ 0))) = some r := H
  have A3 := Aside0.mk A30
  clear A30
  obtain rfl := Option.some.inj H
  go_enter Try.func25, Try.ntmps25
  go_wp2_with (first | ((with_reducible refine gate_callee (f := 36) rfl ?_); refine goesL_ (some 7) rfl rfl Try.func36 (by kernel_rfl) rfl #[.slice A0 l0.length c0, .string a1] rfl (by (try simp only [List.map_toArray, List.map_cons, List.map_nil]); first | done | rfl | (simp only [List.length_drop, List.length_take]; rfl)) ?_; (with_reducible refine (slices_Index_string_string.calls k _ _ l0 a1 t138 _ ?side1 ?side2 A3.out).mono ?_); (case side1 => repeat (first | exact HR0.out | (with_reducible refine Kd.C_alloc ?_ _) | (with_reducible refine Kd.C_drewN ?_ _) | (with_reducible refine Kd.C_drew ?_))); (case side2 => exact HC0.out); rintro e w' ⟨rfl, ⟨nd, rfl⟩⟩; refine ⟨_, rfl, ?_⟩))
  go_ret
  exact ⟨by first | rfl | (simp; done) | (simp [*]; done), by repeat (first | exact Drawn0.refl _ | apply Drawn0.step)⟩

/-! ### lex_Keyword: function 12 -/
def lex_Keyword.f (k : Nat) (a0 : ByteArray) : Option (Bool) := (slices_Contains_string_string.f k (([(⟨#[108, 105, 116, 109, 117, 115]⟩ : ByteArray), (⟨#[118, 97, 108, 117, 101, 115]⟩ : ByteArray), (⟨#[105, 110, 105, 116]⟩ : ByteArray), (⟨#[116, 104, 114, 101, 97, 100]⟩ : ByteArray), (⟨#[108, 111, 97, 100]⟩ : ByteArray), (⟨#[97, 100, 100]⟩ : ByteArray), (⟨#[99, 97, 115]⟩ : ByteArray), (⟨#[115, 116, 111, 114, 101]⟩ : ByteArray), (⟨#[102, 101, 110, 99, 101]⟩ : ByteArray), (⟨#[105, 102]⟩ : ByteArray), (⟨#[101, 108, 115, 101]⟩ : ByteArray), (⟨#[101, 120, 105, 115, 116, 115]⟩ : ByteArray), (⟨#[102, 111, 114, 97, 108, 108]⟩ : ByteArray), (⟨#[97, 110, 100]⟩ : ByteArray), (⟨#[111, 114]⟩ : ByteArray), (⟨#[110, 111, 116]⟩ : ByteArray), (⟨#[114, 108, 120]⟩ : ByteArray), (⟨#[97, 99, 113]⟩ : ByteArray), (⟨#[114, 101, 108]⟩ : ByteArray), (⟨#[97, 99, 113, 114, 101, 108]⟩ : ByteArray), (⟨#[115, 99]⟩ : ByteArray)] : List ByteArray)) a0).bind fun t142 => (some t142)
theorem lex_Keyword.mono : ∀ a0 k, LeO (lex_Keyword.f k a0) (lex_Keyword.f (k + 1) a0) := by
  intro a0 k
  unfold lex_Keyword.f
  repeat' first
      | (with_reducible exact slices_Contains_string_string.mono _ _ _)
      | (with_reducible exact LeO.refl _)
      | (with_reducible exact LeO.none _)
      | (with_reducible refine LeO.ite ?_ ?_)
      | (with_reducible refine LeO.bind ?_ (fun _ => ?_))
      | exact slices_Contains_string_string.mono _ _ _
      | exact LeO.none _
      | refine LeO.ite ?_ ?_
      | refine LeO.bind ?_ (fun _ => ?_)
set_option maxHeartbeats 8000000 in
set_option maxRecDepth 100000 in
theorem lex_Keyword.calls (k : Nat) (a0 : ByteArray) (r : Bool) (w : World) (h : lex_Keyword.f k a0 = some r) :
    Calls Try.prog 12 #[.string a0] w fun e w' => e = .returned (.bool r) ∧ Below w.heap.size w w' := by
  have HB := Aside0.mk (Below.refl w.heap.size w)
  have H : ((slices_Contains_string_string.f k (([(⟨#[108, 105, 116, 109, 117, 115]⟩ : ByteArray), (⟨#[118, 97, 108, 117, 101, 115]⟩ : ByteArray), (⟨#[105, 110, 105, 116]⟩ : ByteArray), (⟨#[116, 104, 114, 101, 97, 100]⟩ : ByteArray), (⟨#[108, 111, 97, 100]⟩ : ByteArray), (⟨#[97, 100, 100]⟩ : ByteArray), (⟨#[99, 97, 115]⟩ : ByteArray), (⟨#[115, 116, 111, 114, 101]⟩ : ByteArray), (⟨#[102, 101, 110, 99, 101]⟩ : ByteArray), (⟨#[105, 102]⟩ : ByteArray), (⟨#[101, 108, 115, 101]⟩ : ByteArray), (⟨#[101, 120, 105, 115, 116, 115]⟩ : ByteArray), (⟨#[102, 111, 114, 97, 108, 108]⟩ : ByteArray), (⟨#[97, 110, 100]⟩ : ByteArray), (⟨#[111, 114]⟩ : ByteArray), (⟨#[110, 111, 116]⟩ : ByteArray), (⟨#[114, 108, 120]⟩ : ByteArray), (⟨#[97, 99, 113]⟩ : ByteArray), (⟨#[114, 101, 108]⟩ : ByteArray), (⟨#[97, 99, 113, 114, 101, 108]⟩ : ByteArray), (⟨#[115, 99]⟩ : ByteArray)] : List ByteArray)) a0).bind fun t142 => (some t142)) = some r := h
  clear h
  obtain ⟨y139, hy139⟩ : ∃ y_ : List ByteArray, y_ = (([(⟨#[108, 105, 116, 109, 117, 115]⟩ : ByteArray), (⟨#[118, 97, 108, 117, 101, 115]⟩ : ByteArray), (⟨#[105, 110, 105, 116]⟩ : ByteArray), (⟨#[116, 104, 114, 101, 97, 100]⟩ : ByteArray), (⟨#[108, 111, 97, 100]⟩ : ByteArray), (⟨#[97, 100, 100]⟩ : ByteArray), (⟨#[99, 97, 115]⟩ : ByteArray), (⟨#[115, 116, 111, 114, 101]⟩ : ByteArray), (⟨#[102, 101, 110, 99, 101]⟩ : ByteArray), (⟨#[105, 102]⟩ : ByteArray), (⟨#[101, 108, 115, 101]⟩ : ByteArray), (⟨#[101, 120, 105, 115, 116, 115]⟩ : ByteArray), (⟨#[102, 111, 114, 97, 108, 108]⟩ : ByteArray), (⟨#[97, 110, 100]⟩ : ByteArray), (⟨#[111, 114]⟩ : ByteArray), (⟨#[110, 111, 116]⟩ : ByteArray), (⟨#[114, 108, 120]⟩ : ByteArray), (⟨#[97, 99, 113]⟩ : ByteArray), (⟨#[114, 101, 108]⟩ : ByteArray), (⟨#[97, 99, 113, 114, 101, 108]⟩ : ByteArray), (⟨#[115, 99]⟩ : ByteArray)] : List ByteArray)) := ⟨_, rfl⟩
  replace H : ((slices_Contains_string_string.f k y139 a0).bind fun t142 => (some t142)) = some r := by first | (rw [hy139]; with_reducible exact H) | (have H2_ := (Option.bind_some _ _).symm.trans H; rw [hy139]; with_reducible exact H2_) | (have H2_ := (Option.bind_some _ _).symm.trans H; with_reducible exact H2_) | with_reducible exact H | (rw [hy139]; exact H) | exact H
  have Ny139 := Aside0.mk hy139
  clear hy139
  replace H := Option.bind_eq_some_iff.mp H
  obtain ⟨t142, A20, H⟩ := H
  replace H : (some t142) = some r := H
  have A2 := Aside0.mk A20
  clear A20
  obtain rfl := Option.some.inj H
  go_enter Try.func12, Try.ntmps12
  go_wp2_with (first | ((with_reducible refine gate_dst (N := 3) rfl ?_); refine Kd.R_lit Kd.string _ 9 ?hg (N := 3) ?hd (xs := ([(⟨#[108, 105, 116, 109, 117, 115]⟩ : ByteArray), (⟨#[118, 97, 108, 117, 101, 115]⟩ : ByteArray), (⟨#[105, 110, 105, 116]⟩ : ByteArray), (⟨#[116, 104, 114, 101, 97, 100]⟩ : ByteArray), (⟨#[108, 111, 97, 100]⟩ : ByteArray), (⟨#[97, 100, 100]⟩ : ByteArray), (⟨#[99, 97, 115]⟩ : ByteArray), (⟨#[115, 116, 111, 114, 101]⟩ : ByteArray), (⟨#[102, 101, 110, 99, 101]⟩ : ByteArray), (⟨#[105, 102]⟩ : ByteArray), (⟨#[101, 108, 115, 101]⟩ : ByteArray), (⟨#[101, 120, 105, 115, 116, 115]⟩ : ByteArray), (⟨#[102, 111, 114, 97, 108, 108]⟩ : ByteArray), (⟨#[97, 110, 100]⟩ : ByteArray), (⟨#[111, 114]⟩ : ByteArray), (⟨#[110, 111, 116]⟩ : ByteArray), (⟨#[114, 108, 120]⟩ : ByteArray), (⟨#[97, 99, 113]⟩ : ByteArray), (⟨#[114, 101, 108]⟩ : ByteArray), (⟨#[97, 99, 113, 114, 101, 108]⟩ : ByteArray), (⟨#[115, 99]⟩ : ByteArray)] : List ByteArray)) (inner := [.string (⟨#[108, 105, 116, 109, 117, 115]⟩ : ByteArray), .string (⟨#[118, 97, 108, 117, 101, 115]⟩ : ByteArray), .string (⟨#[105, 110, 105, 116]⟩ : ByteArray), .string (⟨#[116, 104, 114, 101, 97, 100]⟩ : ByteArray), .string (⟨#[108, 111, 97, 100]⟩ : ByteArray), .string (⟨#[97, 100, 100]⟩ : ByteArray), .string (⟨#[99, 97, 115]⟩ : ByteArray), .string (⟨#[115, 116, 111, 114, 101]⟩ : ByteArray), .string (⟨#[102, 101, 110, 99, 101]⟩ : ByteArray), .string (⟨#[105, 102]⟩ : ByteArray), .string (⟨#[101, 108, 115, 101]⟩ : ByteArray), .string (⟨#[101, 120, 105, 115, 116, 115]⟩ : ByteArray), .string (⟨#[102, 111, 114, 97, 108, 108]⟩ : ByteArray), .string (⟨#[97, 110, 100]⟩ : ByteArray), .string (⟨#[111, 114]⟩ : ByteArray), .string (⟨#[110, 111, 116]⟩ : ByteArray), .string (⟨#[114, 108, 120]⟩ : ByteArray), .string (⟨#[97, 99, 113]⟩ : ByteArray), .string (⟨#[114, 101, 108]⟩ : ByteArray), .string (⟨#[97, 99, 113, 114, 101, 108]⟩ : ByteArray), .string (⟨#[115, 99]⟩ : ByteArray)]) (ok := fun _ => True) (okp := fun _ => True) ?hr ?hp (fun _ hk => hk) trivial (Below.refl _ _) (Nat.le_refl _) (by simp) ?_; (case hd => rfl); (case hg => rfl); (case hr => first | (go_simp; done) | (go_simp; rfl)); (case hp => exact (Reps.one (show Kd.M Kd.string _ _ _ (⟨#[108, 105, 116, 109, 117, 115]⟩ : ByteArray) [.string (⟨#[108, 105, 116, 109, 117, 115]⟩ : ByteArray)] from rfl) (Reps.one (show Kd.M Kd.string _ _ _ (⟨#[118, 97, 108, 117, 101, 115]⟩ : ByteArray) [.string (⟨#[118, 97, 108, 117, 101, 115]⟩ : ByteArray)] from rfl) (Reps.one (show Kd.M Kd.string _ _ _ (⟨#[105, 110, 105, 116]⟩ : ByteArray) [.string (⟨#[105, 110, 105, 116]⟩ : ByteArray)] from rfl) (Reps.one (show Kd.M Kd.string _ _ _ (⟨#[116, 104, 114, 101, 97, 100]⟩ : ByteArray) [.string (⟨#[116, 104, 114, 101, 97, 100]⟩ : ByteArray)] from rfl) (Reps.one (show Kd.M Kd.string _ _ _ (⟨#[108, 111, 97, 100]⟩ : ByteArray) [.string (⟨#[108, 111, 97, 100]⟩ : ByteArray)] from rfl) (Reps.one (show Kd.M Kd.string _ _ _ (⟨#[97, 100, 100]⟩ : ByteArray) [.string (⟨#[97, 100, 100]⟩ : ByteArray)] from rfl) (Reps.one (show Kd.M Kd.string _ _ _ (⟨#[99, 97, 115]⟩ : ByteArray) [.string (⟨#[99, 97, 115]⟩ : ByteArray)] from rfl) (Reps.one (show Kd.M Kd.string _ _ _ (⟨#[115, 116, 111, 114, 101]⟩ : ByteArray) [.string (⟨#[115, 116, 111, 114, 101]⟩ : ByteArray)] from rfl) (Reps.one (show Kd.M Kd.string _ _ _ (⟨#[102, 101, 110, 99, 101]⟩ : ByteArray) [.string (⟨#[102, 101, 110, 99, 101]⟩ : ByteArray)] from rfl) (Reps.one (show Kd.M Kd.string _ _ _ (⟨#[105, 102]⟩ : ByteArray) [.string (⟨#[105, 102]⟩ : ByteArray)] from rfl) (Reps.one (show Kd.M Kd.string _ _ _ (⟨#[101, 108, 115, 101]⟩ : ByteArray) [.string (⟨#[101, 108, 115, 101]⟩ : ByteArray)] from rfl) (Reps.one (show Kd.M Kd.string _ _ _ (⟨#[101, 120, 105, 115, 116, 115]⟩ : ByteArray) [.string (⟨#[101, 120, 105, 115, 116, 115]⟩ : ByteArray)] from rfl) (Reps.one (show Kd.M Kd.string _ _ _ (⟨#[102, 111, 114, 97, 108, 108]⟩ : ByteArray) [.string (⟨#[102, 111, 114, 97, 108, 108]⟩ : ByteArray)] from rfl) (Reps.one (show Kd.M Kd.string _ _ _ (⟨#[97, 110, 100]⟩ : ByteArray) [.string (⟨#[97, 110, 100]⟩ : ByteArray)] from rfl) (Reps.one (show Kd.M Kd.string _ _ _ (⟨#[111, 114]⟩ : ByteArray) [.string (⟨#[111, 114]⟩ : ByteArray)] from rfl) (Reps.one (show Kd.M Kd.string _ _ _ (⟨#[110, 111, 116]⟩ : ByteArray) [.string (⟨#[110, 111, 116]⟩ : ByteArray)] from rfl) (Reps.one (show Kd.M Kd.string _ _ _ (⟨#[114, 108, 120]⟩ : ByteArray) [.string (⟨#[114, 108, 120]⟩ : ByteArray)] from rfl) (Reps.one (show Kd.M Kd.string _ _ _ (⟨#[97, 99, 113]⟩ : ByteArray) [.string (⟨#[97, 99, 113]⟩ : ByteArray)] from rfl) (Reps.one (show Kd.M Kd.string _ _ _ (⟨#[114, 101, 108]⟩ : ByteArray) [.string (⟨#[114, 101, 108]⟩ : ByteArray)] from rfl) (Reps.one (show Kd.M Kd.string _ _ _ (⟨#[97, 99, 113, 114, 101, 108]⟩ : ByteArray) [.string (⟨#[97, 99, 113, 114, 101, 108]⟩ : ByteArray)] from rfl) (Reps.one (show Kd.M Kd.string _ _ _ (⟨#[115, 99]⟩ : ByteArray) [.string (⟨#[115, 99]⟩ : ByteArray)] from rfl) (Reps.none _ _))))))))))))))))))))))); intro v140 w3 ho4 hb hg_ hnew_; clear hg_ hnew_; (first | rw [← Ny139.out] at ho4 | (simp only [Int.reduceToNat] at ho4; rw [← Ny139.out] at ho4)); have n0_ := Aside0.mk (Kd.R_lower ho4 (below_size (by repeat (first | (with_reducible first | exact HB.out | apply below_alloc | apply pw_below_drewN | apply below_drew1) | exact HB.out)))); have n1_ := Aside0.mk (below_step (by repeat (first | (with_reducible first | exact HB.out | apply below_alloc | apply pw_below_drewN | apply below_drew1) | exact HB.out)) hb); clear HB; have HO141 := n0_; have HB := n1_; clear n0_ n1_; clear hb ho4; obtain ⟨Ao5, co5, eo5⟩ := Kd.R_slice HO141.out; subst eo5) | ((with_reducible refine gate_callee (f := 25) rfl ?_); refine goesL_ (some 5) rfl rfl Try.func25 (by kernel_rfl) rfl #[.slice Ao5 y139.length co5, .string a0] rfl (by (try simp only [List.map_toArray, List.map_cons, List.map_nil]); first | done | rfl | (simp only [List.length_drop, List.length_take]; rfl)) ?_; (with_reducible refine (slices_Contains_string_string.calls k _ _ y139 a0 t142 _ ?side1 ?side2 A2.out).mono ?_); (case side1 => repeat (first | exact (Kd.R_reads' HO141.out).2.2 | (with_reducible refine Kd.C_alloc ?_ _) | (with_reducible refine Kd.C_drewN ?_ _) | (with_reducible refine Kd.C_drew ?_))); (case side2 => exact (Kd.R_reads' HO141.out).2.1); rintro e w' ⟨rfl, ⟨nd, rfl⟩⟩; refine ⟨_, rfl, ?_⟩))
  go_ret
  exact ⟨by first | rfl | (simp [errW_none, errW_some] <;> rfl) | (simp [*, errW_none, errW_some] <;> rfl), by repeat (first | (with_reducible first | exact HB.out | apply below_alloc | apply pw_below_drewN | apply below_drew1) | exact HB.out)⟩

/-! ### lex_Name: function 14 -/
def lex_Name.j0 : Nat → ByteArray → Bool → Option (Bool)
  | 0, _, _ => none
  | k + 1, x0, x15 => if x15 = true then (some false) else ((lex_run_at_lex_char_tail.f k x0 0).bind fun t144 => (if t144 = (x0.size : Int) then ((lex_Keyword.f k x0).bind fun t145 => (some (!t145))) else (some false)))
def lex_Name.f (k : Nat) (a0 : ByteArray) : Option (Bool) := if a0.toList = ([] : List UInt8) then (lex_Name.j0 k a0 true) else (if (a0.size : Int) > 8 then (lex_Name.j0 k a0 true) else (if 0 < (a0.size : Int) then ((lex_char_letter.f (bt a0 0)).bind fun t143 => (lex_Name.j0 k a0 (!t143))) else (none)))
theorem lex_Name.mono_l : ∀ k, (∀ y0 y1, LeO (lex_Name.j0 k y0 y1) (lex_Name.j0 (k + 1) y0 y1))
  | 0 => fun _ _ r h => by simp [lex_Name.j0] at h
  | k + 1 => by
    have ih0 := lex_Name.mono_l k
    · intro y0 y1
      unfold lex_Name.j0
      repeat' first
      | (with_reducible exact ih0 _ _)
      | (with_reducible exact lex_Keyword.mono _ _)
      | (with_reducible exact lex_run_at_lex_char_tail.mono _ _ _)
      | (with_reducible exact LeO.refl _)
      | (with_reducible exact LeO.none _)
      | (with_reducible refine LeO.ite ?_ ?_)
      | (with_reducible refine LeO.bind ?_ (fun _ => ?_))
      | exact ih0 _ _
      | exact lex_Keyword.mono _ _
      | exact lex_run_at_lex_char_tail.mono _ _ _
      | exact LeO.none _
      | refine LeO.ite ?_ ?_
      | refine LeO.bind ?_ (fun _ => ?_)
theorem lex_Name.mono : ∀ a0 k, LeO (lex_Name.f k a0) (lex_Name.f (k + 1) a0) := by
  intro a0 k
  have ih0 := lex_Name.mono_l k
  unfold lex_Name.f
  repeat' first
      | (with_reducible exact ih0 _ _)
      | (with_reducible exact lex_Keyword.mono _ _)
      | (with_reducible exact lex_run_at_lex_char_tail.mono _ _ _)
      | (with_reducible exact LeO.refl _)
      | (with_reducible exact LeO.none _)
      | (with_reducible refine LeO.ite ?_ ?_)
      | (with_reducible refine LeO.bind ?_ (fun _ => ?_))
      | exact ih0 _ _
      | exact lex_Keyword.mono _ _
      | exact lex_run_at_lex_char_tail.mono _ _ _
      | exact LeO.none _
      | refine LeO.ite ?_ ?_
      | refine LeO.bind ?_ (fun _ => ?_)
set_option maxHeartbeats 8000000 in
set_option maxRecDepth 100000 in
theorem lex_Name.calls (k : Nat) (a0 : ByteArray) (r : Bool) (w : World) (h : lex_Name.f k a0 = some r) :
    Calls Try.prog 14 #[.string a0] w fun e w' => e = .returned (.bool r) ∧ Below w.heap.size w w' := by
  have HB := Aside0.mk (Below.refl w.heap.size w)
  have H : (if a0.toList = ([] : List UInt8) then (lex_Name.j0 k a0 true) else (if (a0.size : Int) > 8 then (lex_Name.j0 k a0 true) else (if 0 < (a0.size : Int) then ((lex_char_letter.f (bt a0 0)).bind fun t143 => (lex_Name.j0 k a0 (!t143))) else (none)))) = some r := h
  clear h
  have HC2 := Aside0.mk H
  clear H
  go_enter Try.func14, Try.ntmps14
  go_upto_region 1 with (fail)
  go_cut [15] (fun v15 wc => ∃ (kq : Nat) (x15_1 : Bool), v15 = .bool x15_1 ∧ Aside0 (lex_Name.j0 kq a0 x15_1 = some r) ∧ Aside0 (kq ≤ k) ∧ Aside0 (Below w.heap.size w wc))
  case first =>
    have H := HC2.out
    clear HC2
    by_cases c3 : a0.toList = ([] : List UInt8)
    · rw [if_pos c3] at H
      have c3b0 : (a0.toList == ([] : List UInt8)) = true := beq_iff_eq.mpr c3
      have c3b1 : (a0.toList != ([] : List UInt8)) = false := bne_eq_false_iff_eq.mpr c3
      clear c3
      (first | rw [c3b0] | (simp only [i64_w, i32_w]; rw [c3b0]) | skip)
      have H' := Aside0.mk H
      clear H
      go_wp2
      go_meet
      case rel => exact ⟨_, (true), (by first | rfl | (simp; done) | (simp [*]; done)), H', ⟨by first | omega | exact Nat.le_refl _⟩, ⟨by repeat (first | (with_reducible first | exact HB.out | apply below_alloc | apply pw_below_drewN | apply below_drew1) | exact HB.out)⟩⟩
    · rw [if_neg c3] at H
      have c3b0 : (a0.toList == ([] : List UInt8)) = false := beq_eq_false_iff_ne.mpr c3
      have c3b1 : (a0.toList != ([] : List UInt8)) = true := bne_iff_ne.mpr c3
      (first | rw [c3b0] | (simp only [i64_w, i32_w]; rw [c3b0]) | skip)
      by_cases c4 : (a0.size : Int) > 8
      · rw [if_pos c4] at H
        have c4b0 : decide (8 < (a0.size : Int)) = true := decide_eq_true c4
        have c4b1 : decide (8 < a0.size) = true := decide_eq_true (by omega)
        clear c4
        have H' := Aside0.mk H
        clear H
        go_wp2
        go_meet
        case rel => exact ⟨_, (true), (by first | rfl | (simp; done) | (simp [*]; done)), H', ⟨by first | omega | exact Nat.le_refl _⟩, ⟨by repeat (first | (with_reducible first | exact HB.out | apply below_alloc | apply pw_below_drewN | apply below_drew1) | exact HB.out)⟩⟩
      · rw [if_neg c4] at H
        have c4b0 : decide (8 < (a0.size : Int)) = false := decide_eq_false c4
        have c4b1 : decide (8 < a0.size) = false := decide_eq_false (by omega)
        clear c4
        by_cases c5 : 0 < (a0.size : Int)
        · rw [if_pos c5] at H
          have c5b0 : decide (0 < (a0.size : Int)) = true := decide_eq_true c5
          have c5b1 : decide (0 < a0.size) = true := decide_eq_true (by omega)
          clear c5
          replace H := Option.bind_eq_some_iff.mp H
          obtain ⟨t143, A70, H⟩ := H
          replace H : (lex_Name.j0 k a0 (!t143)) = some r := H
          have A7 := Aside0.mk A70
          clear A70
          have H' := Aside0.mk H
          clear H
          have p6 : 0 ≤ (0 : Int) := (by omega)
          have q6 : 0 < a0.size := (by have : (0 : Int) < (a0.size : Int) := of_decide_eq_true (by first | (with_reducible assumption) | assumption); omega)
          have hx6 : ∀ h : 0 < a0.size, ((a0[0]'h).toNat : Int) = bt a0 0 := bt_at a0 0
          clear p6
          have qi6 : (0 < (a0.size : Int)) = True := eq_true (of_decide_eq_true (by first | (with_reducible assumption) | assumption))
          replace q6 := eq_true q6
          go_wp2_with (first | (go_at_call 27; (with_reducible refine (lex_char_letter.calls (bt a0 0) t143 _ A7.out).mono ?_); rintro e w' ⟨rfl, ⟨nd, rfl⟩⟩))
          go_meet
          case rel => exact ⟨_, (!t143), (by first | rfl | (simp; done) | (simp [*]; done)), H', ⟨by first | omega | exact Nat.le_refl _⟩, ⟨by repeat (first | (with_reducible first | exact HB.out | apply below_alloc | apply pw_below_drewN | apply below_drew1) | exact HB.out)⟩⟩
        · rw [if_neg c5] at H
          exact absurd H (by simp)
  case rest =>
    clear HC2
    try clear c1
    try clear p2
    try clear c3
    try clear c3b0
    try clear c3b1
    try clear c4
    try clear c4b0
    try clear c4b1
    try clear c5
    try clear c5b0
    try clear c5b1
    try clear p6
    try clear q6
    try clear hx6
    try clear qi6
    try clear p6
    try clear q6
    obtain ⟨kq, x15_1, rfl, HA, HJ1, HB⟩ := hcut
    cases kq with
    | zero => exact absurd HA.out (by simp [lex_Name.j0])
    | succ kj1 =>
      have H := HA.out
      clear HA
      simp only [lex_Name.j0] at H
      by_cases c8 : x15_1 = true
      · subst c8
        have H1 : (some false) = some r := by rw [if_pos rfl] at H; exact H
        clear H
        have H := H1
        clear H1
        obtain rfl := Option.some.inj H
        go_wp2
        go_ret
        exact ⟨by first | rfl | (simp [errW_none, errW_some] <;> rfl) | (simp [*, errW_none, errW_some] <;> rfl), by repeat (first | (with_reducible first | exact HB.out | apply below_alloc | apply pw_below_drewN | apply below_drew1) | exact HB.out)⟩
      · replace c8 := Bool.eq_false_iff.mpr c8
        subst c8
        have H1 : ((lex_run_at_lex_char_tail.f kj1 a0 0).bind fun t144 => (if t144 = (a0.size : Int) then ((lex_Keyword.f kj1 a0).bind fun t145 => (some (!t145))) else (some false))) = some r := by rw [if_neg (show ¬ (false = true) by decide)] at H; exact H
        clear H
        have H := H1
        clear H1
        replace H := Option.bind_eq_some_iff.mp H
        obtain ⟨t144, A90, H⟩ := H
        replace H : (if t144 = (a0.size : Int) then ((lex_Keyword.f kj1 a0).bind fun t145 => (some (!t145))) else (some false)) = some r := H
        have A9 := Aside0.mk A90
        clear A90
        by_cases c10 : t144 = (a0.size : Int)
        · rw [if_pos c10] at H
          have c10b0 : (t144 == (a0.size : Int)) = true := beq_iff_eq.mpr c10
          have c10b1 : (t144 != (a0.size : Int)) = false := bne_eq_false_iff_eq.mpr c10
          clear c10
          replace H := Option.bind_eq_some_iff.mp H
          obtain ⟨t145, A110, H⟩ := H
          replace H : (some (!t145)) = some r := H
          have A11 := Aside0.mk A110
          clear A110
          obtain rfl := Option.some.inj H
          go_wp2_with (first | ((with_reducible refine gate_callee (f := 28) rfl ?_); refine goesL_ (some 17) rfl rfl Try.func28 (by kernel_rfl) rfl #[.string a0, .int .i64 0, .func (.func 29) #[] #[]] rfl (by (try simp only [List.map_toArray, List.map_cons, List.map_nil]); first | done | rfl | (simp only [List.length_drop, List.length_take]; rfl)) ?_; (with_reducible refine (lex_run_at_lex_char_tail.calls kj1 a0 0  t144 _ A9.out).mono ?_); rintro e w' ⟨rfl, ⟨nd, rfl⟩⟩; refine ⟨_, rfl, ?_⟩) | (go_at_call 12; (with_reducible refine (lex_Keyword.calls kj1 a0 t145 _ A11.out).mono ?_); rintro e w12 ⟨rfl, hb⟩; have n0_ := Aside0.mk (below_step (by repeat (first | (with_reducible first | exact HB.out | apply below_alloc | apply pw_below_drewN | apply below_drew1) | exact HB.out)) hb); clear HB; have HB := n0_; clear n0_; (try clear hb); (try clear hb2); (try clear hk); (try clear hi)))
          go_ret
          exact ⟨by first | rfl | (simp [errW_none, errW_some] <;> rfl) | (simp [*, errW_none, errW_some] <;> rfl), by repeat (first | (with_reducible first | exact HB.out | apply below_alloc | apply pw_below_drewN | apply below_drew1) | exact HB.out)⟩
        · rw [if_neg c10] at H
          have c10b0 : (t144 == (a0.size : Int)) = false := beq_eq_false_iff_ne.mpr c10
          have c10b1 : (t144 != (a0.size : Int)) = true := bne_iff_ne.mpr c10
          obtain rfl := Option.some.inj H
          go_wp2_with (first | ((with_reducible refine gate_callee (f := 28) rfl ?_); refine goesL_ (some 17) rfl rfl Try.func28 (by kernel_rfl) rfl #[.string a0, .int .i64 0, .func (.func 29) #[] #[]] rfl (by (try simp only [List.map_toArray, List.map_cons, List.map_nil]); first | done | rfl | (simp only [List.length_drop, List.length_take]; rfl)) ?_; (with_reducible refine (lex_run_at_lex_char_tail.calls kj1 a0 0  t144 _ A9.out).mono ?_); rintro e w' ⟨rfl, ⟨nd, rfl⟩⟩; refine ⟨_, rfl, ?_⟩))
          go_ret
          exact ⟨by first | rfl | (simp [errW_none, errW_some] <;> rfl) | (simp [*, errW_none, errW_some] <;> rfl), by repeat (first | (with_reducible first | exact HB.out | apply below_alloc | apply pw_below_drewN | apply below_drew1) | exact HB.out)⟩

/-! ### withelaw6_begun: function 8 -/
def withelaw6_begun.f (k : Nat)  : Option (Bool) := (lex_Lex.f k (⟨#[114, 49, 61, 48, 32, 47, 47, 32, 120]⟩ : ByteArray)).bind fun bt146 => ((lex_Lex.f k (⟨#[97, 32, 63, 32, 98]⟩ : ByteArray)).bind fun bt152 => (if (bt146.1.length : Int) = 4 then (if (bt146.2.1 == 0 && (bt146.2.2 == 0)) = true then (if 0 < (bt146.1.length : Int) then (if (((rd_T37 bt146.1 0).f0) == 1 && ((((rd_T37 bt146.1 0).f1).toList) == ([114, 49] : List UInt8) && (((rd_T37 bt146.1 0).f2) == 0 && (((rd_T37 bt146.1 0).f3) == 0)))) = true then (if 2 < (bt146.1.length : Int) then (if ((rd_T37 bt146.1 2).f0) = 2 then (if 3 < (bt146.1.length : Int) then (if ((rd_T37 bt146.1 3).f3) = 9 then (if (bt152.2.1 == 2 && (bt152.2.2 == 2)) = true then ((lex_Keyword.f k (⟨#[108, 111, 97, 100]⟩ : ByteArray)).bind fun t161 => (if t161 = true then ((lex_Keyword.f k (⟨#[108, 111, 97, 100, 115]⟩ : ByteArray)).bind fun t162 => (if t162 = true then (none) else ((lex_Name.f k (⟨#[114, 49]⟩ : ByteArray)).bind fun t163 => (if t163 = true then ((lex_Name.f k (⟨#[49, 114]⟩ : ByteArray)).bind fun t164 => (if t164 = true then (none) else ((lex_Name.f k (⟨#[105, 102]⟩ : ByteArray)).bind fun t165 => (some (!t165))))) else (none))))) else (none))) else (none)) else (none)) else (none)) else (none)) else (none)) else (none)) else (none)) else (none)) else (none)))
theorem withelaw6_begun.mono : ∀ k, LeO (withelaw6_begun.f k ) (withelaw6_begun.f (k + 1) ) := by
  intro  k
  unfold withelaw6_begun.f
  repeat' first
      | (with_reducible exact lex_Keyword.mono _ _)
      | (with_reducible exact lex_Lex.mono _ _)
      | (with_reducible exact lex_Name.mono _ _)
      | (with_reducible exact LeO.refl _)
      | (with_reducible exact LeO.none _)
      | (with_reducible refine LeO.ite ?_ ?_)
      | (with_reducible refine LeO.bind ?_ (fun _ => ?_))
      | exact lex_Keyword.mono _ _
      | exact lex_Lex.mono _ _
      | exact lex_Name.mono _ _
      | exact LeO.none _
      | refine LeO.ite ?_ ?_
      | refine LeO.bind ?_ (fun _ => ?_)
set_option maxHeartbeats 8000000 in
set_option maxRecDepth 100000 in
theorem withelaw6_begun.calls (k : Nat)  (r : Bool) (w : World) (h : withelaw6_begun.f k  = some r) :
    Calls Try.prog 8 #[] w fun e w' => e = .returned (.bool r) ∧ Below w.heap.size w w' := by
  have hu26 := Try.underlying26
  have hu37 := Try.underlying37
  have HB := Aside0.mk (Below.refl w.heap.size w)
  have H : ((lex_Lex.f k (⟨#[114, 49, 61, 48, 32, 47, 47, 32, 120]⟩ : ByteArray)).bind fun bt146 => ((lex_Lex.f k (⟨#[97, 32, 63, 32, 98]⟩ : ByteArray)).bind fun bt152 => (if (bt146.1.length : Int) = 4 then (if (bt146.2.1 == 0 && (bt146.2.2 == 0)) = true then (if 0 < (bt146.1.length : Int) then (if (((rd_T37 bt146.1 0).f0) == 1 && ((((rd_T37 bt146.1 0).f1).toList) == ([114, 49] : List UInt8) && (((rd_T37 bt146.1 0).f2) == 0 && (((rd_T37 bt146.1 0).f3) == 0)))) = true then (if 2 < (bt146.1.length : Int) then (if ((rd_T37 bt146.1 2).f0) = 2 then (if 3 < (bt146.1.length : Int) then (if ((rd_T37 bt146.1 3).f3) = 9 then (if (bt152.2.1 == 2 && (bt152.2.2 == 2)) = true then ((lex_Keyword.f k (⟨#[108, 111, 97, 100]⟩ : ByteArray)).bind fun t161 => (if t161 = true then ((lex_Keyword.f k (⟨#[108, 111, 97, 100, 115]⟩ : ByteArray)).bind fun t162 => (if t162 = true then (none) else ((lex_Name.f k (⟨#[114, 49]⟩ : ByteArray)).bind fun t163 => (if t163 = true then ((lex_Name.f k (⟨#[49, 114]⟩ : ByteArray)).bind fun t164 => (if t164 = true then (none) else ((lex_Name.f k (⟨#[105, 102]⟩ : ByteArray)).bind fun t165 => (some (!t165))))) else (none))))) else (none))) else (none)) else (none)) else (none)) else (none)) else (none)) else (none)) else (none)) else (none)) else (none)))) = some r := h
  clear h
  replace H := Option.bind_eq_some_iff.mp H
  obtain ⟨⟨t146, t149, t150⟩, A10, H⟩ := H
  replace H : ((lex_Lex.f k (⟨#[97, 32, 63, 32, 98]⟩ : ByteArray)).bind fun bt152 => (if (t146.length : Int) = 4 then (if (t149 == 0 && (t150 == 0)) = true then (if 0 < (t146.length : Int) then (if (((rd_T37 t146 0).f0) == 1 && ((((rd_T37 t146 0).f1).toList) == ([114, 49] : List UInt8) && (((rd_T37 t146 0).f2) == 0 && (((rd_T37 t146 0).f3) == 0)))) = true then (if 2 < (t146.length : Int) then (if ((rd_T37 t146 2).f0) = 2 then (if 3 < (t146.length : Int) then (if ((rd_T37 t146 3).f3) = 9 then (if (bt152.2.1 == 2 && (bt152.2.2 == 2)) = true then ((lex_Keyword.f k (⟨#[108, 111, 97, 100]⟩ : ByteArray)).bind fun t161 => (if t161 = true then ((lex_Keyword.f k (⟨#[108, 111, 97, 100, 115]⟩ : ByteArray)).bind fun t162 => (if t162 = true then (none) else ((lex_Name.f k (⟨#[114, 49]⟩ : ByteArray)).bind fun t163 => (if t163 = true then ((lex_Name.f k (⟨#[49, 114]⟩ : ByteArray)).bind fun t164 => (if t164 = true then (none) else ((lex_Name.f k (⟨#[105, 102]⟩ : ByteArray)).bind fun t165 => (some (!t165))))) else (none))))) else (none))) else (none)) else (none)) else (none)) else (none)) else (none)) else (none)) else (none)) else (none)) else (none))) = some r := H
  have A1 := Aside0.mk A10
  clear A10
  replace H := Option.bind_eq_some_iff.mp H
  obtain ⟨⟨t152, t155, t156⟩, A20, H⟩ := H
  replace H : (if (t146.length : Int) = 4 then (if (t149 == 0 && (t150 == 0)) = true then (if 0 < (t146.length : Int) then (if (((rd_T37 t146 0).f0) == 1 && ((((rd_T37 t146 0).f1).toList) == ([114, 49] : List UInt8) && (((rd_T37 t146 0).f2) == 0 && (((rd_T37 t146 0).f3) == 0)))) = true then (if 2 < (t146.length : Int) then (if ((rd_T37 t146 2).f0) = 2 then (if 3 < (t146.length : Int) then (if ((rd_T37 t146 3).f3) = 9 then (if (t155 == 2 && (t156 == 2)) = true then ((lex_Keyword.f k (⟨#[108, 111, 97, 100]⟩ : ByteArray)).bind fun t161 => (if t161 = true then ((lex_Keyword.f k (⟨#[108, 111, 97, 100, 115]⟩ : ByteArray)).bind fun t162 => (if t162 = true then (none) else ((lex_Name.f k (⟨#[114, 49]⟩ : ByteArray)).bind fun t163 => (if t163 = true then ((lex_Name.f k (⟨#[49, 114]⟩ : ByteArray)).bind fun t164 => (if t164 = true then (none) else ((lex_Name.f k (⟨#[105, 102]⟩ : ByteArray)).bind fun t165 => (some (!t165))))) else (none))))) else (none))) else (none)) else (none)) else (none)) else (none)) else (none)) else (none)) else (none)) else (none)) else (none)) = some r := H
  have A2 := Aside0.mk A20
  clear A20
  by_cases c3 : (t146.length : Int) = 4
  · rw [if_pos c3] at H
    have c3b0 : ((t146.length : Int) == 4) = true := beq_iff_eq.mpr c3
    have c3b1 : ((t146.length : Int) != 4) = false := bne_eq_false_iff_eq.mpr c3
    clear c3
    by_cases c4 : (t149 == 0 && (t150 == 0)) = true
    · rw [if_pos c4] at H
      have c4b0 : (t149 == 0 && (t150 == 0)) = true := c4
      (try (have c4b1 : decide (t149 = 0 && (t150 == 0)) = true := by simpa using c4))
      (try (have c4b2 : (t149 == 0 && (t150 == 0)) = true := by simpa using c4))
      clear c4
      by_cases c5 : 0 < (t146.length : Int)
      · rw [if_pos c5] at H
        have c5b0 : decide (0 < (t146.length : Int)) = true := decide_eq_true c5
        have c5b1 : decide (0 < t146.length) = true := decide_eq_true (by omega)
        clear c5
        by_cases c6 : (((rd_T37 t146 0).f0) == 1 && ((((rd_T37 t146 0).f1).toList) == ([114, 49] : List UInt8) && (((rd_T37 t146 0).f2) == 0 && (((rd_T37 t146 0).f3) == 0)))) = true
        · rw [if_pos c6] at H
          have c6b0 : (((rd_T37 t146 0).f0) == 1 && ((((rd_T37 t146 0).f1).toList) == ([114, 49] : List UInt8) && (((rd_T37 t146 0).f2) == 0 && (((rd_T37 t146 0).f3) == 0)))) = true := c6
          (try (have c6b1 : decide (((rd_T37 t146 0).f0) = 1 && ((((rd_T37 t146 0).f1).toList) == ([114, 49] : List UInt8) && (((rd_T37 t146 0).f2) == 0 && (((rd_T37 t146 0).f3) == 0)))) = true := by simpa using c6))
          (try (have c6b2 : (((rd_T37 t146 0).f0) == 1 && ((((rd_T37 t146 0).f1).toList) == ([114, 49] : List UInt8) && (((rd_T37 t146 0).f2) == 0 && (((rd_T37 t146 0).f3) == 0)))) = true := by simpa using c6))
          clear c6
          by_cases c7 : 2 < (t146.length : Int)
          · rw [if_pos c7] at H
            have c7b0 : decide (2 < (t146.length : Int)) = true := decide_eq_true c7
            have c7b1 : decide (2 < t146.length) = true := decide_eq_true (by omega)
            clear c7
            by_cases c8 : ((rd_T37 t146 2).f0) = 2
            · rw [if_pos c8] at H
              have c8b0 : (((rd_T37 t146 2).f0) == 2) = true := beq_iff_eq.mpr c8
              have c8b1 : (((rd_T37 t146 2).f0) != 2) = false := bne_eq_false_iff_eq.mpr c8
              clear c8
              by_cases c9 : 3 < (t146.length : Int)
              · rw [if_pos c9] at H
                have c9b0 : decide (3 < (t146.length : Int)) = true := decide_eq_true c9
                have c9b1 : decide (3 < t146.length) = true := decide_eq_true (by omega)
                clear c9
                by_cases c10 : ((rd_T37 t146 3).f3) = 9
                · rw [if_pos c10] at H
                  have c10b0 : (((rd_T37 t146 3).f3) == 9) = true := beq_iff_eq.mpr c10
                  have c10b1 : (((rd_T37 t146 3).f3) != 9) = false := bne_eq_false_iff_eq.mpr c10
                  clear c10
                  by_cases c11 : (t155 == 2 && (t156 == 2)) = true
                  · rw [if_pos c11] at H
                    have c11b0 : (t155 == 2 && (t156 == 2)) = true := c11
                    (try (have c11b1 : decide (t155 = 2 && (t156 == 2)) = true := by simpa using c11))
                    (try (have c11b2 : (t155 == 2 && (t156 == 2)) = true := by simpa using c11))
                    clear c11
                    replace H := Option.bind_eq_some_iff.mp H
                    obtain ⟨t161, A120, H⟩ := H
                    replace H : (if t161 = true then ((lex_Keyword.f k (⟨#[108, 111, 97, 100, 115]⟩ : ByteArray)).bind fun t162 => (if t162 = true then (none) else ((lex_Name.f k (⟨#[114, 49]⟩ : ByteArray)).bind fun t163 => (if t163 = true then ((lex_Name.f k (⟨#[49, 114]⟩ : ByteArray)).bind fun t164 => (if t164 = true then (none) else ((lex_Name.f k (⟨#[105, 102]⟩ : ByteArray)).bind fun t165 => (some (!t165))))) else (none))))) else (none)) = some r := H
                    have A12 := Aside0.mk A120
                    clear A120
                    by_cases c13 : t161 = true
                    · subst c13
                      have H1 : ((lex_Keyword.f k (⟨#[108, 111, 97, 100, 115]⟩ : ByteArray)).bind fun t162 => (if t162 = true then (none) else ((lex_Name.f k (⟨#[114, 49]⟩ : ByteArray)).bind fun t163 => (if t163 = true then ((lex_Name.f k (⟨#[49, 114]⟩ : ByteArray)).bind fun t164 => (if t164 = true then (none) else ((lex_Name.f k (⟨#[105, 102]⟩ : ByteArray)).bind fun t165 => (some (!t165))))) else (none))))) = some r := by rw [if_pos rfl] at H; exact H
                      clear H
                      have H := H1
                      clear H1
                      replace H := Option.bind_eq_some_iff.mp H
                      obtain ⟨t162, A140, H⟩ := H
                      replace H : (if t162 = true then (none) else ((lex_Name.f k (⟨#[114, 49]⟩ : ByteArray)).bind fun t163 => (if t163 = true then ((lex_Name.f k (⟨#[49, 114]⟩ : ByteArray)).bind fun t164 => (if t164 = true then (none) else ((lex_Name.f k (⟨#[105, 102]⟩ : ByteArray)).bind fun t165 => (some (!t165))))) else (none)))) = some r := H
                      have A14 := Aside0.mk A140
                      clear A140
                      by_cases c15 : t162 = true
                      · subst c15
                        have H1 : (none) = some r := by rw [if_pos rfl] at H; exact H
                        clear H
                        have H := H1
                        clear H1
                        exact absurd H (by simp)
                      · replace c15 := Bool.eq_false_iff.mpr c15
                        subst c15
                        have H1 : ((lex_Name.f k (⟨#[114, 49]⟩ : ByteArray)).bind fun t163 => (if t163 = true then ((lex_Name.f k (⟨#[49, 114]⟩ : ByteArray)).bind fun t164 => (if t164 = true then (none) else ((lex_Name.f k (⟨#[105, 102]⟩ : ByteArray)).bind fun t165 => (some (!t165))))) else (none))) = some r := by rw [if_neg (show ¬ (false = true) by decide)] at H; exact H
                        clear H
                        have H := H1
                        clear H1
                        replace H := Option.bind_eq_some_iff.mp H
                        obtain ⟨t163, A160, H⟩ := H
                        replace H : (if t163 = true then ((lex_Name.f k (⟨#[49, 114]⟩ : ByteArray)).bind fun t164 => (if t164 = true then (none) else ((lex_Name.f k (⟨#[105, 102]⟩ : ByteArray)).bind fun t165 => (some (!t165))))) else (none)) = some r := H
                        have A16 := Aside0.mk A160
                        clear A160
                        by_cases c17 : t163 = true
                        · subst c17
                          have H1 : ((lex_Name.f k (⟨#[49, 114]⟩ : ByteArray)).bind fun t164 => (if t164 = true then (none) else ((lex_Name.f k (⟨#[105, 102]⟩ : ByteArray)).bind fun t165 => (some (!t165))))) = some r := by rw [if_pos rfl] at H; exact H
                          clear H
                          have H := H1
                          clear H1
                          replace H := Option.bind_eq_some_iff.mp H
                          obtain ⟨t164, A180, H⟩ := H
                          replace H : (if t164 = true then (none) else ((lex_Name.f k (⟨#[105, 102]⟩ : ByteArray)).bind fun t165 => (some (!t165)))) = some r := H
                          have A18 := Aside0.mk A180
                          clear A180
                          by_cases c19 : t164 = true
                          · subst c19
                            have H1 : (none) = some r := by rw [if_pos rfl] at H; exact H
                            clear H
                            have H := H1
                            clear H1
                            exact absurd H (by simp)
                          · replace c19 := Bool.eq_false_iff.mpr c19
                            subst c19
                            have H1 : ((lex_Name.f k (⟨#[105, 102]⟩ : ByteArray)).bind fun t165 => (some (!t165))) = some r := by rw [if_neg (show ¬ (false = true) by decide)] at H; exact H
                            clear H
                            have H := H1
                            clear H1
                            replace H := Option.bind_eq_some_iff.mp H
                            obtain ⟨t165, A200, H⟩ := H
                            replace H : (some (!t165)) = some r := H
                            have A20 := Aside0.mk A200
                            clear A200
                            obtain rfl := Option.some.inj H
                            go_enter Try.func8, Try.ntmps8
                            go_wp2_with (first | ((with_reducible refine gate_callee (f := 9) rfl ?_); refine goesL_ (some 6) rfl rfl Try.func9 (by kernel_rfl) rfl #[.string (⟨#[114, 49, 61, 48, 32, 47, 47, 32, 120]⟩ : ByteArray)] rfl (by (try simp only [List.map_toArray, List.map_cons, List.map_nil]); first | done | rfl | (simp only [List.length_drop, List.length_take]; rfl)) ?_; (with_reducible refine (lex_Lex.calls k (⟨#[114, 49, 61, 48, 32, 47, 47, 32, 120]⟩ : ByteArray) t146 t149 t150 _ A1.out).mono ?_); rintro e w21 ⟨v147, rfl, ho0, hb⟩; refine ⟨_, rfl, ?_⟩; have n0_ := Aside0.mk (Kd.R_lower ho0 (below_size (by repeat (first | (with_reducible first | exact HB.out | apply below_alloc | apply pw_below_drewN | apply below_drew1) | exact HB.out)))); have n1_ := Aside0.mk (below_step (by repeat (first | (with_reducible first | exact HB.out | apply below_alloc | apply pw_below_drewN | apply below_drew1) | exact HB.out)) hb); clear HB; have HO148 := n0_; have HB := n1_; clear n0_ n1_; (try clear hb); (try clear hb2); (try clear hk); (try clear hi); (try clear ho0)) | ((with_reducible refine gate_dst (N := 2) rfl ?_); refine box_event ?hg (N := 2) ?hd (cs := #[.int .i64 0, .int .i64 0]) (t := 26) ?hr ?_; (case hd => rfl); (case hg => rfl); (case hr => first | (go_simp; done) | (go_simp; rfl)); intro gb151 hg w22 hbox hb; have n0_ := Aside0.mk (Kd.R_below (by (with_reducible repeat (first | apply Kd.R_alloc | apply Kd.R_drewN | apply Kd.R_drew)); exact HO148.out) hb); have n1_ := Aside0.mk (below_step (by repeat (first | (with_reducible first | exact HB.out | apply below_alloc | apply pw_below_drewN | apply below_drew1) | exact HB.out)) hb); have n2_ := Aside0.mk (hbox); have n3_ := Aside0.mk ((by rw [hg]; exact (below_size (by repeat (first | (with_reducible first | exact HB.out | apply below_alloc | apply pw_below_drewN | apply below_drew1) | exact HB.out))) : w.heap.size ≤ gb151)); have n4_ := Aside0.mk ((by rw [hg]; exact (below_size (by repeat (first | (with_reducible first | exact HB.out | apply below_alloc | apply pw_below_drewN | apply below_drew1) | exact HB.out))) : w.heap.size ≤ gb151)); clear HO148; clear HB; have HO148 := n0_; have HB := n1_; have BK151 := n2_; have GW151 := n3_; have GE151 := n4_; clear n0_ n1_ n2_ n3_ n4_; clear hb hbox hg; have hcz23_0 : w22.cell? ⟨gb151, 0, none⟩ = some (.int .i64 0) := (blk_cell BK151.out 0).trans rfl; have hcz23_1 : w22.cell? ⟨gb151, 1, none⟩ = some (.int .i64 0) := (blk_cell BK151.out 1).trans rfl; have hfz23_0 := blk_frozen BK151.out 0; have hfz23_1 := blk_frozen BK151.out 1) | ((with_reducible refine gate_callee (f := 9) rfl ?_); refine goesL_ (some 10) rfl rfl Try.func9 (by kernel_rfl) rfl #[.string (⟨#[97, 32, 63, 32, 98]⟩ : ByteArray)] rfl (by (try simp only [List.map_toArray, List.map_cons, List.map_nil]); first | done | rfl | (simp only [List.length_drop, List.length_take]; rfl)) ?_; (with_reducible refine (lex_Lex.calls k (⟨#[97, 32, 63, 32, 98]⟩ : ByteArray) t152 t155 t156 _ A2.out).mono ?_); rintro e w24 ⟨v153, rfl, ho0, hb⟩; refine ⟨_, rfl, ?_⟩; have n0_ := Aside0.mk (Kd.R_elder' (by (with_reducible repeat (first | apply Kd.R_alloc | apply Kd.R_drewN | apply Kd.R_drew)); exact (Kd.R_mono (Kd.R_far (p := ⟨gb151, 1, none⟩) (Kd.R_far (p := ⟨gb151, 0, none⟩) (Kd.R_types HO148.out BK151.out (by decide)) (fun _ hk => hk.2) (.int .i64 t149)) (fun _ hk => hk.2) (.int .i64 t150)) (fun _ h_ => h_.1))) (Kd.R_base ho0) hb); have n1_ := Aside0.mk (Kd.R_lower (Kd.R_new' ho0 (Kd.R_lt (by (with_reducible repeat (first | apply Kd.R_alloc | apply Kd.R_drewN | apply Kd.R_drew)); exact (Kd.R_mono (Kd.R_far (p := ⟨gb151, 1, none⟩) (Kd.R_far (p := ⟨gb151, 0, none⟩) (Kd.R_types HO148.out BK151.out (by decide)) (fun _ hk => hk.2) (.int .i64 t149)) (fun _ hk => hk.2) (.int .i64 t150)) (fun _ h_ => h_.1))))) (below_size (by repeat (first | (with_reducible first | exact HB.out | apply below_alloc | apply pw_below_drewN | apply below_drew1 | refine below_set ?_ GE151.out) | exact HB.out)))); have n2_ := Aside0.mk (blk_below (g := gb151) (o := .cells #[.int .i64 t149, .int .i64 t150] 26 (0, 0)) (by (with_reducible repeat (first | refine blk_drewN ?_ _ | refine blk_drew ?_ | refine blk_alloc ?_ _)); refine blk_put (cs := #[.int .i64 t149, .int .i64 0]) ?_ 1 _ rfl; (with_reducible repeat (first | refine blk_drewN ?_ _ | refine blk_drew ?_ | refine blk_alloc ?_ _)); refine blk_put (cs := #[.int .i64 0, .int .i64 0]) ?_ 0 _ rfl; (with_reducible repeat (first | refine blk_drewN ?_ _ | refine blk_drew ?_ | refine blk_alloc ?_ _)); exact BK151.out) hb); have n3_ := Aside0.mk (below_step (by repeat (first | (with_reducible first | exact HB.out | apply below_alloc | apply pw_below_drewN | apply below_drew1 | refine below_set ?_ GE151.out) | exact HB.out)) hb); clear HO148; clear BK151; clear HB; have HO148 := n0_; have HO154 := n1_; have BK151 := n2_; have HB := n3_; clear n0_ n1_ n2_ n3_; (try clear hb); (try clear hb2); (try clear hk); (try clear hi); (try clear ho0)) | ((with_reducible refine gate_dst (N := 4) rfl ?_); refine box_event ?hg (N := 4) ?hd (cs := #[.int .i64 0, .int .i64 0]) (t := 26) ?hr ?_; (case hd => rfl); (case hg => rfl); (case hr => first | (go_simp; done) | (go_simp; rfl)); intro gb157 hg w25 hbox hb; have n0_ := Aside0.mk (Kd.R_below (by (with_reducible repeat (first | apply Kd.R_alloc | apply Kd.R_drewN | apply Kd.R_drew)); exact HO148.out) hb); have n1_ := Aside0.mk (Kd.R_below (by (with_reducible repeat (first | apply Kd.R_alloc | apply Kd.R_drewN | apply Kd.R_drew)); exact HO154.out) hb); have n2_ := Aside0.mk (blk_below (g := gb151) (o := .cells #[.int .i64 t149, .int .i64 t150] 26 (0, 0)) (by (with_reducible repeat (first | refine blk_drewN ?_ _ | refine blk_drew ?_ | refine blk_alloc ?_ _)); exact BK151.out) hb); have n3_ := Aside0.mk (below_step (by repeat (first | (with_reducible first | exact HB.out | apply below_alloc | apply pw_below_drewN | apply below_drew1 | refine below_set ?_ GE151.out) | exact HB.out)) hb); have n4_ := Aside0.mk (hbox); have n5_ := Aside0.mk ((by rw [hg]; exact (below_size (by repeat (first | (with_reducible first | exact HB.out | apply below_alloc | apply pw_below_drewN | apply below_drew1 | refine below_set ?_ GE151.out) | exact HB.out))) : w.heap.size ≤ gb157)); have n6_ := Aside0.mk ((by rw [hg]; exact (below_size (by repeat (first | (with_reducible first | exact HB.out | apply below_alloc | apply pw_below_drewN | apply below_drew1 | refine below_set ?_ GE151.out) | exact HB.out))) : w.heap.size ≤ gb157)); have n7_ := Aside0.mk ((by rw [hg]; exact Nat.ne_of_lt (blk_lt (g := gb151) (o := .cells #[.int .i64 t149, .int .i64 t150] 26 (0, 0)) (by (with_reducible repeat (first | refine blk_drewN ?_ _ | refine blk_drew ?_ | refine blk_alloc ?_ _)); exact BK151.out)) : gb151 ≠ gb157)); have n8_ := Aside0.mk ((by rw [hg]; exact Nat.ne_of_gt (blk_lt (g := gb151) (o := .cells #[.int .i64 t149, .int .i64 t150] 26 (0, 0)) (by (with_reducible repeat (first | refine blk_drewN ?_ _ | refine blk_drew ?_ | refine blk_alloc ?_ _)); exact BK151.out)) : gb157 ≠ gb151)); clear HO148; clear HO154; clear BK151; clear HB; have HO148 := n0_; have HO154 := n1_; have BK151 := n2_; have HB := n3_; have BK157 := n4_; have GW157 := n5_; have GE157 := n6_; have NB151_157 := n7_; have NB157_151 := n8_; clear n0_ n1_ n2_ n3_ n4_ n5_ n6_ n7_ n8_; clear hb hbox hg; have hnb26 := NB157_151.out; have hnc26 := NB151_157.out; have hcz27_0 : w25.cell? ⟨gb157, 0, none⟩ = some (.int .i64 0) := (blk_cell BK157.out 0).trans rfl; have hcz27_1 : w25.cell? ⟨gb157, 1, none⟩ = some (.int .i64 0) := (blk_cell BK157.out 1).trans rfl; have hfz27_0 := blk_frozen BK157.out 0; have hfz27_1 := blk_frozen BK157.out 1; obtain ⟨Ao28, co28, eo28⟩ := Kd.R_slice HO148.out; subst eo28; have hcz29_0 : w25.cell? ⟨gb151, 0, none⟩ = some (.int .i64 t149) := (blk_cell BK151.out 0).trans rfl; have hcz29_1 : w25.cell? ⟨gb151, 1, none⟩ = some (.int .i64 t150) := (blk_cell BK151.out 1).trans rfl; have hfz29_0 := blk_frozen BK151.out 0; have hfz29_1 := blk_frozen BK151.out 1; have p158 : 0 ≤ (0 : Int) := (by omega); have q158 : 0 < (t146.length : Int) := of_decide_eq_true (by first | (with_reducible assumption) | assumption); obtain ⟨ad158, e158, hx158_0, hx158_1, hx158_2, hx158_3⟩ := at_T37 (Kd.R_reads' HO148.out).2.2 0 p158 q158; cases e158; have qi158 : (0 < t146.length) = True := eq_true (by omega); (try rw [show ((0 : Int)).toNat = 0 from rfl] at hx158_0); (try rw [show 0 * 4 = 0 from rfl] at hx158_0); (try rw [Addr.add_zero'] at hx158_0); (try rw [show ((0 : Int)).toNat = 0 from rfl] at hx158_1); (try rw [show 0 * 4 = 0 from rfl] at hx158_1); (try rw [Addr.add_zero'] at hx158_1); (try rw [show ((0 : Int)).toNat = 0 from rfl] at hx158_2); (try rw [show 0 * 4 = 0 from rfl] at hx158_2); (try rw [Addr.add_zero'] at hx158_2); (try rw [show ((0 : Int)).toNat = 0 from rfl] at hx158_3); (try rw [show 0 * 4 = 0 from rfl] at hx158_3); (try rw [Addr.add_zero'] at hx158_3); have hn158_0 : ad158.block ≠ gb157 := Kd.own_blk (Kd.R_ne HO148.out BK157.out (by decide)); have hn158_1 : ad158.block ≠ gb157 := Kd.own_blk (Kd.R_ne HO148.out BK157.out (by decide)); replace hx158_0 := (cell_far (p := ⟨gb157, 0, none⟩) (by first | (rw [add_block]; exact hn158_0) | (show (Addr.add _ _).block ≠ _; rw [add_block]; exact hn158_0) | exact hn158_0) (.int .i64 t155)).trans hx158_0; replace hx158_1 := (cell_far (p := ⟨gb157, 0, none⟩) (by first | (rw [add_block]; exact hn158_0) | (show (Addr.add _ _).block ≠ _; rw [add_block]; exact hn158_0) | exact hn158_0) (.int .i64 t155)).trans hx158_1; replace hx158_2 := (cell_far (p := ⟨gb157, 0, none⟩) (by first | (rw [add_block]; exact hn158_0) | (show (Addr.add _ _).block ≠ _; rw [add_block]; exact hn158_0) | exact hn158_0) (.int .i64 t155)).trans hx158_2; replace hx158_3 := (cell_far (p := ⟨gb157, 0, none⟩) (by first | (rw [add_block]; exact hn158_0) | (show (Addr.add _ _).block ≠ _; rw [add_block]; exact hn158_0) | exact hn158_0) (.int .i64 t155)).trans hx158_3; replace hx158_0 := (cell_far (p := ⟨gb157, 1, none⟩) (by first | (rw [add_block]; exact hn158_1) | (show (Addr.add _ _).block ≠ _; rw [add_block]; exact hn158_1) | exact hn158_1) (.int .i64 t156)).trans hx158_0; replace hx158_1 := (cell_far (p := ⟨gb157, 1, none⟩) (by first | (rw [add_block]; exact hn158_1) | (show (Addr.add _ _).block ≠ _; rw [add_block]; exact hn158_1) | exact hn158_1) (.int .i64 t156)).trans hx158_1; replace hx158_2 := (cell_far (p := ⟨gb157, 1, none⟩) (by first | (rw [add_block]; exact hn158_1) | (show (Addr.add _ _).block ≠ _; rw [add_block]; exact hn158_1) | exact hn158_1) (.int .i64 t156)).trans hx158_2; replace hx158_3 := (cell_far (p := ⟨gb157, 1, none⟩) (by first | (rw [add_block]; exact hn158_1) | (show (Addr.add _ _).block ≠ _; rw [add_block]; exact hn158_1) | exact hn158_1) (.int .i64 t156)).trans hx158_3; clear hn158_0; clear hn158_1; replace p158 := eq_true p158; replace q158 := eq_true q158; have p159 : 0 ≤ (2 : Int) := (by omega); have q159 : 2 < (t146.length : Int) := of_decide_eq_true (by first | (with_reducible assumption) | assumption); obtain ⟨ad159, e159, hx159_0, hx159_1, hx159_2, hx159_3⟩ := at_T37 (Kd.R_reads' HO148.out).2.2 2 p159 q159; obtain rfl : ad158 = ad159 := (by injection e159); (try simp only [show (2 : Int).toNat = 2 from rfl, Nat.reduceMul, Nat.reduceEqDiff, Go.Addr.add, ↓reduceIte] at hx159_0); (try simp only [show (2 : Int).toNat = 2 from rfl, Nat.reduceMul, Nat.reduceEqDiff, Go.Addr.add, ↓reduceIte] at hx159_1); (try simp only [show (2 : Int).toNat = 2 from rfl, Nat.reduceMul, Nat.reduceEqDiff, Go.Addr.add, ↓reduceIte] at hx159_2); (try simp only [show (2 : Int).toNat = 2 from rfl, Nat.reduceMul, Nat.reduceEqDiff, Go.Addr.add, ↓reduceIte] at hx159_3); have qi159 : (2 < t146.length) = True := eq_true (by omega); (try rw [show ((2 : Int)).toNat = 2 from rfl] at hx159_0); (try rw [show 2 * 4 = 8 from rfl] at hx159_0); (try rw [show ((2 : Int)).toNat = 2 from rfl] at hx159_1); (try rw [show 2 * 4 = 8 from rfl] at hx159_1); (try rw [show ((2 : Int)).toNat = 2 from rfl] at hx159_2); (try rw [show 2 * 4 = 8 from rfl] at hx159_2); (try rw [show ((2 : Int)).toNat = 2 from rfl] at hx159_3); (try rw [show 2 * 4 = 8 from rfl] at hx159_3); have hn159_0 : ad158.block ≠ gb157 := Kd.own_blk (Kd.R_ne HO148.out BK157.out (by decide)); have hn159_1 : ad158.block ≠ gb157 := Kd.own_blk (Kd.R_ne HO148.out BK157.out (by decide)); replace hx159_0 := (cell_far (p := ⟨gb157, 0, none⟩) (by first | (rw [add_block]; exact hn159_0) | (show (Addr.add _ _).block ≠ _; rw [add_block]; exact hn159_0) | exact hn159_0) (.int .i64 t155)).trans hx159_0; replace hx159_1 := (cell_far (p := ⟨gb157, 0, none⟩) (by first | (rw [add_block]; exact hn159_0) | (show (Addr.add _ _).block ≠ _; rw [add_block]; exact hn159_0) | exact hn159_0) (.int .i64 t155)).trans hx159_1; replace hx159_2 := (cell_far (p := ⟨gb157, 0, none⟩) (by first | (rw [add_block]; exact hn159_0) | (show (Addr.add _ _).block ≠ _; rw [add_block]; exact hn159_0) | exact hn159_0) (.int .i64 t155)).trans hx159_2; replace hx159_3 := (cell_far (p := ⟨gb157, 0, none⟩) (by first | (rw [add_block]; exact hn159_0) | (show (Addr.add _ _).block ≠ _; rw [add_block]; exact hn159_0) | exact hn159_0) (.int .i64 t155)).trans hx159_3; replace hx159_0 := (cell_far (p := ⟨gb157, 1, none⟩) (by first | (rw [add_block]; exact hn159_1) | (show (Addr.add _ _).block ≠ _; rw [add_block]; exact hn159_1) | exact hn159_1) (.int .i64 t156)).trans hx159_0; replace hx159_1 := (cell_far (p := ⟨gb157, 1, none⟩) (by first | (rw [add_block]; exact hn159_1) | (show (Addr.add _ _).block ≠ _; rw [add_block]; exact hn159_1) | exact hn159_1) (.int .i64 t156)).trans hx159_1; replace hx159_2 := (cell_far (p := ⟨gb157, 1, none⟩) (by first | (rw [add_block]; exact hn159_1) | (show (Addr.add _ _).block ≠ _; rw [add_block]; exact hn159_1) | exact hn159_1) (.int .i64 t156)).trans hx159_2; replace hx159_3 := (cell_far (p := ⟨gb157, 1, none⟩) (by first | (rw [add_block]; exact hn159_1) | (show (Addr.add _ _).block ≠ _; rw [add_block]; exact hn159_1) | exact hn159_1) (.int .i64 t156)).trans hx159_3; clear hn159_0; clear hn159_1; replace p159 := eq_true p159; replace q159 := eq_true q159; have p160 : 0 ≤ (3 : Int) := (by omega); have q160 : 3 < (t146.length : Int) := of_decide_eq_true (by first | (with_reducible assumption) | assumption); obtain ⟨ad160, e160, hx160_0, hx160_1, hx160_2, hx160_3⟩ := at_T37 (Kd.R_reads' HO148.out).2.2 3 p160 q160; obtain rfl : ad158 = ad160 := (by injection e160); (try simp only [show (3 : Int).toNat = 3 from rfl, Nat.reduceMul, Nat.reduceEqDiff, Go.Addr.add, ↓reduceIte] at hx160_0); (try simp only [show (3 : Int).toNat = 3 from rfl, Nat.reduceMul, Nat.reduceEqDiff, Go.Addr.add, ↓reduceIte] at hx160_1); (try simp only [show (3 : Int).toNat = 3 from rfl, Nat.reduceMul, Nat.reduceEqDiff, Go.Addr.add, ↓reduceIte] at hx160_2); (try simp only [show (3 : Int).toNat = 3 from rfl, Nat.reduceMul, Nat.reduceEqDiff, Go.Addr.add, ↓reduceIte] at hx160_3); have qi160 : (3 < t146.length) = True := eq_true (by omega); (try rw [show ((3 : Int)).toNat = 3 from rfl] at hx160_0); (try rw [show 3 * 4 = 12 from rfl] at hx160_0); (try rw [show ((3 : Int)).toNat = 3 from rfl] at hx160_1); (try rw [show 3 * 4 = 12 from rfl] at hx160_1); (try rw [show ((3 : Int)).toNat = 3 from rfl] at hx160_2); (try rw [show 3 * 4 = 12 from rfl] at hx160_2); (try rw [show ((3 : Int)).toNat = 3 from rfl] at hx160_3); (try rw [show 3 * 4 = 12 from rfl] at hx160_3); have hn160_0 : ad158.block ≠ gb157 := Kd.own_blk (Kd.R_ne HO148.out BK157.out (by decide)); have hn160_1 : ad158.block ≠ gb157 := Kd.own_blk (Kd.R_ne HO148.out BK157.out (by decide)); replace hx160_0 := (cell_far (p := ⟨gb157, 0, none⟩) (by first | (rw [add_block]; exact hn160_0) | (show (Addr.add _ _).block ≠ _; rw [add_block]; exact hn160_0) | exact hn160_0) (.int .i64 t155)).trans hx160_0; replace hx160_1 := (cell_far (p := ⟨gb157, 0, none⟩) (by first | (rw [add_block]; exact hn160_0) | (show (Addr.add _ _).block ≠ _; rw [add_block]; exact hn160_0) | exact hn160_0) (.int .i64 t155)).trans hx160_1; replace hx160_2 := (cell_far (p := ⟨gb157, 0, none⟩) (by first | (rw [add_block]; exact hn160_0) | (show (Addr.add _ _).block ≠ _; rw [add_block]; exact hn160_0) | exact hn160_0) (.int .i64 t155)).trans hx160_2; replace hx160_3 := (cell_far (p := ⟨gb157, 0, none⟩) (by first | (rw [add_block]; exact hn160_0) | (show (Addr.add _ _).block ≠ _; rw [add_block]; exact hn160_0) | exact hn160_0) (.int .i64 t155)).trans hx160_3; replace hx160_0 := (cell_far (p := ⟨gb157, 1, none⟩) (by first | (rw [add_block]; exact hn160_1) | (show (Addr.add _ _).block ≠ _; rw [add_block]; exact hn160_1) | exact hn160_1) (.int .i64 t156)).trans hx160_0; replace hx160_1 := (cell_far (p := ⟨gb157, 1, none⟩) (by first | (rw [add_block]; exact hn160_1) | (show (Addr.add _ _).block ≠ _; rw [add_block]; exact hn160_1) | exact hn160_1) (.int .i64 t156)).trans hx160_1; replace hx160_2 := (cell_far (p := ⟨gb157, 1, none⟩) (by first | (rw [add_block]; exact hn160_1) | (show (Addr.add _ _).block ≠ _; rw [add_block]; exact hn160_1) | exact hn160_1) (.int .i64 t156)).trans hx160_2; replace hx160_3 := (cell_far (p := ⟨gb157, 1, none⟩) (by first | (rw [add_block]; exact hn160_1) | (show (Addr.add _ _).block ≠ _; rw [add_block]; exact hn160_1) | exact hn160_1) (.int .i64 t156)).trans hx160_3; clear hn160_0; clear hn160_1; replace p160 := eq_true p160; replace q160 := eq_true q160) | (go_at_call 12; (with_reducible refine (lex_Keyword.calls k (⟨#[108, 111, 97, 100]⟩ : ByteArray) true _ A12.out).mono ?_); rintro e w30 ⟨rfl, hb⟩; have n0_ := Aside0.mk (Kd.R_below (by (with_reducible repeat (first | apply Kd.R_alloc | apply Kd.R_drewN | apply Kd.R_drew)); exact (Kd.R_mono (Kd.R_far (p := ⟨gb157, 1, none⟩) (Kd.R_far (p := ⟨gb157, 0, none⟩) (Kd.R_types HO148.out BK157.out (by decide)) (fun _ hk => hk.2) (.int .i64 t155)) (fun _ hk => hk.2) (.int .i64 t156)) (fun _ h_ => h_.1))) hb); have n1_ := Aside0.mk (Kd.R_below (by (with_reducible repeat (first | apply Kd.R_alloc | apply Kd.R_drewN | apply Kd.R_drew)); exact (Kd.R_mono (Kd.R_far (p := ⟨gb157, 1, none⟩) (Kd.R_far (p := ⟨gb157, 0, none⟩) (Kd.R_types HO154.out BK157.out (by decide)) (fun _ hk => hk.2) (.int .i64 t155)) (fun _ hk => hk.2) (.int .i64 t156)) (fun _ h_ => h_.1))) hb); have n2_ := Aside0.mk (blk_below (g := gb151) (o := .cells #[.int .i64 t149, .int .i64 t150] 26 (0, 0)) (by (with_reducible repeat (first | refine blk_drewN ?_ _ | refine blk_drew ?_ | refine blk_alloc ?_ _)); refine blk_far ?_ NB151_157.out _; (with_reducible repeat (first | refine blk_drewN ?_ _ | refine blk_drew ?_ | refine blk_alloc ?_ _)); refine blk_far ?_ NB151_157.out _; (with_reducible repeat (first | refine blk_drewN ?_ _ | refine blk_drew ?_ | refine blk_alloc ?_ _)); exact BK151.out) hb); have n3_ := Aside0.mk (blk_below (g := gb157) (o := .cells #[.int .i64 t155, .int .i64 t156] 26 (0, 0)) (by (with_reducible repeat (first | refine blk_drewN ?_ _ | refine blk_drew ?_ | refine blk_alloc ?_ _)); refine blk_put (cs := #[.int .i64 t155, .int .i64 0]) ?_ 1 _ rfl; (with_reducible repeat (first | refine blk_drewN ?_ _ | refine blk_drew ?_ | refine blk_alloc ?_ _)); refine blk_put (cs := #[.int .i64 0, .int .i64 0]) ?_ 0 _ rfl; (with_reducible repeat (first | refine blk_drewN ?_ _ | refine blk_drew ?_ | refine blk_alloc ?_ _)); exact BK157.out) hb); have n4_ := Aside0.mk (below_step (by repeat (first | (with_reducible first | exact HB.out | apply below_alloc | apply pw_below_drewN | apply below_drew1 | refine below_set ?_ GE151.out | refine below_set ?_ GE157.out) | exact HB.out)) hb); clear HO148; clear HO154; clear BK151; clear BK157; clear HB; have HO148 := n0_; have HO154 := n1_; have BK151 := n2_; have BK157 := n3_; have HB := n4_; clear n0_ n1_ n2_ n3_ n4_; (try clear hb); (try clear hb2); (try clear hk); (try clear hi)) | (go_at_call 12; (with_reducible refine (lex_Keyword.calls k (⟨#[108, 111, 97, 100, 115]⟩ : ByteArray) false _ A14.out).mono ?_); rintro e w31 ⟨rfl, hb⟩; have n0_ := Aside0.mk (Kd.R_below (by (with_reducible repeat (first | apply Kd.R_alloc | apply Kd.R_drewN | apply Kd.R_drew)); exact HO148.out) hb); have n1_ := Aside0.mk (Kd.R_below (by (with_reducible repeat (first | apply Kd.R_alloc | apply Kd.R_drewN | apply Kd.R_drew)); exact HO154.out) hb); have n2_ := Aside0.mk (blk_below (g := gb151) (o := .cells #[.int .i64 t149, .int .i64 t150] 26 (0, 0)) (by (with_reducible repeat (first | refine blk_drewN ?_ _ | refine blk_drew ?_ | refine blk_alloc ?_ _)); exact BK151.out) hb); have n3_ := Aside0.mk (blk_below (g := gb157) (o := .cells #[.int .i64 t155, .int .i64 t156] 26 (0, 0)) (by (with_reducible repeat (first | refine blk_drewN ?_ _ | refine blk_drew ?_ | refine blk_alloc ?_ _)); exact BK157.out) hb); have n4_ := Aside0.mk (below_step (by repeat (first | (with_reducible first | exact HB.out | apply below_alloc | apply pw_below_drewN | apply below_drew1 | refine below_set ?_ GE151.out | refine below_set ?_ GE157.out) | exact HB.out)) hb); clear HO148; clear HO154; clear BK151; clear BK157; clear HB; have HO148 := n0_; have HO154 := n1_; have BK151 := n2_; have BK157 := n3_; have HB := n4_; clear n0_ n1_ n2_ n3_ n4_; (try clear hb); (try clear hb2); (try clear hk); (try clear hi)) | (go_at_call 14; (with_reducible refine (lex_Name.calls k (⟨#[114, 49]⟩ : ByteArray) true _ A16.out).mono ?_); rintro e w32 ⟨rfl, hb⟩; have n0_ := Aside0.mk (Kd.R_below (by (with_reducible repeat (first | apply Kd.R_alloc | apply Kd.R_drewN | apply Kd.R_drew)); exact HO148.out) hb); have n1_ := Aside0.mk (Kd.R_below (by (with_reducible repeat (first | apply Kd.R_alloc | apply Kd.R_drewN | apply Kd.R_drew)); exact HO154.out) hb); have n2_ := Aside0.mk (blk_below (g := gb151) (o := .cells #[.int .i64 t149, .int .i64 t150] 26 (0, 0)) (by (with_reducible repeat (first | refine blk_drewN ?_ _ | refine blk_drew ?_ | refine blk_alloc ?_ _)); exact BK151.out) hb); have n3_ := Aside0.mk (blk_below (g := gb157) (o := .cells #[.int .i64 t155, .int .i64 t156] 26 (0, 0)) (by (with_reducible repeat (first | refine blk_drewN ?_ _ | refine blk_drew ?_ | refine blk_alloc ?_ _)); exact BK157.out) hb); have n4_ := Aside0.mk (below_step (by repeat (first | (with_reducible first | exact HB.out | apply below_alloc | apply pw_below_drewN | apply below_drew1 | refine below_set ?_ GE151.out | refine below_set ?_ GE157.out) | exact HB.out)) hb); clear HO148; clear HO154; clear BK151; clear BK157; clear HB; have HO148 := n0_; have HO154 := n1_; have BK151 := n2_; have BK157 := n3_; have HB := n4_; clear n0_ n1_ n2_ n3_ n4_; (try clear hb); (try clear hb2); (try clear hk); (try clear hi)) | (go_at_call 14; (with_reducible refine (lex_Name.calls k (⟨#[49, 114]⟩ : ByteArray) false _ A18.out).mono ?_); rintro e w33 ⟨rfl, hb⟩; have n0_ := Aside0.mk (Kd.R_below (by (with_reducible repeat (first | apply Kd.R_alloc | apply Kd.R_drewN | apply Kd.R_drew)); exact HO148.out) hb); have n1_ := Aside0.mk (Kd.R_below (by (with_reducible repeat (first | apply Kd.R_alloc | apply Kd.R_drewN | apply Kd.R_drew)); exact HO154.out) hb); have n2_ := Aside0.mk (blk_below (g := gb151) (o := .cells #[.int .i64 t149, .int .i64 t150] 26 (0, 0)) (by (with_reducible repeat (first | refine blk_drewN ?_ _ | refine blk_drew ?_ | refine blk_alloc ?_ _)); exact BK151.out) hb); have n3_ := Aside0.mk (blk_below (g := gb157) (o := .cells #[.int .i64 t155, .int .i64 t156] 26 (0, 0)) (by (with_reducible repeat (first | refine blk_drewN ?_ _ | refine blk_drew ?_ | refine blk_alloc ?_ _)); exact BK157.out) hb); have n4_ := Aside0.mk (below_step (by repeat (first | (with_reducible first | exact HB.out | apply below_alloc | apply pw_below_drewN | apply below_drew1 | refine below_set ?_ GE151.out | refine below_set ?_ GE157.out) | exact HB.out)) hb); clear HO148; clear HO154; clear BK151; clear BK157; clear HB; have HO148 := n0_; have HO154 := n1_; have BK151 := n2_; have BK157 := n3_; have HB := n4_; clear n0_ n1_ n2_ n3_ n4_; (try clear hb); (try clear hb2); (try clear hk); (try clear hi)) | (go_at_call 14; (with_reducible refine (lex_Name.calls k (⟨#[105, 102]⟩ : ByteArray) t165 _ A20.out).mono ?_); rintro e w34 ⟨rfl, hb⟩; have n0_ := Aside0.mk (Kd.R_below (by (with_reducible repeat (first | apply Kd.R_alloc | apply Kd.R_drewN | apply Kd.R_drew)); exact HO148.out) hb); have n1_ := Aside0.mk (Kd.R_below (by (with_reducible repeat (first | apply Kd.R_alloc | apply Kd.R_drewN | apply Kd.R_drew)); exact HO154.out) hb); have n2_ := Aside0.mk (blk_below (g := gb151) (o := .cells #[.int .i64 t149, .int .i64 t150] 26 (0, 0)) (by (with_reducible repeat (first | refine blk_drewN ?_ _ | refine blk_drew ?_ | refine blk_alloc ?_ _)); exact BK151.out) hb); have n3_ := Aside0.mk (blk_below (g := gb157) (o := .cells #[.int .i64 t155, .int .i64 t156] 26 (0, 0)) (by (with_reducible repeat (first | refine blk_drewN ?_ _ | refine blk_drew ?_ | refine blk_alloc ?_ _)); exact BK157.out) hb); have n4_ := Aside0.mk (below_step (by repeat (first | (with_reducible first | exact HB.out | apply below_alloc | apply pw_below_drewN | apply below_drew1 | refine below_set ?_ GE151.out | refine below_set ?_ GE157.out) | exact HB.out)) hb); clear HO148; clear HO154; clear BK151; clear BK157; clear HB; have HO148 := n0_; have HO154 := n1_; have BK151 := n2_; have BK157 := n3_; have HB := n4_; clear n0_ n1_ n2_ n3_ n4_; (try clear hb); (try clear hb2); (try clear hk); (try clear hi)))
                            go_ret
                            exact ⟨by first | rfl | (simp [errW_none, errW_some] <;> rfl) | (simp [*, errW_none, errW_some] <;> rfl), by repeat (first | (with_reducible first | exact HB.out | apply below_alloc | apply pw_below_drewN | apply below_drew1 | refine below_set ?_ GE151.out | refine below_set ?_ GE157.out) | exact HB.out)⟩
                        · replace c17 := Bool.eq_false_iff.mpr c17
                          subst c17
                          have H1 : (none) = some r := by rw [if_neg (show ¬ (false = true) by decide)] at H; exact H
                          clear H
                          have H := H1
                          clear H1
                          exact absurd H (by simp)
                    · replace c13 := Bool.eq_false_iff.mpr c13
                      subst c13
                      have H1 : (none) = some r := by rw [if_neg (show ¬ (false = true) by decide)] at H; exact H
                      clear H
                      have H := H1
                      clear H1
                      exact absurd H (by simp)
                  · rw [if_neg c11] at H
                    exact absurd H (by simp)
                · rw [if_neg c10] at H
                  exact absurd H (by simp)
              · rw [if_neg c9] at H
                exact absurd H (by simp)
            · rw [if_neg c8] at H
              exact absurd H (by simp)
          · rw [if_neg c7] at H
            exact absurd H (by simp)
        · rw [if_neg c6] at H
          exact absurd H (by simp)
      · rw [if_neg c5] at H
        exact absurd H (by simp)
    · rw [if_neg c4] at H
      exact absurd H (by simp)
  · rw [if_neg c3] at H
    exact absurd H (by simp)

end Go.Proofs.Ytmifncmnchnioaa.PL
