-- made by fvprint.py over the kit's print
import Derived.Test.YtbgcmbnnkigjjaaDoorPRx0
import Derived.Test.YtbgcmbnnkigjjaaDoorPRx1
namespace Go.Proofs.YtbgcmbnnkigjjaaDoor.PR
open Go.RowKit Go.Proofs.YtbgcmbnnkigjjaaDoorW.PrintWords Go.Proofs.YtbgcmbnnkigjjaaDoorW.PrintLast Go.Proofs.YtbgcmbnnkigjjaaDoorW.PrintMore
attribute [local go_sem] max2_int min2_int max_two min_two max_three min_three max_four min_four   -- for this text's walks alone
set_option linter.unusedVariables false
set_option linter.unusedSimpArgs false

attribute [local go_sem] cell_set_some
/-! ### post_end_holds: function 20 -/
/-! ### a map of a literal's entries, made and looked up in one go -/
theorem alloc_put (W : World) (o o' : Obj) : ({ W.alloc o with heap := (W.alloc o).heap.setIfInBounds W.heap.size o' } : World) = W.alloc o' := by
  have : (W.alloc o).heap.setIfInBounds W.heap.size o' = (W.alloc o').heap := by
    show (W.heap.push o).setIfInBounds W.heap.size o' = W.heap.push o'
    apply Array.ext_getElem?
    intro i
    rw [Array.getElem?_setIfInBounds, Array.getElem?_push, Array.getElem?_push, Array.size_push]
    by_cases h : W.heap.size = i
    · subst h
      simp
    · rw [if_neg h]
      have : i ≠ W.heap.size := fun e => h e.symm
      simp [this]
  rw [this]
  rfl
theorem ins_run {P : Program} {T K E : TypeId} (hm : P.underlying T = some (.map K E)) (hk : P.underlying K = some (.int .i64)) (W : World) (B : Nat) (es : Array MapEntry) (c : Nat) (k : Int) (v : Value) (hB : B = W.heap.size)
    (hf : Instr.findNow (.int .i64) (.int .i64 k) es.toList 0 = some none) : (Instr.mapUpdate T (.map (some B)) (.int .i64 k) v).run P (W.alloc (.map es c)) = .ok () (W.alloc (.map (es.push ⟨.int .i64 k, v, c⟩) (c + 1))) := by
  subst hB
  have hb : (W.alloc (.map es c)).heap[W.heap.size]? = some (.map es c) := by
    show (W.heap.push _)[W.heap.size]? = _
    simp
  simp [Instr.mapUpdate, run_underlying hm, MapKept.run_getObj_map hb, MapKept.run_checkKey hk (show MapKept.IsKey (.int .i64) (.int .i64 k) from rfl), MapKept.run_findKey hk hf, MapKept.run_setObj_map _ hb, Result.andThen]
  exact alloc_put W _ _
def lookV (z : Value) (b : Bool) : Option (Option (Nat × Value)) → Value
  | some (some x) => if b then .tuple #[x.2, .bool true] else x.2
  | _ => if b then .tuple #[z, .bool false] else z
theorem look_run {P : Program} {T K E : TypeId} (hm : P.underlying T = some (.map K E)) (hk : P.underlying K = some (.int .i64)) (z : Value) (hz : ∀ w, (zeroValue E).run P w = .ok z w) (W : World) (B : Nat) (es : Array MapEntry) (c : Nat) (k : Int) (b : Bool) (hB : B = W.heap.size)
    (hf : (Instr.findNow (.int .i64) (.int .i64 k) es.toList 0).isSome = true) : (Instr.lookup T (.map (some B)) (.int .i64 k) b).run P (W.alloc (.map es c)) = .ok (lookV z b (Instr.findNow (.int .i64) (.int .i64 k) es.toList 0)) (W.alloc (.map es c)) := by
  subst hB
  have hb : (W.alloc (.map es c)).heap[W.heap.size]? = some (.map es c) := by
    show (W.heap.push _)[W.heap.size]? = _
    simp
  obtain ⟨r, hr⟩ := Option.isSome_iff_exists.mp hf
  rw [hr]
  cases r with
  | none => cases b <;> simp [Instr.lookup, run_underlying hm, MapKept.run_getObj_map hb, MapKept.run_checkKey hk (show MapKept.IsKey (.int .i64) (.int .i64 k) from rfl), MapKept.run_findKey hk hr, hz, Result.andThen, lookV]
  | some x => cases b <;> simp [Instr.lookup, run_underlying hm, MapKept.run_getObj_map hb, MapKept.run_checkKey hk (show MapKept.IsKey (.int .i64) (.int .i64 k) from rfl), MapKept.run_findKey hk hr, hz, Result.andThen, lookV]
def post_end_holds.f : Nat → List ByteArray → List (List ByteArray) → List (List Int) → List Int → Int → Int → ByteArray → Int → List S24 → Int → Option (Bool × Bool)
  | 0, _, _, _, _, _, _, _, _, _, _ => none
  | k + 1, x0, x1, x2, x3, y0, y1, y2, y3, y4, d =>
    if y0 = 1 then (if y4.length = 0 ∧ d < 6 then post_end_mem.f k x0 x1 x2 x3 y0 y1 y2 y3 y4 else some (false, false))
    else if y0 = 2 then (if y4.length = 0 ∧ d < 6 then post_end_reg.f k x0 x1 x2 x3 y0 y1 y2 y3 y4 else some (false, false))
    else if y0 = 3 ∨ y0 = 4 ∨ y0 = 5 then (if y4.length = (if y0 = 3 then 1 else 2) ∧ d < 6 then
      (post_end_holds.f k x0 x1 x2 x3 (rd_T24 y4 0).f0 (rd_T24 y4 0).f1 (rd_T24 y4 0).f2 (rd_T24 y4 0).f3 (rd_T24 y4 0).f4 (wrap64 (d + 1))).bind fun p =>
      (post_end_holds.f k x0 x1 x2 x3 (rd_T24 y4 (wrap64 ((y4.length : Int) - 1))).f0 (rd_T24 y4 (wrap64 ((y4.length : Int) - 1))).f1 (rd_T24 y4 (wrap64 ((y4.length : Int) - 1))).f2 (rd_T24 y4 (wrap64 ((y4.length : Int) - 1))).f3 (rd_T24 y4 (wrap64 ((y4.length : Int) - 1))).f4 (wrap64 (d + 1))).bind fun q =>
      some ((p.2 && q.2) && (if y0 = 3 then !p.1 else if y0 = 4 then p.1 && q.1 else p.1 || q.1), p.2 && q.2)
      else some (false, false)) else some (false, false)
theorem post_end_holds.mono : ∀ a0 a1 a2 a3 a4 a5 a6 a7 a8 a9 k, LeO (post_end_holds.f k a0 a1 a2 a3 a4 a5 a6 a7 a8 a9) (post_end_holds.f (k + 1) a0 a1 a2 a3 a4 a5 a6 a7 a8 a9) := by
  intro a0 a1 a2 a3 a4 a5 a6 a7 a8 a9 k
  induction k generalizing a4 a5 a6 a7 a8 a9 with
  | zero => exact LeO.none _
  | succ k ih =>
    intro r h
    rw [post_end_holds.f] at h ⊢
    by_cases h1 : a4 = 1
    · rw [if_pos h1] at h ⊢
      by_cases hc : a8.length = 0 ∧ a9 < 6
      · rw [if_pos hc] at h ⊢
        exact post_end_mem.mono _ _ _ _ _ _ _ _ _ k r h
      · rw [if_neg hc] at h ⊢
        exact h
    · rw [if_neg h1] at h ⊢
      by_cases h2 : a4 = 2
      · rw [if_pos h2] at h ⊢
        by_cases hc : a8.length = 0 ∧ a9 < 6
        · rw [if_pos hc] at h ⊢
          exact post_end_reg.mono _ _ _ _ _ _ _ _ _ k r h
        · rw [if_neg hc] at h ⊢
          exact h
      · rw [if_neg h2] at h ⊢
        by_cases h3 : a4 = 3 ∨ a4 = 4 ∨ a4 = 5
        · rw [if_pos h3] at h ⊢
          by_cases hc : a8.length = (if a4 = 3 then 1 else 2) ∧ a9 < 6
          · rw [if_pos hc] at h ⊢
            obtain ⟨p, hp, h⟩ := Option.bind_eq_some_iff.mp h
            obtain ⟨q, hq, h⟩ := Option.bind_eq_some_iff.mp h
            exact Option.bind_eq_some_iff.mpr ⟨p, ih _ _ _ _ _ _ p hp, Option.bind_eq_some_iff.mpr ⟨q, ih _ _ _ _ _ _ q hq, h⟩⟩
          · rw [if_neg hc] at h ⊢
            exact h
        · rw [if_neg h3] at h ⊢
          exact h
abbrev post_end_holds.At (k : Nat) : Prop := ∀ (A0_0 : Option Addr) (c0_0 : Nat) (l0_0 : List ByteArray) (A0_1 : Option Addr) (c0_1 : Nat) (l0_1 : List (List ByteArray)) (A0_2 : Option Addr) (c0_2 : Nat) (l0_2 : List (List Int)) (A0_3 : Option Addr) (c0_3 : Nat) (l0_3 : List Int) (a1_0 : Int) (a1_1 : Int) (a1_2 : ByteArray) (a1_3 : Int) (A1_4 : Option Addr) (c1_4 : Nat) (l1_4 : List S24) (a2 : Int) (r1 : Bool) (r2 : Bool) (w : World) (hr0_0 : Kd.C Kd.string w A0_0 l0_0.length l0_0) (hc0_0 : l0_0.length ≤ c0_0) (hr0_1 : Kd.C (Kd.slice 9 Kd.string) w A0_1 l0_1.length l0_1) (hc0_1 : l0_1.length ≤ c0_1) (hr0_2 : Kd.C (Kd.slice 3 (Kd.int .i64)) w A0_2 l0_2.length l0_2) (hc0_2 : l0_2.length ≤ c0_2) (hr0_3 : Kd.C (Kd.int .i64) w A0_3 l0_3.length l0_3) (hc0_3 : l0_3.length ≤ c0_3) (hr1_4 : Kd.C k24 w A1_4 l1_4.length l1_4) (hc1_4 : l1_4.length ≤ c1_4) (h : post_end_holds.f k l0_0 l0_1 l0_2 l0_3 a1_0 a1_1 a1_2 a1_3 l1_4 a2 = some (r1, r2)), Calls Tryd.prog 20 #[.agg #[.slice A0_0 l0_0.length c0_0, .slice A0_1 l0_1.length c0_1, .slice A0_2 l0_2.length c0_2, .slice A0_3 l0_3.length c0_3], .agg #[.int .i64 a1_0, .int .i64 a1_1, .string a1_2, .int .i64 a1_3, .slice A1_4 l1_4.length c1_4], .int .i64 a2] w fun e w' => e = .returned (.tuple #[.bool r1, .bool r2]) ∧ Below w.heap.size w w'

end Go.Proofs.YtbgcmbnnkigjjaaDoor.PR
