-- made by fvprint.py over the kit's print
import Derived.Test.YtbgcmbnnkigjjaaDoorPRx0
import Derived.Test.YtbgcmbnnkigjjaaDoorPRx1
import Derived.Test.YtbgcmbnnkigjjaaDoorPRx2
import Derived.Test.YtbgcmbnnkigjjaaDoorPRx3
namespace Go.Proofs.YtbgcmbnnkigjjaaDoor.PR
open Go.RowKit Go.Proofs.YtbgcmbnnkigjjaaDoorW.PrintWords Go.Proofs.YtbgcmbnnkigjjaaDoorW.PrintLast Go.Proofs.YtbgcmbnnkigjjaaDoorW.PrintMore
attribute [local go_sem] max2_int min2_int max_two min_two max_three min_three max_four min_four   -- for this text's walks alone
set_option linter.unusedVariables false
set_option linter.unusedSimpArgs false

attribute [local go_sem] cell_set_some
/-! ### post_end_holds: its walk -/
theorem cell_box_ (w : World) (A : Obj) (cs : Array Value) (t : TypeId) (M : Obj) (i : Nat) (v : Value) (h : cs[i]? = some v) : (((w.alloc A).alloc (.cells cs t)).alloc M).cell? ⟨w.heap.size + 1, i, none⟩ = some v := by
  have hs : (w.alloc A).heap.size = w.heap.size + 1 := by
    show (w.heap.push A).size = _
    simp
  have hs2 : ((w.alloc A).alloc (.cells cs t)).heap.size = w.heap.size + 2 := by
    show (((w.heap.push A)).push _).size = _
    simp
  rw [((Below.refl ((w.alloc A).alloc (.cells cs t)).heap.size _).alloc (Nat.le_refl _) M).cell (by rw [hs2]; show w.heap.size + 1 < _; omega)]
  unfold World.cell?
  have : ((w.alloc A).alloc (.cells cs t)).heap[w.heap.size + 1]? = some (.cells cs t) := by
    show ((w.heap.push A).push _)[w.heap.size + 1]? = _
    rw [Array.getElem?_push, if_pos (by simp)]
  rw [this]
  simpa using h
attribute [local go_sem] Instr.findNow Instr.sameNow lookV
set_option maxHeartbeats 2000000 in
set_option maxRecDepth 100000 in
theorem post_end_holds.bad1 (x0 x1 x2 x3 : Value) (a1_1 : Int) (a1_2 : ByteArray) (a1_3 : Int) (A1_4 : Option Addr) (n4 c1_4 : Nat) (a2 : Int) (w : World) (hbad : ¬ (n4 = 0 ∧ a2 < 6)) :
    Calls Tryd.prog 20 #[.agg #[x0, x1, x2, x3], .agg #[.int .i64 1, .int .i64 a1_1, .string a1_2, .int .i64 a1_3, .slice A1_4 n4 c1_4], .int .i64 a2] w fun e w' => e = .returned (.tuple #[.bool false, .bool false]) ∧ Below w.heap.size w w' := by
  have hu51 := Tryd.underlying51
  have hu24 := Tryd.underlying24
  have hmm := @run_makeMap Tryd.prog
  have hins := @ins_run Tryd.prog 59 3 3 Tryd.underlying59 Tryd.underlying3
  have hlk := @look_run Tryd.prog 59 3 3 Tryd.underlying59 Tryd.underlying3 (.int .i64 0) (fun w => by kernel_rfl)
  have HBad := Aside0.mk hbad
  clear hbad
  go_enter Tryd.func20, Tryd.ntmps20
  go_wp2
  rw [hins]
  rotate_left
  · simp
  · rfl
  go_wp2_with (fail)
  all_goals first
    | (go_ret2
       exact ⟨rfl, (((Below.refl _ _).alloc (Nat.le_refl _) _).alloc (by simp) _).alloc (by simp; omega) _⟩)
    | exact absurd (by constructor <;> omega) HBad.out
set_option maxHeartbeats 2000000 in
set_option maxRecDepth 100000 in
theorem post_end_holds.bad2 (x0 x1 x2 x3 : Value) (a1_1 : Int) (a1_2 : ByteArray) (a1_3 : Int) (A1_4 : Option Addr) (n4 c1_4 : Nat) (a2 : Int) (w : World) (hbad : ¬ (n4 = 0 ∧ a2 < 6)) :
    Calls Tryd.prog 20 #[.agg #[x0, x1, x2, x3], .agg #[.int .i64 2, .int .i64 a1_1, .string a1_2, .int .i64 a1_3, .slice A1_4 n4 c1_4], .int .i64 a2] w fun e w' => e = .returned (.tuple #[.bool false, .bool false]) ∧ Below w.heap.size w w' := by
  have hu51 := Tryd.underlying51
  have hu24 := Tryd.underlying24
  have hmm := @run_makeMap Tryd.prog
  have hins := @ins_run Tryd.prog 59 3 3 Tryd.underlying59 Tryd.underlying3
  have hlk := @look_run Tryd.prog 59 3 3 Tryd.underlying59 Tryd.underlying3 (.int .i64 0) (fun w => by kernel_rfl)
  have HBad := Aside0.mk hbad
  clear hbad
  go_enter Tryd.func20, Tryd.ntmps20
  go_wp2
  rw [hins]
  rotate_left
  · simp
  · rfl
  go_wp2_with (fail)
  all_goals first
    | (go_ret2
       exact ⟨rfl, (((Below.refl _ _).alloc (Nat.le_refl _) _).alloc (by simp) _).alloc (by simp; omega) _⟩)
    | exact absurd (by constructor <;> omega) HBad.out
set_option maxHeartbeats 2000000 in
set_option maxRecDepth 100000 in
theorem post_end_holds.bad3 (x0 x1 x2 x3 : Value) (a1_1 : Int) (a1_2 : ByteArray) (a1_3 : Int) (A1_4 : Option Addr) (n4 c1_4 : Nat) (a2 : Int) (w : World) (hbad : ¬ (n4 = 1 ∧ a2 < 6)) :
    Calls Tryd.prog 20 #[.agg #[x0, x1, x2, x3], .agg #[.int .i64 3, .int .i64 a1_1, .string a1_2, .int .i64 a1_3, .slice A1_4 n4 c1_4], .int .i64 a2] w fun e w' => e = .returned (.tuple #[.bool false, .bool false]) ∧ Below w.heap.size w w' := by
  have hu51 := Tryd.underlying51
  have hu24 := Tryd.underlying24
  have hmm := @run_makeMap Tryd.prog
  have hins := @ins_run Tryd.prog 59 3 3 Tryd.underlying59 Tryd.underlying3
  have hlk := @look_run Tryd.prog 59 3 3 Tryd.underlying59 Tryd.underlying3 (.int .i64 0) (fun w => by kernel_rfl)
  have HBad := Aside0.mk hbad
  clear hbad
  go_enter Tryd.func20, Tryd.ntmps20
  go_wp2
  rw [hins]
  rotate_left
  · simp
  · rfl
  go_wp2_with (fail)
  all_goals first
    | (go_ret2
       exact ⟨rfl, (((Below.refl _ _).alloc (Nat.le_refl _) _).alloc (by simp) _).alloc (by simp; omega) _⟩)
    | exact absurd (by constructor <;> omega) HBad.out
set_option maxHeartbeats 2000000 in
set_option maxRecDepth 100000 in
theorem post_end_holds.bad4 (x0 x1 x2 x3 : Value) (a1_1 : Int) (a1_2 : ByteArray) (a1_3 : Int) (A1_4 : Option Addr) (n4 c1_4 : Nat) (a2 : Int) (w : World) (hbad : ¬ (n4 = 2 ∧ a2 < 6)) :
    Calls Tryd.prog 20 #[.agg #[x0, x1, x2, x3], .agg #[.int .i64 4, .int .i64 a1_1, .string a1_2, .int .i64 a1_3, .slice A1_4 n4 c1_4], .int .i64 a2] w fun e w' => e = .returned (.tuple #[.bool false, .bool false]) ∧ Below w.heap.size w w' := by
  have hu51 := Tryd.underlying51
  have hu24 := Tryd.underlying24
  have hmm := @run_makeMap Tryd.prog
  have hins := @ins_run Tryd.prog 59 3 3 Tryd.underlying59 Tryd.underlying3
  have hlk := @look_run Tryd.prog 59 3 3 Tryd.underlying59 Tryd.underlying3 (.int .i64 0) (fun w => by kernel_rfl)
  have HBad := Aside0.mk hbad
  clear hbad
  go_enter Tryd.func20, Tryd.ntmps20
  go_wp2
  rw [hins]
  rotate_left
  · simp
  · rfl
  go_wp2_with (fail)
  all_goals first
    | (go_ret2
       exact ⟨rfl, (((Below.refl _ _).alloc (Nat.le_refl _) _).alloc (by simp) _).alloc (by simp; omega) _⟩)
    | exact absurd (by constructor <;> omega) HBad.out
set_option maxHeartbeats 2000000 in
set_option maxRecDepth 100000 in
theorem post_end_holds.bad5 (x0 x1 x2 x3 : Value) (a1_1 : Int) (a1_2 : ByteArray) (a1_3 : Int) (A1_4 : Option Addr) (n4 c1_4 : Nat) (a2 : Int) (w : World) (hbad : ¬ (n4 = 2 ∧ a2 < 6)) :
    Calls Tryd.prog 20 #[.agg #[x0, x1, x2, x3], .agg #[.int .i64 5, .int .i64 a1_1, .string a1_2, .int .i64 a1_3, .slice A1_4 n4 c1_4], .int .i64 a2] w fun e w' => e = .returned (.tuple #[.bool false, .bool false]) ∧ Below w.heap.size w w' := by
  have hu51 := Tryd.underlying51
  have hu24 := Tryd.underlying24
  have hmm := @run_makeMap Tryd.prog
  have hins := @ins_run Tryd.prog 59 3 3 Tryd.underlying59 Tryd.underlying3
  have hlk := @look_run Tryd.prog 59 3 3 Tryd.underlying59 Tryd.underlying3 (.int .i64 0) (fun w => by kernel_rfl)
  have HBad := Aside0.mk hbad
  clear hbad
  go_enter Tryd.func20, Tryd.ntmps20
  go_wp2
  rw [hins]
  rotate_left
  · simp
  · rfl
  go_wp2_with (fail)
  all_goals first
    | (go_ret2
       exact ⟨rfl, (((Below.refl _ _).alloc (Nat.le_refl _) _).alloc (by simp) _).alloc (by simp; omega) _⟩)
    | exact absurd (by constructor <;> omega) HBad.out
set_option maxHeartbeats 2000000 in
set_option maxRecDepth 100000 in
theorem post_end_holds.other (x0 x1 x2 x3 : Value) (a1_0 a1_1 : Int) (a1_2 : ByteArray) (a1_3 : Int) (A1_4 : Option Addr) (n4 c1_4 : Nat) (a2 : Int) (w : World) (b1 : (a1_0 == 1) = false) (b2 : (a1_0 == 2) = false) (b3 : (a1_0 == 3) = false) (b4 : (a1_0 == 4) = false) (b5 : (a1_0 == 5) = false) :
    Calls Tryd.prog 20 #[.agg #[x0, x1, x2, x3], .agg #[.int .i64 a1_0, .int .i64 a1_1, .string a1_2, .int .i64 a1_3, .slice A1_4 n4 c1_4], .int .i64 a2] w fun e w' => e = .returned (.tuple #[.bool false, .bool false]) ∧ Below w.heap.size w w' := by
  have hu51 := Tryd.underlying51
  have hu24 := Tryd.underlying24
  have hmm := @run_makeMap Tryd.prog
  have hins := @ins_run Tryd.prog 59 3 3 Tryd.underlying59 Tryd.underlying3
  have hlk := @look_run Tryd.prog 59 3 3 Tryd.underlying59 Tryd.underlying3 (.int .i64 0) (fun w => by kernel_rfl)
  go_enter Tryd.func20, Tryd.ntmps20
  go_wp2
  rw [hins]
  rotate_left
  · simp
  · rfl
  go_wp2_with (fail)
  go_ret2
  exact ⟨rfl, (((Below.refl _ _).alloc (Nat.le_refl _) _).alloc (by simp) _).alloc (by simp; omega) _⟩
set_option maxHeartbeats 2000000 in
set_option maxRecDepth 100000 in
theorem post_end_holds.leaf1 (x0 x1 x2 x3 : Value) (a1_1 : Int) (a1_2 : ByteArray) (a1_3 : Int) (A1_4 : Option Addr) (c1_4 : Nat) (a2 : Int) (r1 r2 : Bool) (w : World) (hd : decide (6 ≤ a2) = false)
    (h : ∀ W, Below w.heap.size w W → Calls Tryd.prog 29 #[.agg #[x0, x1, x2, x3], .agg #[.int .i64 1, .int .i64 a1_1, .string a1_2, .int .i64 a1_3, .slice A1_4 0 c1_4]] W fun e w' => e = .returned (.tuple #[.bool r1, .bool r2]) ∧ Below W.heap.size W w') :
    Calls Tryd.prog 20 #[.agg #[x0, x1, x2, x3], .agg #[.int .i64 1, .int .i64 a1_1, .string a1_2, .int .i64 a1_3, .slice A1_4 0 c1_4], .int .i64 a2] w fun e w' => e = .returned (.tuple #[.bool r1, .bool r2]) ∧ Below w.heap.size w w' := by
  have hu51 := Tryd.underlying51
  have hu24 := Tryd.underlying24
  have hmm := @run_makeMap Tryd.prog
  have hins := @ins_run Tryd.prog 59 3 3 Tryd.underlying59 Tryd.underlying3
  have hlk := @look_run Tryd.prog 59 3 3 Tryd.underlying59 Tryd.underlying3 (.int .i64 0) (fun w => by kernel_rfl)
  have HH := Aside0.mk h
  clear h
  go_enter Tryd.func20, Tryd.ntmps20
  go_wp2
  rw [hins]
  rotate_left
  · simp
  · rfl
  go_wp2_with (first | (go_at_call 29; refine (HH.out _ ?hb).mono ?_; (case hb => exact (((Below.refl _ _).alloc (Nat.le_refl _) _).alloc (by simp) _).alloc (by simp; omega) _); rintro e w' ⟨rfl, hb⟩; have HB1 := Aside0.mk hb; clear hb))
  go_ret2
  exact ⟨rfl, ((((Below.refl _ _).alloc (Nat.le_refl _) _).alloc (by simp) _).alloc (by simp; omega) _).trans (HB1.out.mono (by simp; omega))⟩
set_option maxHeartbeats 2000000 in
set_option maxRecDepth 100000 in
theorem post_end_holds.leaf2 (x0 x1 x2 x3 : Value) (a1_1 : Int) (a1_2 : ByteArray) (a1_3 : Int) (A1_4 : Option Addr) (c1_4 : Nat) (a2 : Int) (r1 r2 : Bool) (w : World) (hd : decide (6 ≤ a2) = false)
    (h : ∀ W, Below w.heap.size w W → Calls Tryd.prog 30 #[.agg #[x0, x1, x2, x3], .agg #[.int .i64 2, .int .i64 a1_1, .string a1_2, .int .i64 a1_3, .slice A1_4 0 c1_4]] W fun e w' => e = .returned (.tuple #[.bool r1, .bool r2]) ∧ Below W.heap.size W w') :
    Calls Tryd.prog 20 #[.agg #[x0, x1, x2, x3], .agg #[.int .i64 2, .int .i64 a1_1, .string a1_2, .int .i64 a1_3, .slice A1_4 0 c1_4], .int .i64 a2] w fun e w' => e = .returned (.tuple #[.bool r1, .bool r2]) ∧ Below w.heap.size w w' := by
  have hu51 := Tryd.underlying51
  have hu24 := Tryd.underlying24
  have hmm := @run_makeMap Tryd.prog
  have hins := @ins_run Tryd.prog 59 3 3 Tryd.underlying59 Tryd.underlying3
  have hlk := @look_run Tryd.prog 59 3 3 Tryd.underlying59 Tryd.underlying3 (.int .i64 0) (fun w => by kernel_rfl)
  have HH := Aside0.mk h
  clear h
  go_enter Tryd.func20, Tryd.ntmps20
  go_wp2
  rw [hins]
  rotate_left
  · simp
  · rfl
  go_wp2_with (first | (go_at_call 30; refine (HH.out _ ?hb).mono ?_; (case hb => exact (((Below.refl _ _).alloc (Nat.le_refl _) _).alloc (by simp) _).alloc (by simp; omega) _); rintro e w' ⟨rfl, hb⟩; have HB1 := Aside0.mk hb; clear hb))
  go_ret2
  exact ⟨rfl, ((((Below.refl _ _).alloc (Nat.le_refl _) _).alloc (by simp) _).alloc (by simp; omega) _).trans (HB1.out.mono (by simp; omega))⟩
set_option maxHeartbeats 2000000 in
set_option maxRecDepth 100000 in
theorem post_end_holds.two3 (x0 x1 x2 x3 : Value) (a1_1 : Int) (a1_2 : ByteArray) (a1_3 : Int) (A1_4 : Option Addr) (c1_4 : Nat) (a2 : Int) (a b ok : Bool) (w : World) (hd : decide (6 ≤ a2) = false)
    (h : ∀ W, Below w.heap.size w W → Calls Tryd.prog 31 #[.agg #[x0, x1, x2, x3], .agg #[.int .i64 3, .int .i64 a1_1, .string a1_2, .int .i64 a1_3, .slice A1_4 1 c1_4], .int .i64 a2] W fun e w' => e = .returned (.tuple #[.bool a, .bool b, .bool ok]) ∧ Below W.heap.size W w') :
    Calls Tryd.prog 20 #[.agg #[x0, x1, x2, x3], .agg #[.int .i64 3, .int .i64 a1_1, .string a1_2, .int .i64 a1_3, .slice A1_4 1 c1_4], .int .i64 a2] w fun e w' => e = .returned (.tuple #[.bool (ok && (!a)), .bool ok]) ∧ Below w.heap.size w w' := by
  have hu51 := Tryd.underlying51
  have hu24 := Tryd.underlying24
  have hmm := @run_makeMap Tryd.prog
  have hins := @ins_run Tryd.prog 59 3 3 Tryd.underlying59 Tryd.underlying3
  have hlk := @look_run Tryd.prog 59 3 3 Tryd.underlying59 Tryd.underlying3 (.int .i64 0) (fun w => by kernel_rfl)
  have hins2 := @ins_run Tryd.prog 63 3 4 Tryd.underlying63 Tryd.underlying3
  have hlk2 := @look_run Tryd.prog 63 3 4 Tryd.underlying63 Tryd.underlying3 (.bool false) (fun w => by kernel_rfl)
  have HH := Aside0.mk h
  clear h
  go_enter Tryd.func20, Tryd.ntmps20
  go_wp2
  rw [hins]
  rotate_left
  · simp
  · rfl
  go_wp2_with (first | (go_at_call 31; refine (HH.out _ ?hb).mono ?_; (case hb => exact (((Below.refl _ _).alloc (Nat.le_refl _) _).alloc (by simp) _).alloc (by simp; omega) _); rintro e w' ⟨rfl, hb⟩; have HB1 := Aside0.mk hb; clear hb))
  have hsz : w.heap.size + 2 < w'.heap.size := by
    have := HB1.out.size
    simp at this
    omega
  have hcell : ∀ o, (w'.alloc o).cell? ⟨w.heap.size + 1, 0, none⟩ = some (.int .i64 3) := fun o => by
    have h1 : w'.cell? ⟨w.heap.size + 1, 0, none⟩ = some (.int .i64 3) := by
      rw [HB1.out.cell (by first | (simp; done) | (simp; omega))]
      exact cell_box_ w _ _ _ _ 0 _ rfl
    rw [← h1]
    exact (((Below.refl w'.heap.size w').alloc (Nat.le_refl _) o).cell (by show w.heap.size + 1 < w'.heap.size; omega))
  rw [hins2]
  rotate_left
  · simp
  · rfl
  go_wp2_with (fail)
  all_goals
    go_ret2
    refine ⟨by cases a <;> cases b <;> cases ok <;> first | rfl | contradiction | (exfalso; simp_all; done), ?_⟩
    exact (((((Below.refl _ _).alloc (Nat.le_refl _) _).alloc (by simp) _).alloc (by simp; omega) _).trans (HB1.out.mono (by simp; omega))).alloc (by omega) _
set_option maxHeartbeats 2000000 in
set_option maxRecDepth 100000 in
theorem post_end_holds.two4 (x0 x1 x2 x3 : Value) (a1_1 : Int) (a1_2 : ByteArray) (a1_3 : Int) (A1_4 : Option Addr) (c1_4 : Nat) (a2 : Int) (a b ok : Bool) (w : World) (hd : decide (6 ≤ a2) = false)
    (h : ∀ W, Below w.heap.size w W → Calls Tryd.prog 31 #[.agg #[x0, x1, x2, x3], .agg #[.int .i64 4, .int .i64 a1_1, .string a1_2, .int .i64 a1_3, .slice A1_4 2 c1_4], .int .i64 a2] W fun e w' => e = .returned (.tuple #[.bool a, .bool b, .bool ok]) ∧ Below W.heap.size W w') :
    Calls Tryd.prog 20 #[.agg #[x0, x1, x2, x3], .agg #[.int .i64 4, .int .i64 a1_1, .string a1_2, .int .i64 a1_3, .slice A1_4 2 c1_4], .int .i64 a2] w fun e w' => e = .returned (.tuple #[.bool (ok && (a && b)), .bool ok]) ∧ Below w.heap.size w w' := by
  have hu51 := Tryd.underlying51
  have hu24 := Tryd.underlying24
  have hmm := @run_makeMap Tryd.prog
  have hins := @ins_run Tryd.prog 59 3 3 Tryd.underlying59 Tryd.underlying3
  have hlk := @look_run Tryd.prog 59 3 3 Tryd.underlying59 Tryd.underlying3 (.int .i64 0) (fun w => by kernel_rfl)
  have hins2 := @ins_run Tryd.prog 63 3 4 Tryd.underlying63 Tryd.underlying3
  have hlk2 := @look_run Tryd.prog 63 3 4 Tryd.underlying63 Tryd.underlying3 (.bool false) (fun w => by kernel_rfl)
  have HH := Aside0.mk h
  clear h
  go_enter Tryd.func20, Tryd.ntmps20
  go_wp2
  rw [hins]
  rotate_left
  · simp
  · rfl
  go_wp2_with (first | (go_at_call 31; refine (HH.out _ ?hb).mono ?_; (case hb => exact (((Below.refl _ _).alloc (Nat.le_refl _) _).alloc (by simp) _).alloc (by simp; omega) _); rintro e w' ⟨rfl, hb⟩; have HB1 := Aside0.mk hb; clear hb))
  have hsz : w.heap.size + 2 < w'.heap.size := by
    have := HB1.out.size
    simp at this
    omega
  have hcell : ∀ o, (w'.alloc o).cell? ⟨w.heap.size + 1, 0, none⟩ = some (.int .i64 4) := fun o => by
    have h1 : w'.cell? ⟨w.heap.size + 1, 0, none⟩ = some (.int .i64 4) := by
      rw [HB1.out.cell (by first | (simp; done) | (simp; omega))]
      exact cell_box_ w _ _ _ _ 0 _ rfl
    rw [← h1]
    exact (((Below.refl w'.heap.size w').alloc (Nat.le_refl _) o).cell (by show w.heap.size + 1 < w'.heap.size; omega))
  rw [hins2]
  rotate_left
  · simp
  · rfl
  go_wp2_with (fail)
  all_goals
    go_ret2
    refine ⟨by cases a <;> cases b <;> cases ok <;> first | rfl | contradiction | (exfalso; simp_all; done), ?_⟩
    exact (((((Below.refl _ _).alloc (Nat.le_refl _) _).alloc (by simp) _).alloc (by simp; omega) _).trans (HB1.out.mono (by simp; omega))).alloc (by omega) _
set_option maxHeartbeats 2000000 in
set_option maxRecDepth 100000 in
theorem post_end_holds.two5 (x0 x1 x2 x3 : Value) (a1_1 : Int) (a1_2 : ByteArray) (a1_3 : Int) (A1_4 : Option Addr) (c1_4 : Nat) (a2 : Int) (a b ok : Bool) (w : World) (hd : decide (6 ≤ a2) = false)
    (h : ∀ W, Below w.heap.size w W → Calls Tryd.prog 31 #[.agg #[x0, x1, x2, x3], .agg #[.int .i64 5, .int .i64 a1_1, .string a1_2, .int .i64 a1_3, .slice A1_4 2 c1_4], .int .i64 a2] W fun e w' => e = .returned (.tuple #[.bool a, .bool b, .bool ok]) ∧ Below W.heap.size W w') :
    Calls Tryd.prog 20 #[.agg #[x0, x1, x2, x3], .agg #[.int .i64 5, .int .i64 a1_1, .string a1_2, .int .i64 a1_3, .slice A1_4 2 c1_4], .int .i64 a2] w fun e w' => e = .returned (.tuple #[.bool (ok && (a || b)), .bool ok]) ∧ Below w.heap.size w w' := by
  have hu51 := Tryd.underlying51
  have hu24 := Tryd.underlying24
  have hmm := @run_makeMap Tryd.prog
  have hins := @ins_run Tryd.prog 59 3 3 Tryd.underlying59 Tryd.underlying3
  have hlk := @look_run Tryd.prog 59 3 3 Tryd.underlying59 Tryd.underlying3 (.int .i64 0) (fun w => by kernel_rfl)
  have hins2 := @ins_run Tryd.prog 63 3 4 Tryd.underlying63 Tryd.underlying3
  have hlk2 := @look_run Tryd.prog 63 3 4 Tryd.underlying63 Tryd.underlying3 (.bool false) (fun w => by kernel_rfl)
  have HH := Aside0.mk h
  clear h
  go_enter Tryd.func20, Tryd.ntmps20
  go_wp2
  rw [hins]
  rotate_left
  · simp
  · rfl
  go_wp2_with (first | (go_at_call 31; refine (HH.out _ ?hb).mono ?_; (case hb => exact (((Below.refl _ _).alloc (Nat.le_refl _) _).alloc (by simp) _).alloc (by simp; omega) _); rintro e w' ⟨rfl, hb⟩; have HB1 := Aside0.mk hb; clear hb))
  have hsz : w.heap.size + 2 < w'.heap.size := by
    have := HB1.out.size
    simp at this
    omega
  have hcell : ∀ o, (w'.alloc o).cell? ⟨w.heap.size + 1, 0, none⟩ = some (.int .i64 5) := fun o => by
    have h1 : w'.cell? ⟨w.heap.size + 1, 0, none⟩ = some (.int .i64 5) := by
      rw [HB1.out.cell (by first | (simp; done) | (simp; omega))]
      exact cell_box_ w _ _ _ _ 0 _ rfl
    rw [← h1]
    exact (((Below.refl w'.heap.size w').alloc (Nat.le_refl _) o).cell (by show w.heap.size + 1 < w'.heap.size; omega))
  rw [hins2]
  rotate_left
  · simp
  · rfl
  go_wp2_with (fail)
  all_goals
    go_ret2
    refine ⟨by cases a <;> cases b <;> cases ok <;> first | rfl | contradiction | (exfalso; simp_all; done), ?_⟩
    exact (((((Below.refl _ _).alloc (Nat.le_refl _) _).alloc (by simp) _).alloc (by simp; omega) _).trans (HB1.out.mono (by simp; omega))).alloc (by omega) _
theorem post_end_holds.calls (k : Nat) : post_end_holds.At k := by
  induction k with
  | zero =>
    intro A0_0 c0_0 l0_0 A0_1 c0_1 l0_1 A0_2 c0_2 l0_2 A0_3 c0_3 l0_3 a1_0 a1_1 a1_2 a1_3 A1_4 c1_4 l1_4 a2 r1 r2 w hr0_0 hc0_0 hr0_1 hc0_1 hr0_2 hc0_2 hr0_3 hc0_3 hr1_4 hc1_4 h
    exact absurd h (by simp [post_end_holds.f])
  | succ k ih =>
    intro A0_0 c0_0 l0_0 A0_1 c0_1 l0_1 A0_2 c0_2 l0_2 A0_3 c0_3 l0_3 a1_0 a1_1 a1_2 a1_3 A1_4 c1_4 l1_4 a2 r1 r2 w hr0_0 hc0_0 hr0_1 hc0_1 hr0_2 hc0_2 hr0_3 hc0_3 hr1_4 hc1_4 h
    rw [post_end_holds.f] at h
    have fin : ∀ {P : Prop}, some (false, false) = some (r1, r2) → (r1 = false → r2 = false → P) → P := fun e f => by
      obtain ⟨h1, h2⟩ := Prod.mk.inj (Option.some.inj e)
      exact f h1.symm h2.symm
    by_cases h1 : a1_0 = 1
    · rw [if_pos h1] at h
      subst h1
      by_cases hc : l1_4.length = 0 ∧ a2 < 6
      · rw [if_pos hc] at h
        have hl := hc.1
        have := post_end_holds.leaf1 (.slice A0_0 l0_0.length c0_0) (.slice A0_1 l0_1.length c0_1) (.slice A0_2 l0_2.length c0_2) (.slice A0_3 l0_3.length c0_3) a1_1 a1_2 a1_3 A1_4 c1_4 a2 r1 r2 w (by simp; omega) (fun W hW => by
          rw [← hl]
          exact (post_end_mem.calls k A0_0 c0_0 l0_0 A0_1 c0_1 l0_1 A0_2 c0_2 l0_2 A0_3 c0_3 l0_3 1 a1_1 a1_2 a1_3 A1_4 c1_4 l1_4 r1 r2 W (Kd.C_below hr0_0 hW) hc0_0 (Kd.C_below hr0_1 hW) hc0_1 (Kd.C_below hr0_2 hW) hc0_2 (Kd.C_below hr0_3 hW) hc0_3 (Kd.C_below hr1_4 hW) hc1_4 h))
        rw [← hl] at this
        exact this
      · rw [if_neg hc] at h
        exact fin h fun e1 e2 => by
          subst e1 e2
          exact post_end_holds.bad1 _ _ _ _ _ _ _ _ _ _ _ _ hc
    · rw [if_neg h1] at h
      by_cases h2 : a1_0 = 2
      · rw [if_pos h2] at h
        subst h2
        by_cases hc : l1_4.length = 0 ∧ a2 < 6
        · rw [if_pos hc] at h
          have hl := hc.1
          have := post_end_holds.leaf2 (.slice A0_0 l0_0.length c0_0) (.slice A0_1 l0_1.length c0_1) (.slice A0_2 l0_2.length c0_2) (.slice A0_3 l0_3.length c0_3) a1_1 a1_2 a1_3 A1_4 c1_4 a2 r1 r2 w (by simp; omega) (fun W hW => by
            rw [← hl]
            exact (post_end_reg.calls k A0_0 c0_0 l0_0 A0_1 c0_1 l0_1 A0_2 c0_2 l0_2 A0_3 c0_3 l0_3 2 a1_1 a1_2 a1_3 A1_4 c1_4 l1_4 r1 r2 W (Kd.C_below hr0_0 hW) hc0_0 (Kd.C_below hr0_1 hW) hc0_1 (Kd.C_below hr0_2 hW) hc0_2 (Kd.C_below hr0_3 hW) hc0_3 (Kd.C_below hr1_4 hW) hc1_4 h))
          rw [← hl] at this
          exact this
        · rw [if_neg hc] at h
          exact fin h fun e1 e2 => by
            subst e1 e2
            exact post_end_holds.bad2 _ _ _ _ _ _ _ _ _ _ _ _ hc
      · rw [if_neg h2] at h
        by_cases h3 : a1_0 = 3 ∨ a1_0 = 4 ∨ a1_0 = 5
        · rw [if_pos h3] at h
          by_cases hc : l1_4.length = (if a1_0 = 3 then 1 else 2) ∧ a2 < 6
          · rw [if_pos hc] at h
            obtain ⟨p, hp, h⟩ := Option.bind_eq_some_iff.mp h
            obtain ⟨q, hq, h⟩ := Option.bind_eq_some_iff.mp h
            obtain ⟨e1, e2⟩ := Prod.mk.inj (Option.some.inj h)
            have hl1 : 1 ≤ l1_4.length ∧ l1_4.length ≤ 2 := by
              have := hc.1
              split at this <;> omega
            have hw : wrap64 ((l1_4.length : Int) - 1) = (l1_4.length : Int) - 1 := by
              unfold wrap64
              omega
            have hb : post_end_both.f k l0_0 l0_1 l0_2 l0_3 a1_0 a1_1 a1_2 a1_3 l1_4 a2 = some (p.1, q.1, p.2 && q.2) := by
              unfold post_end_both.f
              rw [if_pos (by omega), hp]
              show (if _ then _ else _) = _
              rw [if_pos (by rw [hw]; omega), if_pos (by rw [hw]; omega), hq]
              show (if p.2 = true then _ else _) = _
              cases p.2 <;> rfl
            have hcall : ∀ W, Below w.heap.size w W → _ := fun W hW => post_end_both.calls k ih A0_0 c0_0 l0_0 A0_1 c0_1 l0_1 A0_2 c0_2 l0_2 A0_3 c0_3 l0_3 a1_0 a1_1 a1_2 a1_3 A1_4 c1_4 l1_4 a2 p.1 q.1 (p.2 && q.2) W (Kd.C_below hr0_0 hW) hc0_0 (Kd.C_below hr0_1 hW) hc0_1 (Kd.C_below hr0_2 hW) hc0_2 (Kd.C_below hr0_3 hW) hc0_3 (Kd.C_below hr1_4 hW) hc1_4 hb
            subst e1 e2
            have hd : decide (6 ≤ a2) = false := by simp; omega
            rcases h3 with rfl | rfl | rfl
            · have hl : l1_4.length = 1 := hc.1
              rw [hl] at hcall ⊢
              exact post_end_holds.two3 _ _ _ _ _ _ _ _ _ _ _ _ _ _ hd hcall
            · have hl : l1_4.length = 2 := hc.1
              rw [hl] at hcall ⊢
              exact post_end_holds.two4 _ _ _ _ _ _ _ _ _ _ _ _ _ _ hd hcall
            · have hl : l1_4.length = 2 := hc.1
              rw [hl] at hcall ⊢
              exact post_end_holds.two5 _ _ _ _ _ _ _ _ _ _ _ _ _ _ hd hcall
          · rw [if_neg hc] at h
            exact fin h fun e1 e2 => by
              subst e1 e2
              rcases h3 with rfl | rfl | rfl
              · exact post_end_holds.bad3 _ _ _ _ _ _ _ _ _ _ _ _ hc
              · exact post_end_holds.bad4 _ _ _ _ _ _ _ _ _ _ _ _ hc
              · exact post_end_holds.bad5 _ _ _ _ _ _ _ _ _ _ _ _ hc
        · rw [if_neg h3] at h
          exact fin h fun e1 e2 => by
            subst e1 e2
            exact post_end_holds.other _ _ _ _ _ _ _ _ _ _ _ _ _ (by simpa using h1) (by simpa using h2) (by simp; omega) (by simp; omega) (by simp; omega)

/-! ### post_Holds: function 10 -/
def post_Holds.f (k : Nat) (a0_0 : Int) (a0_1 : Int) (a0_2 : ByteArray) (a0_3 : Int) (l0_4 : List (S24)) (l1 : List ByteArray) (l2 : List (List ByteArray)) (l3_0 : List (List Int)) (l3_1 : List Int) : Option (Bool × Bool) := (post_end_holds.f k l1 l2 l3_0 l3_1 a0_0 a0_1 a0_2 a0_3 l0_4 0).bind fun bt124 => (some (bt124.1, bt124.2))
theorem post_Holds.mono : ∀ a0 a1 a2 a3 a4 a5 a6 a7 a8 k, LeO (post_Holds.f k a0 a1 a2 a3 a4 a5 a6 a7 a8) (post_Holds.f (k + 1) a0 a1 a2 a3 a4 a5 a6 a7 a8) := by
  intro a0 a1 a2 a3 a4 a5 a6 a7 a8 k
  unfold post_Holds.f
  repeat' first
      | (with_reducible exact post_end_holds.mono _ _ _ _ _ _ _ _ _ _ _)
      | (with_reducible exact LeO.refl _)
      | (with_reducible exact LeO.none _)
      | (with_reducible refine LeO.ite ?_ ?_)
      | (with_reducible refine LeO.bind ?_ (fun _ => ?_))
      | exact post_end_holds.mono _ _ _ _ _ _ _ _ _ _ _
      | exact LeO.none _
      | refine LeO.ite ?_ ?_
      | refine LeO.bind ?_ (fun _ => ?_)
set_option maxHeartbeats 8000000 in
set_option maxRecDepth 100000 in
theorem post_Holds.calls (k : Nat) (a0_0 : Int) (a0_1 : Int) (a0_2 : ByteArray) (a0_3 : Int) (A0_4 : Option Addr) (c0_4 : Nat) (l0_4 : List (S24)) (A1 : Option Addr) (c1 : Nat) (l1 : List ByteArray) (A2 : Option Addr) (c2 : Nat) (l2 : List (List ByteArray)) (A3_0 : Option Addr) (c3_0 : Nat) (l3_0 : List (List Int)) (A3_1 : Option Addr) (c3_1 : Nat) (l3_1 : List Int) (r1 : Bool) (r2 : Bool) (w : World) (hr0_4 : Kd.C k24 w A0_4 l0_4.length l0_4) (hc0_4 : l0_4.length ≤ c0_4) (hr1 : Kd.C Kd.string w A1 l1.length l1) (hc1 : l1.length ≤ c1) (hr2 : Kd.C (Kd.slice 9 Kd.string) w A2 l2.length l2) (hc2 : l2.length ≤ c2) (hr3_0 : Kd.C (Kd.slice 3 (Kd.int .i64)) w A3_0 l3_0.length l3_0) (hc3_0 : l3_0.length ≤ c3_0) (hr3_1 : Kd.C (Kd.int .i64) w A3_1 l3_1.length l3_1) (hc3_1 : l3_1.length ≤ c3_1) (h : post_Holds.f k a0_0 a0_1 a0_2 a0_3 l0_4 l1 l2 l3_0 l3_1 = some (r1, r2)) :
    Calls Tryd.prog 10 #[.agg #[.int .i64 a0_0, .int .i64 a0_1, .string a0_2, .int .i64 a0_3, .slice A0_4 l0_4.length c0_4], .slice A1 l1.length c1, .slice A2 l2.length c2, .agg #[.slice A3_0 l3_0.length c3_0, .slice A3_1 l3_1.length c3_1]] w fun e w' => e = .returned (.tuple #[.bool r1, .bool r2]) ∧ Below w.heap.size w w' := by
  have hu24 := Tryd.underlying24
  have hu30 := Tryd.underlying30
  have hu51 := Tryd.underlying51
  have HR0_4 := Aside0.mk hr0_4
  have HC0_4 := Aside0.mk hc0_4
  clear hr0_4 hc0_4
  have HR1 := Aside0.mk hr1
  have HC1 := Aside0.mk hc1
  clear hr1 hc1
  have HR2 := Aside0.mk hr2
  have HC2 := Aside0.mk hc2
  clear hr2 hc2
  have HR3_0 := Aside0.mk hr3_0
  have HC3_0 := Aside0.mk hc3_0
  clear hr3_0 hc3_0
  have HR3_1 := Aside0.mk hr3_1
  have HC3_1 := Aside0.mk hc3_1
  clear hr3_1 hc3_1
  have HB := Aside0.mk (Below.refl w.heap.size w)
  have H : ((post_end_holds.f k l1 l2 l3_0 l3_1 a0_0 a0_1 a0_2 a0_3 l0_4 0).bind fun bt124 => (some (bt124.1, bt124.2))) = some (r1, r2) := h
  clear h
  replace H := Option.bind_eq_some_iff.mp H
  obtain ⟨⟨t124, t125⟩, A50, H⟩ := H
  replace H : (some (t124, t125)) = some (r1, r2) := H
  have A5 := Aside0.mk A50
  clear A50
  simp only [Option.some.injEq, Prod.mk.injEq] at H
  obtain ⟨rfl, rfl⟩ := H
  go_enter Tryd.func10, Tryd.ntmps10
  go_wp2_with (first | ((with_reducible refine gate_dst (N := 4) rfl ?_); refine box_event ?hg (N := 4) ?hd (cs := #[.int .i64 a0_0, .int .i64 a0_1, .string a0_2, .int .i64 a0_3, .slice A0_4 l0_4.length c0_4]) (t := 24) ?hr ?_; (case hd => rfl); (case hg => rfl); (case hr => first | (go_simp; done) | (go_simp; rfl)); intro gb122 hg w6 hbox hb; have n0_ := Aside0.mk (below_step (by repeat (first | (with_reducible first | exact HB.out | apply below_alloc | apply pw_below_drewN | apply below_drew1) | exact HB.out)) hb); have n1_ := Aside0.mk (hbox); have n2_ := Aside0.mk ((by rw [hg]; exact (below_size (by repeat (first | (with_reducible first | exact HB.out | apply below_alloc | apply pw_below_drewN | apply below_drew1) | exact HB.out))) : w.heap.size ≤ gb122)); have n3_ := Aside0.mk ((by rw [hg]; exact (below_size (by repeat (first | (with_reducible first | exact HB.out | apply below_alloc | apply pw_below_drewN | apply below_drew1) | exact HB.out))) : w.heap.size ≤ gb122)); clear HB; have HB := n0_; have BK122 := n1_; have GW122 := n2_; have GE122 := n3_; clear n0_ n1_ n2_ n3_; clear hb hbox hg) | ((with_reducible refine gate_dst (N := 7) rfl ?_); refine box_event ?hg (N := 7) ?hd (cs := #[.slice A3_0 l3_0.length c3_0, .slice A3_1 l3_1.length c3_1]) (t := 30) ?hr ?_; (case hd => rfl); (case hg => rfl); (case hr => first | (go_simp; done) | (go_simp; rfl)); intro gb123 hg w7 hbox hb; have n0_ := Aside0.mk (blk_below (g := gb122) (o := .cells #[.int .i64 a0_0, .int .i64 a0_1, .string a0_2, .int .i64 a0_3, .slice A0_4 l0_4.length c0_4] 24 (0, 0)) (by (with_reducible repeat (first | refine blk_drewN ?_ _ | refine blk_drew ?_ | refine blk_alloc ?_ _)); exact BK122.out) hb); have n1_ := Aside0.mk (below_step (by repeat (first | (with_reducible first | exact HB.out | apply below_alloc | apply pw_below_drewN | apply below_drew1 | refine below_set ?_ GE122.out) | exact HB.out)) hb); have n2_ := Aside0.mk (hbox); have n3_ := Aside0.mk ((by rw [hg]; exact (below_size (by repeat (first | (with_reducible first | exact HB.out | apply below_alloc | apply pw_below_drewN | apply below_drew1 | refine below_set ?_ GE122.out) | exact HB.out))) : w.heap.size ≤ gb123)); have n4_ := Aside0.mk ((by rw [hg]; exact (below_size (by repeat (first | (with_reducible first | exact HB.out | apply below_alloc | apply pw_below_drewN | apply below_drew1 | refine below_set ?_ GE122.out) | exact HB.out))) : w.heap.size ≤ gb123)); have n5_ := Aside0.mk ((by rw [hg]; exact Nat.ne_of_lt (blk_lt (g := gb122) (o := .cells #[.int .i64 a0_0, .int .i64 a0_1, .string a0_2, .int .i64 a0_3, .slice A0_4 l0_4.length c0_4] 24 (0, 0)) (by (with_reducible repeat (first | refine blk_drewN ?_ _ | refine blk_drew ?_ | refine blk_alloc ?_ _)); exact BK122.out)) : gb122 ≠ gb123)); have n6_ := Aside0.mk ((by rw [hg]; exact Nat.ne_of_gt (blk_lt (g := gb122) (o := .cells #[.int .i64 a0_0, .int .i64 a0_1, .string a0_2, .int .i64 a0_3, .slice A0_4 l0_4.length c0_4] 24 (0, 0)) (by (with_reducible repeat (first | refine blk_drewN ?_ _ | refine blk_drew ?_ | refine blk_alloc ?_ _)); exact BK122.out)) : gb123 ≠ gb122)); clear BK122; clear HB; have BK122 := n0_; have HB := n1_; have BK123 := n2_; have GW123 := n3_; have GE123 := n4_; have NB122_123 := n5_; have NB123_122 := n6_; clear n0_ n1_ n2_ n3_ n4_ n5_ n6_; clear hb hbox hg; have hnb8 := NB123_122.out; have hnc8 := NB122_123.out; have hcz9_0 : w7.cell? ⟨gb123, 0, none⟩ = some (.slice A3_0 l3_0.length c3_0) := (blk_cell BK123.out 0).trans rfl; have hcz9_1 : w7.cell? ⟨gb123, 1, none⟩ = some (.slice A3_1 l3_1.length c3_1) := (blk_cell BK123.out 1).trans rfl; have hfz9_0 := blk_frozen BK123.out 0; have hfz9_1 := blk_frozen BK123.out 1; have hcz10_0 : w7.cell? ⟨gb122, 0, none⟩ = some (.int .i64 a0_0) := (blk_cell BK122.out 0).trans rfl; have hcz10_1 : w7.cell? ⟨gb122, 1, none⟩ = some (.int .i64 a0_1) := (blk_cell BK122.out 1).trans rfl; have hcz10_2 : w7.cell? ⟨gb122, 2, none⟩ = some (.string a0_2) := (blk_cell BK122.out 2).trans rfl; have hcz10_3 : w7.cell? ⟨gb122, 3, none⟩ = some (.int .i64 a0_3) := (blk_cell BK122.out 3).trans rfl; have hcz10_4 : w7.cell? ⟨gb122, 4, none⟩ = some (.slice A0_4 l0_4.length c0_4) := (blk_cell BK122.out 4).trans rfl; have hfz10_0 := blk_frozen BK122.out 0; have hfz10_1 := blk_frozen BK122.out 1; have hfz10_2 := blk_frozen BK122.out 2; have hfz10_3 := blk_frozen BK122.out 3; have hfz10_4 := blk_frozen BK122.out 4) | ((with_reducible refine gate_callee (f := 20) rfl ?_); refine goesL_ (some 15) rfl rfl Tryd.func20 (by kernel_rfl) rfl #[.agg #[.slice A1 l1.length c1, .slice A2 l2.length c2, .slice A3_0 l3_0.length c3_0, .slice A3_1 l3_1.length c3_1], .agg #[.int .i64 a0_0, .int .i64 a0_1, .string a0_2, .int .i64 a0_3, .slice A0_4 l0_4.length c0_4], .int .i64 0] rfl (by (try simp only [List.map_toArray, List.map_cons, List.map_nil]); first | done | rfl | (simp only [List.length_drop, List.length_take]; rfl)) ?_; (with_reducible refine (post_end_holds.calls k _ _ l1 _ _ l2 _ _ l3_0 _ _ l3_1 a0_0 a0_1 a0_2 a0_3 _ _ l0_4 0 t124 t125 _ ?side1 ?side2 ?side3 ?side4 ?side5 ?side6 ?side7 ?side8 ?side9 ?side10 A5.out).mono ?_); (case side1 => repeat (first | exact (Kd.C_below HR1.out HB.out) | (with_reducible refine Kd.C_alloc ?_ _) | (with_reducible refine Kd.C_drewN ?_ _) | (with_reducible refine Kd.C_drew ?_))); (case side2 => exact HC1.out); (case side3 => repeat (first | exact (Kd.C_below HR2.out HB.out) | (with_reducible refine Kd.C_alloc ?_ _) | (with_reducible refine Kd.C_drewN ?_ _) | (with_reducible refine Kd.C_drew ?_))); (case side4 => exact HC2.out); (case side5 => repeat (first | exact (Kd.C_below HR3_0.out HB.out) | (with_reducible refine Kd.C_alloc ?_ _) | (with_reducible refine Kd.C_drewN ?_ _) | (with_reducible refine Kd.C_drew ?_))); (case side6 => exact HC3_0.out); (case side7 => repeat (first | exact (Kd.C_below HR3_1.out HB.out) | (with_reducible refine Kd.C_alloc ?_ _) | (with_reducible refine Kd.C_drewN ?_ _) | (with_reducible refine Kd.C_drew ?_))); (case side8 => exact HC3_1.out); (case side9 => repeat (first | exact (Kd.C_below HR0_4.out HB.out) | (with_reducible refine Kd.C_alloc ?_ _) | (with_reducible refine Kd.C_drewN ?_ _) | (with_reducible refine Kd.C_drew ?_))); (case side10 => exact HC0_4.out); rintro e w11 ⟨rfl, hb⟩; refine ⟨_, rfl, ?_⟩; have n0_ := Aside0.mk (blk_below (g := gb122) (o := .cells #[.int .i64 a0_0, .int .i64 a0_1, .string a0_2, .int .i64 a0_3, .slice A0_4 l0_4.length c0_4] 24 (0, 0)) (by (with_reducible repeat (first | refine blk_drewN ?_ _ | refine blk_drew ?_ | refine blk_alloc ?_ _)); exact BK122.out) hb); have n1_ := Aside0.mk (blk_below (g := gb123) (o := .cells #[.slice A3_0 l3_0.length c3_0, .slice A3_1 l3_1.length c3_1] 30 (0, 0)) (by (with_reducible repeat (first | refine blk_drewN ?_ _ | refine blk_drew ?_ | refine blk_alloc ?_ _)); exact BK123.out) hb); have n2_ := Aside0.mk (below_step (by repeat (first | (with_reducible first | exact HB.out | apply below_alloc | apply pw_below_drewN | apply below_drew1 | refine below_set ?_ GE122.out | refine below_set ?_ GE123.out) | exact HB.out)) hb); clear BK122; clear BK123; clear HB; have BK122 := n0_; have BK123 := n1_; have HB := n2_; clear n0_ n1_ n2_; (try clear hb); (try clear hb2); (try clear hk); (try clear hi)))
  go_ret2
  exact ⟨by first | rfl | (simp [errW_none, errW_some] <;> rfl) | (simp [*, errW_none, errW_some] <;> rfl), by repeat (first | (with_reducible first | exact HB.out | apply below_alloc | apply pw_below_drewN | apply below_drew1 | refine below_set ?_ GE122.out | refine below_set ?_ GE123.out) | exact HB.out)⟩

end Go.Proofs.YtbgcmbnnkigjjaaDoor.PR
