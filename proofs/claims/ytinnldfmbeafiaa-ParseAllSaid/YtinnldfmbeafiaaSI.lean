/- Two copies of numbers are the same; walked by hand. -/
import Derived.Test.YtinnldfmbeafiaaSB
namespace Go.Proofs.Ytinnldfmbeafiaa.PA
open Go.RowKit Go.Proofs.YtinnldfmbeafiaaW.PrintWords Go.Proofs.YtinnldfmbeafiaaW.PrintLast Go.Proofs.YtinnldfmbeafiaaW.PrintMore
set_option linter.unusedVariables false
set_option linter.unusedSimpArgs false
attribute [local go_sem] cell_set_some
set_option maxHeartbeats 8000000 in
set_option maxRecDepth 100000 in
theorem sameI_c (l : List Int) (A A' : Option Addr) (c c' : Nat) (w : World) (hC : Kd.C (Kd.int .i64) w A l.length l) (hC2 : Kd.C (Kd.int .i64) w A' l.length l) : Calls Try.prog 12 #[.slice A l.length c, .slice A' l.length c'] w fun e w' => e = .returned (.bool true) ∧ Below w.heap.size w w' := by
 have HC1 := Aside0.mk hC; have HC2 := Aside0.mk hC2; have HL := Aside0.mk (C_len hC)
 clear hC hC2
 have HB := Aside0.mk (Below.refl w.heap.size w)
 go_enter Try.func12, Try.ntmps12
 go_wp2
 go_loopg [5] (l.length) (fun kq v_ w' => ∃ n : Nat, v_ = .int .i64 (n : Int) ∧ Aside0 (n + kq = l.length) ∧ Aside0 (Below w.heap.size w w'))
 case atStart => exact ⟨0, rfl, ⟨Nat.zero_add _⟩, HB⟩
 case round =>
  clear HB
  obtain ⟨n, rfl, HI, HB⟩ := hrel
  cases gk with
  | zero =>
   have p1 := eq_false (show ¬ (n : Int) < ((l.length : Nat) : Int) from by have := HI.out; omega)
   have p3 := decide_eq_false (show ¬ (n : Int) < ((l.length : Nat) : Int) from by have := HI.out; omega)
   have p2 := eq_false (show ¬ n < l.length from by have := HI.out; omega)
   go_wp2
   go_ret
   exact ⟨rfl, HB.out⟩
  | succ k1 =>
   have hlt : n < l.length := by have := HI.out; omega
   have HLT := Aside0.mk hlt
   have p1 := eq_true (show (n : Int) < ((l.length : Nat) : Int) from Int.ofNat_lt.mpr hlt)
   have p2 := eq_true (show n < l.length from hlt)
   have p0 := eq_true (show 0 ≤ (n : Int) from Int.natCast_nonneg _)
   have p3 := decide_eq_true (show (n : Int) < ((l.length : Nat) : Int) from Int.ofNat_lt.mpr hlt)
   go_upto_region 6 with (fail)
   replace HB := Aside0.mk (below_step HB.out (below_drew (Below.refl _ _)))
   obtain ⟨ady, ey, y0⟩ := Kd.at_int (Kd.C_below HC1.out HB.out) (n : Int) (Int.natCast_nonneg _) (by omega)
   subst ey
   simp only [Int.toNat_natCast] at y0
   obtain ⟨adu, eu, u0⟩ := Kd.at_int (Kd.C_below HC2.out HB.out) (n : Int) (Int.natCast_nonneg _) (by omega)
   subst eu
   simp only [Int.toNat_natCast] at u0
   go_region
   all_goals
    clear p0 p1 p2 p3 y0 u0
    go_wp2
    clear hlt
    go_roundg k1
    case measure => exact Nat.lt_succ_self _
    case rel => exact ⟨n + 1, (by rw [wrap_succ HLT.out HL.out]), ⟨by have := HI.out; omega⟩, HB⟩
end Go.Proofs.Ytinnldfmbeafiaa.PA
