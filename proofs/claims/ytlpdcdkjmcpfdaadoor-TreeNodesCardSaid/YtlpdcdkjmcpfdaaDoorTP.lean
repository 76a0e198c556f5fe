/- The looker's closure over registers (lts): walked by hand. -/
import Derived.Test.YtlpdcdkjmcpfdaaDoorTO
namespace Go.Proofs.YtlpdcdkjmcpfdaaDoor.PT
open Go.RowKit Go.Proofs.YtlpdcdkjmcpfdaaDoorW.PrintWords Go.Proofs.YtlpdcdkjmcpfdaaDoorW.PrintLast Go.Proofs.YtlpdcdkjmcpfdaaDoorW.PrintMore
set_option linter.unusedVariables false
set_option linter.unusedSimpArgs false
attribute [local go_sem] cell_set_some
set_option maxHeartbeats 8000000 in
set_option maxRecDepth 100000 in
theorem clos_c (w : World) (gk g2 : Nat) (v : Int) (h0 : 0 ≤ v) (h1 : v < 2) (hz : w.cell? ⟨gk, 0, none⟩ = some (.int .i64 2)) (hp : w.cell? ⟨g2, 0, none⟩ = some (.pointer (some ⟨gk, 0, none⟩))) : Calls Tryd.prog 111 #[.int .i64 v, .pointer (some ⟨g2, 0, none⟩)] w fun e w' => e = .returned (.bool false) ∧ w' = w := by
  have HV := Aside0.mk (value_c w gk v h0 h1 hz)
  go_enter Tryd.func111, Tryd.ntmps111
  go_wp2_with (fail)
  refine HV.out.mono ?_
  rintro e w2 ⟨rfl, rfl⟩
  go_wp2
  go_ret
  exact ⟨rfl, rfl⟩
set_option maxHeartbeats 8000000 in
set_option maxRecDepth 100000 in
theorem index_c (w : World) (gk g2 : Nat) (ar : Addr) (cr : Nat) (v : Int) (h0 : 0 ≤ v) (h1 : v < 2) (hz : w.cell? ⟨gk, 0, none⟩ = some (.int .i64 2)) (hp : w.cell? ⟨g2, 0, none⟩ = some (.pointer (some ⟨gk, 0, none⟩))) (ha : w.cell? ar = some (.int .i64 v)) : Calls Tryd.prog 114 #[.slice (some ar) 1 cr, .func (.func 111) #[] #[.pointer (some ⟨g2, 0, none⟩)]] w fun e w' => e = .returned (.int .i64 (-1)) ∧ w' = w := by
  have HV := Aside0.mk (clos_c w gk g2 v h0 h1 hz hp)
  go_enter Tryd.func114, Tryd.ntmps114
  go_wp2
  refine wp_loop_rounds 2 ?_
  rw [rounds_succ]
  go_wp2_with (fail)
  refine HV.out.mono ?_
  rintro e w2 ⟨rfl, rfl⟩
  go_wp2
  rw [rounds_succ]
  go_wp2
  go_ret
  exact ⟨rfl, rfl⟩
set_option maxHeartbeats 8000000 in
set_option maxRecDepth 100000 in
theorem contains_c (w : World) (gk g2 : Nat) (ar : Addr) (cr : Nat) (v : Int) (h0 : 0 ≤ v) (h1 : v < 2) (hz : w.cell? ⟨gk, 0, none⟩ = some (.int .i64 2)) (hp : w.cell? ⟨g2, 0, none⟩ = some (.pointer (some ⟨gk, 0, none⟩))) (ha : w.cell? ar = some (.int .i64 v)) : Calls Tryd.prog 110 #[.slice (some ar) 1 cr, .func (.func 111) #[] #[.pointer (some ⟨g2, 0, none⟩)]] w fun e w' => e = .returned (.bool false) ∧ w' = w := by
  have HV := Aside0.mk (index_c w gk g2 ar cr v h0 h1 hz hp ha)
  go_enter Tryd.func110, Tryd.ntmps110
  go_wp2_with (fail)
  refine HV.out.mono ?_
  rintro e w2 ⟨rfl, rfl⟩
  go_wp2
  go_ret
  exact ⟨rfl, rfl⟩
end Go.Proofs.YtlpdcdkjmcpfdaaDoor.PT
