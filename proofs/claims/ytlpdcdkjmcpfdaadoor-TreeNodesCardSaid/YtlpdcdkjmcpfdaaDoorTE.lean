/- The builder's walk (witheref12) at the end of all frames, walked by hand. -/
import Derived.Test.YtlpdcdkjmcpfdaaDoorTD
namespace Go.Proofs.YtlpdcdkjmcpfdaaDoor.PT
open Go.RowKit Go.Proofs.YtlpdcdkjmcpfdaaDoorW.PrintWords Go.Proofs.YtlpdcdkjmcpfdaaDoorW.PrintLast Go.Proofs.YtlpdcdkjmcpfdaaDoorW.PrintMore
set_option linter.unusedVariables false
set_option linter.unusedSimpArgs false
attribute [local go_sem] cell_set_some
variable {w0 w w' : World} {c0 c1 c2 c3 c4 c5 c6 c7 c8 c9 : Value} {g : Nat} {vals : Int} {locs : List ByteArray} {regs : List (List ByteArray)} {nodes : List S53} {th : Int} {lg : Bool} {v1 v2 v3 : Value}
set_option maxHeartbeats 8000000 in
set_option maxRecDepth 100000 in
theorem walk_end (gf : Nat) (Af : Option Addr) (cf : Nat) (hb : w.heap[gf]? = some (.cells #[.slice Af 0 cf, .pointer none] 94 (0, 0))) (A : Option Addr) (c : Nat) (rs : List Int) (hr : Kd.R (Kd.int .i64) 3 w w0.heap.size (fun _ => True) (.slice A rs.length c) rs) (hl : rs.length ≤ 64) (i : Int) (hi0 : 0 ≤ i) (hi1 : i < (nodes.length : Int)) (h : BS w0 c0 c1 c2 c3 c4 c5 c6 c7 c8 c9 w g vals locs regs nodes th false v1 v2 v3) :
    Calls Tryd.prog 56 #[.pointer (some ⟨g, 0, none⟩), .pointer (some ⟨gf, 0, none⟩), .int .i64 i, .slice A rs.length c] w fun e w' => e = .returned (.tuple #[]) ∧
      BS w0 c0 c1 c2 c3 c4 c5 c6 c7 c8 c9 w' g vals locs regs (nodes.set i.toNat { rd_T53 nodes i with f7 := true, f8 := rs }) th false v1 v2 v3 ∧ TK w w' := by
  have hu88 := Tryd.underlying88
  have hu94 := Tryd.underlying94
  have hz15 : w.cell? ⟨g, 15, none⟩ = some (.bool false) := (blk_cell h.blk 15).trans rfl
  have hf0 : w.cell? ⟨gf, 0, none⟩ = some (.slice Af 0 cf) := (blk_cell hb 0).trans rfl
  have hf1 : w.cell? ⟨gf, 1, none⟩ = some (.pointer none) := (blk_cell hb 1).trans rfl
  have HE := Aside0.mk (end_calls A c rs hr hl i hi0 hi1 h)
  clear h hr
  go_enter Tryd.func56, Tryd.ntmps56
  go_wp2
  refine wp_loop_rounds 2 ?_
  rw [rounds_succ]
  go_wp2
  rw [rounds_succ]
  go_wp2_with (go_at_call 79; (with_reducible refine HE.out.mono ?_); rintro e w2 ⟨rfl, h1, h2⟩; have H1 := Aside0.mk h1; have H2 := Aside0.mk h2; clear h1 h2)
  first | go_end0 | ((try simp only [Exit.inBlock, Exit.then]); refine bodyPost_ret (results_none rfl _ _ _) rfl ?_)
  exact ⟨rfl, H1.out, H2.out⟩
end Go.Proofs.YtlpdcdkjmcpfdaaDoor.PT
