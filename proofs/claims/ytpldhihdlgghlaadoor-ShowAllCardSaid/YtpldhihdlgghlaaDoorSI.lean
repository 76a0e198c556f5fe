/- show's page: the builder's text; walked by hand. -/
import Derived.Test.YtpldhihdlgghlaaDoorSH
import Derived.Lib.UnsafeStr
namespace Go.Proofs.YtpldhihdlgghlaaDoor.PS
open Go.RowKit Go.Proofs.YtpldhihdlgghlaaDoorW.PrintWords Go.Proofs.YtpldhihdlgghlaaDoorW.PrintLast Go.Proofs.YtpldhihdlgghlaaDoorW.PrintMore
set_option linter.unusedVariables false
set_option linter.unusedSimpArgs false
attribute [local go_sem] cell_set_some
set_option maxHeartbeats 8000000 in
set_option maxRecDepth 100000 in
theorem string_l (B g : Nat) (l : List UInt8) (d : Int) (w : World) (h : IsPG B g (Lib.byteCells l) d w) (h0 : l ≠ []) :
    Calls Tryd.prog 20 #[.pointer (some ⟨g, 0, none⟩)] w fun e w' => e = .returned (.string ⟨l.toArray⟩) ∧ Below B w w' := by
  obtain ⟨hB, p, v, hbk, hown⟩ : B ≤ g ∧ ∃ p v, w.heap[g]? = some (.cells #[p, v, .int .i64 d] 53 (0, 0)) ∧ w.ownsRow B 5 1 v (Lib.byteCells l).length (Lib.byteCells l) := by
    rcases h with ⟨a, v, b, c, _⟩ | ⟨a, v, b, c, _⟩ <;> exact ⟨a, _, v, b, c⟩
  have hl0 : l.length ≠ 0 := by simpa using h0
  rw [Lib.byteCells_length] at hown
  obtain ⟨q, cap, cur, rfl, hbg, hg, hnc, hcm, hcs, htake⟩ : ∃ q cap cur, v = .slice (some ⟨q, 0, none⟩) l.length cap ∧ B ≤ q ∧ w.heap[q]? = some (.cells cur 5 (0, 0)) ∧ l.length ≤ cap ∧ cap ≤ maxLen ∧ cur.size = cap * 1 ∧ cur.toList.take (l.length * 1) = Lib.byteCells l := by
    rcases hown.2 with ⟨_, hz⟩ | ⟨g, cap, cur, hv, r⟩
    · exact absurd hz hl0
    · exact ⟨g, cap, cur, hv, r⟩
  have c1 : w.drew.cell? ⟨g, 1, none⟩ = some (.slice (some ⟨q, 0, none⟩) l.length cap) := by
    have : w.drew.heap[g]? = some (.cells #[p, .slice (some ⟨q, 0, none⟩) l.length cap, .int .i64 d] 53 (0, 0)) := hbk
    rw [Lib.cell_of_heap this]; rfl
  have hSD : (Builtin.unsafeSliceData_ #[49] 72 #[.slice (some ⟨q, 0, none⟩) l.length cap]).run Tryd.prog w.drew = .ok (.pointer (some ⟨q, 0, none⟩)) w.drew :=
    Lib.run_unsafeSliceData_row _ _ _ _ _ _ (by omega)
  have hUS : (Builtin.unsafeString_ #[72, 3] 9 #[.pointer (some ⟨q, 0, none⟩), .int .i64 l.length]).run Tryd.prog w.drew = .ok (.string ⟨l.toArray⟩) (w.drew.freeze ⟨q, 0, none⟩ l.length) := by
    refine Lib.run_unsafeString_row w.drew 72 3 9 5 Tryd.underlying72 (by kernel_rfl) q cur.size (by have hg' : w.drew.heap[q]? = some (.cells cur 5 (0, 0)) := hg; simp [World.shape?, hg']) l h0 (by omega) (by unfold maxLen at hcm; omega) ?_
    intro j x hx
    have := hown.cells (g := q) rfl j (.int .u8 x.toNat) (by simp [Lib.byteCells, hx])
    exact this
  have hu51 := Tryd.underlying51
  have hu48 := Tryd.underlying48
  have hu49 := Tryd.underlying49
  have hu72 := Tryd.underlying72
  have hu9 := Tryd.underlying9
  go_enter Tryd.func20, Tryd.ntmps20
  go_wp2
  go_region
  all_goals (go_wp2; go_ret; exact ⟨rfl, Lib.below_freeze (Below.drew (Below.refl B w)) (p := ⟨q, 0, none⟩) hbg _⟩)
theorem string_c (B g : Nat) (s : ByteArray) (d : Int) (w : World) (h : IsPG B g (Lib.strCells s) d w) (h0 : s.size ≠ 0) :
    Calls Tryd.prog 20 #[.pointer (some ⟨g, 0, none⟩)] w fun e w' => e = .returned (.string s) ∧ Below B w w' :=
  string_l B g s.data.toList d w h (fun e => h0 (by
    show s.data.size = 0
    rw [← Array.length_toList, e]
    rfl))
end Go.Proofs.YtpldhihdlgghlaaDoor.PS
