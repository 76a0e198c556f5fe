/-
  NARROWER THAN 'FOR EVERY INPUT', by the rows' own cells (each row's printed sentence says how): ReachAll: laid · ReachAny: laid · ReachOrders: laid · ReachTurned: laid · ReachPlus: laid.
  DERIVED. THE GIVEN ROWS OF THIS SEAT. 5 by the template 'for every input the law returns true; each argument reads behind the call as it read before'; 0 by the template 'total and deterministic' (their statements: YtniimgbkbghbkaaDoorTotals.lean).
  GIVEN WITH THE SEED: the statements are not yours to turn. If you find one false, say at which input.
  Laid BY PROGRAM, IN A SANDBOX (cutbox-rows.mjs): the forced cells as the released guide's own fill.sh prints them over the translation 57da4c1754d1efb2… (all of the seat's roots in one cut). By AI agents, Wed Nov 11 2026. No macro, syntax, notation, axiom, sorry.
-/
import Derived.Test.YtniimgbkbghbkaaDoorChecked
import GoSem.Claim
import GoSem.ClaimJoined
import GoSem.ClaimMapViews
import Derived.JoinedTies
import Derived.KernelRfl
namespace Go.Proofs.YtniimgbkbghbkaaDoor
/- THE CELL 'sum', in the pinned program and in every row, IS THE sha256 OF THE DUMP (.gsa) THAT YtniimgbkbghbkaaDoorProg.lean LOADS. Nothing in Lean hashes anything: it is a label: what it is worth is what the hold of that sum in a sandbox is worth. -/
noncomputable def Tryd.pinned : Pinned := { name := "ytniimgbkbghbkaadoor", sum := "57da4c1754d1efb20b4767fbe33a5eb50b6fa2c63bc52bcb2f8ed25822838f94", checked := Tryd.checked }
namespace Rows
def none {H : Type} : Left H := { results := [], args := [] }

/- WHAT THE LISTED PACKAGE-LEVEL VARIABLES READ AS WHEN THE CALL BEGINS. Each datum BY PROGRAM (the guide's laid-datum.mjs) off the statement by which the dump's own 'gosem.cut.vars' lays the variable. In a bare row this is a premise. The card (YtniimgbkbghbkaaDoorCards.lean) ties it to the program's text. -/
def laid_math_bits_deBruijn64tab {H : Type} : DataW H := .agg [.lit (.int .u8 0), .lit (.int .u8 1), .lit (.int .u8 56), .lit (.int .u8 2), .lit (.int .u8 57), .lit (.int .u8 49), .lit (.int .u8 28), .lit (.int .u8 3), .lit (.int .u8 61), .lit (.int .u8 58), .lit (.int .u8 42), .lit (.int .u8 50), .lit (.int .u8 38), .lit (.int .u8 29), .lit (.int .u8 17), .lit (.int .u8 4), .lit (.int .u8 62), .lit (.int .u8 47), .lit (.int .u8 59), .lit (.int .u8 36), .lit (.int .u8 45), .lit (.int .u8 43), .lit (.int .u8 51), .lit (.int .u8 22), .lit (.int .u8 53), .lit (.int .u8 39), .lit (.int .u8 33), .lit (.int .u8 30), .lit (.int .u8 24), .lit (.int .u8 18), .lit (.int .u8 12), .lit (.int .u8 5), .lit (.int .u8 63), .lit (.int .u8 55), .lit (.int .u8 48), .lit (.int .u8 27), .lit (.int .u8 60), .lit (.int .u8 41), .lit (.int .u8 37), .lit (.int .u8 16), .lit (.int .u8 46), .lit (.int .u8 35), .lit (.int .u8 44), .lit (.int .u8 21), .lit (.int .u8 52), .lit (.int .u8 32), .lit (.int .u8 23), .lit (.int .u8 11), .lit (.int .u8 54), .lit (.int .u8 26), .lit (.int .u8 40), .lit (.int .u8 15), .lit (.int .u8 34), .lit (.int .u8 20), .lit (.int .u8 31), .lit (.int .u8 10), .lit (.int .u8 25), .lit (.int .u8 14), .lit (.int .u8 19), .lit (.int .u8 9), .lit (.int .u8 13), .lit (.int .u8 8), .lit (.int .u8 7), .lit (.int .u8 6)]

/-- 'withelaw3.ReachAll': WHATEVER THE INPUT: true; the input reads as it did. -/
def reachAllSpec : ChangeSpec := { name := "reachAll", fn := fun _ => fun
  | [d1, d2, d3, d4] => { results := [.lit (.bool true)], args := [d1, d2, d3, d4] }
  | _ => none }
def reachAllRow : OpenClaim := { program := "ytniimgbkbghbkaadoor", sum := "57da4c1754d1efb20b4767fbe33a5eb50b6fa2c63bc52bcb2f8ed25822838f94", func := "withe/withelaw3.ReachAll", spec := "reachAll", unfollowed := true, recurses := true, named := ["math/bits.deBruijn64tab"], apart := false, laid := [("math/bits.deBruijn64tab", laid_math_bits_deBruijn64tab)] }
def ReachAllSaid : Prop := reachAllRow.holds Tryd.pinned (OpenSpec.ofChange reachAllSpec)

/-- ITS FALSE NEIGHBOUR: 'it returns false'. Refute it at one input. -/
def reachAllWrong : ChangeSpec := { name := "reachAll", fn := fun _ => fun
  | [d1, d2, d3, d4] => { results := [.lit (.bool false)], args := [d1, d2, d3, d4] }
  | _ => none }
def ReachAllWrongFalsely : Prop := reachAllRow.holds Tryd.pinned (OpenSpec.ofChange reachAllWrong)

/-- 'withelaw3.ReachAny': WHATEVER THE INPUT: true; the input reads as it did. -/
def reachAnySpec : ChangeSpec := { name := "reachAny", fn := fun _ => fun
  | [d1, d2] => { results := [.lit (.bool true)], args := [d1, d2] }
  | _ => none }
def reachAnyRow : OpenClaim := { program := "ytniimgbkbghbkaadoor", sum := "57da4c1754d1efb20b4767fbe33a5eb50b6fa2c63bc52bcb2f8ed25822838f94", func := "withe/withelaw3.ReachAny", spec := "reachAny", unfollowed := true, recurses := true, named := ["math/bits.deBruijn64tab"], apart := false, laid := [("math/bits.deBruijn64tab", laid_math_bits_deBruijn64tab)] }
def ReachAnySaid : Prop := reachAnyRow.holds Tryd.pinned (OpenSpec.ofChange reachAnySpec)

/-- ITS FALSE NEIGHBOUR: 'it returns false'. Refute it at one input. -/
def reachAnyWrong : ChangeSpec := { name := "reachAny", fn := fun _ => fun
  | [d1, d2] => { results := [.lit (.bool false)], args := [d1, d2] }
  | _ => none }
def ReachAnyWrongFalsely : Prop := reachAnyRow.holds Tryd.pinned (OpenSpec.ofChange reachAnyWrong)

/-- 'withelaw3.ReachOrders': WHATEVER THE INPUT: true; the input reads as it did. -/
def reachOrdersSpec : ChangeSpec := { name := "reachOrders", fn := fun _ => fun
  | [d1, d2, d3] => { results := [.lit (.bool true)], args := [d1, d2, d3] }
  | _ => none }
def reachOrdersRow : OpenClaim := { program := "ytniimgbkbghbkaadoor", sum := "57da4c1754d1efb20b4767fbe33a5eb50b6fa2c63bc52bcb2f8ed25822838f94", func := "withe/withelaw3.ReachOrders", spec := "reachOrders", unfollowed := true, recurses := true, named := ["math/bits.deBruijn64tab"], apart := false, laid := [("math/bits.deBruijn64tab", laid_math_bits_deBruijn64tab)] }
def ReachOrdersSaid : Prop := reachOrdersRow.holds Tryd.pinned (OpenSpec.ofChange reachOrdersSpec)

/-- ITS FALSE NEIGHBOUR: 'it returns false'. Refute it at one input. -/
def reachOrdersWrong : ChangeSpec := { name := "reachOrders", fn := fun _ => fun
  | [d1, d2, d3] => { results := [.lit (.bool false)], args := [d1, d2, d3] }
  | _ => none }
def ReachOrdersWrongFalsely : Prop := reachOrdersRow.holds Tryd.pinned (OpenSpec.ofChange reachOrdersWrong)

/-- 'withelaw3.ReachTurned': WHATEVER THE INPUT: true; the input reads as it did. -/
def reachTurnedSpec : ChangeSpec := { name := "reachTurned", fn := fun _ => fun
  | [d1, d2, d3] => { results := [.lit (.bool true)], args := [d1, d2, d3] }
  | _ => none }
def reachTurnedRow : OpenClaim := { program := "ytniimgbkbghbkaadoor", sum := "57da4c1754d1efb20b4767fbe33a5eb50b6fa2c63bc52bcb2f8ed25822838f94", func := "withe/withelaw3.ReachTurned", spec := "reachTurned", unfollowed := true, recurses := true, named := ["math/bits.deBruijn64tab"], apart := false, laid := [("math/bits.deBruijn64tab", laid_math_bits_deBruijn64tab)] }
def ReachTurnedSaid : Prop := reachTurnedRow.holds Tryd.pinned (OpenSpec.ofChange reachTurnedSpec)

/-- ITS FALSE NEIGHBOUR: 'it returns false'. Refute it at one input. -/
def reachTurnedWrong : ChangeSpec := { name := "reachTurned", fn := fun _ => fun
  | [d1, d2, d3] => { results := [.lit (.bool false)], args := [d1, d2, d3] }
  | _ => none }
def ReachTurnedWrongFalsely : Prop := reachTurnedRow.holds Tryd.pinned (OpenSpec.ofChange reachTurnedWrong)

/-- 'withelaw3.ReachPlus': WHATEVER THE INPUT: true; the input reads as it did. -/
def reachPlusSpec : ChangeSpec := { name := "reachPlus", fn := fun _ => fun
  | [d1, d2] => { results := [.lit (.bool true)], args := [d1, d2] }
  | _ => none }
def reachPlusRow : OpenClaim := { program := "ytniimgbkbghbkaadoor", sum := "57da4c1754d1efb20b4767fbe33a5eb50b6fa2c63bc52bcb2f8ed25822838f94", func := "withe/withelaw3.ReachPlus", spec := "reachPlus", unfollowed := true, recurses := true, named := ["math/bits.deBruijn64tab"], apart := false, laid := [("math/bits.deBruijn64tab", laid_math_bits_deBruijn64tab)] }
def ReachPlusSaid : Prop := reachPlusRow.holds Tryd.pinned (OpenSpec.ofChange reachPlusSpec)

/-- ITS FALSE NEIGHBOUR: 'it returns false'. Refute it at one input. -/
def reachPlusWrong : ChangeSpec := { name := "reachPlus", fn := fun _ => fun
  | [d1, d2] => { results := [.lit (.bool false)], args := [d1, d2] }
  | _ => none }
def ReachPlusWrongFalsely : Prop := reachPlusRow.holds Tryd.pinned (OpenSpec.ofChange reachPlusWrong)

/- THE SECOND FORM. 'bulk': how many values and letters a reading holds, each counted each time it is reached (what is shared counts as often as it is met; a slice's spare places count too). A statement '..UptoSaid' is the law's where the arguments, and the package variables that the reading takes, are together of bulk at most 1048576: NARROWER than '..Said'. Prove '..Said' where nothing that the law and all that it calls make is longer than what came in: it says more and counts as full. Else prove '..UptoSaid'. A law counts once. -/
mutual
def uptoBulk {H : Type} : DataW H → Nat
  | .lit (.string bytes) => bytes.length + 1
  | .lit _ => 1
  | .nil => 1
  | .ptr d => uptoBulk d + 1
  | .slice elems spare => uptoBulkAll elems + uptoBulkAll spare + 1
  | .agg parts => uptoBulkAll parts + 1
  | .iface _ d => uptoBulk d + 1
  | .map entries => uptoBulkEntries entries + 1
  | .held _ => 1
def uptoBulkAll {H : Type} : List (DataW H) → Nat
  | [] => 0
  | d :: r => uptoBulk d + uptoBulkAll r
def uptoBulkEntries {H : Type} : List (Lit × DataW H) → Nat
  | [] => 0
  | x :: r => uptoBulkEntry x + uptoBulkEntries r
def uptoBulkEntry {H : Type} : Lit × DataW H → Nat
  | (.string bytes, d) => bytes.length + uptoBulk d + 1
  | (_, d) => uptoBulk d + 1
 end
def uptoSmall : (H : Type) → List (DataW H) → Bool := fun _ ds => decide (uptoBulkAll ds ≤ 1048576)
def OpenSpec.upto (s : _root_.Go.ChangeSpec) : _root_.Go.OpenSpec := { _root_.Go.OpenSpec.ofChange s with cond := some uptoSmall }

/-- 'withelaw3.ReachAll', WHERE WHAT IT READS IS OF BULK AT MOST 1048576: true; the input reads as it did. -/
def reachAllUptoRow : OpenClaim := { program := "ytniimgbkbghbkaadoor", sum := "57da4c1754d1efb20b4767fbe33a5eb50b6fa2c63bc52bcb2f8ed25822838f94", func := "withe/withelaw3.ReachAll", spec := "reachAll", unfollowed := true, recurses := true, named := ["math/bits.deBruijn64tab"], apart := false, laid := [("math/bits.deBruijn64tab", laid_math_bits_deBruijn64tab)], narrowed := true }
def ReachAllUptoSaid : Prop := reachAllUptoRow.holds Tryd.pinned (OpenSpec.upto reachAllSpec)

/-- 'withelaw3.ReachAny', WHERE WHAT IT READS IS OF BULK AT MOST 1048576: true; the input reads as it did. -/
def reachAnyUptoRow : OpenClaim := { program := "ytniimgbkbghbkaadoor", sum := "57da4c1754d1efb20b4767fbe33a5eb50b6fa2c63bc52bcb2f8ed25822838f94", func := "withe/withelaw3.ReachAny", spec := "reachAny", unfollowed := true, recurses := true, named := ["math/bits.deBruijn64tab"], apart := false, laid := [("math/bits.deBruijn64tab", laid_math_bits_deBruijn64tab)], narrowed := true }
def ReachAnyUptoSaid : Prop := reachAnyUptoRow.holds Tryd.pinned (OpenSpec.upto reachAnySpec)

/-- 'withelaw3.ReachOrders', WHERE WHAT IT READS IS OF BULK AT MOST 1048576: true; the input reads as it did. -/
def reachOrdersUptoRow : OpenClaim := { program := "ytniimgbkbghbkaadoor", sum := "57da4c1754d1efb20b4767fbe33a5eb50b6fa2c63bc52bcb2f8ed25822838f94", func := "withe/withelaw3.ReachOrders", spec := "reachOrders", unfollowed := true, recurses := true, named := ["math/bits.deBruijn64tab"], apart := false, laid := [("math/bits.deBruijn64tab", laid_math_bits_deBruijn64tab)], narrowed := true }
def ReachOrdersUptoSaid : Prop := reachOrdersUptoRow.holds Tryd.pinned (OpenSpec.upto reachOrdersSpec)

/-- 'withelaw3.ReachTurned', WHERE WHAT IT READS IS OF BULK AT MOST 1048576: true; the input reads as it did. -/
def reachTurnedUptoRow : OpenClaim := { program := "ytniimgbkbghbkaadoor", sum := "57da4c1754d1efb20b4767fbe33a5eb50b6fa2c63bc52bcb2f8ed25822838f94", func := "withe/withelaw3.ReachTurned", spec := "reachTurned", unfollowed := true, recurses := true, named := ["math/bits.deBruijn64tab"], apart := false, laid := [("math/bits.deBruijn64tab", laid_math_bits_deBruijn64tab)], narrowed := true }
def ReachTurnedUptoSaid : Prop := reachTurnedUptoRow.holds Tryd.pinned (OpenSpec.upto reachTurnedSpec)

/-- 'withelaw3.ReachPlus', WHERE WHAT IT READS IS OF BULK AT MOST 1048576: true; the input reads as it did. -/
def reachPlusUptoRow : OpenClaim := { program := "ytniimgbkbghbkaadoor", sum := "57da4c1754d1efb20b4767fbe33a5eb50b6fa2c63bc52bcb2f8ed25822838f94", func := "withe/withelaw3.ReachPlus", spec := "reachPlus", unfollowed := true, recurses := true, named := ["math/bits.deBruijn64tab"], apart := false, laid := [("math/bits.deBruijn64tab", laid_math_bits_deBruijn64tab)], narrowed := true }
def ReachPlusUptoSaid : Prop := reachPlusUptoRow.holds Tryd.pinned (OpenSpec.upto reachPlusSpec)

end Rows
end Go.Proofs.YtniimgbkbghbkaaDoor
