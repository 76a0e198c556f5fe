/-
  NARROWER THAN 'FOR EVERY INPUT', by the rows' own cells (each row's printed sentence says how): RelAny: laid · RelFrom: laid · RelThen: laid · RelRules: laid · RelSets: laid.
  DERIVED. THE GIVEN ROWS OF THIS SEAT. 5 by the template 'for every input the law returns true; each argument reads behind the call as it read before'; 0 by the template 'total and deterministic' (their statements: YtcehnbneiabaaaaDoorTotals.lean).
  GIVEN WITH THE SEED: the statements are not yours to turn. If you find one false, say at which input.
  Laid BY PROGRAM, IN A SANDBOX (cutbox-rows.mjs): the forced cells as the released guide's own fill.sh prints them over the translation b3f258babdf1d2ad… (all of the seat's roots in one cut). By AI agents, Wed Nov 11 2026. No macro, syntax, notation, axiom, sorry.
-/
import Derived.Test.YtcehnbneiabaaaaDoorChecked
import GoSem.Claim
import GoSem.ClaimJoined
import GoSem.ClaimMapViews
import Derived.JoinedTies
import Derived.KernelRfl
namespace Go.Proofs.YtcehnbneiabaaaaDoor
/- THE CELL 'sum', in the pinned program and in every row, IS THE sha256 OF THE DUMP (.gsa) THAT YtcehnbneiabaaaaDoorProg.lean LOADS. Nothing in Lean hashes anything: it is a label: what it is worth is what the hold of that sum in a sandbox is worth. -/
noncomputable def Tryd.pinned : Pinned := { name := "ytcehnbneiabaaaadoor", sum := "b3f258babdf1d2ad57f178791b92dded8d1006b5a16a5535a02e94d9f05470bb", checked := Tryd.checked }
namespace Rows
def none {H : Type} : Left H := { results := [], args := [] }

/- WHAT THE LISTED PACKAGE-LEVEL VARIABLES READ AS WHEN THE CALL BEGINS. Each datum BY PROGRAM (the guide's laid-datum.mjs) off the statement by which the dump's own 'gosem.cut.vars' lays the variable. In a bare row this is a premise. The card (YtcehnbneiabaaaaDoorCards.lean) ties it to the program's text. -/
def laid_math_bits_deBruijn64tab {H : Type} : DataW H := .agg [.lit (.int .u8 0), .lit (.int .u8 1), .lit (.int .u8 56), .lit (.int .u8 2), .lit (.int .u8 57), .lit (.int .u8 49), .lit (.int .u8 28), .lit (.int .u8 3), .lit (.int .u8 61), .lit (.int .u8 58), .lit (.int .u8 42), .lit (.int .u8 50), .lit (.int .u8 38), .lit (.int .u8 29), .lit (.int .u8 17), .lit (.int .u8 4), .lit (.int .u8 62), .lit (.int .u8 47), .lit (.int .u8 59), .lit (.int .u8 36), .lit (.int .u8 45), .lit (.int .u8 43), .lit (.int .u8 51), .lit (.int .u8 22), .lit (.int .u8 53), .lit (.int .u8 39), .lit (.int .u8 33), .lit (.int .u8 30), .lit (.int .u8 24), .lit (.int .u8 18), .lit (.int .u8 12), .lit (.int .u8 5), .lit (.int .u8 63), .lit (.int .u8 55), .lit (.int .u8 48), .lit (.int .u8 27), .lit (.int .u8 60), .lit (.int .u8 41), .lit (.int .u8 37), .lit (.int .u8 16), .lit (.int .u8 46), .lit (.int .u8 35), .lit (.int .u8 44), .lit (.int .u8 21), .lit (.int .u8 52), .lit (.int .u8 32), .lit (.int .u8 23), .lit (.int .u8 11), .lit (.int .u8 54), .lit (.int .u8 26), .lit (.int .u8 40), .lit (.int .u8 15), .lit (.int .u8 34), .lit (.int .u8 20), .lit (.int .u8 31), .lit (.int .u8 10), .lit (.int .u8 25), .lit (.int .u8 14), .lit (.int .u8 19), .lit (.int .u8 9), .lit (.int .u8 13), .lit (.int .u8 8), .lit (.int .u8 7), .lit (.int .u8 6)]

/-- 'withelaw2.RelAny': WHATEVER THE INPUT: true; the input reads as it did. -/
def relAnySpec : ChangeSpec := { name := "relAny", fn := fun _ => fun
  | [d1, d2, d3, d4, d5] => { results := [.lit (.bool true)], args := [d1, d2, d3, d4, d5] }
  | _ => none }
def relAnyRow : OpenClaim := { program := "ytcehnbneiabaaaadoor", sum := "b3f258babdf1d2ad57f178791b92dded8d1006b5a16a5535a02e94d9f05470bb", func := "withe/withelaw2.RelAny", spec := "relAny", unfollowed := true, recurses := true, named := ["math/bits.deBruijn64tab"], apart := false, laid := [("math/bits.deBruijn64tab", laid_math_bits_deBruijn64tab)] }
def RelAnySaid : Prop := relAnyRow.holds Tryd.pinned (OpenSpec.ofChange relAnySpec)

/-- ITS FALSE NEIGHBOUR: 'it returns false'. Refute it at one input. -/
def relAnyWrong : ChangeSpec := { name := "relAny", fn := fun _ => fun
  | [d1, d2, d3, d4, d5] => { results := [.lit (.bool false)], args := [d1, d2, d3, d4, d5] }
  | _ => none }
def RelAnyWrongFalsely : Prop := relAnyRow.holds Tryd.pinned (OpenSpec.ofChange relAnyWrong)

/-- 'withelaw2.RelFrom': WHATEVER THE INPUT: true; the input reads as it did. -/
def relFromSpec : ChangeSpec := { name := "relFrom", fn := fun _ => fun
  | [d1, d2] => { results := [.lit (.bool true)], args := [d1, d2] }
  | _ => none }
def relFromRow : OpenClaim := { program := "ytcehnbneiabaaaadoor", sum := "b3f258babdf1d2ad57f178791b92dded8d1006b5a16a5535a02e94d9f05470bb", func := "withe/withelaw2.RelFrom", spec := "relFrom", unfollowed := true, recurses := true, named := ["math/bits.deBruijn64tab"], apart := false, laid := [("math/bits.deBruijn64tab", laid_math_bits_deBruijn64tab)] }
def RelFromSaid : Prop := relFromRow.holds Tryd.pinned (OpenSpec.ofChange relFromSpec)

/-- ITS FALSE NEIGHBOUR: 'it returns false'. Refute it at one input. -/
def relFromWrong : ChangeSpec := { name := "relFrom", fn := fun _ => fun
  | [d1, d2] => { results := [.lit (.bool false)], args := [d1, d2] }
  | _ => none }
def RelFromWrongFalsely : Prop := relFromRow.holds Tryd.pinned (OpenSpec.ofChange relFromWrong)

/-- 'withelaw2.RelThen': WHATEVER THE INPUT: true; the input reads as it did. -/
def relThenSpec : ChangeSpec := { name := "relThen", fn := fun _ => fun
  | [d1, d2, d3, d4, d5] => { results := [.lit (.bool true)], args := [d1, d2, d3, d4, d5] }
  | _ => none }
def relThenRow : OpenClaim := { program := "ytcehnbneiabaaaadoor", sum := "b3f258babdf1d2ad57f178791b92dded8d1006b5a16a5535a02e94d9f05470bb", func := "withe/withelaw2.RelThen", spec := "relThen", unfollowed := true, recurses := true, named := ["math/bits.deBruijn64tab"], apart := false, laid := [("math/bits.deBruijn64tab", laid_math_bits_deBruijn64tab)] }
def RelThenSaid : Prop := relThenRow.holds Tryd.pinned (OpenSpec.ofChange relThenSpec)

/-- ITS FALSE NEIGHBOUR: 'it returns false'. Refute it at one input. -/
def relThenWrong : ChangeSpec := { name := "relThen", fn := fun _ => fun
  | [d1, d2, d3, d4, d5] => { results := [.lit (.bool false)], args := [d1, d2, d3, d4, d5] }
  | _ => none }
def RelThenWrongFalsely : Prop := relThenRow.holds Tryd.pinned (OpenSpec.ofChange relThenWrong)

/-- 'withelaw2.RelRules': WHATEVER THE INPUT: true; the input reads as it did. -/
def relRulesSpec : ChangeSpec := { name := "relRules", fn := fun _ => fun
  | [d1, d2, d3, d4] => { results := [.lit (.bool true)], args := [d1, d2, d3, d4] }
  | _ => none }
def relRulesRow : OpenClaim := { program := "ytcehnbneiabaaaadoor", sum := "b3f258babdf1d2ad57f178791b92dded8d1006b5a16a5535a02e94d9f05470bb", func := "withe/withelaw2.RelRules", spec := "relRules", unfollowed := true, recurses := true, named := ["math/bits.deBruijn64tab"], apart := false, laid := [("math/bits.deBruijn64tab", laid_math_bits_deBruijn64tab)] }
def RelRulesSaid : Prop := relRulesRow.holds Tryd.pinned (OpenSpec.ofChange relRulesSpec)

/-- ITS FALSE NEIGHBOUR: 'it returns false'. Refute it at one input. -/
def relRulesWrong : ChangeSpec := { name := "relRules", fn := fun _ => fun
  | [d1, d2, d3, d4] => { results := [.lit (.bool false)], args := [d1, d2, d3, d4] }
  | _ => none }
def RelRulesWrongFalsely : Prop := relRulesRow.holds Tryd.pinned (OpenSpec.ofChange relRulesWrong)

/-- 'withelaw2.RelSets': WHATEVER THE INPUT: true; the input reads as it did. -/
def relSetsSpec : ChangeSpec := { name := "relSets", fn := fun _ => fun
  | [d1, d2, d3, d4] => { results := [.lit (.bool true)], args := [d1, d2, d3, d4] }
  | _ => none }
def relSetsRow : OpenClaim := { program := "ytcehnbneiabaaaadoor", sum := "b3f258babdf1d2ad57f178791b92dded8d1006b5a16a5535a02e94d9f05470bb", func := "withe/withelaw2.RelSets", spec := "relSets", unfollowed := true, recurses := true, named := ["math/bits.deBruijn64tab"], apart := false, laid := [("math/bits.deBruijn64tab", laid_math_bits_deBruijn64tab)] }
def RelSetsSaid : Prop := relSetsRow.holds Tryd.pinned (OpenSpec.ofChange relSetsSpec)

/-- ITS FALSE NEIGHBOUR: 'it returns false'. Refute it at one input. -/
def relSetsWrong : ChangeSpec := { name := "relSets", fn := fun _ => fun
  | [d1, d2, d3, d4] => { results := [.lit (.bool false)], args := [d1, d2, d3, d4] }
  | _ => none }
def RelSetsWrongFalsely : Prop := relSetsRow.holds Tryd.pinned (OpenSpec.ofChange relSetsWrong)

/- THE SECOND FORM. 'bulk': how many values and letters a reading holds, each counted each time it is reached (what is shared counts as often as it is met; a slice's spare places count too). A statement '..UptoSaid' is the law's where the arguments, and the package variables that the reading takes, are together of bulk at most 1048576: NARROWER than '..Said'. Prove '..Said' where nothing that the law and all that it calls make is longer than what came in: it says more and counts as full. Else prove '..UptoSaid'. A law counts once. -/
mutual
def uptoBulk {H : Type} : DataW H → Nat
  | .lit (.string bytes) => bytes.length + 1
  | .lit _ => 1
  | .nil => 1
  | .ptr d => uptoBulk d + 1
  | .slice elems spare => uptoBulkAll elems + uptoBulkAll spare + 1
  | .agg parts => uptoBulkAll parts + 1
  | .iface _ d => uptoBulk d + 1
  | .map entries => uptoBulkEntries entries + 1
  | .held _ => 1
def uptoBulkAll {H : Type} : List (DataW H) → Nat
  | [] => 0
  | d :: r => uptoBulk d + uptoBulkAll r
def uptoBulkEntries {H : Type} : List (Lit × DataW H) → Nat
  | [] => 0
  | x :: r => uptoBulkEntry x + uptoBulkEntries r
def uptoBulkEntry {H : Type} : Lit × DataW H → Nat
  | (.string bytes, d) => bytes.length + uptoBulk d + 1
  | (_, d) => uptoBulk d + 1
 end
def uptoSmall : (H : Type) → List (DataW H) → Bool := fun _ ds => decide (uptoBulkAll ds ≤ 1048576)
def OpenSpec.upto (s : _root_.Go.ChangeSpec) : _root_.Go.OpenSpec := { _root_.Go.OpenSpec.ofChange s with cond := some uptoSmall }

/-- 'withelaw2.RelAny', WHERE WHAT IT READS IS OF BULK AT MOST 1048576: true; the input reads as it did. -/
def relAnyUptoRow : OpenClaim := { program := "ytcehnbneiabaaaadoor", sum := "b3f258babdf1d2ad57f178791b92dded8d1006b5a16a5535a02e94d9f05470bb", func := "withe/withelaw2.RelAny", spec := "relAny", unfollowed := true, recurses := true, named := ["math/bits.deBruijn64tab"], apart := false, laid := [("math/bits.deBruijn64tab", laid_math_bits_deBruijn64tab)], narrowed := true }
def RelAnyUptoSaid : Prop := relAnyUptoRow.holds Tryd.pinned (OpenSpec.upto relAnySpec)

/-- 'withelaw2.RelFrom', WHERE WHAT IT READS IS OF BULK AT MOST 1048576: true; the input reads as it did. -/
def relFromUptoRow : OpenClaim := { program := "ytcehnbneiabaaaadoor", sum := "b3f258babdf1d2ad57f178791b92dded8d1006b5a16a5535a02e94d9f05470bb", func := "withe/withelaw2.RelFrom", spec := "relFrom", unfollowed := true, recurses := true, named := ["math/bits.deBruijn64tab"], apart := false, laid := [("math/bits.deBruijn64tab", laid_math_bits_deBruijn64tab)], narrowed := true }
def RelFromUptoSaid : Prop := relFromUptoRow.holds Tryd.pinned (OpenSpec.upto relFromSpec)

/-- 'withelaw2.RelThen', WHERE WHAT IT READS IS OF BULK AT MOST 1048576: true; the input reads as it did. -/
def relThenUptoRow : OpenClaim := { program := "ytcehnbneiabaaaadoor", sum := "b3f258babdf1d2ad57f178791b92dded8d1006b5a16a5535a02e94d9f05470bb", func := "withe/withelaw2.RelThen", spec := "relThen", unfollowed := true, recurses := true, named := ["math/bits.deBruijn64tab"], apart := false, laid := [("math/bits.deBruijn64tab", laid_math_bits_deBruijn64tab)], narrowed := true }
def RelThenUptoSaid : Prop := relThenUptoRow.holds Tryd.pinned (OpenSpec.upto relThenSpec)

/-- 'withelaw2.RelRules', WHERE WHAT IT READS IS OF BULK AT MOST 1048576: true; the input reads as it did. -/
def relRulesUptoRow : OpenClaim := { program := "ytcehnbneiabaaaadoor", sum := "b3f258babdf1d2ad57f178791b92dded8d1006b5a16a5535a02e94d9f05470bb", func := "withe/withelaw2.RelRules", spec := "relRules", unfollowed := true, recurses := true, named := ["math/bits.deBruijn64tab"], apart := false, laid := [("math/bits.deBruijn64tab", laid_math_bits_deBruijn64tab)], narrowed := true }
def RelRulesUptoSaid : Prop := relRulesUptoRow.holds Tryd.pinned (OpenSpec.upto relRulesSpec)

/-- 'withelaw2.RelSets', WHERE WHAT IT READS IS OF BULK AT MOST 1048576: true; the input reads as it did. -/
def relSetsUptoRow : OpenClaim := { program := "ytcehnbneiabaaaadoor", sum := "b3f258babdf1d2ad57f178791b92dded8d1006b5a16a5535a02e94d9f05470bb", func := "withe/withelaw2.RelSets", spec := "relSets", unfollowed := true, recurses := true, named := ["math/bits.deBruijn64tab"], apart := false, laid := [("math/bits.deBruijn64tab", laid_math_bits_deBruijn64tab)], narrowed := true }
def RelSetsUptoSaid : Prop := relSetsUptoRow.holds Tryd.pinned (OpenSpec.upto relSetsSpec)

end Rows
end Go.Proofs.YtcehnbneiabaaaaDoor
