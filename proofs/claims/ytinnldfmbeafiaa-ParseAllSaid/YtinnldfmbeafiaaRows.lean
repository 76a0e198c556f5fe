/-
  No cell of these rows narrows 'for every input' (looked for: loops, veiled, ifaces, maps, wideKeys, modest, calm, conditions, laid).
  DERIVED. THE GIVEN ROWS OF THIS SEAT. 4 by the template 'for every input the law returns true; each argument reads behind the call as it read before'; 0 by the template 'total and deterministic' (their statements: YtinnldfmbeafiaaTotals.lean).
  GIVEN WITH THE SEED: the statements are not yours to turn. If you find one false, say at which input.
  Laid BY PROGRAM, IN A SANDBOX (cutbox-rows.mjs): the forced cells as the released guide's own fill.sh prints them over the translation dc2a70cb86403813… (all of the seat's roots in one cut). By AI agents, Wed Nov 11 2026. No macro, syntax, notation, axiom, sorry.
-/
import Derived.Test.YtinnldfmbeafiaaChecked
import GoSem.Claim
import GoSem.ClaimJoined
import GoSem.ClaimMapViews
import Derived.JoinedTies
import Derived.KernelRfl
namespace Go.Proofs.Ytinnldfmbeafiaa
/- THE CELL 'sum', in the pinned program and in every row, IS THE sha256 OF THE DUMP (.gsa) THAT YtinnldfmbeafiaaProg.lean LOADS. Nothing in Lean hashes anything: it is a label: what it is worth is what the hold of that sum in a sandbox is worth. -/
noncomputable def Try.pinned : Pinned := { name := "ytinnldfmbeafiaa", sum := "dc2a70cb86403813f226c0e47751797346fae2bae900200b6ab0da93169e57f8", checked := Try.checked }
namespace Rows
def none {H : Type} : Left H := { results := [], args := [] }

/-- 'withelaw7.ParseAll': WHATEVER THE INPUT: true; the input reads as it did. -/
def parseAllSpec : ChangeSpec := { name := "parseAll", fn := fun _ => fun
  | [d] => { results := [.lit (.bool true)], args := [d] }
  | _ => none }
def parseAllRow : OpenClaim := { program := "ytinnldfmbeafiaa", sum := "dc2a70cb86403813f226c0e47751797346fae2bae900200b6ab0da93169e57f8", func := "withe/withelaw7.ParseAll", spec := "parseAll", inPlace := ["internal/bytealg.IndexByteString"], unfollowed := true, recurses := true, apart := false }
def ParseAllSaid : Prop := parseAllRow.holds Try.pinned (OpenSpec.ofChange parseAllSpec)

/-- ITS FALSE NEIGHBOUR: 'it returns false'. Refute it at one input. -/
def parseAllWrong : ChangeSpec := { name := "parseAll", fn := fun _ => fun
  | [d] => { results := [.lit (.bool false)], args := [d] }
  | _ => none }
def ParseAllWrongFalsely : Prop := parseAllRow.holds Try.pinned (OpenSpec.ofChange parseAllWrong)

/-- 'withelaw7.ParseMade': WHATEVER THE INPUT: true; the input reads as it did. -/
def parseMadeSpec : ChangeSpec := { name := "parseMade", fn := fun _ => fun
  | [d1, d2] => { results := [.lit (.bool true)], args := [d1, d2] }
  | _ => none }
def parseMadeRow : OpenClaim := { program := "ytinnldfmbeafiaa", sum := "dc2a70cb86403813f226c0e47751797346fae2bae900200b6ab0da93169e57f8", func := "withe/withelaw7.ParseMade", spec := "parseMade", inPlace := ["internal/bytealg.IndexByteString"], unfollowed := true, recurses := true, apart := false }
def ParseMadeSaid : Prop := parseMadeRow.holds Try.pinned (OpenSpec.ofChange parseMadeSpec)

/-- ITS FALSE NEIGHBOUR: 'it returns false'. Refute it at one input. -/
def parseMadeWrong : ChangeSpec := { name := "parseMade", fn := fun _ => fun
  | [d1, d2] => { results := [.lit (.bool false)], args := [d1, d2] }
  | _ => none }
def ParseMadeWrongFalsely : Prop := parseMadeRow.holds Try.pinned (OpenSpec.ofChange parseMadeWrong)

/-- 'withelaw7.ParsePlaces': WHATEVER THE INPUT: true; the input reads as it did. -/
def parsePlacesSpec : ChangeSpec := { name := "parsePlaces", fn := fun _ => fun
  | [d] => { results := [.lit (.bool true)], args := [d] }
  | _ => none }
def parsePlacesRow : OpenClaim := { program := "ytinnldfmbeafiaa", sum := "dc2a70cb86403813f226c0e47751797346fae2bae900200b6ab0da93169e57f8", func := "withe/withelaw7.ParsePlaces", spec := "parsePlaces", inPlace := ["internal/bytealg.IndexByteString"], unfollowed := true, recurses := true, apart := false }
def ParsePlacesSaid : Prop := parsePlacesRow.holds Try.pinned (OpenSpec.ofChange parsePlacesSpec)

/-- ITS FALSE NEIGHBOUR: 'it returns false'. Refute it at one input. -/
def parsePlacesWrong : ChangeSpec := { name := "parsePlaces", fn := fun _ => fun
  | [d] => { results := [.lit (.bool false)], args := [d] }
  | _ => none }
def ParsePlacesWrongFalsely : Prop := parsePlacesRow.holds Try.pinned (OpenSpec.ofChange parsePlacesWrong)

/-- 'withelaw7.ParseFaults': WHATEVER THE INPUT: true; the input reads as it did. -/
def parseFaultsSpec : ChangeSpec := { name := "parseFaults", fn := fun _ => fun
  | [d1, d2, d3, d4] => { results := [.lit (.bool true)], args := [d1, d2, d3, d4] }
  | _ => none }
def parseFaultsRow : OpenClaim := { program := "ytinnldfmbeafiaa", sum := "dc2a70cb86403813f226c0e47751797346fae2bae900200b6ab0da93169e57f8", func := "withe/withelaw7.ParseFaults", spec := "parseFaults", inPlace := ["internal/bytealg.IndexByteString"], unfollowed := true, recurses := true, apart := false }
def ParseFaultsSaid : Prop := parseFaultsRow.holds Try.pinned (OpenSpec.ofChange parseFaultsSpec)

/-- ITS FALSE NEIGHBOUR: 'it returns false'. Refute it at one input. -/
def parseFaultsWrong : ChangeSpec := { name := "parseFaults", fn := fun _ => fun
  | [d1, d2, d3, d4] => { results := [.lit (.bool false)], args := [d1, d2, d3, d4] }
  | _ => none }
def ParseFaultsWrongFalsely : Prop := parseFaultsRow.holds Try.pinned (OpenSpec.ofChange parseFaultsWrong)

/- THE SECOND FORM. 'bulk': how many values and letters a reading holds, each counted each time it is reached (what is shared counts as often as it is met; a slice's spare places count too). A statement '..UptoSaid' is the law's where the arguments, and the package variables that the reading takes, are together of bulk at most 1048576: NARROWER than '..Said'. Prove '..Said' where nothing that the law and all that it calls make is longer than what came in: it says more and counts as full. Else prove '..UptoSaid'. A law counts once. -/
mutual
def uptoBulk {H : Type} : DataW H → Nat
  | .lit (.string bytes) => bytes.length + 1
  | .lit _ => 1
  | .nil => 1
  | .ptr d => uptoBulk d + 1
  | .slice elems spare => uptoBulkAll elems + uptoBulkAll spare + 1
  | .agg parts => uptoBulkAll parts + 1
  | .iface _ d => uptoBulk d + 1
  | .map entries => uptoBulkEntries entries + 1
  | .held _ => 1
def uptoBulkAll {H : Type} : List (DataW H) → Nat
  | [] => 0
  | d :: r => uptoBulk d + uptoBulkAll r
def uptoBulkEntries {H : Type} : List (Lit × DataW H) → Nat
  | [] => 0
  | x :: r => uptoBulkEntry x + uptoBulkEntries r
def uptoBulkEntry {H : Type} : Lit × DataW H → Nat
  | (.string bytes, d) => bytes.length + uptoBulk d + 1
  | (_, d) => uptoBulk d + 1
 end
def uptoSmall : (H : Type) → List (DataW H) → Bool := fun _ ds => decide (uptoBulkAll ds ≤ 1048576)
def OpenSpec.upto (s : _root_.Go.ChangeSpec) : _root_.Go.OpenSpec := { _root_.Go.OpenSpec.ofChange s with cond := some uptoSmall }

/-- 'withelaw7.ParseAll', WHERE WHAT IT READS IS OF BULK AT MOST 1048576: true; the input reads as it did. -/
def parseAllUptoRow : OpenClaim := { program := "ytinnldfmbeafiaa", sum := "dc2a70cb86403813f226c0e47751797346fae2bae900200b6ab0da93169e57f8", func := "withe/withelaw7.ParseAll", spec := "parseAll", inPlace := ["internal/bytealg.IndexByteString"], unfollowed := true, recurses := true, apart := false, narrowed := true }
def ParseAllUptoSaid : Prop := parseAllUptoRow.holds Try.pinned (OpenSpec.upto parseAllSpec)

/-- 'withelaw7.ParseMade', WHERE WHAT IT READS IS OF BULK AT MOST 1048576: true; the input reads as it did. -/
def parseMadeUptoRow : OpenClaim := { program := "ytinnldfmbeafiaa", sum := "dc2a70cb86403813f226c0e47751797346fae2bae900200b6ab0da93169e57f8", func := "withe/withelaw7.ParseMade", spec := "parseMade", inPlace := ["internal/bytealg.IndexByteString"], unfollowed := true, recurses := true, apart := false, narrowed := true }
def ParseMadeUptoSaid : Prop := parseMadeUptoRow.holds Try.pinned (OpenSpec.upto parseMadeSpec)

/-- 'withelaw7.ParsePlaces', WHERE WHAT IT READS IS OF BULK AT MOST 1048576: true; the input reads as it did. -/
def parsePlacesUptoRow : OpenClaim := { program := "ytinnldfmbeafiaa", sum := "dc2a70cb86403813f226c0e47751797346fae2bae900200b6ab0da93169e57f8", func := "withe/withelaw7.ParsePlaces", spec := "parsePlaces", inPlace := ["internal/bytealg.IndexByteString"], unfollowed := true, recurses := true, apart := false, narrowed := true }
def ParsePlacesUptoSaid : Prop := parsePlacesUptoRow.holds Try.pinned (OpenSpec.upto parsePlacesSpec)

/-- 'withelaw7.ParseFaults', WHERE WHAT IT READS IS OF BULK AT MOST 1048576: true; the input reads as it did. -/
def parseFaultsUptoRow : OpenClaim := { program := "ytinnldfmbeafiaa", sum := "dc2a70cb86403813f226c0e47751797346fae2bae900200b6ab0da93169e57f8", func := "withe/withelaw7.ParseFaults", spec := "parseFaults", inPlace := ["internal/bytealg.IndexByteString"], unfollowed := true, recurses := true, apart := false, narrowed := true }
def ParseFaultsUptoSaid : Prop := parseFaultsUptoRow.holds Try.pinned (OpenSpec.upto parseFaultsSpec)

end Rows
end Go.Proofs.Ytinnldfmbeafiaa
