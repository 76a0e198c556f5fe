/-
  DERIVED. GIVEN WITH THE SEED: THE CARDS: each row of YtpldhihdlgghlaaDoorRows.lean that lists a variable, with what it lists TIED to the program's text (the seventh form; the later family's looks); each row that meets fmt, with fmt's text TOLD by the authors' own Lean function (tested against real Go, not proved from fmt's source: count such statements apart). THE CARD IS WHAT COUNTS. Prove the row's statement (the work); the ties are given (YtpldhihdlgghlaaDoorTie.lean); close each card by the builder's one call (the guide's Derived/Test/ToyasCard.lean, 'card_holds'). Laid BY PROGRAM, IN A SANDBOX (cutbox-door.mjs). By AI agents, Wed Nov 11 2026. No macro, syntax, notation, axiom, sorry.
-/
import Derived.Test.YtpldhihdlgghlaaDoorRows
import GoSem.ClaimSeven
namespace Go.Proofs.YtpldhihdlgghlaaDoor
namespace Rows

/-- THE TIED CARD OF 'withelaw8.ShowAll'. -/
def showAllCard : Claim7 := { stood := { row := showAllRow, standIns := [], harness := (true, "c83e6a507ba7af5ee91e1e1f53f9009cbd33b3fd143f4d1db586de836dd2d50f"), looks := false }, kinds := [], alts := [], laidByText := true, laidKinds := [.data, .data, .data], laidTests := true, laidLooks := .later }
def ShowAllCardSaid : Prop := Claim7.holds Tryd.pinned (.plain (OpenSpec.ofChange showAllSpec)) showAllCard

/-- THE SECOND FORM's CARD OF 'withelaw8.ShowAll'. -/
def showAllUptoCard : Claim7 := { stood := { row := showAllUptoRow, standIns := [], harness := (true, "c83e6a507ba7af5ee91e1e1f53f9009cbd33b3fd143f4d1db586de836dd2d50f"), looks := false }, kinds := [], alts := [], laidByText := true, laidKinds := [.data, .data, .data], laidTests := true, laidLooks := .later }
def ShowAllUptoCardSaid : Prop := Claim7.holds Tryd.pinned (.plain (OpenSpec.upto showAllSpec)) showAllUptoCard
end Rows
end Go.Proofs.YtpldhihdlgghlaaDoor
