/-
  DERIVED. GIVEN WITH THE SEED: THE CARDS: each row of YtcehnbneiabaaaaDoorRows.lean that lists a variable, with what it lists TIED to the program's text (the seventh form; the later family's looks); each row that meets fmt, with fmt's text TOLD by the authors' own Lean function (tested against real Go, not proved from fmt's source: count such statements apart). THE CARD IS WHAT COUNTS. Prove the row's statement (the work); the ties are given (YtcehnbneiabaaaaDoorTie.lean); close each card by the builder's one call (the guide's Derived/Test/ToyasCard.lean, 'card_holds'). Laid BY PROGRAM, IN A SANDBOX (cutbox-door.mjs). By AI agents, Wed Nov 11 2026. No macro, syntax, notation, axiom, sorry.
-/
import Derived.Test.YtcehnbneiabaaaaDoorRows
import GoSem.ClaimSeven
namespace Go.Proofs.YtcehnbneiabaaaaDoor
namespace Rows

/-- THE TIED CARD OF 'withelaw2.RelAny'. -/
def relAnyCard : Claim7 := { stood := { row := relAnyRow, standIns := [], harness := (true, "5efe3b9a87b17089c0d67a4c5215011bdb4114b2f62d6a61dd7b3a0b4db01946"), looks := false }, kinds := [], alts := [], laidByText := true, laidKinds := [.data], laidTests := true, laidLooks := .later }
def RelAnyCardSaid : Prop := Claim7.holds Tryd.pinned (.plain (OpenSpec.ofChange relAnySpec)) relAnyCard

/-- THE TIED CARD OF 'withelaw2.RelFrom'. -/
def relFromCard : Claim7 := { stood := { row := relFromRow, standIns := [], harness := (true, "5efe3b9a87b17089c0d67a4c5215011bdb4114b2f62d6a61dd7b3a0b4db01946"), looks := false }, kinds := [], alts := [], laidByText := true, laidKinds := [.data], laidTests := true, laidLooks := .later }
def RelFromCardSaid : Prop := Claim7.holds Tryd.pinned (.plain (OpenSpec.ofChange relFromSpec)) relFromCard

/-- THE TIED CARD OF 'withelaw2.RelThen'. -/
def relThenCard : Claim7 := { stood := { row := relThenRow, standIns := [], harness := (true, "5efe3b9a87b17089c0d67a4c5215011bdb4114b2f62d6a61dd7b3a0b4db01946"), looks := false }, kinds := [], alts := [], laidByText := true, laidKinds := [.data], laidTests := true, laidLooks := .later }
def RelThenCardSaid : Prop := Claim7.holds Tryd.pinned (.plain (OpenSpec.ofChange relThenSpec)) relThenCard

/-- THE TIED CARD OF 'withelaw2.RelRules'. -/
def relRulesCard : Claim7 := { stood := { row := relRulesRow, standIns := [], harness := (true, "5efe3b9a87b17089c0d67a4c5215011bdb4114b2f62d6a61dd7b3a0b4db01946"), looks := false }, kinds := [], alts := [], laidByText := true, laidKinds := [.data], laidTests := true, laidLooks := .later }
def RelRulesCardSaid : Prop := Claim7.holds Tryd.pinned (.plain (OpenSpec.ofChange relRulesSpec)) relRulesCard

/-- THE TIED CARD OF 'withelaw2.RelSets'. -/
def relSetsCard : Claim7 := { stood := { row := relSetsRow, standIns := [], harness := (true, "5efe3b9a87b17089c0d67a4c5215011bdb4114b2f62d6a61dd7b3a0b4db01946"), looks := false }, kinds := [], alts := [], laidByText := true, laidKinds := [.data], laidTests := true, laidLooks := .later }
def RelSetsCardSaid : Prop := Claim7.holds Tryd.pinned (.plain (OpenSpec.ofChange relSetsSpec)) relSetsCard

/-- THE SECOND FORM's CARD OF 'withelaw2.RelAny'. -/
def relAnyUptoCard : Claim7 := { stood := { row := relAnyUptoRow, standIns := [], harness := (true, "5efe3b9a87b17089c0d67a4c5215011bdb4114b2f62d6a61dd7b3a0b4db01946"), looks := false }, kinds := [], alts := [], laidByText := true, laidKinds := [.data], laidTests := true, laidLooks := .later }
def RelAnyUptoCardSaid : Prop := Claim7.holds Tryd.pinned (.plain (OpenSpec.upto relAnySpec)) relAnyUptoCard

/-- THE SECOND FORM's CARD OF 'withelaw2.RelFrom'. -/
def relFromUptoCard : Claim7 := { stood := { row := relFromUptoRow, standIns := [], harness := (true, "5efe3b9a87b17089c0d67a4c5215011bdb4114b2f62d6a61dd7b3a0b4db01946"), looks := false }, kinds := [], alts := [], laidByText := true, laidKinds := [.data], laidTests := true, laidLooks := .later }
def RelFromUptoCardSaid : Prop := Claim7.holds Tryd.pinned (.plain (OpenSpec.upto relFromSpec)) relFromUptoCard

/-- THE SECOND FORM's CARD OF 'withelaw2.RelThen'. -/
def relThenUptoCard : Claim7 := { stood := { row := relThenUptoRow, standIns := [], harness := (true, "5efe3b9a87b17089c0d67a4c5215011bdb4114b2f62d6a61dd7b3a0b4db01946"), looks := false }, kinds := [], alts := [], laidByText := true, laidKinds := [.data], laidTests := true, laidLooks := .later }
def RelThenUptoCardSaid : Prop := Claim7.holds Tryd.pinned (.plain (OpenSpec.upto relThenSpec)) relThenUptoCard

/-- THE SECOND FORM's CARD OF 'withelaw2.RelRules'. -/
def relRulesUptoCard : Claim7 := { stood := { row := relRulesUptoRow, standIns := [], harness := (true, "5efe3b9a87b17089c0d67a4c5215011bdb4114b2f62d6a61dd7b3a0b4db01946"), looks := false }, kinds := [], alts := [], laidByText := true, laidKinds := [.data], laidTests := true, laidLooks := .later }
def RelRulesUptoCardSaid : Prop := Claim7.holds Tryd.pinned (.plain (OpenSpec.upto relRulesSpec)) relRulesUptoCard

/-- THE SECOND FORM's CARD OF 'withelaw2.RelSets'. -/
def relSetsUptoCard : Claim7 := { stood := { row := relSetsUptoRow, standIns := [], harness := (true, "5efe3b9a87b17089c0d67a4c5215011bdb4114b2f62d6a61dd7b3a0b4db01946"), looks := false }, kinds := [], alts := [], laidByText := true, laidKinds := [.data], laidTests := true, laidLooks := .later }
def RelSetsUptoCardSaid : Prop := Claim7.holds Tryd.pinned (.plain (OpenSpec.upto relSetsSpec)) relSetsUptoCard
end Rows
end Go.Proofs.YtcehnbneiabaaaaDoor
