/-
  DERIVED. GIVEN WITH THE SEED: THE CARDS: each row of YtbgcmbnnkigjjaaDoorRows.lean that lists a variable, with what it lists TIED to the program's text (the seventh form; the later family's looks); each row that meets fmt, with fmt's text TOLD by the authors' own Lean function (tested against real Go, not proved from fmt's source: count such statements apart). THE CARD IS WHAT COUNTS. Prove the row's statement (the work); the ties are given (YtbgcmbnnkigjjaaDoorTie.lean); close each card by the builder's one call (the guide's Derived/Test/ToyasCard.lean, 'card_holds'). Laid BY PROGRAM, IN A SANDBOX (cutbox-door.mjs). By AI agents, Wed Nov 11 2026. No macro, syntax, notation, axiom, sorry.
-/
import Derived.Test.YtbgcmbnnkigjjaaDoorRows
import GoSem.ClaimSeven
namespace Go.Proofs.YtbgcmbnnkigjjaaDoor
namespace Rows

/-- THE TIED CARD OF 'withelaw11.PostAll'. -/
def postAllCard : Claim7 := { stood := { row := postAllRow, standIns := [], harness := (true, "309239811d2f0f7ddb20e817c75de2051fea9e2da59af58e459c50a3d63953e0"), looks := false }, kinds := [], alts := [], laidByText := true, laidKinds := [.data, .data, .data], laidTests := true, laidLooks := .later }
def PostAllCardSaid : Prop := Claim7.holds Tryd.pinned (.plain (OpenSpec.ofChange postAllSpec)) postAllCard

/-- THE TIED CARD OF 'withelaw11.PostRules'. -/
def postRulesCard : Claim7 := { stood := { row := postRulesRow, standIns := [], harness := (true, "309239811d2f0f7ddb20e817c75de2051fea9e2da59af58e459c50a3d63953e0"), looks := false }, kinds := [], alts := [], laidByText := true, laidKinds := [.data, .data, .data], laidTests := true, laidLooks := .later }
def PostRulesCardSaid : Prop := Claim7.holds Tryd.pinned (.plain (OpenSpec.ofChange postRulesSpec)) postRulesCard

/-- THE TIED CARD OF 'withelaw11.PostOrder'. -/
def postOrderCard : Claim7 := { stood := { row := postOrderRow, standIns := [], harness := (true, "309239811d2f0f7ddb20e817c75de2051fea9e2da59af58e459c50a3d63953e0"), looks := false }, kinds := [], alts := [], laidByText := true, laidKinds := [.data, .data, .data], laidTests := true, laidLooks := .later }
def PostOrderCardSaid : Prop := Claim7.holds Tryd.pinned (.plain (OpenSpec.ofChange postOrderSpec)) postOrderCard

/-- THE TIED CARD OF 'withelaw11.PostOne'. -/
def postOneCard : Claim7 := { stood := { row := postOneRow, standIns := [], harness := (true, "309239811d2f0f7ddb20e817c75de2051fea9e2da59af58e459c50a3d63953e0"), looks := false }, kinds := [], alts := [], laidByText := true, laidKinds := [.data, .data, .data], laidTests := true, laidLooks := .later }
def PostOneCardSaid : Prop := Claim7.holds Tryd.pinned (.plain (OpenSpec.ofChange postOneSpec)) postOneCard

/-- THE SECOND FORM's CARD OF 'withelaw11.PostAll'. -/
def postAllUptoCard : Claim7 := { stood := { row := postAllUptoRow, standIns := [], harness := (true, "309239811d2f0f7ddb20e817c75de2051fea9e2da59af58e459c50a3d63953e0"), looks := false }, kinds := [], alts := [], laidByText := true, laidKinds := [.data, .data, .data], laidTests := true, laidLooks := .later }
def PostAllUptoCardSaid : Prop := Claim7.holds Tryd.pinned (.plain (OpenSpec.upto postAllSpec)) postAllUptoCard

/-- THE SECOND FORM's CARD OF 'withelaw11.PostRules'. -/
def postRulesUptoCard : Claim7 := { stood := { row := postRulesUptoRow, standIns := [], harness := (true, "309239811d2f0f7ddb20e817c75de2051fea9e2da59af58e459c50a3d63953e0"), looks := false }, kinds := [], alts := [], laidByText := true, laidKinds := [.data, .data, .data], laidTests := true, laidLooks := .later }
def PostRulesUptoCardSaid : Prop := Claim7.holds Tryd.pinned (.plain (OpenSpec.upto postRulesSpec)) postRulesUptoCard

/-- THE SECOND FORM's CARD OF 'withelaw11.PostOrder'. -/
def postOrderUptoCard : Claim7 := { stood := { row := postOrderUptoRow, standIns := [], harness := (true, "309239811d2f0f7ddb20e817c75de2051fea9e2da59af58e459c50a3d63953e0"), looks := false }, kinds := [], alts := [], laidByText := true, laidKinds := [.data, .data, .data], laidTests := true, laidLooks := .later }
def PostOrderUptoCardSaid : Prop := Claim7.holds Tryd.pinned (.plain (OpenSpec.upto postOrderSpec)) postOrderUptoCard

/-- THE SECOND FORM's CARD OF 'withelaw11.PostOne'. -/
def postOneUptoCard : Claim7 := { stood := { row := postOneUptoRow, standIns := [], harness := (true, "309239811d2f0f7ddb20e817c75de2051fea9e2da59af58e459c50a3d63953e0"), looks := false }, kinds := [], alts := [], laidByText := true, laidKinds := [.data, .data, .data], laidTests := true, laidLooks := .later }
def PostOneUptoCardSaid : Prop := Claim7.holds Tryd.pinned (.plain (OpenSpec.upto postOneSpec)) postOneUptoCard
end Rows
end Go.Proofs.YtbgcmbnnkigjjaaDoor
