/-
  DERIVED. GIVEN WITH THE SEED: THE CARDS: each row of YtniimgbkbghbkaaDoorRows.lean that lists a variable, with what it lists TIED to the program's text (the seventh form; the later family's looks); each row that meets fmt, with fmt's text TOLD by the authors' own Lean function (tested against real Go, not proved from fmt's source: count such statements apart). THE CARD IS WHAT COUNTS. Prove the row's statement (the work); the ties are given (YtniimgbkbghbkaaDoorTie.lean); close each card by the builder's one call (the guide's Derived/Test/ToyasCard.lean, 'card_holds'). Laid BY PROGRAM, IN A SANDBOX (cutbox-door.mjs). By AI agents, Wed Nov 11 2026. No macro, syntax, notation, axiom, sorry.
-/
import Derived.Test.YtniimgbkbghbkaaDoorRows
import GoSem.ClaimSeven
namespace Go.Proofs.YtniimgbkbghbkaaDoor
namespace Rows

/-- THE TIED CARD OF 'withelaw3.ReachAll'. -/
def reachAllCard : Claim7 := { stood := { row := reachAllRow, standIns := [], harness := (true, "366bd3a43f883ac6c091f022353cb2e150067d7d18e45866de11b701f24c4182"), looks := false }, kinds := [], alts := [], laidByText := true, laidKinds := [.data], laidTests := true, laidLooks := .later }
def ReachAllCardSaid : Prop := Claim7.holds Tryd.pinned (.plain (OpenSpec.ofChange reachAllSpec)) reachAllCard

/-- THE TIED CARD OF 'withelaw3.ReachAny'. -/
def reachAnyCard : Claim7 := { stood := { row := reachAnyRow, standIns := [], harness := (true, "366bd3a43f883ac6c091f022353cb2e150067d7d18e45866de11b701f24c4182"), looks := false }, kinds := [], alts := [], laidByText := true, laidKinds := [.data], laidTests := true, laidLooks := .later }
def ReachAnyCardSaid : Prop := Claim7.holds Tryd.pinned (.plain (OpenSpec.ofChange reachAnySpec)) reachAnyCard

/-- THE TIED CARD OF 'withelaw3.ReachOrders'. -/
def reachOrdersCard : Claim7 := { stood := { row := reachOrdersRow, standIns := [], harness := (true, "366bd3a43f883ac6c091f022353cb2e150067d7d18e45866de11b701f24c4182"), looks := false }, kinds := [], alts := [], laidByText := true, laidKinds := [.data], laidTests := true, laidLooks := .later }
def ReachOrdersCardSaid : Prop := Claim7.holds Tryd.pinned (.plain (OpenSpec.ofChange reachOrdersSpec)) reachOrdersCard

/-- THE TIED CARD OF 'withelaw3.ReachTurned'. -/
def reachTurnedCard : Claim7 := { stood := { row := reachTurnedRow, standIns := [], harness := (true, "366bd3a43f883ac6c091f022353cb2e150067d7d18e45866de11b701f24c4182"), looks := false }, kinds := [], alts := [], laidByText := true, laidKinds := [.data], laidTests := true, laidLooks := .later }
def ReachTurnedCardSaid : Prop := Claim7.holds Tryd.pinned (.plain (OpenSpec.ofChange reachTurnedSpec)) reachTurnedCard

/-- THE TIED CARD OF 'withelaw3.ReachPlus'. -/
def reachPlusCard : Claim7 := { stood := { row := reachPlusRow, standIns := [], harness := (true, "366bd3a43f883ac6c091f022353cb2e150067d7d18e45866de11b701f24c4182"), looks := false }, kinds := [], alts := [], laidByText := true, laidKinds := [.data], laidTests := true, laidLooks := .later }
def ReachPlusCardSaid : Prop := Claim7.holds Tryd.pinned (.plain (OpenSpec.ofChange reachPlusSpec)) reachPlusCard

/-- THE SECOND FORM's CARD OF 'withelaw3.ReachAll'. -/
def reachAllUptoCard : Claim7 := { stood := { row := reachAllUptoRow, standIns := [], harness := (true, "366bd3a43f883ac6c091f022353cb2e150067d7d18e45866de11b701f24c4182"), looks := false }, kinds := [], alts := [], laidByText := true, laidKinds := [.data], laidTests := true, laidLooks := .later }
def ReachAllUptoCardSaid : Prop := Claim7.holds Tryd.pinned (.plain (OpenSpec.upto reachAllSpec)) reachAllUptoCard

/-- THE SECOND FORM's CARD OF 'withelaw3.ReachAny'. -/
def reachAnyUptoCard : Claim7 := { stood := { row := reachAnyUptoRow, standIns := [], harness := (true, "366bd3a43f883ac6c091f022353cb2e150067d7d18e45866de11b701f24c4182"), looks := false }, kinds := [], alts := [], laidByText := true, laidKinds := [.data], laidTests := true, laidLooks := .later }
def ReachAnyUptoCardSaid : Prop := Claim7.holds Tryd.pinned (.plain (OpenSpec.upto reachAnySpec)) reachAnyUptoCard

/-- THE SECOND FORM's CARD OF 'withelaw3.ReachOrders'. -/
def reachOrdersUptoCard : Claim7 := { stood := { row := reachOrdersUptoRow, standIns := [], harness := (true, "366bd3a43f883ac6c091f022353cb2e150067d7d18e45866de11b701f24c4182"), looks := false }, kinds := [], alts := [], laidByText := true, laidKinds := [.data], laidTests := true, laidLooks := .later }
def ReachOrdersUptoCardSaid : Prop := Claim7.holds Tryd.pinned (.plain (OpenSpec.upto reachOrdersSpec)) reachOrdersUptoCard

/-- THE SECOND FORM's CARD OF 'withelaw3.ReachTurned'. -/
def reachTurnedUptoCard : Claim7 := { stood := { row := reachTurnedUptoRow, standIns := [], harness := (true, "366bd3a43f883ac6c091f022353cb2e150067d7d18e45866de11b701f24c4182"), looks := false }, kinds := [], alts := [], laidByText := true, laidKinds := [.data], laidTests := true, laidLooks := .later }
def ReachTurnedUptoCardSaid : Prop := Claim7.holds Tryd.pinned (.plain (OpenSpec.upto reachTurnedSpec)) reachTurnedUptoCard

/-- THE SECOND FORM's CARD OF 'withelaw3.ReachPlus'. -/
def reachPlusUptoCard : Claim7 := { stood := { row := reachPlusUptoRow, standIns := [], harness := (true, "366bd3a43f883ac6c091f022353cb2e150067d7d18e45866de11b701f24c4182"), looks := false }, kinds := [], alts := [], laidByText := true, laidKinds := [.data], laidTests := true, laidLooks := .later }
def ReachPlusUptoCardSaid : Prop := Claim7.holds Tryd.pinned (.plain (OpenSpec.upto reachPlusSpec)) reachPlusUptoCard
end Rows
end Go.Proofs.YtniimgbkbghbkaaDoor
