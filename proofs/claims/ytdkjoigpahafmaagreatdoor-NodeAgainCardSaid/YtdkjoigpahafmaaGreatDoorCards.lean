/-
  DERIVED. GIVEN WITH THE SEED: THE CARDS: each row of YtdkjoigpahafmaaGreatDoorRows.lean that lists a variable, with what it lists TIED to the program's text (the seventh form; the later family's looks); each row that meets fmt, with fmt's text TOLD by the authors' own Lean function (tested against real Go, not proved from fmt's source: count such statements apart). THE CARD IS WHAT COUNTS. Prove the row's statement (the work); the ties are given (YtdkjoigpahafmaaGreatDoorTie.lean); close each card by the builder's one call (the guide's Derived/Test/ToyasCard.lean, 'card_holds'). Laid BY PROGRAM, IN A SANDBOX (cutbox-door.mjs). By AI agents, Wed Nov 11 2026. No macro, syntax, notation, axiom, sorry.
-/
import Derived.Test.YtdkjoigpahafmaaGreatDoorRows
import GoSem.ClaimSeven
namespace Go.Proofs.YtdkjoigpahafmaaGreatDoor
namespace Rows

/-- THE TIED CARD OF 'clepsydralaw18.StoreBounds'. -/
def storeBoundsCard : Claim7 := { stood := { row := storeBoundsRow, standIns := [], harness := (true, "e785d4a1d7ca50b51c25a1c0846fbeea69a43ff42ffb82bd9fe9f8d1078bf990"), looks := true }, kinds := [], alts := [], laidByText := true, laidKinds := [.data, .data, .data, .sentinel, .sentinel], laidTests := true, laidLooks := .later }
def StoreBoundsCardSaid : Prop := Claim7.holds Tryz.pinned (.plain (OpenSpec.ofChange storeBoundsSpec)) storeBoundsCard

/-- THE TIED CARD OF 'clepsydralaw23.NodeJoins'. -/
def nodeJoinsCard : Claim7 := { stood := { row := nodeJoinsRow, standIns := [], harness := (true, "e785d4a1d7ca50b51c25a1c0846fbeea69a43ff42ffb82bd9fe9f8d1078bf990"), looks := true }, kinds := [], alts := [], laidByText := true, laidKinds := [.data, .data, .data, .sentinel, .sentinel], laidTests := true, laidLooks := .later }
def NodeJoinsCardSaid : Prop := Claim7.holds Tryz.pinned (.plain (OpenSpec.ofChange nodeJoinsSpec)) nodeJoinsCard

/-- THE TIED CARD OF 'clepsydralaw23.NodeSeals'. -/
def nodeSealsCard : Claim7 := { stood := { row := nodeSealsRow, standIns := [], harness := (true, "e785d4a1d7ca50b51c25a1c0846fbeea69a43ff42ffb82bd9fe9f8d1078bf990"), looks := true }, kinds := [], alts := [], laidByText := true, laidKinds := [.data, .data, .data, .sentinel, .sentinel], laidTests := true, laidLooks := .later }
def NodeSealsCardSaid : Prop := Claim7.holds Tryz.pinned (.plain (OpenSpec.ofChange nodeSealsSpec)) nodeSealsCard

/-- THE TIED CARD OF 'clepsydralaw23.NodeAgain'. -/
def nodeAgainCard : Claim7 := { stood := { row := nodeAgainRow, standIns := [], harness := (true, "e785d4a1d7ca50b51c25a1c0846fbeea69a43ff42ffb82bd9fe9f8d1078bf990"), looks := true }, kinds := [], alts := [], laidByText := true, laidKinds := [.data, .data, .data, .sentinel, .sentinel], laidTests := true, laidLooks := .later }
def NodeAgainCardSaid : Prop := Claim7.holds Tryz.pinned (.plain (OpenSpec.ofChange nodeAgainSpec)) nodeAgainCard

/-- THE TIED CARD OF 'clepsydralaw23.NodeFloors'. -/
def nodeFloorsCard : Claim7 := { stood := { row := nodeFloorsRow, standIns := [], harness := (true, "e785d4a1d7ca50b51c25a1c0846fbeea69a43ff42ffb82bd9fe9f8d1078bf990"), looks := true }, kinds := [], alts := [], laidByText := true, laidKinds := [.data, .data, .data, .sentinel, .sentinel], laidTests := true, laidLooks := .later }
def NodeFloorsCardSaid : Prop := Claim7.holds Tryz.pinned (.plain (OpenSpec.ofChange nodeFloorsSpec)) nodeFloorsCard

/-- THE SECOND FORM's CARD OF 'clepsydralaw18.StoreBounds'. -/
def storeBoundsUptoCard : Claim7 := { stood := { row := storeBoundsUptoRow, standIns := [], harness := (true, "e785d4a1d7ca50b51c25a1c0846fbeea69a43ff42ffb82bd9fe9f8d1078bf990"), looks := true }, kinds := [], alts := [], laidByText := true, laidKinds := [.data, .data, .data, .sentinel, .sentinel], laidTests := true, laidLooks := .later }
def StoreBoundsUptoCardSaid : Prop := Claim7.holds Tryz.pinned (.plain (OpenSpec.upto storeBoundsSpec)) storeBoundsUptoCard

/-- THE SECOND FORM's CARD OF 'clepsydralaw23.NodeJoins'. -/
def nodeJoinsUptoCard : Claim7 := { stood := { row := nodeJoinsUptoRow, standIns := [], harness := (true, "e785d4a1d7ca50b51c25a1c0846fbeea69a43ff42ffb82bd9fe9f8d1078bf990"), looks := true }, kinds := [], alts := [], laidByText := true, laidKinds := [.data, .data, .data, .sentinel, .sentinel], laidTests := true, laidLooks := .later }
def NodeJoinsUptoCardSaid : Prop := Claim7.holds Tryz.pinned (.plain (OpenSpec.upto nodeJoinsSpec)) nodeJoinsUptoCard

/-- THE SECOND FORM's CARD OF 'clepsydralaw23.NodeSeals'. -/
def nodeSealsUptoCard : Claim7 := { stood := { row := nodeSealsUptoRow, standIns := [], harness := (true, "e785d4a1d7ca50b51c25a1c0846fbeea69a43ff42ffb82bd9fe9f8d1078bf990"), looks := true }, kinds := [], alts := [], laidByText := true, laidKinds := [.data, .data, .data, .sentinel, .sentinel], laidTests := true, laidLooks := .later }
def NodeSealsUptoCardSaid : Prop := Claim7.holds Tryz.pinned (.plain (OpenSpec.upto nodeSealsSpec)) nodeSealsUptoCard

/-- THE SECOND FORM's CARD OF 'clepsydralaw23.NodeAgain'. -/
def nodeAgainUptoCard : Claim7 := { stood := { row := nodeAgainUptoRow, standIns := [], harness := (true, "e785d4a1d7ca50b51c25a1c0846fbeea69a43ff42ffb82bd9fe9f8d1078bf990"), looks := true }, kinds := [], alts := [], laidByText := true, laidKinds := [.data, .data, .data, .sentinel, .sentinel], laidTests := true, laidLooks := .later }
def NodeAgainUptoCardSaid : Prop := Claim7.holds Tryz.pinned (.plain (OpenSpec.upto nodeAgainSpec)) nodeAgainUptoCard

/-- THE SECOND FORM's CARD OF 'clepsydralaw23.NodeFloors'. -/
def nodeFloorsUptoCard : Claim7 := { stood := { row := nodeFloorsUptoRow, standIns := [], harness := (true, "e785d4a1d7ca50b51c25a1c0846fbeea69a43ff42ffb82bd9fe9f8d1078bf990"), looks := true }, kinds := [], alts := [], laidByText := true, laidKinds := [.data, .data, .data, .sentinel, .sentinel], laidTests := true, laidLooks := .later }
def NodeFloorsUptoCardSaid : Prop := Claim7.holds Tryz.pinned (.plain (OpenSpec.upto nodeFloorsSpec)) nodeFloorsUptoCard
end Rows
end Go.Proofs.YtdkjoigpahafmaaGreatDoor
