/-
  DERIVED. GIVEN WITH THE SEED: THE CARDS: each row of YtfbkjjdfboagfaaGreatDoorRows.lean that lists a variable, with what it lists TIED to the program's text (the seventh form; the later family's looks); each row that meets fmt, with fmt's text TOLD by the authors' own Lean function (tested against real Go, not proved from fmt's source: count such statements apart). THE CARD IS WHAT COUNTS. Prove the row's statement (the work); the ties are given (YtfbkjjdfboagfaaGreatDoorTie.lean); close each card by the builder's one call (the guide's Derived/Test/ToyasCard.lean, 'card_holds'). Laid BY PROGRAM, IN A SANDBOX (cutbox-door.mjs). By AI agents, Wed Nov 11 2026. No macro, syntax, notation, axiom, sorry.
-/
import Derived.Test.YtfbkjjdfboagfaaGreatDoorRows
import GoSem.ClaimSeven
namespace Go.Proofs.YtfbkjjdfboagfaaGreatDoor
namespace Rows

/-- THE TIED CARD OF 'clepsydralaw23.NodeTimes'. -/
def nodeTimesCard : Claim7 := { stood := { row := nodeTimesRow, standIns := [], harness := (true, "790152c2dc3cb998aa6490071ba27d25c644aa4c59afd9e709c6d88c37b552dc"), looks := true }, kinds := [], alts := [], laidByText := true, laidKinds := [.data, .data, .data, .sentinel, .sentinel], laidTests := true, laidLooks := .later }
def NodeTimesCardSaid : Prop := Claim7.holds Tryz.pinned (.plain (OpenSpec.ofChange nodeTimesSpec)) nodeTimesCard

/-- THE SECOND FORM's CARD OF 'clepsydralaw23.NodeTimes'. -/
def nodeTimesUptoCard : Claim7 := { stood := { row := nodeTimesUptoRow, standIns := [], harness := (true, "790152c2dc3cb998aa6490071ba27d25c644aa4c59afd9e709c6d88c37b552dc"), looks := true }, kinds := [], alts := [], laidByText := true, laidKinds := [.data, .data, .data, .sentinel, .sentinel], laidTests := true, laidLooks := .later }
def NodeTimesUptoCardSaid : Prop := Claim7.holds Tryz.pinned (.plain (OpenSpec.upto nodeTimesSpec)) nodeTimesUptoCard
end Rows
end Go.Proofs.YtfbkjjdfboagfaaGreatDoor
