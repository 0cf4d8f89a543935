/-
  DERIVED. GIVEN WITH THE SEED: THE CARDS: each row of YtkdbagdiplpcfaaGreatDoorRows.lean that lists a variable, with what it lists TIED to the program's text (the seventh form; the later family's looks); each row that meets fmt, with fmt's text TOLD by the authors' own Lean function (tested against real Go, not proved from fmt's source: count such statements apart). THE CARD IS WHAT COUNTS. Prove the row's statement (the work); the ties are given (YtkdbagdiplpcfaaGreatDoorTie.lean); close each card by the builder's one call (the guide's Derived/Test/ToyasCard.lean, 'card_holds'). Laid BY PROGRAM, IN A SANDBOX (cutbox-door.mjs). By AI agents, Wed Nov 11 2026. No macro, syntax, notation, axiom, sorry.
-/
import Derived.Test.YtkdbagdiplpcfaaGreatDoorRows
import GoSem.ClaimSeven
namespace Go.Proofs.YtkdbagdiplpcfaaGreatDoor
namespace Rows

/-- THE TIED CARD OF 'clepsydralaw18.StoreRests'. -/
def storeRestsCard : Claim7 := { stood := { row := storeRestsRow, standIns := [], harness := (true, "5c903bfb8ceb1a53b33e703b1812f4ab77f3ee23f52c9f53bfd3d8d5625c3061"), looks := true }, kinds := [], alts := [], laidByText := true, laidKinds := [.data, .data, .data, .sentinel, .sentinel], laidTests := true, laidLooks := .later }
def StoreRestsCardSaid : Prop := Claim7.holds Tryz.pinned (.plain (OpenSpec.ofChange storeRestsSpec)) storeRestsCard

/-- THE SECOND FORM's CARD OF 'clepsydralaw18.StoreRests'. -/
def storeRestsUptoCard : Claim7 := { stood := { row := storeRestsUptoRow, standIns := [], harness := (true, "5c903bfb8ceb1a53b33e703b1812f4ab77f3ee23f52c9f53bfd3d8d5625c3061"), looks := true }, kinds := [], alts := [], laidByText := true, laidKinds := [.data, .data, .data, .sentinel, .sentinel], laidTests := true, laidLooks := .later }
def StoreRestsUptoCardSaid : Prop := Claim7.holds Tryz.pinned (.plain (OpenSpec.upto storeRestsSpec)) storeRestsUptoCard
end Rows
end Go.Proofs.YtkdbagdiplpcfaaGreatDoor
