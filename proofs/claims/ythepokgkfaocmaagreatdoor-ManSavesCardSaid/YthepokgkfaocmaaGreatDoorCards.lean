/-
  DERIVED. GIVEN WITH THE SEED: THE CARDS: each row of YthepokgkfaocmaaGreatDoorRows.lean that lists a variable, with what it lists TIED to the program's text (the seventh form; the later family's looks); each row that meets fmt, with fmt's text TOLD by the authors' own Lean function (tested against real Go, not proved from fmt's source: count such statements apart). THE CARD IS WHAT COUNTS. Prove the row's statement (the work); the ties are given (YthepokgkfaocmaaGreatDoorTie.lean); close each card by the builder's one call (the guide's Derived/Test/ToyasCard.lean, 'card_holds'). Laid BY PROGRAM, IN A SANDBOX (cutbox-door.mjs). By AI agents, Wed Nov 11 2026. No macro, syntax, notation, axiom, sorry.
-/
import Derived.Test.YthepokgkfaocmaaGreatDoorRows
import GoSem.ClaimSeven
namespace Go.Proofs.YthepokgkfaocmaaGreatDoor
namespace Rows

/-- THE TIED CARD OF 'clepsydralaw16.ManTorn'. -/
def manTornCard : Claim7 := { stood := { row := manTornRow, standIns := [], harness := (true, "ecb1e456b979c30ca67efee710554f9f0350efb9a9bcf504d9159b64097d6292"), looks := true }, kinds := [], alts := [], laidByText := true, laidKinds := [.data, .data, .data, .sentinel, .sentinel], laidTests := true, laidLooks := .later }
def ManTornCardSaid : Prop := Claim7.holds Tryz.pinned (.plain (OpenSpec.ofChange manTornSpec)) manTornCard

/-- THE TIED CARD OF 'clepsydralaw16.ManNames'. -/
def manNamesCard : Claim7 := { stood := { row := manNamesRow, standIns := [], harness := (true, "ecb1e456b979c30ca67efee710554f9f0350efb9a9bcf504d9159b64097d6292"), looks := true }, kinds := [], alts := [], laidByText := true, laidKinds := [.data, .data, .data, .sentinel, .sentinel], laidTests := true, laidLooks := .later }
def ManNamesCardSaid : Prop := Claim7.holds Tryz.pinned (.plain (OpenSpec.ofChange manNamesSpec)) manNamesCard

/-- THE TIED CARD OF 'clepsydralaw16.ManHostile'. -/
def manHostileCard : Claim7 := { stood := { row := manHostileRow, standIns := [], harness := (true, "ecb1e456b979c30ca67efee710554f9f0350efb9a9bcf504d9159b64097d6292"), looks := true }, kinds := [], alts := [], laidByText := true, laidKinds := [.data, .data, .data, .sentinel, .sentinel], laidTests := true, laidLooks := .later }
def ManHostileCardSaid : Prop := Claim7.holds Tryz.pinned (.plain (OpenSpec.ofChange manHostileSpec)) manHostileCard

/-- THE TIED CARD OF 'clepsydralaw16.ManLong'. -/
def manLongCard : Claim7 := { stood := { row := manLongRow, standIns := [], harness := (true, "ecb1e456b979c30ca67efee710554f9f0350efb9a9bcf504d9159b64097d6292"), looks := true }, kinds := [], alts := [], laidByText := true, laidKinds := [.data, .data, .data, .sentinel, .sentinel], laidTests := true, laidLooks := .later }
def ManLongCardSaid : Prop := Claim7.holds Tryz.pinned (.plain (OpenSpec.ofChange manLongSpec)) manLongCard

/-- THE TIED CARD OF 'clepsydralaw16.ManFails'. -/
def manFailsCard : Claim7 := { stood := { row := manFailsRow, standIns := [], harness := (true, "ecb1e456b979c30ca67efee710554f9f0350efb9a9bcf504d9159b64097d6292"), looks := true }, kinds := [], alts := [], laidByText := true, laidKinds := [.data, .data, .data, .sentinel, .sentinel], laidTests := true, laidLooks := .later }
def ManFailsCardSaid : Prop := Claim7.holds Tryz.pinned (.plain (OpenSpec.ofChange manFailsSpec)) manFailsCard

/-- THE TIED CARD OF 'clepsydralaw16.ManArgs'. -/
def manArgsCard : Claim7 := { stood := { row := manArgsRow, standIns := [], harness := (true, "ecb1e456b979c30ca67efee710554f9f0350efb9a9bcf504d9159b64097d6292"), looks := true }, kinds := [], alts := [], laidByText := true, laidKinds := [.data, .data, .data, .sentinel, .sentinel], laidTests := true, laidLooks := .later }
def ManArgsCardSaid : Prop := Claim7.holds Tryz.pinned (.plain (OpenSpec.ofChange manArgsSpec)) manArgsCard

/-- THE TIED CARD OF 'clepsydralaw16.ManCrashes'. -/
def manCrashesCard : Claim7 := { stood := { row := manCrashesRow, standIns := [], harness := (true, "ecb1e456b979c30ca67efee710554f9f0350efb9a9bcf504d9159b64097d6292"), looks := true }, kinds := [], alts := [], laidByText := true, laidKinds := [.data, .data, .data, .sentinel, .sentinel], laidTests := true, laidLooks := .later }
def ManCrashesCardSaid : Prop := Claim7.holds Tryz.pinned (.plain (OpenSpec.ofChange manCrashesSpec)) manCrashesCard

/-- THE TIED CARD OF 'clepsydralaw16.ManSaves'. -/
def manSavesCard : Claim7 := { stood := { row := manSavesRow, standIns := [], harness := (true, "ecb1e456b979c30ca67efee710554f9f0350efb9a9bcf504d9159b64097d6292"), looks := true }, kinds := [], alts := [], laidByText := true, laidKinds := [.data, .data, .data, .sentinel, .sentinel], laidTests := true, laidLooks := .later }
def ManSavesCardSaid : Prop := Claim7.holds Tryz.pinned (.plain (OpenSpec.ofChange manSavesSpec)) manSavesCard

/-- THE SECOND FORM's CARD OF 'clepsydralaw16.ManTorn'. -/
def manTornUptoCard : Claim7 := { stood := { row := manTornUptoRow, standIns := [], harness := (true, "ecb1e456b979c30ca67efee710554f9f0350efb9a9bcf504d9159b64097d6292"), looks := true }, kinds := [], alts := [], laidByText := true, laidKinds := [.data, .data, .data, .sentinel, .sentinel], laidTests := true, laidLooks := .later }
def ManTornUptoCardSaid : Prop := Claim7.holds Tryz.pinned (.plain (OpenSpec.upto manTornSpec)) manTornUptoCard

/-- THE SECOND FORM's CARD OF 'clepsydralaw16.ManNames'. -/
def manNamesUptoCard : Claim7 := { stood := { row := manNamesUptoRow, standIns := [], harness := (true, "ecb1e456b979c30ca67efee710554f9f0350efb9a9bcf504d9159b64097d6292"), looks := true }, kinds := [], alts := [], laidByText := true, laidKinds := [.data, .data, .data, .sentinel, .sentinel], laidTests := true, laidLooks := .later }
def ManNamesUptoCardSaid : Prop := Claim7.holds Tryz.pinned (.plain (OpenSpec.upto manNamesSpec)) manNamesUptoCard

/-- THE SECOND FORM's CARD OF 'clepsydralaw16.ManHostile'. -/
def manHostileUptoCard : Claim7 := { stood := { row := manHostileUptoRow, standIns := [], harness := (true, "ecb1e456b979c30ca67efee710554f9f0350efb9a9bcf504d9159b64097d6292"), looks := true }, kinds := [], alts := [], laidByText := true, laidKinds := [.data, .data, .data, .sentinel, .sentinel], laidTests := true, laidLooks := .later }
def ManHostileUptoCardSaid : Prop := Claim7.holds Tryz.pinned (.plain (OpenSpec.upto manHostileSpec)) manHostileUptoCard

/-- THE SECOND FORM's CARD OF 'clepsydralaw16.ManLong'. -/
def manLongUptoCard : Claim7 := { stood := { row := manLongUptoRow, standIns := [], harness := (true, "ecb1e456b979c30ca67efee710554f9f0350efb9a9bcf504d9159b64097d6292"), looks := true }, kinds := [], alts := [], laidByText := true, laidKinds := [.data, .data, .data, .sentinel, .sentinel], laidTests := true, laidLooks := .later }
def ManLongUptoCardSaid : Prop := Claim7.holds Tryz.pinned (.plain (OpenSpec.upto manLongSpec)) manLongUptoCard

/-- THE SECOND FORM's CARD OF 'clepsydralaw16.ManFails'. -/
def manFailsUptoCard : Claim7 := { stood := { row := manFailsUptoRow, standIns := [], harness := (true, "ecb1e456b979c30ca67efee710554f9f0350efb9a9bcf504d9159b64097d6292"), looks := true }, kinds := [], alts := [], laidByText := true, laidKinds := [.data, .data, .data, .sentinel, .sentinel], laidTests := true, laidLooks := .later }
def ManFailsUptoCardSaid : Prop := Claim7.holds Tryz.pinned (.plain (OpenSpec.upto manFailsSpec)) manFailsUptoCard

/-- THE SECOND FORM's CARD OF 'clepsydralaw16.ManArgs'. -/
def manArgsUptoCard : Claim7 := { stood := { row := manArgsUptoRow, standIns := [], harness := (true, "ecb1e456b979c30ca67efee710554f9f0350efb9a9bcf504d9159b64097d6292"), looks := true }, kinds := [], alts := [], laidByText := true, laidKinds := [.data, .data, .data, .sentinel, .sentinel], laidTests := true, laidLooks := .later }
def ManArgsUptoCardSaid : Prop := Claim7.holds Tryz.pinned (.plain (OpenSpec.upto manArgsSpec)) manArgsUptoCard

/-- THE SECOND FORM's CARD OF 'clepsydralaw16.ManCrashes'. -/
def manCrashesUptoCard : Claim7 := { stood := { row := manCrashesUptoRow, standIns := [], harness := (true, "ecb1e456b979c30ca67efee710554f9f0350efb9a9bcf504d9159b64097d6292"), looks := true }, kinds := [], alts := [], laidByText := true, laidKinds := [.data, .data, .data, .sentinel, .sentinel], laidTests := true, laidLooks := .later }
def ManCrashesUptoCardSaid : Prop := Claim7.holds Tryz.pinned (.plain (OpenSpec.upto manCrashesSpec)) manCrashesUptoCard

/-- THE SECOND FORM's CARD OF 'clepsydralaw16.ManSaves'. -/
def manSavesUptoCard : Claim7 := { stood := { row := manSavesUptoRow, standIns := [], harness := (true, "ecb1e456b979c30ca67efee710554f9f0350efb9a9bcf504d9159b64097d6292"), looks := true }, kinds := [], alts := [], laidByText := true, laidKinds := [.data, .data, .data, .sentinel, .sentinel], laidTests := true, laidLooks := .later }
def ManSavesUptoCardSaid : Prop := Claim7.holds Tryz.pinned (.plain (OpenSpec.upto manSavesSpec)) manSavesUptoCard
end Rows
end Go.Proofs.YthepokgkfaocmaaGreatDoor
