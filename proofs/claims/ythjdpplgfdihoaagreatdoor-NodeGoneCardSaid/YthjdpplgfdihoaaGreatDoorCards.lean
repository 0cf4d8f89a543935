/-
  DERIVED. GIVEN WITH THE SEED: THE CARDS: each row of YthjdpplgfdihoaaGreatDoorRows.lean that lists a variable, with what it lists TIED to the program's text (the seventh form; the later family's looks); each row that meets fmt, with fmt's text TOLD by the authors' own Lean function (tested against real Go, not proved from fmt's source: count such statements apart). THE CARD IS WHAT COUNTS. Prove the row's statement (the work); the ties are given (YthjdpplgfdihoaaGreatDoorTie.lean); close each card by the builder's one call (the guide's Derived/Test/ToyasCard.lean, 'card_holds'). Laid BY PROGRAM, IN A SANDBOX (cutbox-door.mjs). By AI agents, Wed Nov 11 2026. No macro, syntax, notation, axiom, sorry.
-/
import Derived.Test.YthjdpplgfdihoaaGreatDoorRows
import GoSem.ClaimSeven
namespace Go.Proofs.YthjdpplgfdihoaaGreatDoor
namespace Rows

/-- THE TIED CARD OF 'clepsydralaw23.NodeFloors'. -/
def nodeFloorsCard : Claim7 := { stood := { row := nodeFloorsRow, standIns := [], harness := (true, "a81ed3ca69b1186e876596b83756551a2360fa81a442186b93dfd7f7fe5be53b"), looks := true }, kinds := [], alts := [], laidByText := true, laidKinds := [.data, .data, .data, .sentinel, .sentinel], laidTests := true, laidLooks := .later }
def NodeFloorsCardSaid : Prop := Claim7.holds Tryz.pinned (.plain (OpenSpec.ofChange nodeFloorsSpec)) nodeFloorsCard

/-- THE TIED CARD OF 'clepsydralaw18.StoreHostile'. -/
def storeHostileCard : Claim7 := { stood := { row := storeHostileRow, standIns := [], harness := (true, "a81ed3ca69b1186e876596b83756551a2360fa81a442186b93dfd7f7fe5be53b"), looks := true }, kinds := [], alts := [], laidByText := true, laidKinds := [.data, .data, .data, .sentinel, .sentinel], laidTests := true, laidLooks := .later }
def StoreHostileCardSaid : Prop := Claim7.holds Tryz.pinned (.plain (OpenSpec.ofChange storeHostileSpec)) storeHostileCard

/-- THE TIED CARD OF 'clepsydralaw18.StoreRests'. -/
def storeRestsCard : Claim7 := { stood := { row := storeRestsRow, standIns := [], harness := (true, "a81ed3ca69b1186e876596b83756551a2360fa81a442186b93dfd7f7fe5be53b"), looks := true }, kinds := [], alts := [], laidByText := true, laidKinds := [.data, .data, .data, .sentinel, .sentinel], laidTests := true, laidLooks := .later }
def StoreRestsCardSaid : Prop := Claim7.holds Tryz.pinned (.plain (OpenSpec.ofChange storeRestsSpec)) storeRestsCard

/-- THE TIED CARD OF 'clepsydralaw18.StorePlays'. -/
def storePlaysCard : Claim7 := { stood := { row := storePlaysRow, standIns := [], harness := (true, "a81ed3ca69b1186e876596b83756551a2360fa81a442186b93dfd7f7fe5be53b"), looks := true }, kinds := [], alts := [], laidByText := true, laidKinds := [.data, .data, .data, .sentinel, .sentinel], laidTests := true, laidLooks := .later }
def StorePlaysCardSaid : Prop := Claim7.holds Tryz.pinned (.plain (OpenSpec.ofChange storePlaysSpec)) storePlaysCard

/-- THE TIED CARD OF 'clepsydralaw23.NodeGone'. -/
def nodeGoneCard : Claim7 := { stood := { row := nodeGoneRow, standIns := [], harness := (true, "a81ed3ca69b1186e876596b83756551a2360fa81a442186b93dfd7f7fe5be53b"), looks := true }, kinds := [], alts := [], laidByText := true, laidKinds := [.data, .data, .data, .sentinel, .sentinel], laidTests := true, laidLooks := .later }
def NodeGoneCardSaid : Prop := Claim7.holds Tryz.pinned (.plain (OpenSpec.ofChange nodeGoneSpec)) nodeGoneCard

/-- THE TIED CARD OF 'clepsydralaw18.StoreCrashes'. -/
def storeCrashesCard : Claim7 := { stood := { row := storeCrashesRow, standIns := [], harness := (true, "a81ed3ca69b1186e876596b83756551a2360fa81a442186b93dfd7f7fe5be53b"), looks := true }, kinds := [], alts := [], laidByText := true, laidKinds := [.data, .data, .data, .sentinel, .sentinel], laidTests := true, laidLooks := .later }
def StoreCrashesCardSaid : Prop := Claim7.holds Tryz.pinned (.plain (OpenSpec.ofChange storeCrashesSpec)) storeCrashesCard

/-- THE TIED CARD OF 'clepsydralaw18.StoreFails'. -/
def storeFailsCard : Claim7 := { stood := { row := storeFailsRow, standIns := [], harness := (true, "a81ed3ca69b1186e876596b83756551a2360fa81a442186b93dfd7f7fe5be53b"), looks := true }, kinds := [], alts := [], laidByText := true, laidKinds := [.data, .data, .data, .sentinel, .sentinel], laidTests := true, laidLooks := .later }
def StoreFailsCardSaid : Prop := Claim7.holds Tryz.pinned (.plain (OpenSpec.ofChange storeFailsSpec)) storeFailsCard

/-- THE TIED CARD OF 'clepsydralaw18.StoreOpens'. -/
def storeOpensCard : Claim7 := { stood := { row := storeOpensRow, standIns := [], harness := (true, "a81ed3ca69b1186e876596b83756551a2360fa81a442186b93dfd7f7fe5be53b"), looks := true }, kinds := [], alts := [], laidByText := true, laidKinds := [.data, .data, .data, .sentinel, .sentinel], laidTests := true, laidLooks := .later }
def StoreOpensCardSaid : Prop := Claim7.holds Tryz.pinned (.plain (OpenSpec.ofChange storeOpensSpec)) storeOpensCard

/-- THE TIED CARD OF 'clepsydralaw18.StoreNames'. -/
def storeNamesCard : Claim7 := { stood := { row := storeNamesRow, standIns := [], harness := (true, "a81ed3ca69b1186e876596b83756551a2360fa81a442186b93dfd7f7fe5be53b"), looks := true }, kinds := [], alts := [], laidByText := true, laidKinds := [.data, .data, .data, .sentinel, .sentinel], laidTests := true, laidLooks := .later }
def StoreNamesCardSaid : Prop := Claim7.holds Tryz.pinned (.plain (OpenSpec.ofChange storeNamesSpec)) storeNamesCard

/-- THE TIED CARD OF 'clepsydralaw23.NodeTimes'. -/
def nodeTimesCard : Claim7 := { stood := { row := nodeTimesRow, standIns := [], harness := (true, "a81ed3ca69b1186e876596b83756551a2360fa81a442186b93dfd7f7fe5be53b"), looks := true }, kinds := [], alts := [], laidByText := true, laidKinds := [.data, .data, .data, .sentinel, .sentinel], laidTests := true, laidLooks := .later }
def NodeTimesCardSaid : Prop := Claim7.holds Tryz.pinned (.plain (OpenSpec.ofChange nodeTimesSpec)) nodeTimesCard

/-- THE SECOND FORM's CARD OF 'clepsydralaw23.NodeFloors'. -/
def nodeFloorsUptoCard : Claim7 := { stood := { row := nodeFloorsUptoRow, standIns := [], harness := (true, "a81ed3ca69b1186e876596b83756551a2360fa81a442186b93dfd7f7fe5be53b"), looks := true }, kinds := [], alts := [], laidByText := true, laidKinds := [.data, .data, .data, .sentinel, .sentinel], laidTests := true, laidLooks := .later }
def NodeFloorsUptoCardSaid : Prop := Claim7.holds Tryz.pinned (.plain (OpenSpec.upto nodeFloorsSpec)) nodeFloorsUptoCard

/-- THE SECOND FORM's CARD OF 'clepsydralaw18.StoreHostile'. -/
def storeHostileUptoCard : Claim7 := { stood := { row := storeHostileUptoRow, standIns := [], harness := (true, "a81ed3ca69b1186e876596b83756551a2360fa81a442186b93dfd7f7fe5be53b"), looks := true }, kinds := [], alts := [], laidByText := true, laidKinds := [.data, .data, .data, .sentinel, .sentinel], laidTests := true, laidLooks := .later }
def StoreHostileUptoCardSaid : Prop := Claim7.holds Tryz.pinned (.plain (OpenSpec.upto storeHostileSpec)) storeHostileUptoCard

/-- THE SECOND FORM's CARD OF 'clepsydralaw18.StoreRests'. -/
def storeRestsUptoCard : Claim7 := { stood := { row := storeRestsUptoRow, standIns := [], harness := (true, "a81ed3ca69b1186e876596b83756551a2360fa81a442186b93dfd7f7fe5be53b"), looks := true }, kinds := [], alts := [], laidByText := true, laidKinds := [.data, .data, .data, .sentinel, .sentinel], laidTests := true, laidLooks := .later }
def StoreRestsUptoCardSaid : Prop := Claim7.holds Tryz.pinned (.plain (OpenSpec.upto storeRestsSpec)) storeRestsUptoCard

/-- THE SECOND FORM's CARD OF 'clepsydralaw18.StorePlays'. -/
def storePlaysUptoCard : Claim7 := { stood := { row := storePlaysUptoRow, standIns := [], harness := (true, "a81ed3ca69b1186e876596b83756551a2360fa81a442186b93dfd7f7fe5be53b"), looks := true }, kinds := [], alts := [], laidByText := true, laidKinds := [.data, .data, .data, .sentinel, .sentinel], laidTests := true, laidLooks := .later }
def StorePlaysUptoCardSaid : Prop := Claim7.holds Tryz.pinned (.plain (OpenSpec.upto storePlaysSpec)) storePlaysUptoCard

/-- THE SECOND FORM's CARD OF 'clepsydralaw23.NodeGone'. -/
def nodeGoneUptoCard : Claim7 := { stood := { row := nodeGoneUptoRow, standIns := [], harness := (true, "a81ed3ca69b1186e876596b83756551a2360fa81a442186b93dfd7f7fe5be53b"), looks := true }, kinds := [], alts := [], laidByText := true, laidKinds := [.data, .data, .data, .sentinel, .sentinel], laidTests := true, laidLooks := .later }
def NodeGoneUptoCardSaid : Prop := Claim7.holds Tryz.pinned (.plain (OpenSpec.upto nodeGoneSpec)) nodeGoneUptoCard

/-- THE SECOND FORM's CARD OF 'clepsydralaw18.StoreCrashes'. -/
def storeCrashesUptoCard : Claim7 := { stood := { row := storeCrashesUptoRow, standIns := [], harness := (true, "a81ed3ca69b1186e876596b83756551a2360fa81a442186b93dfd7f7fe5be53b"), looks := true }, kinds := [], alts := [], laidByText := true, laidKinds := [.data, .data, .data, .sentinel, .sentinel], laidTests := true, laidLooks := .later }
def StoreCrashesUptoCardSaid : Prop := Claim7.holds Tryz.pinned (.plain (OpenSpec.upto storeCrashesSpec)) storeCrashesUptoCard

/-- THE SECOND FORM's CARD OF 'clepsydralaw18.StoreFails'. -/
def storeFailsUptoCard : Claim7 := { stood := { row := storeFailsUptoRow, standIns := [], harness := (true, "a81ed3ca69b1186e876596b83756551a2360fa81a442186b93dfd7f7fe5be53b"), looks := true }, kinds := [], alts := [], laidByText := true, laidKinds := [.data, .data, .data, .sentinel, .sentinel], laidTests := true, laidLooks := .later }
def StoreFailsUptoCardSaid : Prop := Claim7.holds Tryz.pinned (.plain (OpenSpec.upto storeFailsSpec)) storeFailsUptoCard

/-- THE SECOND FORM's CARD OF 'clepsydralaw18.StoreOpens'. -/
def storeOpensUptoCard : Claim7 := { stood := { row := storeOpensUptoRow, standIns := [], harness := (true, "a81ed3ca69b1186e876596b83756551a2360fa81a442186b93dfd7f7fe5be53b"), looks := true }, kinds := [], alts := [], laidByText := true, laidKinds := [.data, .data, .data, .sentinel, .sentinel], laidTests := true, laidLooks := .later }
def StoreOpensUptoCardSaid : Prop := Claim7.holds Tryz.pinned (.plain (OpenSpec.upto storeOpensSpec)) storeOpensUptoCard

/-- THE SECOND FORM's CARD OF 'clepsydralaw18.StoreNames'. -/
def storeNamesUptoCard : Claim7 := { stood := { row := storeNamesUptoRow, standIns := [], harness := (true, "a81ed3ca69b1186e876596b83756551a2360fa81a442186b93dfd7f7fe5be53b"), looks := true }, kinds := [], alts := [], laidByText := true, laidKinds := [.data, .data, .data, .sentinel, .sentinel], laidTests := true, laidLooks := .later }
def StoreNamesUptoCardSaid : Prop := Claim7.holds Tryz.pinned (.plain (OpenSpec.upto storeNamesSpec)) storeNamesUptoCard

/-- THE SECOND FORM's CARD OF 'clepsydralaw23.NodeTimes'. -/
def nodeTimesUptoCard : Claim7 := { stood := { row := nodeTimesUptoRow, standIns := [], harness := (true, "a81ed3ca69b1186e876596b83756551a2360fa81a442186b93dfd7f7fe5be53b"), looks := true }, kinds := [], alts := [], laidByText := true, laidKinds := [.data, .data, .data, .sentinel, .sentinel], laidTests := true, laidLooks := .later }
def NodeTimesUptoCardSaid : Prop := Claim7.holds Tryz.pinned (.plain (OpenSpec.upto nodeTimesSpec)) nodeTimesUptoCard
end Rows
end Go.Proofs.YthjdpplgfdihoaaGreatDoor
