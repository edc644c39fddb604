/-
  DERIVED. GIVEN WITH THE SEED: THE CARDS: each row of YthogefmngddnbaaGreatDoorRows.lean that lists a variable, with what it lists TIED to the program's text (the seventh form; the later family's looks); each row that meets fmt, with fmt's text TOLD by the authors' own Lean function (tested against real Go, not proved from fmt's source: count such statements apart). THE CARD IS WHAT COUNTS. Prove the row's statement (the work); the ties are given (YthogefmngddnbaaGreatDoorTie.lean); close each card by the builder's one call (the guide's Derived/Test/ToyasCard.lean, 'card_holds'). Laid BY PROGRAM, IN A SANDBOX (cutbox-door.mjs). By AI agents, Wed Nov 11 2026. No macro, syntax, notation, axiom, sorry.
-/
import Derived.Test.YthogefmngddnbaaGreatDoorRows
import GoSem.ClaimSeven
namespace Go.Proofs.YthogefmngddnbaaGreatDoor
namespace Rows

/-- THE TIED CARD OF 'heliographlaw11.WalFull'. -/
def walFullCard : Claim7 := { stood := { row := walFullRow, standIns := [], harness := (true, "fe55f6ab66caa01a4b07b26e838f63a96d9edfced203932d106529408f472763"), looks := true }, kinds := [], alts := [], laidByText := true, laidKinds := [.data, .data, .data, .data, .sentinel, .sentinel], laidTests := true, laidLooks := .later }
def WalFullCardSaid : Prop := Claim7.holds Tryz.pinned (.plain (OpenSpec.ofChange walFullSpec)) walFullCard

/-- THE TIED CARD OF 'heliographlaw11.WalRolls'. -/
def walRollsCard : Claim7 := { stood := { row := walRollsRow, standIns := [], harness := (true, "fe55f6ab66caa01a4b07b26e838f63a96d9edfced203932d106529408f472763"), looks := true }, kinds := [], alts := [], laidByText := true, laidKinds := [.data, .data, .data, .data, .sentinel, .sentinel], laidTests := true, laidLooks := .later }
def WalRollsCardSaid : Prop := Claim7.holds Tryz.pinned (.plain (OpenSpec.ofChange walRollsSpec)) walRollsCard

/-- THE TIED CARD OF 'heliographlaw11.WalNil'. -/
def walNilCard : Claim7 := { stood := { row := walNilRow, standIns := [], harness := (true, "fe55f6ab66caa01a4b07b26e838f63a96d9edfced203932d106529408f472763"), looks := true }, kinds := [], alts := [], laidByText := true, laidKinds := [.data, .data, .data, .data, .sentinel, .sentinel], laidTests := true, laidLooks := .later }
def WalNilCardSaid : Prop := Claim7.holds Tryz.pinned (.plain (OpenSpec.ofChange walNilSpec)) walNilCard

/-- THE TIED CARD OF 'heliographlaw11.WalKeeps'. -/
def walKeepsCard : Claim7 := { stood := { row := walKeepsRow, standIns := [], harness := (true, "fe55f6ab66caa01a4b07b26e838f63a96d9edfced203932d106529408f472763"), looks := true }, kinds := [], alts := [], laidByText := true, laidKinds := [.data, .data, .data, .data, .sentinel, .sentinel], laidTests := true, laidLooks := .later }
def WalKeepsCardSaid : Prop := Claim7.holds Tryz.pinned (.plain (OpenSpec.ofChange walKeepsSpec)) walKeepsCard

/-- THE TIED CARD OF 'heliographlaw13.StoreBounds'. -/
def storeBoundsCard : Claim7 := { stood := { row := storeBoundsRow, standIns := [], harness := (true, "fe55f6ab66caa01a4b07b26e838f63a96d9edfced203932d106529408f472763"), looks := true }, kinds := [], alts := [], laidByText := true, laidKinds := [.data, .data, .data, .data, .data, .sentinel, .sentinel, .pinned], laidTests := true, laidLooks := .later }
def StoreBoundsCardSaid : Prop := Claim7.holds Tryz.pinned (.plain (OpenSpec.ofChange storeBoundsSpec)) storeBoundsCard

/-- THE TIED CARD OF 'heliographlaw13.StoreFolds'. -/
def storeFoldsCard : Claim7 := { stood := { row := storeFoldsRow, standIns := [], harness := (true, "fe55f6ab66caa01a4b07b26e838f63a96d9edfced203932d106529408f472763"), looks := true }, kinds := [], alts := [], laidByText := true, laidKinds := [.data, .data, .data, .data, .data, .sentinel, .sentinel, .pinned], laidTests := true, laidLooks := .later }
def StoreFoldsCardSaid : Prop := Claim7.holds Tryz.pinned (.plain (OpenSpec.ofChange storeFoldsSpec)) storeFoldsCard

/-- THE TIED CARD OF 'heliographlaw13.StoreCuts'. -/
def storeCutsCard : Claim7 := { stood := { row := storeCutsRow, standIns := [], harness := (true, "fe55f6ab66caa01a4b07b26e838f63a96d9edfced203932d106529408f472763"), looks := true }, kinds := [], alts := [], laidByText := true, laidKinds := [.data, .data, .data, .data, .data, .sentinel, .sentinel, .pinned], laidTests := true, laidLooks := .later }
def StoreCutsCardSaid : Prop := Claim7.holds Tryz.pinned (.plain (OpenSpec.ofChange storeCutsSpec)) storeCutsCard

/-- THE TIED CARD OF 'heliographlaw13.StoreNil'. -/
def storeNilCard : Claim7 := { stood := { row := storeNilRow, standIns := [], harness := (true, "fe55f6ab66caa01a4b07b26e838f63a96d9edfced203932d106529408f472763"), looks := true }, kinds := [], alts := [], laidByText := true, laidKinds := [.data, .data, .data, .data, .data, .sentinel, .sentinel, .pinned], laidTests := true, laidLooks := .later }
def StoreNilCardSaid : Prop := Claim7.holds Tryz.pinned (.plain (OpenSpec.ofChange storeNilSpec)) storeNilCard

/-- THE TIED CARD OF 'heliographlaw13.StoreFull'. -/
def storeFullCard : Claim7 := { stood := { row := storeFullRow, standIns := [], harness := (true, "fe55f6ab66caa01a4b07b26e838f63a96d9edfced203932d106529408f472763"), looks := true }, kinds := [], alts := [], laidByText := true, laidKinds := [.data, .data, .data, .data, .data, .sentinel, .sentinel, .pinned], laidTests := true, laidLooks := .later }
def StoreFullCardSaid : Prop := Claim7.holds Tryz.pinned (.plain (OpenSpec.ofChange storeFullSpec)) storeFullCard

/-- THE TIED CARD OF 'heliographlaw13.StoreKeeps'. -/
def storeKeepsCard : Claim7 := { stood := { row := storeKeepsRow, standIns := [], harness := (true, "fe55f6ab66caa01a4b07b26e838f63a96d9edfced203932d106529408f472763"), looks := true }, kinds := [], alts := [], laidByText := true, laidKinds := [.data, .data, .data, .data, .data, .sentinel, .sentinel, .pinned], laidTests := true, laidLooks := .later }
def StoreKeepsCardSaid : Prop := Claim7.holds Tryz.pinned (.plain (OpenSpec.ofChange storeKeepsSpec)) storeKeepsCard

/-- THE TIED CARD OF 'heliographlaw13.StorePlays'. -/
def storePlaysCard : Claim7 := { stood := { row := storePlaysRow, standIns := [], harness := (true, "fe55f6ab66caa01a4b07b26e838f63a96d9edfced203932d106529408f472763"), looks := true }, kinds := [], alts := [], laidByText := true, laidKinds := [.data, .data, .data, .data, .data, .sentinel, .sentinel, .pinned], laidTests := true, laidLooks := .later }
def StorePlaysCardSaid : Prop := Claim7.holds Tryz.pinned (.plain (OpenSpec.ofChange storePlaysSpec)) storePlaysCard

/-- THE SECOND FORM's CARD OF 'heliographlaw11.WalFull'. -/
def walFullUptoCard : Claim7 := { stood := { row := walFullUptoRow, standIns := [], harness := (true, "fe55f6ab66caa01a4b07b26e838f63a96d9edfced203932d106529408f472763"), looks := true }, kinds := [], alts := [], laidByText := true, laidKinds := [.data, .data, .data, .data, .sentinel, .sentinel], laidTests := true, laidLooks := .later }
def WalFullUptoCardSaid : Prop := Claim7.holds Tryz.pinned (.plain (OpenSpec.upto walFullSpec)) walFullUptoCard

/-- THE SECOND FORM's CARD OF 'heliographlaw11.WalRolls'. -/
def walRollsUptoCard : Claim7 := { stood := { row := walRollsUptoRow, standIns := [], harness := (true, "fe55f6ab66caa01a4b07b26e838f63a96d9edfced203932d106529408f472763"), looks := true }, kinds := [], alts := [], laidByText := true, laidKinds := [.data, .data, .data, .data, .sentinel, .sentinel], laidTests := true, laidLooks := .later }
def WalRollsUptoCardSaid : Prop := Claim7.holds Tryz.pinned (.plain (OpenSpec.upto walRollsSpec)) walRollsUptoCard

/-- THE SECOND FORM's CARD OF 'heliographlaw11.WalNil'. -/
def walNilUptoCard : Claim7 := { stood := { row := walNilUptoRow, standIns := [], harness := (true, "fe55f6ab66caa01a4b07b26e838f63a96d9edfced203932d106529408f472763"), looks := true }, kinds := [], alts := [], laidByText := true, laidKinds := [.data, .data, .data, .data, .sentinel, .sentinel], laidTests := true, laidLooks := .later }
def WalNilUptoCardSaid : Prop := Claim7.holds Tryz.pinned (.plain (OpenSpec.upto walNilSpec)) walNilUptoCard

/-- THE SECOND FORM's CARD OF 'heliographlaw11.WalKeeps'. -/
def walKeepsUptoCard : Claim7 := { stood := { row := walKeepsUptoRow, standIns := [], harness := (true, "fe55f6ab66caa01a4b07b26e838f63a96d9edfced203932d106529408f472763"), looks := true }, kinds := [], alts := [], laidByText := true, laidKinds := [.data, .data, .data, .data, .sentinel, .sentinel], laidTests := true, laidLooks := .later }
def WalKeepsUptoCardSaid : Prop := Claim7.holds Tryz.pinned (.plain (OpenSpec.upto walKeepsSpec)) walKeepsUptoCard

/-- THE SECOND FORM's CARD OF 'heliographlaw13.StoreBounds'. -/
def storeBoundsUptoCard : Claim7 := { stood := { row := storeBoundsUptoRow, standIns := [], harness := (true, "fe55f6ab66caa01a4b07b26e838f63a96d9edfced203932d106529408f472763"), looks := true }, kinds := [], alts := [], laidByText := true, laidKinds := [.data, .data, .data, .data, .data, .sentinel, .sentinel, .pinned], laidTests := true, laidLooks := .later }
def StoreBoundsUptoCardSaid : Prop := Claim7.holds Tryz.pinned (.plain (OpenSpec.upto storeBoundsSpec)) storeBoundsUptoCard

/-- THE SECOND FORM's CARD OF 'heliographlaw13.StoreFolds'. -/
def storeFoldsUptoCard : Claim7 := { stood := { row := storeFoldsUptoRow, standIns := [], harness := (true, "fe55f6ab66caa01a4b07b26e838f63a96d9edfced203932d106529408f472763"), looks := true }, kinds := [], alts := [], laidByText := true, laidKinds := [.data, .data, .data, .data, .data, .sentinel, .sentinel, .pinned], laidTests := true, laidLooks := .later }
def StoreFoldsUptoCardSaid : Prop := Claim7.holds Tryz.pinned (.plain (OpenSpec.upto storeFoldsSpec)) storeFoldsUptoCard

/-- THE SECOND FORM's CARD OF 'heliographlaw13.StoreCuts'. -/
def storeCutsUptoCard : Claim7 := { stood := { row := storeCutsUptoRow, standIns := [], harness := (true, "fe55f6ab66caa01a4b07b26e838f63a96d9edfced203932d106529408f472763"), looks := true }, kinds := [], alts := [], laidByText := true, laidKinds := [.data, .data, .data, .data, .data, .sentinel, .sentinel, .pinned], laidTests := true, laidLooks := .later }
def StoreCutsUptoCardSaid : Prop := Claim7.holds Tryz.pinned (.plain (OpenSpec.upto storeCutsSpec)) storeCutsUptoCard

/-- THE SECOND FORM's CARD OF 'heliographlaw13.StoreNil'. -/
def storeNilUptoCard : Claim7 := { stood := { row := storeNilUptoRow, standIns := [], harness := (true, "fe55f6ab66caa01a4b07b26e838f63a96d9edfced203932d106529408f472763"), looks := true }, kinds := [], alts := [], laidByText := true, laidKinds := [.data, .data, .data, .data, .data, .sentinel, .sentinel, .pinned], laidTests := true, laidLooks := .later }
def StoreNilUptoCardSaid : Prop := Claim7.holds Tryz.pinned (.plain (OpenSpec.upto storeNilSpec)) storeNilUptoCard

/-- THE SECOND FORM's CARD OF 'heliographlaw13.StoreFull'. -/
def storeFullUptoCard : Claim7 := { stood := { row := storeFullUptoRow, standIns := [], harness := (true, "fe55f6ab66caa01a4b07b26e838f63a96d9edfced203932d106529408f472763"), looks := true }, kinds := [], alts := [], laidByText := true, laidKinds := [.data, .data, .data, .data, .data, .sentinel, .sentinel, .pinned], laidTests := true, laidLooks := .later }
def StoreFullUptoCardSaid : Prop := Claim7.holds Tryz.pinned (.plain (OpenSpec.upto storeFullSpec)) storeFullUptoCard

/-- THE SECOND FORM's CARD OF 'heliographlaw13.StoreKeeps'. -/
def storeKeepsUptoCard : Claim7 := { stood := { row := storeKeepsUptoRow, standIns := [], harness := (true, "fe55f6ab66caa01a4b07b26e838f63a96d9edfced203932d106529408f472763"), looks := true }, kinds := [], alts := [], laidByText := true, laidKinds := [.data, .data, .data, .data, .data, .sentinel, .sentinel, .pinned], laidTests := true, laidLooks := .later }
def StoreKeepsUptoCardSaid : Prop := Claim7.holds Tryz.pinned (.plain (OpenSpec.upto storeKeepsSpec)) storeKeepsUptoCard

/-- THE SECOND FORM's CARD OF 'heliographlaw13.StorePlays'. -/
def storePlaysUptoCard : Claim7 := { stood := { row := storePlaysUptoRow, standIns := [], harness := (true, "fe55f6ab66caa01a4b07b26e838f63a96d9edfced203932d106529408f472763"), looks := true }, kinds := [], alts := [], laidByText := true, laidKinds := [.data, .data, .data, .data, .data, .sentinel, .sentinel, .pinned], laidTests := true, laidLooks := .later }
def StorePlaysUptoCardSaid : Prop := Claim7.holds Tryz.pinned (.plain (OpenSpec.upto storePlaysSpec)) storePlaysUptoCard
end Rows
end Go.Proofs.YthogefmngddnbaaGreatDoor
