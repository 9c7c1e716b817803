/-
  DERIVED. GIVEN WITH THE SEED: THE CARDS: each row of YtkgibdhpijdbfaaGreatDoorRows.lean that lists a variable, with what it lists TIED to the program's text (the seventh form; the later family's looks); each row that meets fmt, with fmt's text TOLD by the authors' own Lean function (tested against real Go, not proved from fmt's source: count such statements apart). THE CARD IS WHAT COUNTS. Prove the row's statement (the work); the ties are given (YtkgibdhpijdbfaaGreatDoorTie.lean); close each card by the builder's one call (the guide's Derived/Test/ToyasCard.lean, 'card_holds'). Laid BY PROGRAM, IN A SANDBOX (cutbox-door.mjs). By AI agents, Wed Nov 11 2026. No macro, syntax, notation, axiom, sorry.
-/
import Derived.Test.YtkgibdhpijdbfaaGreatDoorRows
import GoSem.ClaimSeven
namespace Go.Proofs.YtkgibdhpijdbfaaGreatDoor
namespace Rows

/-- THE TIED CARD OF 'tarmaclaw12.StoreEach'. -/
def storeEachCard : Claim7 := { stood := { row := storeEachRow, standIns := [], harness := (true, "1ced3f6f4cd92a8b246ed23b7664d0d9e610f22a30eb03ddcca5d0603ae417b3"), looks := true }, kinds := [], alts := [], laidByText := true, laidKinds := [.data, .data, .data, .sentinel, .sentinel], laidTests := true, laidLooks := .later }
def StoreEachCardSaid : Prop := Claim7.holds Tryz.pinned (.plain (OpenSpec.ofChange storeEachSpec)) storeEachCard

/-- THE TIED CARD OF 'tarmaclaw12.StoreRanges'. -/
def storeRangesCard : Claim7 := { stood := { row := storeRangesRow, standIns := [], harness := (true, "1ced3f6f4cd92a8b246ed23b7664d0d9e610f22a30eb03ddcca5d0603ae417b3"), looks := true }, kinds := [], alts := [], laidByText := true, laidKinds := [.data, .data, .data, .sentinel, .sentinel], laidTests := true, laidLooks := .later }
def StoreRangesCardSaid : Prop := Claim7.holds Tryz.pinned (.plain (OpenSpec.ofChange storeRangesSpec)) storeRangesCard

/-- THE TIED CARD OF 'tarmaclaw12.StoreSettings'. -/
def storeSettingsCard : Claim7 := { stood := { row := storeSettingsRow, standIns := [], harness := (true, "1ced3f6f4cd92a8b246ed23b7664d0d9e610f22a30eb03ddcca5d0603ae417b3"), looks := true }, kinds := [], alts := [], laidByText := true, laidKinds := [.data, .data, .data, .sentinel, .sentinel], laidTests := true, laidLooks := .later }
def StoreSettingsCardSaid : Prop := Claim7.holds Tryz.pinned (.plain (OpenSpec.ofChange storeSettingsSpec)) storeSettingsCard

/-- THE TIED CARD OF 'tarmaclaw12.StoreMemory'. -/
def storeMemoryCard : Claim7 := { stood := { row := storeMemoryRow, standIns := [], harness := (true, "1ced3f6f4cd92a8b246ed23b7664d0d9e610f22a30eb03ddcca5d0603ae417b3"), looks := true }, kinds := [], alts := [], laidByText := true, laidKinds := [.data, .data, .data, .sentinel, .sentinel], laidTests := true, laidLooks := .later }
def StoreMemoryCardSaid : Prop := Claim7.holds Tryz.pinned (.plain (OpenSpec.ofChange storeMemorySpec)) storeMemoryCard

/-- THE TIED CARD OF 'tarmaclaw12.StorePlays'. -/
def storePlaysCard : Claim7 := { stood := { row := storePlaysRow, standIns := [], harness := (true, "1ced3f6f4cd92a8b246ed23b7664d0d9e610f22a30eb03ddcca5d0603ae417b3"), looks := true }, kinds := [], alts := [], laidByText := true, laidKinds := [.data, .data, .data, .sentinel, .sentinel], laidTests := true, laidLooks := .later }
def StorePlaysCardSaid : Prop := Claim7.holds Tryz.pinned (.plain (OpenSpec.ofChange storePlaysSpec)) storePlaysCard

/-- THE TIED CARD OF 'tarmaclaw12.StoreLasts'. -/
def storeLastsCard : Claim7 := { stood := { row := storeLastsRow, standIns := [], harness := (true, "1ced3f6f4cd92a8b246ed23b7664d0d9e610f22a30eb03ddcca5d0603ae417b3"), looks := true }, kinds := [], alts := [], laidByText := true, laidKinds := [.data, .data, .data, .sentinel, .sentinel], laidTests := true, laidLooks := .later }
def StoreLastsCardSaid : Prop := Claim7.holds Tryz.pinned (.plain (OpenSpec.ofChange storeLastsSpec)) storeLastsCard

/-- THE SECOND FORM's CARD OF 'tarmaclaw12.StoreEach'. -/
def storeEachUptoCard : Claim7 := { stood := { row := storeEachUptoRow, standIns := [], harness := (true, "1ced3f6f4cd92a8b246ed23b7664d0d9e610f22a30eb03ddcca5d0603ae417b3"), looks := true }, kinds := [], alts := [], laidByText := true, laidKinds := [.data, .data, .data, .sentinel, .sentinel], laidTests := true, laidLooks := .later }
def StoreEachUptoCardSaid : Prop := Claim7.holds Tryz.pinned (.plain (OpenSpec.upto storeEachSpec)) storeEachUptoCard

/-- THE SECOND FORM's CARD OF 'tarmaclaw12.StoreRanges'. -/
def storeRangesUptoCard : Claim7 := { stood := { row := storeRangesUptoRow, standIns := [], harness := (true, "1ced3f6f4cd92a8b246ed23b7664d0d9e610f22a30eb03ddcca5d0603ae417b3"), looks := true }, kinds := [], alts := [], laidByText := true, laidKinds := [.data, .data, .data, .sentinel, .sentinel], laidTests := true, laidLooks := .later }
def StoreRangesUptoCardSaid : Prop := Claim7.holds Tryz.pinned (.plain (OpenSpec.upto storeRangesSpec)) storeRangesUptoCard

/-- THE SECOND FORM's CARD OF 'tarmaclaw12.StoreSettings'. -/
def storeSettingsUptoCard : Claim7 := { stood := { row := storeSettingsUptoRow, standIns := [], harness := (true, "1ced3f6f4cd92a8b246ed23b7664d0d9e610f22a30eb03ddcca5d0603ae417b3"), looks := true }, kinds := [], alts := [], laidByText := true, laidKinds := [.data, .data, .data, .sentinel, .sentinel], laidTests := true, laidLooks := .later }
def StoreSettingsUptoCardSaid : Prop := Claim7.holds Tryz.pinned (.plain (OpenSpec.upto storeSettingsSpec)) storeSettingsUptoCard

/-- THE SECOND FORM's CARD OF 'tarmaclaw12.StoreMemory'. -/
def storeMemoryUptoCard : Claim7 := { stood := { row := storeMemoryUptoRow, standIns := [], harness := (true, "1ced3f6f4cd92a8b246ed23b7664d0d9e610f22a30eb03ddcca5d0603ae417b3"), looks := true }, kinds := [], alts := [], laidByText := true, laidKinds := [.data, .data, .data, .sentinel, .sentinel], laidTests := true, laidLooks := .later }
def StoreMemoryUptoCardSaid : Prop := Claim7.holds Tryz.pinned (.plain (OpenSpec.upto storeMemorySpec)) storeMemoryUptoCard

/-- THE SECOND FORM's CARD OF 'tarmaclaw12.StorePlays'. -/
def storePlaysUptoCard : Claim7 := { stood := { row := storePlaysUptoRow, standIns := [], harness := (true, "1ced3f6f4cd92a8b246ed23b7664d0d9e610f22a30eb03ddcca5d0603ae417b3"), looks := true }, kinds := [], alts := [], laidByText := true, laidKinds := [.data, .data, .data, .sentinel, .sentinel], laidTests := true, laidLooks := .later }
def StorePlaysUptoCardSaid : Prop := Claim7.holds Tryz.pinned (.plain (OpenSpec.upto storePlaysSpec)) storePlaysUptoCard

/-- THE SECOND FORM's CARD OF 'tarmaclaw12.StoreLasts'. -/
def storeLastsUptoCard : Claim7 := { stood := { row := storeLastsUptoRow, standIns := [], harness := (true, "1ced3f6f4cd92a8b246ed23b7664d0d9e610f22a30eb03ddcca5d0603ae417b3"), looks := true }, kinds := [], alts := [], laidByText := true, laidKinds := [.data, .data, .data, .sentinel, .sentinel], laidTests := true, laidLooks := .later }
def StoreLastsUptoCardSaid : Prop := Claim7.holds Tryz.pinned (.plain (OpenSpec.upto storeLastsSpec)) storeLastsUptoCard
end Rows
end Go.Proofs.YtkgibdhpijdbfaaGreatDoor
