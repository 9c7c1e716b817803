/-
  DERIVED. GIVEN WITH THE SEED: THE CARDS: each row of YtkncpdehgcldbaaDoorRows.lean that lists a variable, with what it lists TIED to the program's text (the seventh form; the later family's looks); each row that meets fmt, with fmt's text TOLD by the authors' own Lean function (tested against real Go, not proved from fmt's source: count such statements apart). THE CARD IS WHAT COUNTS. Prove the row's statement (the work); the ties are given (YtkncpdehgcldbaaDoorTie.lean); close each card by the builder's one call (the guide's Derived/Test/ToyasCard.lean, 'card_holds'). Laid BY PROGRAM, IN A SANDBOX (cutbox-door.mjs). By AI agents, Wed Nov 11 2026. No macro, syntax, notation, axiom, sorry.
-/
import Derived.Test.YtkncpdehgcldbaaDoorRows
import GoSem.ClaimSeven
namespace Go.Proofs.YtkncpdehgcldbaaDoor
namespace Rows

/-- THE TIED CARD OF 'tarmaclaw11.ManifestApplies'. -/
def manifestAppliesCard : Claim7 := { stood := { row := manifestAppliesRow, standIns := [], harness := (true, "58c41cd7178d7f0b99d07c12c29c5a61ff06ff6b42988bea717b53feb18be9d2"), looks := true }, kinds := [], alts := [], laidByText := true, laidKinds := [.data, .data, .data], laidTests := true, laidLooks := .later }
def ManifestAppliesCardSaid : Prop := Claim7.holds Tryd.pinned (.plain (OpenSpec.ofChange manifestAppliesSpec)) manifestAppliesCard

/-- THE TIED CARD OF 'tarmaclaw11.ManifestWhole'. -/
def manifestWholeCard : Claim7 := { stood := { row := manifestWholeRow, standIns := [], harness := (true, "58c41cd7178d7f0b99d07c12c29c5a61ff06ff6b42988bea717b53feb18be9d2"), looks := true }, kinds := [], alts := [], laidByText := true, laidKinds := [.data, .data, .data], laidTests := true, laidLooks := .later }
def ManifestWholeCardSaid : Prop := Claim7.holds Tryd.pinned (.plain (OpenSpec.ofChange manifestWholeSpec)) manifestWholeCard

/-- THE TIED CARD OF 'tarmaclaw11.ManifestBytes'. -/
def manifestBytesCard : Claim7 := { stood := { row := manifestBytesRow, standIns := [], harness := (true, "58c41cd7178d7f0b99d07c12c29c5a61ff06ff6b42988bea717b53feb18be9d2"), looks := true }, kinds := [], alts := [], laidByText := true, laidKinds := [.data, .data, .data], laidTests := true, laidLooks := .later }
def ManifestBytesCardSaid : Prop := Claim7.holds Tryd.pinned (.plain (OpenSpec.ofChange manifestBytesSpec)) manifestBytesCard

/-- THE TIED CARD OF 'tarmaclaw11.ManifestReads'. -/
def manifestReadsCard : Claim7 := { stood := { row := manifestReadsRow, standIns := [], harness := (true, "58c41cd7178d7f0b99d07c12c29c5a61ff06ff6b42988bea717b53feb18be9d2"), looks := true }, kinds := [], alts := [], laidByText := true, laidKinds := [.data, .data, .data], laidTests := true, laidLooks := .later }
def ManifestReadsCardSaid : Prop := Claim7.holds Tryd.pinned (.plain (OpenSpec.ofChange manifestReadsSpec)) manifestReadsCard

/-- THE TIED CARD OF 'tarmaclaw11.ManifestCuts'. -/
def manifestCutsCard : Claim7 := { stood := { row := manifestCutsRow, standIns := [], harness := (true, "58c41cd7178d7f0b99d07c12c29c5a61ff06ff6b42988bea717b53feb18be9d2"), looks := true }, kinds := [], alts := [], laidByText := true, laidKinds := [.data, .data, .data], laidTests := true, laidLooks := .later }
def ManifestCutsCardSaid : Prop := Claim7.holds Tryd.pinned (.plain (OpenSpec.ofChange manifestCutsSpec)) manifestCutsCard

/-- THE TIED CARD OF 'tarmaclaw11.ManifestNames'. -/
def manifestNamesCard : Claim7 := { stood := { row := manifestNamesRow, standIns := [], harness := (true, "58c41cd7178d7f0b99d07c12c29c5a61ff06ff6b42988bea717b53feb18be9d2"), looks := true }, kinds := [], alts := [], laidByText := true, laidKinds := [.data, .data, .data, .sentinel, .sentinel], laidTests := true, laidLooks := .later }
def ManifestNamesCardSaid : Prop := Claim7.holds Tryd.pinned (.plain (OpenSpec.ofChange manifestNamesSpec)) manifestNamesCard

/-- THE SECOND FORM's CARD OF 'tarmaclaw11.ManifestApplies'. -/
def manifestAppliesUptoCard : Claim7 := { stood := { row := manifestAppliesUptoRow, standIns := [], harness := (true, "58c41cd7178d7f0b99d07c12c29c5a61ff06ff6b42988bea717b53feb18be9d2"), looks := true }, kinds := [], alts := [], laidByText := true, laidKinds := [.data, .data, .data], laidTests := true, laidLooks := .later }
def ManifestAppliesUptoCardSaid : Prop := Claim7.holds Tryd.pinned (.plain (OpenSpec.upto manifestAppliesSpec)) manifestAppliesUptoCard

/-- THE SECOND FORM's CARD OF 'tarmaclaw11.ManifestWhole'. -/
def manifestWholeUptoCard : Claim7 := { stood := { row := manifestWholeUptoRow, standIns := [], harness := (true, "58c41cd7178d7f0b99d07c12c29c5a61ff06ff6b42988bea717b53feb18be9d2"), looks := true }, kinds := [], alts := [], laidByText := true, laidKinds := [.data, .data, .data], laidTests := true, laidLooks := .later }
def ManifestWholeUptoCardSaid : Prop := Claim7.holds Tryd.pinned (.plain (OpenSpec.upto manifestWholeSpec)) manifestWholeUptoCard

/-- THE SECOND FORM's CARD OF 'tarmaclaw11.ManifestBytes'. -/
def manifestBytesUptoCard : Claim7 := { stood := { row := manifestBytesUptoRow, standIns := [], harness := (true, "58c41cd7178d7f0b99d07c12c29c5a61ff06ff6b42988bea717b53feb18be9d2"), looks := true }, kinds := [], alts := [], laidByText := true, laidKinds := [.data, .data, .data], laidTests := true, laidLooks := .later }
def ManifestBytesUptoCardSaid : Prop := Claim7.holds Tryd.pinned (.plain (OpenSpec.upto manifestBytesSpec)) manifestBytesUptoCard

/-- THE SECOND FORM's CARD OF 'tarmaclaw11.ManifestReads'. -/
def manifestReadsUptoCard : Claim7 := { stood := { row := manifestReadsUptoRow, standIns := [], harness := (true, "58c41cd7178d7f0b99d07c12c29c5a61ff06ff6b42988bea717b53feb18be9d2"), looks := true }, kinds := [], alts := [], laidByText := true, laidKinds := [.data, .data, .data], laidTests := true, laidLooks := .later }
def ManifestReadsUptoCardSaid : Prop := Claim7.holds Tryd.pinned (.plain (OpenSpec.upto manifestReadsSpec)) manifestReadsUptoCard

/-- THE SECOND FORM's CARD OF 'tarmaclaw11.ManifestCuts'. -/
def manifestCutsUptoCard : Claim7 := { stood := { row := manifestCutsUptoRow, standIns := [], harness := (true, "58c41cd7178d7f0b99d07c12c29c5a61ff06ff6b42988bea717b53feb18be9d2"), looks := true }, kinds := [], alts := [], laidByText := true, laidKinds := [.data, .data, .data], laidTests := true, laidLooks := .later }
def ManifestCutsUptoCardSaid : Prop := Claim7.holds Tryd.pinned (.plain (OpenSpec.upto manifestCutsSpec)) manifestCutsUptoCard

/-- THE SECOND FORM's CARD OF 'tarmaclaw11.ManifestNames'. -/
def manifestNamesUptoCard : Claim7 := { stood := { row := manifestNamesUptoRow, standIns := [], harness := (true, "58c41cd7178d7f0b99d07c12c29c5a61ff06ff6b42988bea717b53feb18be9d2"), looks := true }, kinds := [], alts := [], laidByText := true, laidKinds := [.data, .data, .data, .sentinel, .sentinel], laidTests := true, laidLooks := .later }
def ManifestNamesUptoCardSaid : Prop := Claim7.holds Tryd.pinned (.plain (OpenSpec.upto manifestNamesSpec)) manifestNamesUptoCard
end Rows
end Go.Proofs.YtkncpdehgcldbaaDoor
