/-
  DERIVED. GIVEN WITH THE SEED: THE CARDS: each row of YthpmmfapolcaiaaDoorRows.lean that lists a variable, with what it lists TIED to the program's text (the seventh form; the later family's looks); each row that meets fmt, with fmt's text TOLD by the authors' own Lean function (tested against real Go, not proved from fmt's source: count such statements apart). THE CARD IS WHAT COUNTS. Prove the row's statement (the work); the ties are given (YthpmmfapolcaiaaDoorTie.lean); close each card by the builder's one call (the guide's Derived/Test/ToyasCard.lean, 'card_holds'). Laid BY PROGRAM, IN A SANDBOX (cutbox-door.mjs). By AI agents, Wed Nov 11 2026. No macro, syntax, notation, axiom, sorry.
-/
import Derived.Test.YthpmmfapolcaiaaDoorRows
import GoSem.ClaimSeven
namespace Go.Proofs.YthpmmfapolcaiaaDoor
namespace Rows

/-- THE TIED CARD OF 'tarmaclaw23.WireCommands'. -/
def wireCommandsCard : Claim7 := { stood := { row := wireCommandsRow, standIns := [], harness := (true, "3b541bc7f8429f797223a3b011d2a92903a725d7ff932227476a64e00bdc71aa"), looks := true }, kinds := [], alts := [], laidByText := true, laidKinds := [.data, .data, .data], laidTests := true, laidLooks := .later }
def WireCommandsCardSaid : Prop := Claim7.holds Tryd.pinned (.plain (OpenSpec.ofChange wireCommandsSpec)) wireCommandsCard

/-- THE TIED CARD OF 'tarmaclaw23.WireUnlike'. -/
def wireUnlikeCard : Claim7 := { stood := { row := wireUnlikeRow, standIns := [], harness := (true, "3b541bc7f8429f797223a3b011d2a92903a725d7ff932227476a64e00bdc71aa"), looks := true }, kinds := [], alts := [], laidByText := true, laidKinds := [.data, .data, .data], laidTests := true, laidLooks := .later }
def WireUnlikeCardSaid : Prop := Claim7.holds Tryd.pinned (.plain (OpenSpec.ofChange wireUnlikeSpec)) wireUnlikeCard

/-- THE TIED CARD OF 'tarmaclaw23.WireBack'. -/
def wireBackCard : Claim7 := { stood := { row := wireBackRow, standIns := [], harness := (true, "3b541bc7f8429f797223a3b011d2a92903a725d7ff932227476a64e00bdc71aa"), looks := true }, kinds := [], alts := [], laidByText := true, laidKinds := [.data, .data, .data, .sentinel, .sentinel], laidTests := true, laidLooks := .later }
def WireBackCardSaid : Prop := Claim7.holds Tryd.pinned (.plain (OpenSpec.ofChange wireBackSpec)) wireBackCard

/-- THE TIED CARD OF 'tarmaclaw23.WireWhole'. -/
def wireWholeCard : Claim7 := { stood := { row := wireWholeRow, standIns := [], harness := (true, "3b541bc7f8429f797223a3b011d2a92903a725d7ff932227476a64e00bdc71aa"), looks := true }, kinds := [], alts := [], laidByText := true, laidKinds := [.data, .data, .data, .sentinel, .sentinel], laidTests := true, laidLooks := .later }
def WireWholeCardSaid : Prop := Claim7.holds Tryd.pinned (.plain (OpenSpec.ofChange wireWholeSpec)) wireWholeCard

/-- THE SECOND FORM's CARD OF 'tarmaclaw23.WireCommands'. -/
def wireCommandsUptoCard : Claim7 := { stood := { row := wireCommandsUptoRow, standIns := [], harness := (true, "3b541bc7f8429f797223a3b011d2a92903a725d7ff932227476a64e00bdc71aa"), looks := true }, kinds := [], alts := [], laidByText := true, laidKinds := [.data, .data, .data], laidTests := true, laidLooks := .later }
def WireCommandsUptoCardSaid : Prop := Claim7.holds Tryd.pinned (.plain (OpenSpec.upto wireCommandsSpec)) wireCommandsUptoCard

/-- THE SECOND FORM's CARD OF 'tarmaclaw23.WireUnlike'. -/
def wireUnlikeUptoCard : Claim7 := { stood := { row := wireUnlikeUptoRow, standIns := [], harness := (true, "3b541bc7f8429f797223a3b011d2a92903a725d7ff932227476a64e00bdc71aa"), looks := true }, kinds := [], alts := [], laidByText := true, laidKinds := [.data, .data, .data], laidTests := true, laidLooks := .later }
def WireUnlikeUptoCardSaid : Prop := Claim7.holds Tryd.pinned (.plain (OpenSpec.upto wireUnlikeSpec)) wireUnlikeUptoCard

/-- THE SECOND FORM's CARD OF 'tarmaclaw23.WireBack'. -/
def wireBackUptoCard : Claim7 := { stood := { row := wireBackUptoRow, standIns := [], harness := (true, "3b541bc7f8429f797223a3b011d2a92903a725d7ff932227476a64e00bdc71aa"), looks := true }, kinds := [], alts := [], laidByText := true, laidKinds := [.data, .data, .data, .sentinel, .sentinel], laidTests := true, laidLooks := .later }
def WireBackUptoCardSaid : Prop := Claim7.holds Tryd.pinned (.plain (OpenSpec.upto wireBackSpec)) wireBackUptoCard

/-- THE SECOND FORM's CARD OF 'tarmaclaw23.WireWhole'. -/
def wireWholeUptoCard : Claim7 := { stood := { row := wireWholeUptoRow, standIns := [], harness := (true, "3b541bc7f8429f797223a3b011d2a92903a725d7ff932227476a64e00bdc71aa"), looks := true }, kinds := [], alts := [], laidByText := true, laidKinds := [.data, .data, .data, .sentinel, .sentinel], laidTests := true, laidLooks := .later }
def WireWholeUptoCardSaid : Prop := Claim7.holds Tryd.pinned (.plain (OpenSpec.upto wireWholeSpec)) wireWholeUptoCard
end Rows
end Go.Proofs.YthpmmfapolcaiaaDoor
