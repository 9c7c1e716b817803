/-
  DERIVED. GIVEN WITH THE SEED: THE CARDS: each row of YthpmmfapolcaiaaGreatDoorRows.lean that lists a variable, with what it lists TIED to the program's text (the seventh form; the later family's looks); each row that meets fmt, with fmt's text TOLD by the authors' own Lean function (tested against real Go, not proved from fmt's source: count such statements apart). THE CARD IS WHAT COUNTS. Prove the row's statement (the work); the ties are given (YthpmmfapolcaiaaGreatDoorTie.lean); close each card by the builder's one call (the guide's Derived/Test/ToyasCard.lean, 'card_holds'). Laid BY PROGRAM, IN A SANDBOX (cutbox-door.mjs). By AI agents, Wed Nov 11 2026. No macro, syntax, notation, axiom, sorry.
-/
import Derived.Test.YthpmmfapolcaiaaGreatDoorRows
import GoSem.ClaimSeven
namespace Go.Proofs.YthpmmfapolcaiaaGreatDoor
namespace Rows

/-- THE TIED CARD OF 'tarmaclaw23.WireReplies'. -/
def wireRepliesCard : Claim7 := { stood := { row := wireRepliesRow, standIns := [], harness := (true, "d1a6e362b852fee576512fabbe79265b45b5ae0ae6266c847ffd3b84bc06b1bd"), looks := true }, kinds := [], alts := [], laidByText := true, laidKinds := [.data, .data, .data, .sentinel, .sentinel], laidTests := true, laidLooks := .later }
def WireRepliesCardSaid : Prop := Claim7.holds Tryz.pinned (.plain (OpenSpec.ofChange wireRepliesSpec)) wireRepliesCard

/-- THE TIED CARD OF 'tarmaclaw22.RowsLoad'. -/
def rowsLoadCard : Claim7 := { stood := { row := rowsLoadRow, standIns := [], harness := (true, "d1a6e362b852fee576512fabbe79265b45b5ae0ae6266c847ffd3b84bc06b1bd"), looks := true }, kinds := [], alts := [], laidByText := true, laidKinds := [.data, .data, .data, .data, .sentinel, .sentinel, .pinned], laidTests := true, laidLooks := .later }
def RowsLoadCardSaid : Prop := Claim7.holds Tryz.pinned (.plain (OpenSpec.ofChange rowsLoadSpec)) rowsLoadCard

/-- THE TIED CARD OF 'tarmaclaw22.RowsBack'. -/
def rowsBackCard : Claim7 := { stood := { row := rowsBackRow, standIns := [], harness := (true, "d1a6e362b852fee576512fabbe79265b45b5ae0ae6266c847ffd3b84bc06b1bd"), looks := true }, kinds := [], alts := [], laidByText := true, laidKinds := [.data, .data, .data, .data, .sentinel, .sentinel, .pinned], laidTests := true, laidLooks := .later }
def RowsBackCardSaid : Prop := Claim7.holds Tryz.pinned (.plain (OpenSpec.ofChange rowsBackSpec)) rowsBackCard

/-- THE SECOND FORM's CARD OF 'tarmaclaw23.WireReplies'. -/
def wireRepliesUptoCard : Claim7 := { stood := { row := wireRepliesUptoRow, standIns := [], harness := (true, "d1a6e362b852fee576512fabbe79265b45b5ae0ae6266c847ffd3b84bc06b1bd"), looks := true }, kinds := [], alts := [], laidByText := true, laidKinds := [.data, .data, .data, .sentinel, .sentinel], laidTests := true, laidLooks := .later }
def WireRepliesUptoCardSaid : Prop := Claim7.holds Tryz.pinned (.plain (OpenSpec.upto wireRepliesSpec)) wireRepliesUptoCard

/-- THE SECOND FORM's CARD OF 'tarmaclaw22.RowsLoad'. -/
def rowsLoadUptoCard : Claim7 := { stood := { row := rowsLoadUptoRow, standIns := [], harness := (true, "d1a6e362b852fee576512fabbe79265b45b5ae0ae6266c847ffd3b84bc06b1bd"), looks := true }, kinds := [], alts := [], laidByText := true, laidKinds := [.data, .data, .data, .data, .sentinel, .sentinel, .pinned], laidTests := true, laidLooks := .later }
def RowsLoadUptoCardSaid : Prop := Claim7.holds Tryz.pinned (.plain (OpenSpec.upto rowsLoadSpec)) rowsLoadUptoCard

/-- THE SECOND FORM's CARD OF 'tarmaclaw22.RowsBack'. -/
def rowsBackUptoCard : Claim7 := { stood := { row := rowsBackUptoRow, standIns := [], harness := (true, "d1a6e362b852fee576512fabbe79265b45b5ae0ae6266c847ffd3b84bc06b1bd"), looks := true }, kinds := [], alts := [], laidByText := true, laidKinds := [.data, .data, .data, .data, .sentinel, .sentinel, .pinned], laidTests := true, laidLooks := .later }
def RowsBackUptoCardSaid : Prop := Claim7.holds Tryz.pinned (.plain (OpenSpec.upto rowsBackSpec)) rowsBackUptoCard
end Rows
end Go.Proofs.YthpmmfapolcaiaaGreatDoor
