/-
  DERIVED. GIVEN WITH THE SEED: THE CARDS: each row of YtinkmidjbdnibaaGreatDoorRows.lean that lists a variable, with what it lists TIED to the program's text (the seventh form; the later family's looks); each row that meets fmt, with fmt's text TOLD by the authors' own Lean function (tested against real Go, not proved from fmt's source: count such statements apart). THE CARD IS WHAT COUNTS. Prove the row's statement (the work); the ties are given (YtinkmidjbdnibaaGreatDoorTie.lean); close each card by the builder's one call (the guide's Derived/Test/ToyasCard.lean, 'card_holds'). Laid BY PROGRAM, IN A SANDBOX (cutbox-door.mjs). By AI agents, Wed Nov 11 2026. No macro, syntax, notation, axiom, sorry.
-/
import Derived.Test.YtinkmidjbdnibaaGreatDoorRows
import GoSem.ClaimSeven
namespace Go.Proofs.YtinkmidjbdnibaaGreatDoor
namespace Rows

/-- THE TIED CARD OF 'tarmaclaw22.RowsLoad'. -/
def rowsLoadCard : Claim7 := { stood := { row := rowsLoadRow, standIns := [], harness := (true, "121f3fc211a530a3203310572528e93d4cf7711357aec2deff56f256706f4f6b"), looks := true }, kinds := [], alts := [], laidByText := true, laidKinds := [.data, .data, .data, .data, .sentinel, .sentinel, .pinned], laidTests := true, laidLooks := .later }
def RowsLoadCardSaid : Prop := Claim7.holds Tryz.pinned (.plain (OpenSpec.ofChange rowsLoadSpec)) rowsLoadCard

/-- THE SECOND FORM's CARD OF 'tarmaclaw22.RowsLoad'. -/
def rowsLoadUptoCard : Claim7 := { stood := { row := rowsLoadUptoRow, standIns := [], harness := (true, "121f3fc211a530a3203310572528e93d4cf7711357aec2deff56f256706f4f6b"), looks := true }, kinds := [], alts := [], laidByText := true, laidKinds := [.data, .data, .data, .data, .sentinel, .sentinel, .pinned], laidTests := true, laidLooks := .later }
def RowsLoadUptoCardSaid : Prop := Claim7.holds Tryz.pinned (.plain (OpenSpec.upto rowsLoadSpec)) rowsLoadUptoCard
end Rows
end Go.Proofs.YtinkmidjbdnibaaGreatDoor
