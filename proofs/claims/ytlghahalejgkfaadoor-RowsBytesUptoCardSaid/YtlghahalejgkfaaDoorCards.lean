/-
  DERIVED. GIVEN WITH THE SEED: THE CARDS: each row of YtlghahalejgkfaaDoorRows.lean that lists a variable, with what it lists TIED to the program's text (the seventh form; the later family's looks); each row that meets fmt, with fmt's text TOLD by the authors' own Lean function (tested against real Go, not proved from fmt's source: count such statements apart). THE CARD IS WHAT COUNTS. Prove the row's statement (the work); the ties are given (YtlghahalejgkfaaDoorTie.lean); close each card by the builder's one call (the guide's Derived/Test/ToyasCard.lean, 'card_holds'). Laid BY PROGRAM, IN A SANDBOX (cutbox-door.mjs). By AI agents, Wed Nov 11 2026. No macro, syntax, notation, axiom, sorry.
-/
import Derived.Test.YtlghahalejgkfaaDoorRows
import GoSem.ClaimSeven
namespace Go.Proofs.YtlghahalejgkfaaDoor
namespace Rows

/-- THE TIED CARD OF 'tarmaclaw22.RowsApart'. -/
def rowsApartCard : Claim7 := { stood := { row := rowsApartRow, standIns := [], harness := (true, "af71051c2b6ed6e84ae4d446b90daf4dda45791dc05d0d24cbd15148e804dc04"), looks := false }, kinds := [], alts := [], laidByText := true, laidKinds := [.data, .data, .data, .data, .pinned], laidTests := true, laidLooks := .later }
def RowsApartCardSaid : Prop := Claim7.holds Tryd.pinned (.plain (OpenSpec.ofChange rowsApartSpec)) rowsApartCard

/-- THE TIED CARD OF 'tarmaclaw22.RowsDiff'. -/
def rowsDiffCard : Claim7 := { stood := { row := rowsDiffRow, standIns := [], harness := (true, "af71051c2b6ed6e84ae4d446b90daf4dda45791dc05d0d24cbd15148e804dc04"), looks := false }, kinds := [], alts := [], laidByText := true, laidKinds := [.data, .data, .data, .data, .pinned], laidTests := true, laidLooks := .later }
def RowsDiffCardSaid : Prop := Claim7.holds Tryd.pinned (.plain (OpenSpec.ofChange rowsDiffSpec)) rowsDiffCard

/-- THE TIED CARD OF 'tarmaclaw22.RowsBytes'. -/
def rowsBytesCard : Claim7 := { stood := { row := rowsBytesRow, standIns := [], harness := (true, "af71051c2b6ed6e84ae4d446b90daf4dda45791dc05d0d24cbd15148e804dc04"), looks := false }, kinds := [], alts := [], laidByText := true, laidKinds := [.data, .data, .data, .data, .pinned], laidTests := true, laidLooks := .later }
def RowsBytesCardSaid : Prop := Claim7.holds Tryd.pinned (.plain (OpenSpec.ofChange rowsBytesSpec)) rowsBytesCard

/-- THE SECOND FORM's CARD OF 'tarmaclaw22.RowsApart'. -/
def rowsApartUptoCard : Claim7 := { stood := { row := rowsApartUptoRow, standIns := [], harness := (true, "af71051c2b6ed6e84ae4d446b90daf4dda45791dc05d0d24cbd15148e804dc04"), looks := false }, kinds := [], alts := [], laidByText := true, laidKinds := [.data, .data, .data, .data, .pinned], laidTests := true, laidLooks := .later }
def RowsApartUptoCardSaid : Prop := Claim7.holds Tryd.pinned (.plain (OpenSpec.upto rowsApartSpec)) rowsApartUptoCard

/-- THE SECOND FORM's CARD OF 'tarmaclaw22.RowsDiff'. -/
def rowsDiffUptoCard : Claim7 := { stood := { row := rowsDiffUptoRow, standIns := [], harness := (true, "af71051c2b6ed6e84ae4d446b90daf4dda45791dc05d0d24cbd15148e804dc04"), looks := false }, kinds := [], alts := [], laidByText := true, laidKinds := [.data, .data, .data, .data, .pinned], laidTests := true, laidLooks := .later }
def RowsDiffUptoCardSaid : Prop := Claim7.holds Tryd.pinned (.plain (OpenSpec.upto rowsDiffSpec)) rowsDiffUptoCard

/-- THE SECOND FORM's CARD OF 'tarmaclaw22.RowsBytes'. -/
def rowsBytesUptoCard : Claim7 := { stood := { row := rowsBytesUptoRow, standIns := [], harness := (true, "af71051c2b6ed6e84ae4d446b90daf4dda45791dc05d0d24cbd15148e804dc04"), looks := false }, kinds := [], alts := [], laidByText := true, laidKinds := [.data, .data, .data, .data, .pinned], laidTests := true, laidLooks := .later }
def RowsBytesUptoCardSaid : Prop := Claim7.holds Tryd.pinned (.plain (OpenSpec.upto rowsBytesSpec)) rowsBytesUptoCard
end Rows
end Go.Proofs.YtlghahalejgkfaaDoor
