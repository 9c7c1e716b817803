/-
  DERIVED. GIVEN WITH THE SEED: THE CARDS: each row of YtklppplnkpnbhaaDoorRows.lean that lists a variable, with what it lists TIED to the program's text (the seventh form; the later family's looks); each row that meets fmt, with fmt's text TOLD by the authors' own Lean function (tested against real Go, not proved from fmt's source: count such statements apart). THE CARD IS WHAT COUNTS. Prove the row's statement (the work); the ties are given (YtklppplnkpnbhaaDoorTie.lean); close each card by the builder's one call (the guide's Derived/Test/ToyasCard.lean, 'card_holds'). Laid BY PROGRAM, IN A SANDBOX (cutbox-door.mjs). By AI agents, Wed Nov 11 2026. No macro, syntax, notation, axiom, sorry.
-/
import Derived.Test.YtklppplnkpnbhaaDoorRows
import GoSem.ClaimSeven
namespace Go.Proofs.YtklppplnkpnbhaaDoor
namespace Rows

/-- THE TIED CARD OF 'tarmaclaw20.PassUnlike'. -/
def passUnlikeCard : Claim7 := { stood := { row := passUnlikeRow, standIns := [], harness := (true, "42316257e2d855bf679601316ed29bd5532c884a4bc3aaf08624058000c2f3b6"), looks := true }, kinds := [], alts := [], laidByText := true, laidKinds := [.data, .data, .data], laidTests := true, laidLooks := .later }
def PassUnlikeCardSaid : Prop := Claim7.holds Tryd.pinned (.plain (OpenSpec.ofChange passUnlikeSpec)) passUnlikeCard

/-- THE TIED CARD OF 'tarmaclaw20.PassExact'. -/
def passExactCard : Claim7 := { stood := { row := passExactRow, standIns := [], harness := (true, "42316257e2d855bf679601316ed29bd5532c884a4bc3aaf08624058000c2f3b6"), looks := true }, kinds := [], alts := [], laidByText := true, laidKinds := [.data, .data, .data, .sentinel, .sentinel], laidTests := true, laidLooks := .later }
def PassExactCardSaid : Prop := Claim7.holds Tryd.pinned (.plain (OpenSpec.ofChange passExactSpec)) passExactCard

/-- THE TIED CARD OF 'tarmaclaw20.PassBack'. -/
def passBackCard : Claim7 := { stood := { row := passBackRow, standIns := [], harness := (true, "42316257e2d855bf679601316ed29bd5532c884a4bc3aaf08624058000c2f3b6"), looks := true }, kinds := [], alts := [], laidByText := true, laidKinds := [.data, .data, .data, .sentinel, .sentinel], laidTests := true, laidLooks := .later }
def PassBackCardSaid : Prop := Claim7.holds Tryd.pinned (.plain (OpenSpec.ofChange passBackSpec)) passBackCard

/-- THE SECOND FORM's CARD OF 'tarmaclaw20.PassUnlike'. -/
def passUnlikeUptoCard : Claim7 := { stood := { row := passUnlikeUptoRow, standIns := [], harness := (true, "42316257e2d855bf679601316ed29bd5532c884a4bc3aaf08624058000c2f3b6"), looks := true }, kinds := [], alts := [], laidByText := true, laidKinds := [.data, .data, .data], laidTests := true, laidLooks := .later }
def PassUnlikeUptoCardSaid : Prop := Claim7.holds Tryd.pinned (.plain (OpenSpec.upto passUnlikeSpec)) passUnlikeUptoCard

/-- THE SECOND FORM's CARD OF 'tarmaclaw20.PassExact'. -/
def passExactUptoCard : Claim7 := { stood := { row := passExactUptoRow, standIns := [], harness := (true, "42316257e2d855bf679601316ed29bd5532c884a4bc3aaf08624058000c2f3b6"), looks := true }, kinds := [], alts := [], laidByText := true, laidKinds := [.data, .data, .data, .sentinel, .sentinel], laidTests := true, laidLooks := .later }
def PassExactUptoCardSaid : Prop := Claim7.holds Tryd.pinned (.plain (OpenSpec.upto passExactSpec)) passExactUptoCard

/-- THE SECOND FORM's CARD OF 'tarmaclaw20.PassBack'. -/
def passBackUptoCard : Claim7 := { stood := { row := passBackUptoRow, standIns := [], harness := (true, "42316257e2d855bf679601316ed29bd5532c884a4bc3aaf08624058000c2f3b6"), looks := true }, kinds := [], alts := [], laidByText := true, laidKinds := [.data, .data, .data, .sentinel, .sentinel], laidTests := true, laidLooks := .later }
def PassBackUptoCardSaid : Prop := Claim7.holds Tryd.pinned (.plain (OpenSpec.upto passBackSpec)) passBackUptoCard
end Rows
end Go.Proofs.YtklppplnkpnbhaaDoor
