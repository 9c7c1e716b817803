/-
  No cell of these rows narrows 'for every input' (looked for: loops, veiled, ifaces, maps, wideKeys, modest, calm, conditions, laid).
  DERIVED. THE GIVEN ROWS OF THIS SEAT. 8 by the template 'for every input the law returns true; each argument reads behind the call as it read before'; 0 by the template 'total and deterministic' (their statements: YtnmmiiffeenjbaaTotals.lean).
  GIVEN WITH THE SEED: the statements are not yours to turn. If you find one false, say at which input.
  Laid BY PROGRAM, IN A SANDBOX (cutbox-rows.mjs): the forced cells as the released guide's own fill.sh prints them over the translation 981acedac0bfc923… (all of the seat's roots in one cut). By AI agents, Wed Nov 11 2026. No macro, syntax, notation, axiom, sorry.
-/
import Derived.Test.YtnmmiiffeenjbaaChecked
import GoSem.Claim
import GoSem.ClaimJoined
import GoSem.ClaimMapViews
import Derived.JoinedTies
import Derived.KernelRfl
namespace Go.Proofs.Ytnmmiiffeenjbaa
/- THE CELL 'sum', in the pinned program and in every row, IS THE sha256 OF THE DUMP (.gsa) THAT YtnmmiiffeenjbaaProg.lean LOADS. Nothing in Lean hashes anything: it is a label: what it is worth is what the hold of that sum in a sandbox is worth. -/
noncomputable def Try.pinned : Pinned := { name := "ytnmmiiffeenjbaa", sum := "981acedac0bfc923e42599f810fc90303aa30f9c94a2b6d67b28b7e7f1bae37e", checked := Try.checked }
namespace Rows
def none {H : Type} : Left H := { results := [], args := [] }

/-- 'tarmaclaw05.WalEach': WHATEVER THE INPUT: true; the input reads as it did. -/
def walEachSpec : ChangeSpec := { name := "walEach", fn := fun _ => fun
  | [d] => { results := [.lit (.bool true)], args := [d] }
  | _ => none }
def walEachRow : OpenClaim := { program := "ytnmmiiffeenjbaa", sum := "981acedac0bfc923e42599f810fc90303aa30f9c94a2b6d67b28b7e7f1bae37e", func := "tarmac/tarmaclaw05.WalEach", spec := "walEach", inPlace := ["internal/abi.NoEscape", "internal/bytealg.MakeNoZero"], apart := false }
def WalEachSaid : Prop := walEachRow.holds Try.pinned (OpenSpec.ofChange walEachSpec)

/-- ITS FALSE NEIGHBOUR: 'it returns false'. Refute it at one input. -/
def walEachWrong : ChangeSpec := { name := "walEach", fn := fun _ => fun
  | [d] => { results := [.lit (.bool false)], args := [d] }
  | _ => none }
def WalEachWrongFalsely : Prop := walEachRow.holds Try.pinned (OpenSpec.ofChange walEachWrong)

/-- 'tarmaclaw05.WalMemory': WHATEVER THE INPUT: true; the input reads as it did. -/
def walMemorySpec : ChangeSpec := { name := "walMemory", fn := fun _ => fun
  | [d] => { results := [.lit (.bool true)], args := [d] }
  | _ => none }
def walMemoryRow : OpenClaim := { program := "ytnmmiiffeenjbaa", sum := "981acedac0bfc923e42599f810fc90303aa30f9c94a2b6d67b28b7e7f1bae37e", func := "tarmac/tarmaclaw05.WalMemory", spec := "walMemory", inPlace := ["internal/abi.NoEscape", "internal/bytealg.MakeNoZero"], apart := false }
def WalMemorySaid : Prop := walMemoryRow.holds Try.pinned (OpenSpec.ofChange walMemorySpec)

/-- ITS FALSE NEIGHBOUR: 'it returns false'. Refute it at one input. -/
def walMemoryWrong : ChangeSpec := { name := "walMemory", fn := fun _ => fun
  | [d] => { results := [.lit (.bool false)], args := [d] }
  | _ => none }
def WalMemoryWrongFalsely : Prop := walMemoryRow.holds Try.pinned (OpenSpec.ofChange walMemoryWrong)

/-- 'tarmaclaw04.VfsKeeps': WHATEVER THE INPUT: true; the input reads as it did. -/
def vfsKeepsSpec : ChangeSpec := { name := "vfsKeeps", fn := fun _ => fun
  | [d1, d2, d3] => { results := [.lit (.bool true)], args := [d1, d2, d3] }
  | _ => none }
def vfsKeepsRow : OpenClaim := { program := "ytnmmiiffeenjbaa", sum := "981acedac0bfc923e42599f810fc90303aa30f9c94a2b6d67b28b7e7f1bae37e", func := "tarmac/tarmaclaw04.VfsKeeps", spec := "vfsKeeps", inPlace := ["internal/abi.NoEscape", "internal/bytealg.MakeNoZero"], unfollowed := true, recurses := true, apart := false }
def VfsKeepsSaid : Prop := vfsKeepsRow.holds Try.pinned (OpenSpec.ofChange vfsKeepsSpec)

/-- ITS FALSE NEIGHBOUR: 'it returns false'. Refute it at one input. -/
def vfsKeepsWrong : ChangeSpec := { name := "vfsKeeps", fn := fun _ => fun
  | [d1, d2, d3] => { results := [.lit (.bool false)], args := [d1, d2, d3] }
  | _ => none }
def VfsKeepsWrongFalsely : Prop := vfsKeepsRow.holds Try.pinned (OpenSpec.ofChange vfsKeepsWrong)

/-- 'tarmaclaw04.VfsPower': WHATEVER THE INPUT: true; the input reads as it did. -/
def vfsPowerSpec : ChangeSpec := { name := "vfsPower", fn := fun _ => fun
  | [d1, d2, d3] => { results := [.lit (.bool true)], args := [d1, d2, d3] }
  | _ => none }
def vfsPowerRow : OpenClaim := { program := "ytnmmiiffeenjbaa", sum := "981acedac0bfc923e42599f810fc90303aa30f9c94a2b6d67b28b7e7f1bae37e", func := "tarmac/tarmaclaw04.VfsPower", spec := "vfsPower", inPlace := ["internal/abi.NoEscape", "internal/bytealg.MakeNoZero"], unfollowed := true, recurses := true, apart := false }
def VfsPowerSaid : Prop := vfsPowerRow.holds Try.pinned (OpenSpec.ofChange vfsPowerSpec)

/-- ITS FALSE NEIGHBOUR: 'it returns false'. Refute it at one input. -/
def vfsPowerWrong : ChangeSpec := { name := "vfsPower", fn := fun _ => fun
  | [d1, d2, d3] => { results := [.lit (.bool false)], args := [d1, d2, d3] }
  | _ => none }
def VfsPowerWrongFalsely : Prop := vfsPowerRow.holds Try.pinned (OpenSpec.ofChange vfsPowerWrong)

/-- 'tarmaclaw04.VfsSpace': WHATEVER THE INPUT: true; the input reads as it did. -/
def vfsSpaceSpec : ChangeSpec := { name := "vfsSpace", fn := fun _ => fun
  | [d1, d2] => { results := [.lit (.bool true)], args := [d1, d2] }
  | _ => none }
def vfsSpaceRow : OpenClaim := { program := "ytnmmiiffeenjbaa", sum := "981acedac0bfc923e42599f810fc90303aa30f9c94a2b6d67b28b7e7f1bae37e", func := "tarmac/tarmaclaw04.VfsSpace", spec := "vfsSpace", inPlace := ["internal/abi.NoEscape", "internal/bytealg.MakeNoZero"], unfollowed := true, recurses := true, apart := false }
def VfsSpaceSaid : Prop := vfsSpaceRow.holds Try.pinned (OpenSpec.ofChange vfsSpaceSpec)

/-- ITS FALSE NEIGHBOUR: 'it returns false'. Refute it at one input. -/
def vfsSpaceWrong : ChangeSpec := { name := "vfsSpace", fn := fun _ => fun
  | [d1, d2] => { results := [.lit (.bool false)], args := [d1, d2] }
  | _ => none }
def VfsSpaceWrongFalsely : Prop := vfsSpaceRow.holds Try.pinned (OpenSpec.ofChange vfsSpaceWrong)

/-- 'tarmaclaw04.VfsMoves': WHATEVER THE INPUT: true; the input reads as it did. -/
def vfsMovesSpec : ChangeSpec := { name := "vfsMoves", fn := fun _ => fun
  | [d1, d2, d3] => { results := [.lit (.bool true)], args := [d1, d2, d3] }
  | _ => none }
def vfsMovesRow : OpenClaim := { program := "ytnmmiiffeenjbaa", sum := "981acedac0bfc923e42599f810fc90303aa30f9c94a2b6d67b28b7e7f1bae37e", func := "tarmac/tarmaclaw04.VfsMoves", spec := "vfsMoves", inPlace := ["internal/abi.NoEscape", "internal/bytealg.MakeNoZero"], unfollowed := true, recurses := true, apart := false }
def VfsMovesSaid : Prop := vfsMovesRow.holds Try.pinned (OpenSpec.ofChange vfsMovesSpec)

/-- ITS FALSE NEIGHBOUR: 'it returns false'. Refute it at one input. -/
def vfsMovesWrong : ChangeSpec := { name := "vfsMoves", fn := fun _ => fun
  | [d1, d2, d3] => { results := [.lit (.bool false)], args := [d1, d2, d3] }
  | _ => none }
def VfsMovesWrongFalsely : Prop := vfsMovesRow.holds Try.pinned (OpenSpec.ofChange vfsMovesWrong)

/-- 'tarmaclaw05.WalLasts': WHATEVER THE INPUT: true; the input reads as it did. -/
def walLastsSpec : ChangeSpec := { name := "walLasts", fn := fun _ => fun
  | [d1, d2, d3] => { results := [.lit (.bool true)], args := [d1, d2, d3] }
  | _ => none }
def walLastsRow : OpenClaim := { program := "ytnmmiiffeenjbaa", sum := "981acedac0bfc923e42599f810fc90303aa30f9c94a2b6d67b28b7e7f1bae37e", func := "tarmac/tarmaclaw05.WalLasts", spec := "walLasts", inPlace := ["internal/abi.NoEscape", "internal/bytealg.MakeNoZero"], unfollowed := true, recurses := true, apart := false }
def WalLastsSaid : Prop := walLastsRow.holds Try.pinned (OpenSpec.ofChange walLastsSpec)

/-- ITS FALSE NEIGHBOUR: 'it returns false'. Refute it at one input. -/
def walLastsWrong : ChangeSpec := { name := "walLasts", fn := fun _ => fun
  | [d1, d2, d3] => { results := [.lit (.bool false)], args := [d1, d2, d3] }
  | _ => none }
def WalLastsWrongFalsely : Prop := walLastsRow.holds Try.pinned (OpenSpec.ofChange walLastsWrong)

/-- 'tarmaclaw05.WalMends': WHATEVER THE INPUT: true; the input reads as it did. -/
def walMendsSpec : ChangeSpec := { name := "walMends", fn := fun _ => fun
  | [d1, d2, d3] => { results := [.lit (.bool true)], args := [d1, d2, d3] }
  | _ => none }
def walMendsRow : OpenClaim := { program := "ytnmmiiffeenjbaa", sum := "981acedac0bfc923e42599f810fc90303aa30f9c94a2b6d67b28b7e7f1bae37e", func := "tarmac/tarmaclaw05.WalMends", spec := "walMends", inPlace := ["internal/abi.NoEscape", "internal/bytealg.MakeNoZero"], unfollowed := true, recurses := true, apart := false }
def WalMendsSaid : Prop := walMendsRow.holds Try.pinned (OpenSpec.ofChange walMendsSpec)

/-- ITS FALSE NEIGHBOUR: 'it returns false'. Refute it at one input. -/
def walMendsWrong : ChangeSpec := { name := "walMends", fn := fun _ => fun
  | [d1, d2, d3] => { results := [.lit (.bool false)], args := [d1, d2, d3] }
  | _ => none }
def WalMendsWrongFalsely : Prop := walMendsRow.holds Try.pinned (OpenSpec.ofChange walMendsWrong)

/- THE SECOND FORM. 'bulk': how many values and letters a reading holds, each counted each time it is reached (what is shared counts as often as it is met; a slice's spare places count too). A statement '..UptoSaid' is the law's where the arguments, and the package variables that the reading takes, are together of bulk at most 1048576: NARROWER than '..Said'. Prove '..Said' where nothing that the law and all that it calls make is longer than what came in: it says more and counts as full. Else prove '..UptoSaid'. A law counts once. -/
mutual
def uptoBulk {H : Type} : DataW H → Nat
  | .lit (.string bytes) => bytes.length + 1
  | .lit _ => 1
  | .nil => 1
  | .ptr d => uptoBulk d + 1
  | .slice elems spare => uptoBulkAll elems + uptoBulkAll spare + 1
  | .agg parts => uptoBulkAll parts + 1
  | .iface _ d => uptoBulk d + 1
  | .map entries => uptoBulkEntries entries + 1
  | .held _ => 1
def uptoBulkAll {H : Type} : List (DataW H) → Nat
  | [] => 0
  | d :: r => uptoBulk d + uptoBulkAll r
def uptoBulkEntries {H : Type} : List (Lit × DataW H) → Nat
  | [] => 0
  | x :: r => uptoBulkEntry x + uptoBulkEntries r
def uptoBulkEntry {H : Type} : Lit × DataW H → Nat
  | (.string bytes, d) => bytes.length + uptoBulk d + 1
  | (_, d) => uptoBulk d + 1
 end
def uptoSmall : (H : Type) → List (DataW H) → Bool := fun _ ds => decide (uptoBulkAll ds ≤ 1048576)
def OpenSpec.upto (s : _root_.Go.ChangeSpec) : _root_.Go.OpenSpec := { _root_.Go.OpenSpec.ofChange s with cond := some uptoSmall }

/-- 'tarmaclaw05.WalEach', WHERE WHAT IT READS IS OF BULK AT MOST 1048576: true; the input reads as it did. -/
def walEachUptoRow : OpenClaim := { program := "ytnmmiiffeenjbaa", sum := "981acedac0bfc923e42599f810fc90303aa30f9c94a2b6d67b28b7e7f1bae37e", func := "tarmac/tarmaclaw05.WalEach", spec := "walEach", inPlace := ["internal/abi.NoEscape", "internal/bytealg.MakeNoZero"], apart := false, narrowed := true }
def WalEachUptoSaid : Prop := walEachUptoRow.holds Try.pinned (OpenSpec.upto walEachSpec)

/-- 'tarmaclaw05.WalMemory', WHERE WHAT IT READS IS OF BULK AT MOST 1048576: true; the input reads as it did. -/
def walMemoryUptoRow : OpenClaim := { program := "ytnmmiiffeenjbaa", sum := "981acedac0bfc923e42599f810fc90303aa30f9c94a2b6d67b28b7e7f1bae37e", func := "tarmac/tarmaclaw05.WalMemory", spec := "walMemory", inPlace := ["internal/abi.NoEscape", "internal/bytealg.MakeNoZero"], apart := false, narrowed := true }
def WalMemoryUptoSaid : Prop := walMemoryUptoRow.holds Try.pinned (OpenSpec.upto walMemorySpec)

/-- 'tarmaclaw04.VfsKeeps', WHERE WHAT IT READS IS OF BULK AT MOST 1048576: true; the input reads as it did. -/
def vfsKeepsUptoRow : OpenClaim := { program := "ytnmmiiffeenjbaa", sum := "981acedac0bfc923e42599f810fc90303aa30f9c94a2b6d67b28b7e7f1bae37e", func := "tarmac/tarmaclaw04.VfsKeeps", spec := "vfsKeeps", inPlace := ["internal/abi.NoEscape", "internal/bytealg.MakeNoZero"], unfollowed := true, recurses := true, apart := false, narrowed := true }
def VfsKeepsUptoSaid : Prop := vfsKeepsUptoRow.holds Try.pinned (OpenSpec.upto vfsKeepsSpec)

/-- 'tarmaclaw04.VfsPower', WHERE WHAT IT READS IS OF BULK AT MOST 1048576: true; the input reads as it did. -/
def vfsPowerUptoRow : OpenClaim := { program := "ytnmmiiffeenjbaa", sum := "981acedac0bfc923e42599f810fc90303aa30f9c94a2b6d67b28b7e7f1bae37e", func := "tarmac/tarmaclaw04.VfsPower", spec := "vfsPower", inPlace := ["internal/abi.NoEscape", "internal/bytealg.MakeNoZero"], unfollowed := true, recurses := true, apart := false, narrowed := true }
def VfsPowerUptoSaid : Prop := vfsPowerUptoRow.holds Try.pinned (OpenSpec.upto vfsPowerSpec)

/-- 'tarmaclaw04.VfsSpace', WHERE WHAT IT READS IS OF BULK AT MOST 1048576: true; the input reads as it did. -/
def vfsSpaceUptoRow : OpenClaim := { program := "ytnmmiiffeenjbaa", sum := "981acedac0bfc923e42599f810fc90303aa30f9c94a2b6d67b28b7e7f1bae37e", func := "tarmac/tarmaclaw04.VfsSpace", spec := "vfsSpace", inPlace := ["internal/abi.NoEscape", "internal/bytealg.MakeNoZero"], unfollowed := true, recurses := true, apart := false, narrowed := true }
def VfsSpaceUptoSaid : Prop := vfsSpaceUptoRow.holds Try.pinned (OpenSpec.upto vfsSpaceSpec)

/-- 'tarmaclaw04.VfsMoves', WHERE WHAT IT READS IS OF BULK AT MOST 1048576: true; the input reads as it did. -/
def vfsMovesUptoRow : OpenClaim := { program := "ytnmmiiffeenjbaa", sum := "981acedac0bfc923e42599f810fc90303aa30f9c94a2b6d67b28b7e7f1bae37e", func := "tarmac/tarmaclaw04.VfsMoves", spec := "vfsMoves", inPlace := ["internal/abi.NoEscape", "internal/bytealg.MakeNoZero"], unfollowed := true, recurses := true, apart := false, narrowed := true }
def VfsMovesUptoSaid : Prop := vfsMovesUptoRow.holds Try.pinned (OpenSpec.upto vfsMovesSpec)

/-- 'tarmaclaw05.WalLasts', WHERE WHAT IT READS IS OF BULK AT MOST 1048576: true; the input reads as it did. -/
def walLastsUptoRow : OpenClaim := { program := "ytnmmiiffeenjbaa", sum := "981acedac0bfc923e42599f810fc90303aa30f9c94a2b6d67b28b7e7f1bae37e", func := "tarmac/tarmaclaw05.WalLasts", spec := "walLasts", inPlace := ["internal/abi.NoEscape", "internal/bytealg.MakeNoZero"], unfollowed := true, recurses := true, apart := false, narrowed := true }
def WalLastsUptoSaid : Prop := walLastsUptoRow.holds Try.pinned (OpenSpec.upto walLastsSpec)

/-- 'tarmaclaw05.WalMends', WHERE WHAT IT READS IS OF BULK AT MOST 1048576: true; the input reads as it did. -/
def walMendsUptoRow : OpenClaim := { program := "ytnmmiiffeenjbaa", sum := "981acedac0bfc923e42599f810fc90303aa30f9c94a2b6d67b28b7e7f1bae37e", func := "tarmac/tarmaclaw05.WalMends", spec := "walMends", inPlace := ["internal/abi.NoEscape", "internal/bytealg.MakeNoZero"], unfollowed := true, recurses := true, apart := false, narrowed := true }
def WalMendsUptoSaid : Prop := walMendsUptoRow.holds Try.pinned (OpenSpec.upto walMendsSpec)

end Rows
end Go.Proofs.Ytnmmiiffeenjbaa
