/- What the rows list of strconv's table of powers of ten, as a fact on the world. -/
import Derived.Test.YtkncpdehgcldbaaDoorRows
import Derived.Test.YtkncpdehgcldbaaDoorItoaC
namespace Go.Proofs.YtkncpdehgcldbaaDoor
open Go Go.Eng Go.Proofs Go.RowKit
theorem tabW_of {r : List (String × DataW Unit)} {W : World} (h : laidMet Tryd.prog (("internal/strconv.uint64pow10", Rows.laid_internal_strconv_uint64pow10) :: r) W) : TabW W := by
  have h : laidMet Tryd.prog (("internal/strconv.uint64pow10", Lib.tabData .u64 Lib.pow10Tab) :: r) W := h
  exact Lib.tabIs_of_head (g := 2) (t := 147) (e := 66) (n := 20) (by kernel_rfl) (by kernel_rfl) (by kernel_rfl) (by kernel_rfl) (by kernel_rfl) (by kernel_rfl) h
end Go.Proofs.YtkncpdehgcldbaaDoor
