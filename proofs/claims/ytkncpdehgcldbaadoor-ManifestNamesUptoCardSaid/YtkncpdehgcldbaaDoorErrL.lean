/- What the rows list of strconv's two errors, as a fact on the world. -/
import Derived.Test.YtkncpdehgcldbaaDoorRows
import Derived.Test.YtkncpdehgcldbaaDoorAtoi
import Derived.Stop.LaidErr
import Derived.LaidLaws
namespace Go.Proofs.YtkncpdehgcldbaaDoor
open Go Go.Eng Go.Proofs Go.RowKit
theorem errStar : "*" ++ "errors.errorString" = "*errors.errorString" := by decide
theorem errRow (u : TypeId) (h : Tryd.prog.typeName? 3 u = some "*errors.errorString") : u = 151 :=
  typeName_ptr_named (nm := "errors.errorString") (by rw [errStar]; kernel_rfl) (by kernel_rfl) (by decide) u (by rw [errStar]; exact h)
theorem errVars_of {r : List (String × DataW Unit)} {W : World} (h : laidMet Tryd.prog (("strconv.ErrRange", Rows.laid_strconv_ErrRange) :: ("strconv.ErrSyntax", Rows.laid_strconv_ErrSyntax) :: r) W) : ErrVars W := by
  obtain ⟨f, hf, hft, hfo⟩ : ∃ f : Field, Tryd.prog.underlying 153 = some (.struct #[f]) ∧ f.type = 9 ∧ f.offset = 0 := ⟨⟨"s", 9, 0, false, "", "errors", 0⟩, by kernel_rfl, rfl, rfl⟩
  have hi : Tryd.prog.underlying 94 = some (.interface (Tryd.prog.methodsAt 94)) := by kernel_rfl
  have g1 : Tryd.prog.globalNamed "strconv.ErrRange" = some errG1 := by kernel_rfl
  have g0 : Tryd.prog.globalNamed "strconv.ErrSyntax" = some errG0 := by kernel_rfl
  obtain ⟨a1, s1, hv1, -, -, -⟩ := laid_sentinel h g1 (ti := 94) (by kernel_rfl) hi errRow (te := 153) (by kernel_rfl) hf hft hfo (by kernel_rfl) (by kernel_rfl) (by kernel_rfl)
  obtain ⟨a0, s0, hv0, -, -, -⟩ := laid_sentinel h.tail g0 (ti := 94) (by kernel_rfl) hi errRow (te := 153) (by kernel_rfl) hf hft hfo (by kernel_rfl) (by kernel_rfl) (by kernel_rfl)
  exact ⟨⟨_, _, by have h0 := World.var?_cell g0 hv0 0; simpa using h0⟩, ⟨_, _, by have h0 := World.var?_cell g1 hv1 0; simpa using h0⟩⟩
end Go.Proofs.YtkncpdehgcldbaaDoor
