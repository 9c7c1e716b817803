/- Blocks apart. -/
import Derived.Test.YtkncpdehgcldbaaDoorBase
namespace Go.Eng
open Go
theorem nodup_chunk {w0 w : World} {T : List Nat} {b : Nat} {o : Obj} {H L : Heap} {F : Heap → Heap} (hS : St w0 T ((b, o) :: H) w) [hc : Chunk H L F] : b ∉ keys L := by
  obtain ⟨A, B, h1, -⟩ := hc.at_
  have := hS.nd
  rw [h1] at this
  simp only [keys, List.map_cons, List.map_append, List.nodup_cons] at this
  intro h
  exact this.1 (List.mem_append_right _ (List.mem_append_left _ h))
end Go.Eng
