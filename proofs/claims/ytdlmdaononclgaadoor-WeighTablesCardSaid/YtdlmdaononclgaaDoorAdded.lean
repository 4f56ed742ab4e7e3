import Derived.Test.YtdlmdaononclgaaDoorExactP
import Derived.Test.YtdlmdaononclgaaDoorRefA
import Derived.Deep.CutRange
/- The law's functions added and integral. -/
namespace Go.Proofs.YtdlmdaononclgaaDoor
open Go.RowKit
set_option linter.unusedVariables false
set_option linter.unusedSimpArgs false

theorem cells_new3 (w : World) (a b c : Value) (t : TypeId) : (w.alloc (.cells #[a, b, c] t)).cell? ⟨w.heap.size, 0, none⟩ = some a ∧ (w.alloc (.cells #[a, b, c] t)).cell? ⟨w.heap.size, 1, none⟩ = some b ∧ (w.alloc (.cells #[a, b, c] t)).cell? ⟨w.heap.size, 2, none⟩ = some c := by
  refine ⟨?_, ?_, ?_⟩ <;> (rw [cell_of_row _ w.heap.size _ _ _ _ (heap_alloc_new w _)]; rfl)

end Go.Proofs.YtdlmdaononclgaaDoor
