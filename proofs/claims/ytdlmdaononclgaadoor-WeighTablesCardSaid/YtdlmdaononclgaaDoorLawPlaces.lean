import Derived.Test.YtdlmdaononclgaaDoorCollG
import Derived.Test.YtdlmdaononclgaaDoorRefC
import Derived.Test.YtdlmdaononclgaaDoorLawScales
/- WeighPlaces: the walk. -/
namespace Go.Proofs.YtdlmdaononclgaaDoor
open Go.RowKit
set_option linter.unusedVariables false
set_option linter.unusedSimpArgs false

theorem OwnG.formN {w : World} {base : Nat} {v : Value} {gs : List (Int × Int)} (h : OwnG w base v gs) {n : Nat} (hn : gs.length = n) :
    ∃ A cap, v = .slice A n cap ∧ n ≤ cap ∧ cap ≤ 9223372036854775807 ∧ GD w w.heap.size A gs := by
  subst hn
  obtain ⟨A, cap, h1, h2, h3, h4, _⟩ := h.form
  exact ⟨A, cap, h1, h2, h3, h4⟩
theorem groups_bd {xs : List Int} (h9 : xs.length ≤ 9) : ∀ j, j < (groupsZ xs).length → 0 ≤ (gx (groupsZ xs) j).1 ∧ (gx (groupsZ xs) j).1 ≤ 1000 := fun j hj => by
  obtain ⟨k, hk, ⟨e, _⟩ | ⟨e, _⟩⟩ := group_at (gx_get hj) <;> (rw [e]; simp only; omega)
theorem sameG_self (gs : List (Int × Int)) : sameG gs gs 0 = true := by
  refine decide_eq_true ?_
  have : (fun p : Int × Int => (p.1 + 0, p.2)) = id := funext fun p => by simp
  rw [this, List.map_id]

end Go.Proofs.YtdlmdaononclgaaDoor
