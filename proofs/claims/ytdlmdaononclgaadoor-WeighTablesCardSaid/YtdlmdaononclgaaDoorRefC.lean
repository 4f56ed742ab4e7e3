import Derived.Test.YtdlmdaononclgaaDoorRefA
import Derived.Test.YtdlmdaononclgaaDoorMC
/- The reference: Centre, Weights, Groups, SameGroups. -/
namespace Go.Proofs.YtdlmdaononclgaaDoor
open Go.RowKit
set_option linter.unusedVariables false
set_option linter.unusedSimpArgs false

section
variable (xs ys : List Int) (A : Option Addr) (c : Nat) (A2 : Option Addr) (c2 : Nat) (hc : xs.length ≤ c) (hm : c ≤ 9223372036854775807) (hc2 : ys.length ≤ c2) (hm2 : c2 ≤ 9223372036854775807)
include hc hm hc2 hm2

end

/-- are groups the same, the second ones moved? -/
def sameG (gs bs : List (Int × Int)) (d : Int) : Bool := decide (gs = bs.map fun p => (p.1 + d, p.2))
theorem gx_ext {gs bs : List (Int × Int)} (hl : gs.length = bs.length) (h : ∀ j, j < gs.length → gx gs j = gx bs j) : gs = bs := by
  apply List.ext_getElem hl
  intro j h1 h2
  have := h j h1
  simpa [gx, List.getD, List.getElem?_eq_getElem h1, List.getElem?_eq_getElem h2] using this
theorem gx_map {f : Int × Int → Int × Int} {gs : List (Int × Int)} {j : Nat} (h : j < gs.length) : gx (gs.map f) j = f (gx gs j) := by
  simp [gx, List.getD, List.getElem?_eq_getElem h]

end Go.Proofs.YtdlmdaononclgaaDoor
