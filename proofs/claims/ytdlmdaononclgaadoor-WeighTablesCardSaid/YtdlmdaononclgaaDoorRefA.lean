import Derived.Test.YtdlmdaononclgaaDoorRefW
import Derived.Test.YtdlmdaononclgaaDoorMD
import Derived.Test.YtdlmdaononclgaaDoorMB
/- The reference: checkOrdinates, Area, Moment, Centre, Weights, Groups. -/
namespace Go.Proofs.YtdlmdaononclgaaDoor
open Go.RowKit
set_option linter.unusedVariables false
set_option linter.unusedSimpArgs false

/-- the sum of the first k weights times ordinates times distances, in the reference's order. -/
theorem dotK_mom (ws xs ys : List Int) (about : Int) (n : Nat) : ∀ k, k ≤ n → dotK ws (momL xs ys about n) (k + 1) = dotK ws (momL xs ys about n) k + ix ws k * ix (momL xs ys about n) k := fun _ _ => rfl

section
variable (xs ys : List Int) (A : Option Addr) (c : Nat) (A2 : Option Addr) (c2 : Nat) (hc : xs.length ≤ c) (hm : c ≤ 9223372036854775807) (hc2 : ys.length ≤ c2) (hm2 : c2 ≤ 9223372036854775807)
include hc hm hc2 hm2

end

end Go.Proofs.YtdlmdaononclgaaDoor
