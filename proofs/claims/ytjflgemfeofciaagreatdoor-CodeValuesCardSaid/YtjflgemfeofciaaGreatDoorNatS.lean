import Derived.Test.YtjflgemfeofciaaGreatDoorMX2
import Derived.Test.YtjflgemfeofciaaGreatDoorNat04
/- The functions taken by contracts, with the chapter's example among them. -/
namespace Go.Proofs.YtjflgemfeofciaaGreatDoor
open Go Go.Ev
noncomputable def saneN : List V → Option V
  | [] => some (.b true)
  | _ => none
noncomputable def natS : Nats := fun f => match f with
  | 21 => some saneN
  | f => nat04 f
theorem sane_ok (g : G) : Fv Tryz.prog natS (.f 21 [] []) [] g (.b true) := Fv.native (F := saneN) rfl rfl
--REG l4.sane V (sane_ok _)
end Go.Proofs.YtjflgemfeofciaaGreatDoor
