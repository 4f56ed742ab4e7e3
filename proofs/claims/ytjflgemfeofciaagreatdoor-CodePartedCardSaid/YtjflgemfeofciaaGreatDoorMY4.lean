import Derived.Test.YtjflgemfeofciaaGreatDoorEn4
namespace Go.Proofs.YtjflgemfeofciaaGreatDoor
open Go Go.Ev
set_option linter.unusedVariables false
set_option linter.unusedSimpArgs false
set_option maxRecDepth 10000
def judT (sel:Int × Int→Int) (ver:Version) (fo:Int) (lo hi:Nat→Int):Int:=downI (tonS closV ver fo.toNat (sel (judL ver fo.toNat lo hi 1)) (sel (judL ver fo.toNat lo hi 2)) (sel (judL ver fo.toNat lo hi 3)) (sel (judL ver fo.toNat lo hi 4)) (sel (judL ver fo.toNat lo hi 5)))
end Go.Proofs.YtjflgemfeofciaaGreatDoor
namespace Go.Proofs.YtjflgemfeofciaaGreatDoor
open Go Go.Ev
set_option linter.unusedVariables false
set_option linter.unusedSimpArgs false
set_option maxRecDepth 10000
end Go.Proofs.YtjflgemfeofciaaGreatDoor
namespace Go.Proofs.YtjflgemfeofciaaGreatDoor
open Go Go.Ev
set_option linter.unusedVariables false
set_option linter.unusedSimpArgs false
set_option maxRecDepth 10000
end Go.Proofs.YtjflgemfeofciaaGreatDoor
