import Derived.Test.YtjflgemfeofciaaGreatDoorVa4
namespace Go.Proofs.YtjflgemfeofciaaGreatDoor
open Go Go.Ev
set_option linter.unusedVariables false
set_option linter.unusedSimpArgs false
set_option maxRecDepth 10000
def wadd (a b:Int):Int:=w64 (a+b)
end Go.Proofs.YtjflgemfeofciaaGreatDoor
