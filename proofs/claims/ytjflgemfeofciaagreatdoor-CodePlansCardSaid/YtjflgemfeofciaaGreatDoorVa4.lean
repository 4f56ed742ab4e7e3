import Derived.Test.YtjflgemfeofciaaGreatDoorQu4
namespace Go.Proofs.YtjflgemfeofciaaGreatDoor
open Go Go.Ev
set_option linter.unusedVariables false
set_option linter.unusedSimpArgs false
set_option maxRecDepth 10000
def w64 (n:Int):Int:=IntKind.i64.wrap n
def Piece.val (p:Piece) (n:Int):Int:=w64 (p.base+w64 (p.rate * n))
end Go.Proofs.YtjflgemfeofciaaGreatDoor
