import Derived.Test.YtjflgemfeofciaaGreatDoorVb4
namespace Go.Proofs.YtjflgemfeofciaaGreatDoor
open Go Go.Ev
set_option linter.unusedVariables false
set_option linter.unusedSimpArgs false
set_option maxRecDepth 10000
def valE (c:Code) (ver fo gr li:Int):Int:=failE (byE (atE c.err c ver) fo) (!Qae gr 1 5 || !Qae li 0 20000000000) 1
def lnX (fo gr:Int):Nat:=5 * fo.toNat+(gr - 1).toNat
def valR (f:List Piece→Int→Int) (c:Code) (ver fo gr li:Int):Int:=if valE c ver fo gr li=0 then f ((c.vs.getD ver.toNat .none).ln (lnX fo gr)) li else 0
end Go.Proofs.YtjflgemfeofciaaGreatDoor
namespace Go.Proofs.YtjflgemfeofciaaGreatDoor
open Go Go.Ev
set_option linter.unusedVariables false
set_option linter.unusedSimpArgs false
set_option maxRecDepth 10000
end Go.Proofs.YtjflgemfeofciaaGreatDoor
