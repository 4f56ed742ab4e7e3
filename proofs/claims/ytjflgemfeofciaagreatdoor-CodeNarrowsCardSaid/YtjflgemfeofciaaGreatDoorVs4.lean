import Derived.Test.YtjflgemfeofciaaGreatDoorQa4
/- Layer 4: versions (InForce, Amend) of both sides; the walk of CodeVersions. -/
namespace Go.Proofs.YtjflgemfeofciaaGreatDoor
open Go Go.Ev
set_option linter.unusedVariables false
set_option linter.unusedSimpArgs false
set_option maxRecDepth 10000
def F_code_InForce (p0 : Code) (p1 : Int) : Option (Int × Int) := ((F_code_of p0).bind fun q2 => ((F_code_question_on q2 p1 0).bind fun q3 => some ((max q3.index_ 0), q3.e_)))
def F_r04_InForce (p0 : Code) (p1 : Int) : Option (Int × Int) := (cond (!(decide ((Code.err p0) = 0))) (some (0, (Code.err p0))) ((cond (!(within p1 0 100000)) (some (0, 6)) ((cond (decide ((forceI p0 p1) < 0)) (some (0, 45)) (some ((forceI p0 p1), 0)))))))
end Go.Proofs.YtjflgemfeofciaaGreatDoor
