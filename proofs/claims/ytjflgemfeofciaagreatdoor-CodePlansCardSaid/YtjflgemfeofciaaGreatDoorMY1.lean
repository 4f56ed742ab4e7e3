import Derived.Test.YtjflgemfeofciaaGreatDoorMU3
namespace Go.Proofs.YtjflgemfeofciaaGreatDoor
open Go Go.Ev
set_option linter.unusedVariables false
set_option linter.unusedSimpArgs false
end Go.Proofs.YtjflgemfeofciaaGreatDoor
namespace Go.Proofs.YtjflgemfeofciaaGreatDoor
open Go Go.Ev
set_option linter.unusedVariables false
set_option linter.unusedSimpArgs false
theorem endE_ver {c:Code} {day f:Int} {l:List Room} (h:endE c day f l=0):atI c.vs (Qax c day)=some (verF c day):=by
 unfold endE withE at h
 obtain ⟨a,_⟩:=Qcr (by decide) h
 obtain ⟨_,_,i1,i2⟩:=onE_zero a
 unfold atI verF
 rw [if_pos i1,List.getD_eq_getElem?_getD,List.getElem?_eq_getElem (by omega)];rfl
theorem plan_eq {c:Code} {day f:Int} {l:List Room} (h:endE c day f l=0) (n:Int):F_r04_plan (verF c day) n l=some (planD (verF c day) n l):=by
 have hz:=endE_zero h
 unfold F_r04_plan
 rw [decide_eq_true hz.len,hz.puts];rfl
theorem askI_eq {c:Code} {day f:Int} {l:List Room} (h:endE c day f l=0):askI c day f l=Qax c day:=if_pos h
end Go.Proofs.YtjflgemfeofciaaGreatDoor
