import Derived.Test.YtjflgemfeofciaaGreatDoorMY1
import Derived.Test.YtjflgemfeofciaaGreatDoorMU3
namespace Go.Proofs.YtjflgemfeofciaaGreatDoor
open Go Go.Ev
set_option linter.unusedVariables false
set_option linter.unusedSimpArgs false
theorem allR_mk {p:Nat→Bool}:∀ {n:Nat},(∀ k,k < n→p k=true)→allR p n=true
 | 0,_=>rfl
 | n+1,h=>by
   unfold allR
   rw [allR_mk fun k hk=>h k (by omega),h n (by omega)];rfl
theorem ckT {R:Type} {b:Bool} {A:Option R} (h:b=true):ck b A=A:=by subst h;rfl
theorem Qfr {α:Type} {l ys:List α} {y:α} {k:Nat} (h:l.drop k=y :: ys):l[k]? =some y∧l.drop (k+1)=ys:=by
 constructor
 ·have:=congrArg List.head? h
  rwa [List.head?_drop] at this
 ·have:=congrArg List.tail h
  rwa [List.tail_drop] at this
theorem fail_eq (q:T_question) (b:Bool) (n:Int):Qap q b n=some (T_question.mk q.c_ q.version_ q.index_ (failE q.e_ b n)):=by
 unfold Qap failE
 by_cases h:q.e_=0
 ·cases b <;> simp [h]
  cases q;simp_all
 ·rw [decide_eq_false h,if_neg fun k=>h k.1];rfl
theorem by_eq (q:T_question) (f:Int):Qcm q f=some (T_question.mk q.c_ q.version_ q.index_ (byE q.e_ f)):=by
 unfold Qcm byE
 rw [fail_eq,fail_eq]
 by_cases h:f=0
 ·subst h;rfl
 ·rw [decide_eq_false h];rfl
theorem with_eq (q:T_question) (l:List Room):Qax q l=some (T_question.mk q.c_ q.version_ q.index_ (withE q.e_ l)):=by
 unfold Qax withE
 rw [fail_eq];rfl
end Go.Proofs.YtjflgemfeofciaaGreatDoor
namespace Go.Proofs.YtjflgemfeofciaaGreatDoor
open Go Go.Ev
set_option linter.unusedVariables false
set_option linter.unusedSimpArgs false
end Go.Proofs.YtjflgemfeofciaaGreatDoor
