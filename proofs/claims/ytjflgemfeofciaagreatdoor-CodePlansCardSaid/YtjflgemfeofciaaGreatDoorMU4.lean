import Derived.Test.YtjflgemfeofciaaGreatDoorMY1
import Derived.Test.YtjflgemfeofciaaGreatDoorMU3
namespace Go.Proofs.YtjflgemfeofciaaGreatDoor
open Go Go.Ev
set_option linter.unusedVariables false
set_option linter.unusedSimpArgs false
theorem ckT {R:Type} {b:Bool} {A:Option R} (h:b=true):ck b A=A:=by subst h;rfl
theorem drop_get {α:Type} {l ys:List α} {y:α} {k:Nat} (h:l.drop k=y :: ys):l[k]? =some y∧l.drop (k+1)=ys:=by
 constructor
 ·have:=congrArg List.head? h
  rwa [List.head?_drop] at this
 ·have:=congrArg List.tail h
  rwa [List.tail_drop] at this
theorem Qby (q:T_question) (b:Bool) (n:Int):Qad q b n=some (T_question.mk q.c_ q.version_ q.index_ (failE q.e_ b n)):=by
 unfold Qad failE
 by_cases h:q.e_=0
 ·cases b <;> simp [h]
  cases q;simp_all
 ·rw [decide_eq_false h,if_neg fun k=>h k.1];rfl
theorem by_eq (q:T_question) (f:Int):Qbd q f=some (T_question.mk q.c_ q.version_ q.index_ (byE q.e_ f)):=by
 unfold Qbd byE
 rw [Qby,Qby]
 by_cases h:f=0
 ·subst h;rfl
 ·rw [decide_eq_false h];rfl
theorem with_eq (q:T_question) (l:List Room):Qal q l=some (T_question.mk q.c_ q.version_ q.index_ (withE q.e_ l)):=by
 unfold Qal withE
 rw [Qby];rfl
theorem same_l1 (a:List Int):∀ (ys:List Int) (k:Nat),a.drop k=ys→Qau a ys k=some (Sum.inr ())
 | [],k,_=>rfl
 | y :: ys,k,h=>by
   obtain ⟨hy,hs⟩:=drop_get h
   rw [Qau,hy,Option.bind_some,decide_eq_true rfl]
   exact same_l1 a ys (k+1) hs
theorem same_eq (a:List Int):Qan a a=some true:=by
 unfold Qan
 rw [decide_eq_true rfl,same_l1 a a 0 rfl];rfl
end Go.Proofs.YtjflgemfeofciaaGreatDoor
