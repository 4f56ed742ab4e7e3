import Derived.Test.YtjflgemfeofciaaGreatDoorMY1
import Derived.Test.YtjflgemfeofciaaGreatDoorMU3
namespace Go.Proofs.YtjflgemfeofciaaGreatDoor
open Go Go.Ev
set_option linter.unusedVariables false
set_option linter.unusedSimpArgs false
theorem allR_mk {p:Nat→Bool}:∀ {n:Nat},(∀ k,k < n→p k=true)→allR p n=true
 | 0,_=>rfl
 | n+1,h=>by
  unfold allR
  rw [allR_mk fun k hk=>h k (by omega),h n (by omega)];rfl
theorem ckT {R:Type} {b:Bool} {A:Option R} (h:b=true):ck b A=A:=by subst h;rfl
theorem rgood_iff {l:List Room} {j:Nat} {r:Room} (hr:l[j]? =some r):rgood l j=true↔r.ok=true∧(j=0∨∀ q,l[j - 1]? =some q→q.id < r.id):=by
 unfold rgood
 rw [hr]
 cases hq:l[j - 1]? with
 | none=>simp
 | some q=>simp
def judC (c:Code) (day f:Int) (l:List Room):Int × Int:=((endD Prod.fst c day f l).Tonnage,(endD Prod.snd c day f l).Tonnage)
def sameC (a b:Int × Int):Bool:=decide (a.1=b.1) && (decide (a.2=b.2) && true)
theorem drop_get {α:Type} {l ys:List α} {y:α} {k:Nat} (h:l.drop k=y :: ys):l[k]? =some y∧l.drop (k+1)=ys:=by
 constructor
 ·have:=congrArg List.head? h
  rwa [List.head?_drop] at this
 ·have:=congrArg List.tail h
  rwa [List.tail_drop] at this
theorem vgood_iff {l:List Version} {j:Nat} {r:Version} (hr:l[j]? =some r):vgood l j=true↔r.ok=true∧(j=0∨∀ q,l[j - 1]? =some q→q.fr < r.fr):=by
 unfold vgood
 rw [hr]
 cases hq:l[j - 1]? with
 | none=>simp
 | some q=>simp
theorem end_at {c:Code} (h:c.err=0) {f:Int} {l:List Room} (hf:Qag f 0 1=true) (hr:Qck l=0) {k:Nat} {y:Version} (hy:c.vs[k]? =some y) {day:Int} (h0:0≤day∧day≤100000) (hk:Qbc c day=k):endE c day f l=0∧verF c day=y:=by
 constructor
 ·unfold endE withE onE byE
  have b:(!Qag day 0 100000)=false:=by
   unfold Qag;rw [decide_eq_true h0.1,decide_eq_true h0.2];rfl
  have b2:(!decide (f=0) && !decide (f=1))=false:=by
   unfold Qag at hf
   simp only [Bool.and_eq_true,decide_eq_true_eq] at hf
   have:f=0∨f=1:=by omega
   rcases this with rfl | rfl <;> rfl
  rw [h,hr,b,b2,hk,decide_eq_false (by omega)];rfl
 ·unfold verF
  rw [hk,List.getD_eq_getElem?_getD,Int.toNat_natCast,hy];rfl
theorem ver_fr {v:Version} (h:v.ok=true):0≤v.fr∧v.fr≤100000:=by
 unfold Version.ok Qag at h
 simp only [Bool.and_eq_true,decide_eq_true_eq] at h
 exact h.1
theorem fail_eq (q:T_question) (b:Bool) (n:Int):Qas q b n=some (T_question.mk q.c_ q.version_ q.index_ (failE q.e_ b n)):=by
 unfold Qas failE
 by_cases h:q.e_=0
 ·cases b <;> simp [h]
  cases q;simp_all
 ·rw [decide_eq_false h,if_neg fun k=>h k.1];rfl
theorem by_eq (q:T_question) (f:Int):Qcc q f=some (T_question.mk q.c_ q.version_ q.index_ (byE q.e_ f)):=by
 unfold Qcc byE
 rw [fail_eq,fail_eq]
 by_cases h:f=0
 ·subst h;rfl
 ·rw [decide_eq_false h];rfl
theorem with_eq (q:T_question) (l:List Room):Qax q l=some (T_question.mk q.c_ q.version_ q.index_ (withE q.e_ l)):=by
 unfold Qax withE
 rw [fail_eq];rfl
end Go.Proofs.YtjflgemfeofciaaGreatDoor
namespace Go.Proofs.YtjflgemfeofciaaGreatDoor
open Go Go.Ev
set_option linter.unusedVariables false
set_option linter.unusedSimpArgs false
theorem force_eq (c:Code) (day:Int):∃ a,Qco c day=some a∧Qfq c day=some a:=by
 have hc:Qea c=some (T_question.mk c (Version.mk 0 [] (arr [[],[],[],[],[],[],[],[],[],[]] [])) (-1) c.err):=rfl
 have hb:=forceI_bd c day
 unfold Qco Qfq Qbb
 rw [hc]
 simp only [Option.bind_some,fail_eq,by_eq]
 by_cases h1:c.err=0
 ·rw [h1]
  cases h2:Qag day 0 100000 with
  | false=>exact ⟨_,rfl,rfl⟩
  | true=>
   by_cases h3:Qbc c day < 0
   ·rw [decide_eq_true h3]
    exact ⟨_,rfl,rfl⟩
   ·rw [decide_eq_false h3]
    have hat:atI c.vs (Qbc c day)=some (c.vs[(Qbc c day).toNat]'(by omega)):=by
     unfold atI
     rw [if_pos (by omega),List.getElem?_eq_getElem]
    refine ⟨(Qbc c day,0),?_,rfl⟩
    show Option.bind (Option.bind (atI c.vs (Qbc c day)) _) _=_
    rw [hat]
    show some (max (Qbc c day) 0,(0:Int))=_
    rw [Int.max_eq_left (by omega)]
 ·refine ⟨(0,c.err),?_,?_⟩
  ·have e1:∀ b n,failE c.err b n=c.err:=fun b n=>if_neg fun h=>h1 h.1
   have e2:byE c.err 0=c.err:=e1 _ _
   simp only [e1,e2]
   rw [decide_eq_false h1];rfl
  ·rw [decide_eq_false h1];rfl
end Go.Proofs.YtjflgemfeofciaaGreatDoor
