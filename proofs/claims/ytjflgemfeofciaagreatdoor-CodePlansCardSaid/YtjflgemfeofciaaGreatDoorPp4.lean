import Derived.Test.YtjflgemfeofciaaGreatDoorLp4
import Derived.Test.YtjflgemfeofciaaGreatDoorMU4
namespace Go.Proofs.YtjflgemfeofciaaGreatDoor
open Go Go.Ev
set_option linter.unusedVariables false
set_option linter.unusedSimpArgs false
def noQ:Version:=Version.mk 0 [] (arr [[],[],[],[],[],[],[],[],[],[]] [])
theorem onQ_eq (c:Code) (day f:Int):Qbc (T_question.mk c noQ (-1) c.err) day f=some (if onE c.err c day f=0 then T_question.mk c (verF c day) (Qax c day) (onE c.err c day f) else T_question.mk c noQ (-1) (onE c.err c day f)):=by
 unfold Qbc
 simp only [Qby,by_eq,Option.bind_some]
 show cond (decide (onE c.err c day f=0)) (Option.bind (atI c.vs (Qax c day)) _) _=_
 by_cases h:onE c.err c day f=0
 ·obtain ⟨_,_,i1,i2⟩:=onE_zero h
  have hat:atI c.vs (Qax c day)=some (verF c day):=by
   unfold atI verF
   rw [if_pos i1,List.getD_eq_getElem?_getD,List.getElem?_eq_getElem (by omega)];rfl
  rw [if_pos h,decide_eq_true h,hat];rfl
 ·rw [if_neg h,decide_eq_false h];rfl
theorem endQ_on {c:Code} {day f:Int} {l:List Room} (h:endE c day f l=0):onE c.err c day f=0:=by
 unfold endE withE at h
 exact (Qcr (by decide) h).1
theorem Qdv {e n:Int} {b:Bool} (h:e≠0):failE e b n=e:=if_neg fun k=>h k.1
theorem at_no {q:T_question} {i:Int} (h:q.e_≠0):Qah q i=some q:=by
 unfold Qah
 rw [Qby,Qdv h]
 simp only [Option.bind_some]
 rw [decide_eq_false h];cases q;rfl
theorem at_out {q:T_question} {i:Int} (h:q.e_=0) (hw:Qae i 0 ((q.c_.vs.length:Int) - 1)=false):Qah q i=some (T_question.mk q.c_ q.version_ q.index_ 42):=by
 unfold Qah
 rw [Qby,h,hw];rfl
theorem at_in {q:T_question} {i:Int} {y:Version} (h:q.e_=0) (hw:Qae i 0 ((q.c_.vs.length:Int) - 1)=true) (hy:atI q.c_.vs i=some y):Qah q i=some (T_question.mk q.c_ y i 0):=by
 unfold Qah
 rw [Qby,h,hw]
 have e:failE 0 (!true) 42=0:=rfl
 simp only [Option.bind_some,e,decide_true,cond_true]
 rw [hy];rfl
theorem within_bd {n lo hi:Int} (h:Qae n lo hi=true):lo≤n∧n≤hi:=by
 unfold Qae at h
 rw [Bool.and_eq_true,decide_eq_true_eq,decide_eq_true_eq] at h
 exact h
theorem at_ver {c:Code} {i:Int} (hw:Qae i 0 ((c.vs.length:Int) - 1)=true):∃ y,atI c.vs i=some y∧c.vs[i.toNat]? =some y:=by
 have b:=within_bd hw
 refine ⟨c.vs[i.toNat]'(by omega),?_,List.getElem?_eq_getElem _⟩
 unfold atI
 rw [if_pos b.1,List.getElem?_eq_getElem]
theorem group_eq (c:Code) (i:Int) (r:Room):∃ a,Qcy c i r=some a∧Qdc c i r=some a:=by
 have hc:Qcc c=some (T_question.mk c noQ (-1) c.err):=rfl
 unfold Qcy Qdc
 rw [hc]
 simp only [Option.bind_some]
 by_cases h1:c.err=0
 ·rw [decide_eq_true h1]
  cases h2:Qae i 0 ((c.vs.length:Int) - 1) with
  | false=>
    rw [at_out (q:=T_question.mk c noQ (-1) c.err) h1 h2]
    simp only [Option.bind_some,Qby]
    rw [Qdv (by decide)]
    exact ⟨_,rfl,rfl⟩
  | true=>
    obtain ⟨y,hy,hy2⟩:=at_ver h2
    rw [at_in (q:=T_question.mk c noQ (-1) c.err) h1 h2 hy,hy]
    simp only [Option.bind_some,Qby]
    by_cases h3:roomE r=0
    ·have hg:Qbf y r=some ((grp y r).1,(grp y r).2):=ckT (Qdq (err_ver h1 hy2))
     have hg2:Qbn y r=some ((grp y r).1,(grp y r).2):=ckT (Qdq (err_ver h1 hy2))
     rw [decide_eq_true h3]
     show ∃ a,Option.bind (Qbf y r) _=_∧Option.bind (Qbn y r) _=_
     rw [hg,hg2]
     exact ⟨_,rfl,rfl⟩
    ·rw [decide_eq_false h3]
     exact ⟨_,rfl,rfl⟩
 ·rw [at_no (q:=T_question.mk c noQ (-1) c.err) h1]
  simp only [Option.bind_some,Qby]
  rw [Qdv h1,decide_eq_false h1]
  exact ⟨_,rfl,rfl⟩
def movF (y z:Version):List Room→List Int→List Int
 | [],d=>d
 | r :: l,d=>if (grp y r).1=(grp z r).1 then movF y z l d else movF y z l (d ++ [r.id])
theorem cMov_l1 {a b:T_question} (ha:a.version_.puts.all Put.ok=true) (hb:b.version_.puts.all Put.ok=true):∀ (l:List Room) (d:List Int) (k:Nat),d.length+l.length≤20→Qar b a l d k=some (movF a.version_ b.version_ l d)
 | [],d,k,_=>rfl
 | r :: l,d,k,h=>by
   have h':d.length+(l.length+1)≤20:=h
   have g1:Qbf a.version_ r=some ((grp a.version_ r).1,(grp a.version_ r).2):=ckT ha
   have g2:Qbf b.version_ r=some ((grp b.version_ r).1,(grp b.version_ r).2):=ckT hb
   rw [Qar,g1,g2,movF]
   simp only [Option.bind_some]
   by_cases e:(grp a.version_ r).1=(grp b.version_ r).1
   ·rw [decide_eq_true e,if_pos e]
    exact cMov_l1 ha hb l d (k+1) (by omega)
   ·rw [decide_eq_false e,if_neg e]
    show ck _ _=_
    rw [ckT (decide_eq_true (by omega))]
    exact cMov_l1 ha hb l _ (k+1) (by simp only [List.length_append,List.length_singleton];omega)
theorem rMov_l1 {c:Code} {i j:Int} {y z:Version} (hy:atI c.vs i=some y) (hz:atI c.vs j=some z) (ha:y.puts.all Put.ok=true) (hb:z.puts.all Put.ok=true):∀ (l:List Room) (d:List Int) (k:Nat),d.length+l.length≤20→Qaw c i j l d k=some (movF y z l d)
 | [],d,k,_=>rfl
 | r :: l,d,k,h=>by
   have h':d.length+(l.length+1)≤20:=h
   have g1:Qbn y r=some ((grp y r).1,(grp y r).2):=ckT ha
   have g2:Qbn z r=some ((grp z r).1,(grp z r).2):=ckT hb
   rw [Qaw,hy,hz]
   simp only [Option.bind_some]
   rw [g1,g2,movF]
   simp only [Option.bind_some]
   by_cases e:(grp y r).1=(grp z r).1
   ·rw [decide_eq_true e,if_pos e]
    exact rMov_l1 hy hz ha hb l d (k+1) (by omega)
   ·rw [decide_eq_false e,if_neg e]
    show ck _ _=_
    rw [ckT (decide_eq_true (by omega))]
    exact rMov_l1 hy hz ha hb l _ (k+1) (by simp only [List.length_append,List.length_singleton];omega)
theorem moved_eq (c:Code) (i j:Int) (l:List Room):∃ a,Qcw c i j l=some a∧Qdg c i j l=some a:=by
 have hc:Qcc c=some (T_question.mk c noQ (-1) c.err):=rfl
 unfold Qcw Qdg
 rw [hc]
 simp only [Option.bind_some]
 by_cases h1:c.err=0
 ·rw [decide_eq_true h1]
  cases h2:Qae i 0 ((c.vs.length:Int) - 1) with
  | false=>
    rw [at_out (q:=T_question.mk c noQ (-1) c.err) h1 h2]
    cases h3:Qae j 0 ((c.vs.length:Int) - 1) with
    | false=>
      rw [at_out (q:=T_question.mk c noQ (-1) c.err) h1 h3]
      simp only [Option.bind_some,Qby,with_eq]
      rw [Qdv (by decide)]
      unfold withE
      rw [Qdv (by decide)]
      exact ⟨_,rfl,rfl⟩
    | true=>
      obtain ⟨z,hz,hz2⟩:=at_ver h3
      rw [at_in (q:=T_question.mk c noQ (-1) c.err) h1 h3 hz]
      simp only [Option.bind_some,Qby,with_eq]
      rw [Qdv (by decide)]
      unfold withE
      rw [Qdv (by decide)]
      exact ⟨_,rfl,rfl⟩
  | true=>
    obtain ⟨y,hy,hy2⟩:=at_ver h2
    rw [at_in (q:=T_question.mk c noQ (-1) c.err) h1 h2 hy]
    cases h3:Qae j 0 ((c.vs.length:Int) - 1) with
    | false=>
      rw [at_out (q:=T_question.mk c noQ (-1) c.err) h1 h3]
      simp only [Option.bind_some,Qby,with_eq]
      exact ⟨([],42),rfl,rfl⟩
    | true=>
      obtain ⟨z,hz,hz2⟩:=at_ver h3
      rw [at_in (q:=T_question.mk c noQ (-1) c.err) h1 h3 hz]
      simp only [Option.bind_some,Qby,with_eq]
      show ∃ a,cond (!decide (withE 0 l=0)) _ _=_∧_
      by_cases h4:Qcp l=0
      ·have hw:withE 0 l=0:=by unfold withE;rw [h4];rfl
       have hl:=rooms20 h4
       rw [decide_eq_true hw,decide_eq_true h4]
       show ∃ a,Option.bind (Qar (T_question.mk c z j 0) (T_question.mk c y i (withE 0 l)) l [] 0) _=_∧Option.bind (Qaw c i j l [] 0) _=_
       rw [cMov_l1 (a:=T_question.mk c y i (withE 0 l)) (b:=T_question.mk c z j 0) (Qdq (err_ver h1 hy2)) (Qdq (err_ver h1 hz2)) l [] 0 (by simp only [List.length_nil];omega),rMov_l1 hy hz (Qdq (err_ver h1 hy2)) (Qdq (err_ver h1 hz2)) l [] 0 (by simp only [List.length_nil];omega)]
       exact ⟨_,rfl,rfl⟩
      ·have hw:withE 0 l=40:=by unfold withE;rw [decide_eq_false h4];rfl
       rw [hw,decide_eq_false h4]
       refine ⟨([],40),?_,rfl⟩
       show some (([]:List Int),withE (failE 0 (!decide ((0:Int)=0)) 0) l)=_
       have e:failE 0 (!decide ((0:Int)=0)) 0=0:=rfl
       rw [e,hw]
 ·rw [at_no (q:=T_question.mk c noQ (-1) c.err) h1]
  simp only [Option.bind_some]
  rw [at_no (q:=T_question.mk c noQ (-1) c.err) h1]
  simp only [Option.bind_some,Qby,with_eq]
  rw [Qdv h1]
  unfold withE
  rw [Qdv h1,decide_eq_false h1]
  exact ⟨_,rfl,rfl⟩
theorem plan_same (p:T_Plan):Qbt p p=some true:=by
 unfold Qbt
 simp only [same_eq,decide_true,Option.bind_some,Bool.and_true,Bool.not_true,cond_false,cond_true]
theorem compile_eq (c:Code) (day:Int) (l:List Room):∃ a,Qbr c day l=some a∧Qcd c day l=some a:=by
 have hc:Qcc c=some (T_question.mk c noQ (-1) c.err):=rfl
 unfold Qbr Qcd
 rw [hc]
 simp only [Option.bind_some,onQ_eq]
 by_cases h:endE c day 0 l=0
 ·have hz:=endE_zero h
  have hw:withE 0 l=0:=by
   have h':=h
   unfold endE at h'
   rw [endQ_on h] at h'
   exact h'
  have hp:Qbq (T_question.mk c (verF c day) (Qax c day) (withE (onE c.err c day 0) l)) l=some (planD (verF c day) (Qax c day) l):=ckT (by rw [decide_eq_true hz.len,hz.puts];rfl)
  rw [if_pos (endQ_on h),with_eq,askI_eq h,endE_ver h,decide_eq_true h]
  simp only [Option.bind_some]
  rw [hp,plan_eq h,endQ_on h,hw]
  exact ⟨_,rfl,rfl⟩
 ·have hE:∀ v i,Qal (T_question.mk c v i (onE c.err c day 0)) l=some (T_question.mk c v i (endE c day 0 l)):=fun v i=>by rw [with_eq];rfl
  by_cases h2:onE c.err c day 0=0
  ·rw [if_pos h2,hE,decide_eq_false h]
   simp only [Option.bind_some]
   rw [decide_eq_false h]
   exact ⟨_,rfl,rfl⟩
  ·rw [if_neg h2,hE,decide_eq_false h]
   simp only [Option.bind_some]
   rw [decide_eq_false h]
   exact ⟨_,rfl,rfl⟩
theorem plans_l1 (c:Code) (v:Nat→Int):∀ (l:List Room) (k:Nat),Qaq c v l k=some (Sum.inr ())
 | [],_=>rfl
 | r :: l,k=>by
   obtain ⟨a,h1,h2⟩:=group_eq c (v 0) r
   rw [Qaq,h1,h2]
   simp only [Option.bind_some,decide_true,Bool.not_true,cond_false]
   exact plans_l1 c v l (k+1)
theorem codePlans_true (c:Code) (q:T_Ask) (v:Nat→Int):Qcb c q v=some true:=by
 unfold Qcb
 obtain ⟨a,h1,h2⟩:=compile_eq c q.Day q.Rooms
 obtain ⟨b,h3,h4⟩:=moved_eq c (v 0) (v 1) q.Rooms
 rw [h1,h2,h3,h4]
 simp only [Option.bind_some,plan_same,same_eq,decide_true,Bool.not_true,cond_false,plans_l1]
end Go.Proofs.YtjflgemfeofciaaGreatDoor
