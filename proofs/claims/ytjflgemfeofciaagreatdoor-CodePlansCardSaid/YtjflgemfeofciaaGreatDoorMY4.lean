import Derived.Test.YtjflgemfeofciaaGreatDoorEn4
namespace Go.Proofs.YtjflgemfeofciaaGreatDoor
open Go Go.Ev
set_option linter.unusedVariables false
set_option linter.unusedSimpArgs false
set_option maxRecDepth 10000
end Go.Proofs.YtjflgemfeofciaaGreatDoor
namespace Go.Proofs.YtjflgemfeofciaaGreatDoor
open Go Go.Ev
set_option linter.unusedVariables false
set_option linter.unusedSimpArgs false
set_option maxRecDepth 10000
theorem rforce_ok (c:Code) (day:Int) (cs:List V) (g:G) (h:CodeR g cs c):Fv Tryz.prog natS (.f 102 [] []) [.agg cs,.i .i64 day] g (.i .i64 (Qax c day)):=by
 obtain ⟨v,rfl,h⟩:=h
 refine Fw.fv ?_
 have hlen:=h.1
 refine Fw.enter (N:=24) (al:=[(1,_),(0,_)]) Tryz.func102 (by kernel_rfl) (by kernel_rfl) rfl rfl rfl rfl ?_
 intro B
 refine .seq<|.region rfl<|.box .no rfl rfl rfl rfl fun b1=>.z rfl rfl<|.nil<|sq_n<|.seq<|.region rfl<|.z rfl rfl<|.nil<|sq_n<|.seq<|.seq<|.region rfl<|.z rfl rfl<|.nil<|sq_n<|.block<|.loopx (α:=Nat × Int) [(1,_),(2,_)] _ (fun fx x=>(5,.i .i64 x.2) :: (6,.i .i64 (x.1:Int)) :: fx) (fun mx _=>mx) (fun x g'=>x.1≤c.vs.length∧fiF day (c.vs.drop x.1) x.1 x.2=Qax c day) (fun x=>c.vs.length - x.1) ((0, -1)) ⟨rfl,rfl,rfl,rfl,trivial⟩ (List.Sublist.refl _) ⟨by simp,rfl⟩ ?_
 intro x g3 hle2 hJ
 obtain ⟨hk,hg⟩:=hJ
 replace h:=h.mono VersionR.mono hle2
 obtain ⟨k,out⟩:=x
 simp only at hk hg
 refine .seq<|.seq<|.region rfl<|.m rfl rfl<|.q (.fa rfl Qbu)<|.w (.s rfl .hd a_22 rfl)<|.q (.lenR rfl rfl rfl e_22 h)<|.b rfl rfl rfl rfl<|.nil<|sq_n<|.cond rfl (fun h4=>?_) (fun h4=>?_)
 ·have kh4:=h4;(try simp only [bk] at kh4)
  refine .skip<|sq_n<|.seq<|.block<|.seq<|.region rfl<|.q (.fa rfl Qbu)<|.w (.s rfl .hd a_22 rfl)<|.m rfl rfl<|.ixn .no rfl rfl h rfl e_22 (by omega) ?_
  intro b5 o5 cs5 y5 hy5 hq5 hr5
  obtain ⟨p5,lv5,rfl,hp5,hl5⟩:=hr5
  refine .q (.fa rfl f_97_0)<|.w (.ps 0 rfl hq5 rfl a_3 rfl)<|.m rfl rfl<|.b rfl rfl rfl rfl<|.nil<|sq_n<|.cond rfl (fun h6=>?_) (fun h6=>?_)
  ·have kh6:=h6;(try simp only [bk] at kh6)
   refine .region rfl<|.m rfl rfl<|.z rfl rfl<|.nil<|bq_n<|sq_n<|.region rfl<|.m rfl rfl<|.q (.inc1 rfl rfl (by omega))<|.z rfl rfl<|.nil<|Qac ((k+1,_)) ⟨rfl,rfl,rfl,rfl,trivial⟩ (List.Sublist.refl _) (Le.refl _) ?_ ?_
   ·refine ⟨by simp only;omega,?_⟩;rw [←hg,dc (k:=k) ‹_›];simp only [fiF];first | rw [if_pos (by omega)] | rw [if_neg (by omega)]
   ·simp only;omega
  ·have kh6:=h6;(try simp only [bk] at kh6)
   refine .skip<|bq_n<|sq_n<|.region rfl<|.m rfl rfl<|.q (.inc1 rfl rfl (by omega))<|.z rfl rfl<|.nil<|Qac ((k+1,_)) ⟨rfl,rfl,rfl,rfl,trivial⟩ (List.Sublist.refl _) (Le.refl _) ?_ ?_
   ·refine ⟨by simp only;omega,?_⟩;rw [←hg,dc (k:=k) ‹_›];simp only [fiF];first | rw [if_pos (by omega)] | rw [if_neg (by omega)]
   ·simp only;omega
 ·have kh4:=h4;(try simp only [bk] at kh4)
  refine .exit<|sq_e<|lq_e<|bq_x rfl<|sq_n<|.seq<|.region rfl<|.m rfl rfl<|.z rfl rfl<|.nil<|sq_n<|.ret<|Qaa hle2 (.tmp rfl .nil) rfl ?_
  rw [←hg,dn (by omega)];rfl
theorem w01 {f:Int} (h:Qae f 0 1=true):(!decide (f=0) && !decide (f=1))=false:=by
 unfold Qae at h
 simp only [Bool.and_eq_true,decide_eq_true_eq] at h
 by_cases a:f=0
 ·simp [a]
 ·simp [show f=1 by omega]
theorem w01n {f:Int} (h:Qae f 0 1=false):(!decide (f=0) && !decide (f=1))=true:=by
 by_cases a:f=0
 ·subst a;cases h
 ·by_cases b:f=1
  ·subst b;cases h
  ·simp [a,b]
theorem endE_err {c:Code} {day f:Int} {l:List Room} (h: ¬ c.err=0):endE c day f l=c.err:=by unfold endE withE onE byE failE;simp [h]
theorem endE_day {c:Code} {day f:Int} {l:List Room} (h:c.err=0) (h2:Qae day 0 100000=false):endE c day f l=6:=by unfold endE withE onE byE failE;simp [h,h2]
theorem endE_f {c:Code} {day f:Int} {l:List Room} (h:c.err=0) (h2:Qae day 0 100000=true) (h3:Qae f 0 1=false):endE c day f l=1:=by unfold endE withE onE byE failE;rw [w01n h3];simp [h,h2]
theorem endE_v {c:Code} {day f:Int} {l:List Room} (h:c.err=0) (h2:Qae day 0 100000=true) (h3:Qae f 0 1=true) (h4:Qax c day < 0):endE c day f l=45:=by unfold endE withE onE byE failE;rw [w01 h3];simp [h,h2,h4]
theorem endE_r {c:Code} {day f:Int} {l:List Room} (h:c.err=0) (h2:Qae day 0 100000=true) (h3:Qae f 0 1=true) (h4: ¬ Qax c day < 0) (h5: ¬ Qcp l=0):endE c day f l=40:=by unfold endE withE onE byE failE;rw [w01 h3];simp [h,h2,h5];omega
theorem endE_ok {c:Code} {day f:Int} {l:List Room} (h:c.err=0) (h2:Qae day 0 100000=true) (h3:Qae f 0 1=true) (h4: ¬ Qax c day < 0) (h5:Qcp l=0):endE c day f l=0:=by unfold endE withE onE byE failE;rw [w01 h3];simp [h,h2,h5];omega
def askI (c:Code) (day f:Int) (l:List Room):Int:=if endE c day f l=0 then Qax c day else 0
theorem asked_no {c:Code} {day f:Int} {l:List Room} {e:Int} (h:endE c day f l=e) (he:e≠0):V.tup [.i .i64 0,.i .i64 e]= .tup [.i .i64 (askI c day f l),.i .i64 (endE c day f l)]:=by
 unfold askI;rw [h,if_neg he]
theorem asked_ok (c:Code) (day f:Int) (l:List Room) (w:V) (cs:List V) (g:G) (h:CodeR g cs c) (hr:RS RoomR 6 g w l):Fv Tryz.prog natS (.f 74 [] []) [.agg cs,.i .i64 day,.i .i64 f,w] g (.tup [.i .i64 (askI c day f l),.i .i64 (endE c day f l)]):=by
 obtain ⟨v,rfl,h⟩:=h
 refine Fw.fv ?_
 refine Fw.enter (N:=32) (al:=[(3,_),(2,_),(1,_),(0,_)]) Tryz.func74 (by kernel_rfl) (by kernel_rfl) rfl rfl rfl rfl ?_
 intro B
 refine .seq<|.region rfl<|.box .no rfl rfl rfl rfl fun b1=>.z rfl rfl<|.z rfl rfl<|.nil<|sq_n<|.seq<|.region rfl<|.w (.a (vs:=[_,_]) rfl .hd a_24 s_24 rfl rfl)<|.callV .no rfl rfl rfl (rCheck_ok _ _ _ ⟨_,rfl,h⟩)<|.z rfl rfl<|.nil<|sq_n<|.seq<|.seq<|.region rfl<|.m rfl rfl<|.b rfl rfl rfl rfl<|.nil<|sq_n<|.cond rfl (fun h2=>?_) (fun h2=>?_)
 ·have kh2:=h2;(try simp only [bk] at kh2)
  refine .seq<|.region rfl<|.m rfl rfl<|.z rfl rfl<|.z rfl rfl<|.nil<|sq_n<|.ret<|sq_r<|Qaa (Le.refl _) (.tmp rfl (.tmp rfl .nil)) rfl ?_
  first
   | exact asked_no (endE_err ‹_›) ‹_›
 ·have kh2:=h2;(try simp only [bk] at kh2)
  refine .skip<|sq_n<|.seq<|.seq<|.region rfl<|.m rfl rfl<|.callV .no rfl rfl rfl (in_ok _ _ _ _)<|.q (.not rfl)<|.nil<|sq_n<|.cond rfl (fun h3=>?_) (fun h3=>?_)
  ·have kh3:=h3;(try simp only [bk] at kh3)
   refine .seq<|.region rfl<|.z rfl rfl<|.z rfl rfl<|.nil<|sq_n<|.ret<|sq_r<|Qaa (Le.refl _) (.tmp rfl (.tmp rfl .nil)) rfl ?_
   first
    | exact asked_no (endE_day ‹_› ‹_›) (by decide)
  ·have kh3:=h3;(try simp only [bk] at kh3)
   refine .skip<|sq_n<|.seq<|.seq<|.region rfl<|.m rfl rfl<|.callV .no rfl rfl rfl (in_ok _ _ _ _)<|.q (.not rfl)<|.nil<|sq_n<|.cond rfl (fun h4=>?_) (fun h4=>?_)
   ·have kh4:=h4;(try simp only [bk] at kh4)
    refine .seq<|.region rfl<|.z rfl rfl<|.z rfl rfl<|.nil<|sq_n<|.ret<|sq_r<|Qaa (Le.refl _) (.tmp rfl (.tmp rfl .nil)) rfl ?_
    first
     | exact asked_no (endE_f ‹_› ‹_› ‹_›) (by decide)
   ·have kh4:=h4;(try simp only [bk] at kh4)
    refine .skip<|sq_n<|.seq<|.region rfl<|.w (.a (vs:=[_,_]) rfl .hd a_24 s_24 rfl rfl)<|.m rfl rfl<|.callV .no rfl rfl rfl (rforce_ok _ _ _ _ ⟨_,rfl,h⟩)<|.z rfl rfl<|.nil<|sq_n<|.seq<|.seq<|.region rfl<|.m rfl rfl<|.b rfl rfl rfl rfl<|.nil<|sq_n<|.cond rfl (fun h5=>?_) (fun h5=>?_)
    ·have kh5:=h5;(try simp only [bk] at kh5)
     refine .seq<|.region rfl<|.z rfl rfl<|.z rfl rfl<|.nil<|sq_n<|.ret<|sq_r<|Qaa (Le.refl _) (.tmp rfl (.tmp rfl .nil)) rfl ?_
     first
      | exact asked_no (endE_v ‹_› ‹_› ‹_› ‹_›) (by decide)
    ·have kh5:=h5;(try simp only [bk] at kh5)
     refine .skip<|sq_n<|.seq<|.seq<|.region rfl<|.m rfl rfl<|.callV .no rfl rfl rfl (rCheckRooms_ok _ _ _ hr)<|.b rfl rfl rfl rfl<|.nil<|sq_n<|.cond rfl (fun h6=>?_) (fun h6=>?_)
     ·have kh6:=h6;(try simp only [bk] at kh6)
      refine .seq<|.region rfl<|.z rfl rfl<|.z rfl rfl<|.nil<|sq_n<|.ret<|sq_r<|Qaa (Le.refl _) (.tmp rfl (.tmp rfl .nil)) rfl ?_
      first
       | exact asked_no (endE_r ‹_› ‹_› ‹_› (by omega) ‹_›) (by decide)
     ·have kh6:=h6;(try simp only [bk] at kh6)
      refine .skip<|sq_n<|.seq<|.region rfl<|.m rfl rfl<|.z rfl rfl<|.z rfl rfl<|.nil<|sq_n<|.ret<|Qaa (Le.refl _) (.tmp rfl (.tmp rfl .nil)) rfl ?_
      first
       | (have h0:=endE_ok (c:=c) (day:=day) (f:=f) (l:=l) ‹_› ‹_› ‹_› (by omega) ‹_›
          unfold askI
          rw [if_pos h0,h0])
end Go.Proofs.YtjflgemfeofciaaGreatDoor
namespace Go.Proofs.YtjflgemfeofciaaGreatDoor
open Go Go.Ev
set_option linter.unusedVariables false
set_option linter.unusedSimpArgs false
set_option maxRecDepth 10000
end Go.Proofs.YtjflgemfeofciaaGreatDoor
