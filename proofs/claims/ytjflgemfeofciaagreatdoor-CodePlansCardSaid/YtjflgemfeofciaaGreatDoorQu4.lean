import Derived.Test.YtjflgemfeofciaaGreatDoorMU2
namespace Go.Proofs.YtjflgemfeofciaaGreatDoor
open Go Go.Ev
set_option linter.unusedVariables false
set_option linter.unusedSimpArgs false
set_option maxRecDepth 10000
def fiF (day:Int):List Version→Nat→Int→Int
 | [],_,out=>out
 | v :: l,k,out=>fiF day l (k+1) (if v.fr≤day then (k:Int) else out)
theorem fiF_bd (day:Int):∀ (l:List Version) (k:Nat) (out:Int), -1≤out→out < k→ -1≤fiF day l k out∧fiF day l k out < (k+l.length:Nat)
 | [],k,out,h1,h2=>by simp only [fiF,List.length_nil];omega
 | v :: l,k,out,h1,h2=>by
   unfold fiF
   have:=fiF_bd day l (k+1) (if v.fr≤day then (k:Int) else out) (by split <;> omega) (by split <;> omega)
   simp only [List.length_cons]
   omega
def Qax (c:Code) (day:Int):Int:=fiF day c.vs 0 (-1)
theorem forceI_bd (c:Code) (day:Int): -1≤Qax c day∧Qax c day < c.vs.length:=by
 have:=fiF_bd day c.vs 0 (-1) (by omega) (by omega)
 unfold Qax
 omega
theorem inForce_ok (c:Code) (day:Int) (cs:List V) (g:G) (h:CodeR g cs c):Fv Tryz.prog natS (.f 131 [] []) [.agg cs,.i .i64 day] g (.i .i64 (Qax c day)):=by
 obtain ⟨v,rfl,h⟩:=h
 refine Fw.fv ?_
 have hlen:=h.1
 refine Fw.enter (N:=23) (al:=[(1,_),(0,_)]) Tryz.func131 (by kernel_rfl) (by kernel_rfl) rfl rfl rfl rfl ?_
 intro B
 refine .seq<|.region rfl<|.box .no rfl rfl rfl rfl fun b1=>.z rfl rfl<|.nil<|sq_n<|.seq<|.region rfl<|.z rfl rfl<|.nil<|sq_n<|.seq<|.seq<|.region rfl<|.q (.fa rfl Qbu)<|.w (.s rfl .hd a_22 rfl)<|.q (.lenR rfl rfl rfl e_22 h)<|.m rfl rfl<|.nil<|sq_n<|.block<|.loopx (α:=Nat × Int) [(1,_),(9,_),(10,_)] _ (fun fx x=>(5,.i .i64 x.2) :: (11,.i .i64 (x.1:Int)) :: fx) (fun mx _=>mx) (fun x g'=>x.1≤c.vs.length∧fiF day (c.vs.drop x.1) x.1 x.2=Qax c day) (fun x=>c.vs.length - x.1) ((0, -1)) ⟨rfl,rfl,rfl,rfl,rfl,trivial⟩ (List.Sublist.refl _) ⟨by simp,rfl⟩ ?_
 intro x g3 hle2 hJ
 obtain ⟨hk,hg⟩:=hJ
 replace h:=h.mono VersionR.mono hle2
 obtain ⟨k,out⟩:=x
 simp only at hk hg
 refine .seq<|.region rfl<|.b rfl rfl rfl rfl<|.nil<|sq_n<|.seq<|.cond rfl (fun h4=>?_) (fun h4=>?_)
 ·have kh4:=h4;(try simp only [bk] at kh4)
  refine .skip<|sq_n<|.seq<|.block<|.seq<|.region rfl<|.m rfl rfl<|.ixn .no rfl rfl h rfl e_22 (by omega) ?_
  intro b5 o5 cs5 y5 hy5 hq5 hr5
  obtain ⟨p5,lv5,rfl,hp5,hl5⟩:=hr5
  refine .w (.pa 0 (vs:=[_,_,_,_,_,_,_,_,_,_,_,_]) rfl hq5 rfl a_97 s_97 rfl rfl)<|.alloc .no rfl z_97 fun b6=>.z rfl rfl<|.st (cs':=[_,_,_,_,_,_,_,_,_,_,_,_]) .no rfl rfl rfl rfl s_97 rfl rfl .hd rfl (Qa rfl (Qa hp5.one (Qa (hl5 0 (by decide)).one (Qa (hl5 1 (by decide)).one (Qa (hl5 2 (by decide)).one (Qa (hl5 3 (by decide)).one (Qa (hl5 4 (by decide)).one (Qa (hl5 5 (by decide)).one (Qa (hl5 6 (by decide)).one (Qa (hl5 7 (by decide)).one (Qa (hl5 8 (by decide)).one (Qa (hl5 9 (by decide)).one rfl))))))))))))<|.nil<|sq_n<|.seq<|.region rfl<|.q (.fa rfl f_97_0)<|.w (.s rfl .hd a_3 rfl)<|.m rfl rfl<|.b rfl rfl rfl rfl<|.nil<|sq_n<|.cond rfl (fun h7=>?_) (fun h7=>?_)
  ·have kh7:=h7;(try simp only [bk] at kh7)
   refine .region rfl<|.m rfl rfl<|.z rfl rfl<|.nil<|bq_n<|sq_n<|.region rfl<|.q (.inc1 rfl rfl (by omega))<|.m rfl rfl<|.nil<|Qac ((k+1,_)) ⟨rfl,rfl,rfl,rfl,rfl,trivial⟩ (.cons _ (List.Sublist.refl _)) (Le.refl _) ?_ ?_
   ·refine ⟨by simp only;omega,?_⟩;rw [←hg,dc (k:=k) ‹_›];simp only [fiF];first | rw [if_pos (by omega)] | rw [if_neg (by omega)]
   ·simp only;omega
  ·have kh7:=h7;(try simp only [bk] at kh7)
   refine .skip<|bq_n<|sq_n<|.region rfl<|.q (.inc1 rfl rfl (by omega))<|.m rfl rfl<|.nil<|Qac ((k+1,_)) ⟨rfl,rfl,rfl,rfl,rfl,trivial⟩ (.cons _ (List.Sublist.refl _)) (Le.refl _) ?_ ?_
   ·refine ⟨by simp only;omega,?_⟩;rw [←hg,dc (k:=k) ‹_›];simp only [fiF];first | rw [if_pos (by omega)] | rw [if_neg (by omega)]
   ·simp only;omega
 ·have kh4:=h4;(try simp only [bk] at kh4)
  refine .exit<|sq_e<|lq_e<|bq_x rfl<|sq_n<|.seq<|.region rfl<|.m rfl rfl<|.z rfl rfl<|.nil<|sq_n<|.ret<|Qaa hle2 (.tmp rfl .nil) rfl ?_
  rw [←hg,dn (by omega)];rfl
def failE (e:Int) (is:Bool) (en:Int):Int:=if e=0∧is=true then en else e
def byE (e f:Int):Int:=failE e (!decide (f=0) && !decide (f=1)) 1
def withE (e:Int) (l:List Room):Int:=failE e (!decide (Qcp l=0)) 40
def Version.none:Version:=⟨0,[],fun _=>[]⟩
def QR (g:G) (c:Code) (ver:Version) (idx e:Int) (cs:List V):Prop:=∃ (vv p:V) (lv:Nat→V),cs=[.s c.name,vv,.i .i64 ver.fr,p,lv 0,lv 1,lv 2,lv 3,lv 4,lv 5,lv 6,lv 7,lv 8,lv 9,.i .i64 idx,.i .i64 e]∧RS VersionR 12 g vv c.vs∧RS PutR 2 g p ver.puts∧∀ k,k < 10→RS PieceR 3 g (lv k) (ver.ln k)
def onE (e:Int) (c:Code) (day f:Int):Int:=failE (byE (failE e (!Qae day 0 100000) 6) f) (decide (Qax c day < 0)) 45
theorem Qcr {e en:Int} {is:Bool} (hen:en≠0) (h:failE e is en=0):e=0∧is=false:=by
 unfold failE at h
 split at h
 ·omega
 ·rename_i h2
  refine ⟨h,?_⟩
  cases is with
  | false=>rfl
  | true=>exact absurd ⟨h,rfl⟩ h2
theorem on_ix {c:Code} {e day f:Int} (h:onE e c day f=0):0≤Qax c day∧Qax c day < c.vs.length:=by
 have:=(Qcr (by decide) h).2
 have h2:=forceI_bd c day
 simp only [decide_eq_false_iff_not] at this
 omega
def onV (e:Int) (c:Code) (day f:Int) (ver:Version):Version:=if onE e c day f=0 then c.vs.getD (Qax c day).toNat .none else ver
def onX (e:Int) (c:Code) (day f idx:Int):Int:=if onE e c day f=0 then Qax c day else idx
theorem onV_yes {e:Int} {c:Code} {day f:Int} {ver y:Version} (h:onE e c day f=0) (hy:c.vs[(Qax c day).toNat]? =some y):onV e c day f ver=y:=by unfold onV;rw [if_pos h,List.getD_eq_getElem?_getD,hy];rfl
theorem onX_yes {e:Int} {c:Code} {day f idx:Int} (h:onE e c day f=0):onX e c day f idx=Qax c day:=if_pos h
def atE (e:Int) (c:Code) (i:Int):Int:=failE e (!Qae i 0 (c.vs.length - 1)) 42
end Go.Proofs.YtjflgemfeofciaaGreatDoor
