import Derived.Test.YtjflgemfeofciaaGreatDoorMU2
namespace Go.Proofs.YtjflgemfeofciaaGreatDoor
open Go Go.Ev
set_option linter.unusedVariables false
set_option linter.unusedSimpArgs false
set_option maxRecDepth 10000
def fiF (day:Int):List Version→Nat→Int→Int
 | [],_,out=>out
 | v :: l,k,out=>fiF day l (k+1) (if v.fr≤day then (k:Int) else out)
theorem fiF_bd (day:Int):∀ (l:List Version) (k:Nat) (out:Int), -1≤out→out < k→ -1≤fiF day l k out∧fiF day l k out < (k+l.length:Nat)
 | [],k,out,h1,h2=>by simp only [fiF,List.length_nil];omega
 | v :: l,k,out,h1,h2=>by
  unfold fiF
  have:=fiF_bd day l (k+1) (if v.fr≤day then (k:Int) else out) (by split <;> omega) (by split <;> omega)
  simp only [List.length_cons]
  omega
def Qbc (c:Code) (day:Int):Int:=fiF day c.vs 0 (-1)
theorem forceI_bd (c:Code) (day:Int): -1≤Qbc c day∧Qbc c day < c.vs.length:=by
 have:=fiF_bd day c.vs 0 (-1) (by omega) (by omega)
 unfold Qbc
 omega
theorem inForce_ok (c:Code) (day:Int) (cs:List V) (g:G) (h:CodeR g cs c):Fv Tryz.prog natS (.f 131 [] []) [.agg cs,.i .i64 day] g (.i .i64 (Qbc c day)):=by
 obtain ⟨v,rfl,h⟩:=h
 refine Fw.fv ?_
 have hlen:=h.1
 refine Fw.enter (N:=23) (al:=[(1,_),(0,_)]) Tryz.func131 (by kernel_rfl) (by kernel_rfl) rfl rfl rfl rfl ?_
 intro B
 refine .seq<|.region rfl<|.box .no rfl rfl rfl rfl fun b1=>.z rfl rfl<|.nil<|sq_n<|.seq<|.region rfl<|.z rfl rfl<|.nil<|sq_n<|.seq<|.seq<|.region rfl<|.q (.fa rfl Qdl)<|.w (.s rfl .hd a_22 rfl)<|.q (.lenR rfl rfl rfl e_22 h)<|.m rfl rfl<|.nil<|sq_n<|.block<|.loopx (α:=Nat × Int) [(1,_),(9,_),(10,_)] _ (fun fx x=>(5,.i .i64 x.2) :: (11,.i .i64 (x.1:Int)) :: fx) (fun mx _=>mx) (fun x g'=>x.1≤c.vs.length∧fiF day (c.vs.drop x.1) x.1 x.2=Qbc c day) (fun x=>c.vs.length - x.1) ((0, -1)) ⟨rfl,rfl,rfl,rfl,rfl,trivial⟩ (List.Sublist.refl _) ⟨by simp,rfl⟩ ?_
 intro x g3 hle2 hJ
 obtain ⟨hk,hg⟩:=hJ
 replace h:=h.mono VersionR.mono hle2
 obtain ⟨k,out⟩:=x
 simp only at hk hg
 refine .seq<|.region rfl<|.b rfl rfl rfl rfl<|.nil<|sq_n<|.seq<|.cond rfl (fun h4=>?_) (fun h4=>?_)
 ·have kh4:=h4;(try simp only [bk] at kh4)
  refine .skip<|sq_n<|.seq<|.block<|.seq<|.region rfl<|.m rfl rfl<|.ixn .no rfl rfl h rfl e_22 (by omega) ?_
  intro b5 o5 cs5 y5 hy5 hq5 hr5
  obtain ⟨p5,lv5,rfl,hp5,hl5⟩:=hr5
  refine .w (.pa 0 (vs:=[_,_,_,_,_,_,_,_,_,_,_,_]) rfl hq5 rfl a_97 s_97 rfl rfl)<|.alloc .no rfl z_97 fun b6=>.z rfl rfl<|.st (cs':=[_,_,_,_,_,_,_,_,_,_,_,_]) .no rfl rfl rfl rfl s_97 rfl rfl .hd rfl (Qa rfl (Qa hp5.one (Qa (hl5 0 (by decide)).one (Qa (hl5 1 (by decide)).one (Qa (hl5 2 (by decide)).one (Qa (hl5 3 (by decide)).one (Qa (hl5 4 (by decide)).one (Qa (hl5 5 (by decide)).one (Qa (hl5 6 (by decide)).one (Qa (hl5 7 (by decide)).one (Qa (hl5 8 (by decide)).one (Qa (hl5 9 (by decide)).one rfl))))))))))))<|.nil<|sq_n<|.seq<|.region rfl<|.q (.fa rfl f_97_0)<|.w (.s rfl .hd a_3 rfl)<|.m rfl rfl<|.b rfl rfl rfl rfl<|.nil<|sq_n<|.cond rfl (fun h7=>?_) (fun h7=>?_)
  ·have kh7:=h7;(try simp only [bk] at kh7)
   refine .region rfl<|.m rfl rfl<|.z rfl rfl<|.nil<|bq_n<|sq_n<|.region rfl<|.q (.inc1 rfl rfl (by omega))<|.m rfl rfl<|.nil<|Qac ((k+1,_)) ⟨rfl,rfl,rfl,rfl,rfl,trivial⟩ (.cons _ (List.Sublist.refl _)) (Le.refl _) ?_ ?_
   ·refine ⟨by simp only;omega,?_⟩;rw [←hg,dc (k:=k) ‹_›];simp only [fiF];first | rw [if_pos (by omega)] | rw [if_neg (by omega)]
   ·simp only;omega
  ·have kh7:=h7;(try simp only [bk] at kh7)
   refine .skip<|bq_n<|sq_n<|.region rfl<|.q (.inc1 rfl rfl (by omega))<|.m rfl rfl<|.nil<|Qac ((k+1,_)) ⟨rfl,rfl,rfl,rfl,rfl,trivial⟩ (.cons _ (List.Sublist.refl _)) (Le.refl _) ?_ ?_
   ·refine ⟨by simp only;omega,?_⟩;rw [←hg,dc (k:=k) ‹_›];simp only [fiF];first | rw [if_pos (by omega)] | rw [if_neg (by omega)]
   ·simp only;omega
 ·have kh4:=h4;(try simp only [bk] at kh4)
  refine .exit<|sq_e<|lq_e<|bq_x rfl<|sq_n<|.seq<|.region rfl<|.m rfl rfl<|.z rfl rfl<|.nil<|sq_n<|.ret<|Qab hle2 (.tmp rfl .nil) rfl ?_
  rw [←hg,dn (by omega)];rfl
def failE (e:Int) (is:Bool) (en:Int):Int:=if e=0∧is=true then en else e
theorem Qeq (x0 x1 x2 x3 x4 x5 x6 x7 x8 x9 x10 x11 x12 x13 x14:V) (e en:Int) (is:Bool) (b:Nat) (g:G):Fw Tryz.prog natS (.f 88 [] []) [.p b 0,.b is,.i .i64 en] g [.blk b (.cells [x0,x1,x2,x3,x4,x5,x6,x7,x8,x9,x10,x11,x12,x13,x14,.i .i64 e] 132)]
   fun g' ml' r=>g'=g∧ml'=[.blk b (.cells [x0,x1,x2,x3,x4,x5,x6,x7,x8,x9,x10,x11,x12,x13,x14,.i .i64 (failE e is en)] 132)]∧r= .p b 0:=by
 refine Fw.enter (N:=20) (al:=[(2,_),(1,_),(0,_)]) Tryz.func88 (by kernel_rfl) (by kernel_rfl) rfl rfl rfl rfl ?_
 intro B
 refine .seq<|.region rfl<|.z rfl rfl<|.nil<|sq_n<|.seq<|.seq<|.region rfl<|.m rfl rfl<|.q (.nil rfl)<|.q (.fa rfl Qby)<|.w (.s rfl .hd a_30 rfl)<|.b rfl rfl rfl rfl<|.m rfl rfl<|.split (t:=12) rfl (fun h1=>?_) (fun h1=>?_)
 ·have kh1:=h1;(try simp only [bk] at kh1)
  refine .py h1 (.move rfl)<|.q (.pickT rfl h1 rfl)<|.nil<|sq_n<|.cond rfl (fun h2=>?_) (fun h2=>?_)
  ·have kh2:=h2;(try simp only [bk] at kh2)
   refine .region rfl<|.m rfl rfl<|.m rfl rfl<|.q (.nil rfl)<|.q (.fa rfl Qby)<|.st (cs':=[_,_,_,_,_,_,_,_,_,_,_,_,_,_,_,_]) .no rfl rfl rfl rfl s_30 rfl rfl .hd rfl rfl<|.nil<|sq_n<|.seq<|.region rfl<|.m rfl rfl<|.z rfl rfl<|.nil<|sq_n<|.ret<|Qab (Le.refl _) (.tmp rfl .nil) rfl<|⟨rfl,?_,rfl⟩;simp_all [failE]
  ·have kh2:=h2;(try simp only [bk] at kh2)
   refine .skip<|sq_n<|.seq<|.region rfl<|.m rfl rfl<|.z rfl rfl<|.nil<|sq_n<|.ret<|Qab (Le.refl _) (.tmp rfl .nil) rfl<|⟨rfl,?_,rfl⟩;simp_all [failE]
 ·have kh1:=h1;(try simp only [bk] at kh1)
  refine .k h1<|.q (.pickF rfl h1 rfl)<|.nil<|sq_n<|.condF rfl rfl<|.skip<|sq_n<|.seq<|.region rfl<|.m rfl rfl<|.z rfl rfl<|.nil<|sq_n<|.ret<|Qab (Le.refl _) (.tmp rfl .nil) rfl<|⟨rfl,?_,rfl⟩;simp_all [failE]
def byE (e f:Int):Int:=failE e (!decide (f=0) && !decide (f=1)) 1
theorem by_ok (x0 x1 x2 x3 x4 x5 x6 x7 x8 x9 x10 x11 x12 x13 x14:V) (e f:Int) (b:Nat) (g:G):Fw Tryz.prog natS (.f 87 [] []) [.p b 0,.i .i64 f] g [.blk b (.cells [x0,x1,x2,x3,x4,x5,x6,x7,x8,x9,x10,x11,x12,x13,x14,.i .i64 e] 132)]
   fun g' ml' r=>g'=g∧ml'=[.blk b (.cells [x0,x1,x2,x3,x4,x5,x6,x7,x8,x9,x10,x11,x12,x13,x14,.i .i64 (byE e f)] 132)]∧r= .p b 0:=by
 refine Fw.enter (N:=13) (al:=[(1,_),(0,_)]) Tryz.func87 (by kernel_rfl) (by kernel_rfl) rfl rfl rfl rfl ?_
 intro B
 refine .seq<|.region rfl<|.z rfl rfl<|.nil<|sq_n<|.seq<|.region rfl<|.m rfl rfl<|.m rfl rfl<|.b rfl rfl rfl rfl<|.m rfl rfl<|.split (t:=8) rfl (fun h1=>?_) (fun h1=>?_)
 ·have kh1:=h1;(try simp only [bk] at kh1)
  refine .py h1 (.move rfl)<|.py h1 (.bin rfl rfl rfl)<|.q (.pickT rfl h1 rfl)<|.callR .no rfl rfl rfl .hd (Qeq _ _ _ _ _ _ _ _ _ _ _ _ _ _ _ _ _ _ _ _)<|.z rfl rfl<|.nil<|sq_n<|.ret<|Qab (Le.refl _) (.tmp rfl .nil) rfl<|⟨rfl,?_,rfl⟩;simp_all [byE]
 ·have kh1:=h1;(try simp only [bk] at kh1)
  refine .k h1<|.k h1<|.q (.pickF rfl h1 rfl)<|.callR .no rfl rfl rfl .hd (Qeq _ _ _ _ _ _ _ _ _ _ _ _ _ _ _ _ _ _ _ _)<|.z rfl rfl<|.nil<|sq_n<|.ret<|Qab (Le.refl _) (.tmp rfl .nil) rfl<|⟨rfl,?_,rfl⟩;simp_all [byE]
def withE (e:Int) (l:List Room):Int:=failE e (!decide (Qck l=0)) 40
theorem with_ok (x0 x1 x2 x3 x4 x5 x6 x7 x8 x9 x10 x11 x12 x13 x14:V) (e:Int) (l:List Room) (v:V) (b:Nat) (g:G) (h:RS RoomR 6 g v l):Fw Tryz.prog natS (.f 78 [] []) [.p b 0,v] g [.blk b (.cells [x0,x1,x2,x3,x4,x5,x6,x7,x8,x9,x10,x11,x12,x13,x14,.i .i64 e] 132)]
  fun g' ml' r=>g'=g∧ml'=[.blk b (.cells [x0,x1,x2,x3,x4,x5,x6,x7,x8,x9,x10,x11,x12,x13,x14,.i .i64 (withE e l)] 132)]∧r= .p b 0:=by
 refine Fw.enter (N:=10) (al:=[(1,_),(0,_)]) Tryz.func78 (by kernel_rfl) (by kernel_rfl) rfl rfl rfl rfl ?_
 intro B
 refine .seq<|.region rfl<|.z rfl rfl<|.nil<|sq_n<|.seq<|.region rfl<|.m rfl rfl<|.m rfl rfl<|.callV .no rfl rfl rfl (CheckRooms_ok _ _ _ h)<|.b rfl rfl rfl rfl<|.callR .no rfl rfl rfl .hd (Qeq _ _ _ _ _ _ _ _ _ _ _ _ _ _ _ _ _ _ _ _)<|.z rfl rfl<|.nil<|sq_n<|.ret<|Qab (Le.refl _) (.tmp rfl .nil) rfl ?_
 exact ⟨rfl,rfl,rfl⟩
def Version.none:Version:=⟨0,[],fun _=>[]⟩
theorem rs_nil {α:Type} {R:G→List V→α→Prop} {s:Nat} {g:G}:RS R s g .sn []:=⟨by simp,.inl ⟨rfl,rfl⟩⟩
def QR (g:G) (c:Code) (ver:Version) (idx e:Int) (cs:List V):Prop:=∃ (vv p:V) (lv:Nat→V),cs=[.s c.name,vv,.i .i64 ver.fr,p,lv 0,lv 1,lv 2,lv 3,lv 4,lv 5,lv 6,lv 7,lv 8,lv 9,.i .i64 idx,.i .i64 e]∧RS VersionR 12 g vv c.vs∧RS PutR 2 g p ver.puts∧∀ k,k < 10→RS PieceR 3 g (lv k) (ver.ln k)
theorem of_ok (c:Code) (cs:List V) (g:G) (h:CodeR g cs c):Fw Tryz.prog natS (.f 76 [] []) [.agg cs] g [] fun g' ml' r=>∃ b cs',g'=g∧ml'=[.blk b (.cells cs' 132)]∧r= .p b 0∧QR g c .none (-1) c.err cs':=by
 obtain ⟨v,rfl,h⟩:=h
 refine Fw.enter (N:=8) (al:=[(0,_)]) Tryz.func76 (by kernel_rfl) (by kernel_rfl) rfl rfl rfl rfl ?_
 intro B
 refine .seq<|.region rfl<|.box .no rfl rfl rfl rfl fun b1=>.z rfl rfl<|.nil<|sq_n<|.seq<|.draw (tb:=[r0 0 0,r0 0 0,r0 2 0,r1 7 1,r1 15 1,r1 31 1]) rfl (by kernel_rfl) (by kernel_rfl) ?_
 refine .y rfl rfl rfl (.a (vs:=[_,_]) rfl .hd a_24 s_24 rfl rfl)<|.y rfl rfl rfl (.a (vs:=[_,_]) rfl .hd a_24 s_24 rfl rfl)<|.callV .no rfl rfl rfl rfl rfl (Check_ok _ _ _ ⟨_,rfl,h⟩)<|.q (.build (qs:=[(0,_),(2,_),(3,_)]) (cs:=[_,_,_,_,_,_,_,_,_,_,_,_,_,_,_,_]) rfl b_132 rfl)<|.f .no rfl (.box rfl rfl rfl) fun b2=>.z rfl rfl<|.nil<|sq_n<|.drop (.cons_cons _ (.cons _ (List.Sublist.refl _)))<|.ret<|Qab (Le.refl _) (.tmp rfl .nil) rfl ?_
 exact ⟨_,_,rfl,rfl,rfl,_,_,fun _=>.sn,rfl,h,rs_nil,fun _ _=>rs_nil⟩
def onE (e:Int) (c:Code) (day f:Int):Int:=failE (byE (failE e (!Qag day 0 100000) 6) f) (decide (Qbc c day < 0)) 45
theorem Qcw {e en:Int} {is:Bool} (hen:en≠0) (h:failE e is en=0):e=0∧is=false:=by
 unfold failE at h
 split at h
 ·omega
 ·rename_i h2
  refine ⟨h,?_⟩
  cases is with
  | false=>rfl
  | true=>exact absurd ⟨h,rfl⟩ h2
theorem on_ix {c:Code} {e day f:Int} (h:onE e c day f=0):0≤Qbc c day∧Qbc c day < c.vs.length:=by
 have:=(Qcw (by decide) h).2
 have h2:=forceI_bd c day
 simp only [decide_eq_false_iff_not] at this
 omega
def onV (e:Int) (c:Code) (day f:Int) (ver:Version):Version:=if onE e c day f=0 then c.vs.getD (Qbc c day).toNat .none else ver
def onX (e:Int) (c:Code) (day f idx:Int):Int:=if onE e c day f=0 then Qbc c day else idx
theorem onV_yes {e:Int} {c:Code} {day f:Int} {ver y:Version} (h:onE e c day f=0) (hy:c.vs[(Qbc c day).toNat]? =some y):onV e c day f ver=y:=by unfold onV;rw [if_pos h,List.getD_eq_getElem?_getD,hy];rfl
theorem onX_yes {e:Int} {c:Code} {day f idx:Int} (h:onE e c day f=0):onX e c day f idx=Qbc c day:=if_pos h
theorem onV_no {e:Int} {c:Code} {day f:Int} {ver:Version} (h: ¬ onE e c day f=0):onV e c day f ver=ver:=if_neg h
theorem onX_no {e:Int} {c:Code} {day f idx:Int} (h: ¬ onE e c day f=0):onX e c day f idx=idx:=if_neg h
theorem on_ok (c:Code) (ver:Version) (idx e day f:Int) (cs:List V) (b:Nat) (g:G) (h:QR g c ver idx e cs):Fw Tryz.prog natS (.f 77 [] []) [.p b 0,.i .i64 day,.i .i64 f] g [.blk b (.cells cs 132)] fun g' ml' r=>∃ cs',g'=g∧ml'=[.blk b (.cells cs' 132)]∧r= .p b 0∧QR g c (onV e c day f ver) (onX e c day f idx) (onE e c day f) cs':=by
 obtain ⟨vv,p,lv,rfl,hv,hp,hl⟩:=h
 refine Fw.enter (N:=44) (al:=[(2,_),(1,_),(0,_)]) Tryz.func77 (by kernel_rfl) (by kernel_rfl) rfl rfl rfl rfl ?_
 intro B
 refine .seq<|.region rfl<|.z rfl rfl<|.nil<|sq_n<|.seq<|.region rfl<|.m rfl rfl<|.q (.nil rfl)<|.q (.fa rfl f_132_0)<|.w (.a (vs:=[_,_]) rfl .hd a_24 s_24 rfl rfl)<|.m rfl rfl<|.callV .no rfl rfl rfl (inForce_ok _ _ _ _ ⟨_,rfl,hv⟩)<|.z rfl rfl<|.nil<|sq_n<|.seq<|.seq<|.region rfl<|.m rfl rfl<|.m rfl rfl<|.callV .no rfl rfl rfl (Qan _ _ _ _)<|.q (.not rfl)<|.callR .no rfl rfl rfl .hd (Qeq _ _ _ _ _ _ _ _ _ _ _ _ _ _ _ _ _ _ _ _)<|.m rfl rfl<|.callR .no rfl rfl rfl .hd (by_ok _ _ _ _ _ _ _ _ _ _ _ _ _ _ _ _ _ _ _)<|.m rfl rfl<|.b rfl rfl rfl rfl<|.callR .no rfl rfl rfl .hd (Qeq _ _ _ _ _ _ _ _ _ _ _ _ _ _ _ _ _ _ _ _)<|.q (.nil rfl)<|.q (.fa rfl Qby)<|.w (.s rfl .hd a_30 rfl) ?_
 refine .b rfl rfl rfl rfl<|.nil<|sq_n<|.cond rfl (fun h1=>?_) (fun h1=>?_)
 ·have kh1:=h1;(try simp only [bk] at kh1)
  refine .region rfl<|.m rfl rfl<|.m rfl rfl<|.m rfl rfl<|.m rfl rfl<|.q (.nil rfl)<|.q (.fa rfl f_132_0)<|.q (.fa rfl Qdl)<|.w (.s rfl .hd a_22 rfl)<|.m rfl rfl<|.ixi .no rfl rfl hv rfl e_22 (on_ix kh1) ?_
  intro b2 o2 cs2 y2 hy2 hq2 hr2
  obtain ⟨p2,lv2,rfl,hp2,hl2⟩:=hr2
  refine .w (.pa 0 (vs:=[_,_,_,_,_,_,_,_,_,_,_,_]) rfl hq2 rfl a_97 s_97 rfl rfl)<|.q (.nil rfl)<|.q (.fa rfl f_132_2)<|.st (cs':=[_,_,_,_,_,_,_,_,_,_,_,_,_,_,_,_]) .no rfl rfl rfl rfl s_3 rfl rfl .hd rfl rfl<|.q (.nil rfl)<|.q (.fa rfl Qc)<|.st (cs':=[_,_,_,_,_,_,_,_,_,_,_,_,_,_,_,_]) .no rfl rfl rfl rfl s_97 rfl rfl .hd rfl (Qa rfl (Qa hp2.one (Qa (hl2 0 (by decide)).one (Qa (hl2 1 (by decide)).one (Qa (hl2 2 (by decide)).one (Qa (hl2 3 (by decide)).one (Qa (hl2 4 (by decide)).one (Qa (hl2 5 (by decide)).one (Qa (hl2 6 (by decide)).one (Qa (hl2 7 (by decide)).one (Qa (hl2 8 (by decide)).one (Qa (hl2 9 (by decide)).one rfl))))))))))))<|.nil<|sq_n<|.seq<|.region rfl<|.m rfl rfl<|.z rfl rfl<|.nil<|sq_n<|.drop (List.Sublist.refl _)<|.ret<|Qab (Le.refl _) (.tmp rfl .nil) rfl ?_
  have hz:=kh1
  first
   | exact ⟨_,rfl,rfl,rfl,by rw [onV_yes hz ‹_›,onX_yes hz];exact ⟨_,_,_,rfl,hv,‹_›,‹_›⟩⟩
   | exact ⟨_,rfl,rfl,rfl,by rw [onV_no hz,onX_no hz];exact ⟨_,_,_,rfl,hv,hp,hl⟩⟩
 ·have kh1:=h1;(try simp only [bk] at kh1)
  refine .skip<|sq_n<|.seq<|.region rfl<|.m rfl rfl<|.z rfl rfl<|.nil<|sq_n<|.drop (List.Sublist.refl _)<|.ret<|Qab (Le.refl _) (.tmp rfl .nil) rfl ?_
  have hz:=kh1
  first
   | exact ⟨_,rfl,rfl,rfl,by rw [onV_yes hz ‹_›,onX_yes hz];exact ⟨_,_,_,rfl,hv,‹_›,‹_›⟩⟩
   | exact ⟨_,rfl,rfl,rfl,by rw [onV_no hz,onX_no hz];exact ⟨_,_,_,rfl,hv,hp,hl⟩⟩
def atE (e:Int) (c:Code) (i:Int):Int:=failE e (!Qag i 0 (c.vs.length - 1)) 42
theorem at_ix {c:Code} {e i:Int} (h:atE e c i=0):0≤i∧i < c.vs.length:=by
 have:=(Qcw (by decide) h).2
 simp only [Bool.not_eq_false',Qag,Bool.and_eq_true,decide_eq_true_eq] at this
 omega
def atV (e:Int) (c:Code) (i:Int) (ver:Version):Version:=if atE e c i=0 then c.vs.getD i.toNat .none else ver
def atX (e:Int) (c:Code) (i idx:Int):Int:=if atE e c i=0 then i else idx
theorem atV_yes {e:Int} {c:Code} {i:Int} {ver y:Version} (h:atE e c i=0) (hy:c.vs[i.toNat]? =some y):atV e c i ver=y:=by unfold atV;rw [if_pos h,List.getD_eq_getElem?_getD,hy];rfl
theorem atX_yes {e:Int} {c:Code} {i idx:Int} (h:atE e c i=0):atX e c i idx=i:=if_pos h
theorem atV_no {e:Int} {c:Code} {i:Int} {ver:Version} (h: ¬ atE e c i=0):atV e c i ver=ver:=if_neg h
theorem atX_no {e:Int} {c:Code} {i idx:Int} (h: ¬ atE e c i=0):atX e c i idx=idx:=if_neg h
theorem at_ok (c:Code) (ver:Version) (idx e i:Int) (cs:List V) (b:Nat) (g:G) (h:QR g c ver idx e cs):Fw Tryz.prog natS (.f 86 [] []) [.p b 0,.i .i64 i] g [.blk b (.cells cs 132)] fun g' ml' r=>∃ cs',g'=g∧ml'=[.blk b (.cells cs' 132)]∧r= .p b 0∧QR g c (atV e c i ver) (atX e c i idx) (atE e c i) cs':=by
 obtain ⟨vv,p,lv,rfl,hv,hp,hl⟩:=h
 have hlen:=hv.1
 refine Fw.enter (N:=37) (al:=[(1,_),(0,_)]) Tryz.func86 (by kernel_rfl) (by kernel_rfl) rfl rfl rfl rfl ?_
 intro B
 refine .seq<|.region rfl<|.z rfl rfl<|.nil<|sq_n<|.seq<|.seq<|.region rfl<|.m rfl rfl<|.m rfl rfl<|.m rfl rfl<|.q (.nil rfl)<|.q (.fa rfl f_132_0)<|.q (.fa rfl Qdl)<|.w (.s rfl .hd a_22 rfl)<|.q (.lenR rfl rfl rfl e_22 hv)<|.q (.sub rfl rfl (by omega))<|.callV .no rfl rfl rfl (Qan _ _ _ _)<|.q (.not rfl)<|.callR .no rfl rfl rfl .hd (Qeq _ _ _ _ _ _ _ _ _ _ _ _ _ _ _ _ _ _ _ _)<|.q (.nil rfl)<|.q (.fa rfl Qby)<|.w (.s rfl .hd a_30 rfl)<|.b rfl rfl rfl rfl<|.nil<|sq_n<|.cond rfl (fun h1=>?_) (fun h1=>?_)
 ·have kh1:=h1;(try simp only [bk] at kh1)
  refine .region rfl<|.m rfl rfl<|.m rfl rfl<|.m rfl rfl<|.m rfl rfl<|.q (.nil rfl)<|.q (.fa rfl f_132_0)<|.q (.fa rfl Qdl)<|.w (.s rfl .hd a_22 rfl)<|.m rfl rfl<|.ixi .no rfl rfl hv rfl e_22 (at_ix kh1) ?_
  intro b2 o2 cs2 y2 hy2 hq2 hr2
  obtain ⟨p2,lv2,rfl,hp2,hl2⟩:=hr2
  refine .w (.pa 0 (vs:=[_,_,_,_,_,_,_,_,_,_,_,_]) rfl hq2 rfl a_97 s_97 rfl rfl)<|.q (.nil rfl)<|.q (.fa rfl f_132_2)<|.st (cs':=[_,_,_,_,_,_,_,_,_,_,_,_,_,_,_,_]) .no rfl rfl rfl rfl s_3 rfl rfl .hd rfl rfl<|.q (.nil rfl)<|.q (.fa rfl Qc)<|.st (cs':=[_,_,_,_,_,_,_,_,_,_,_,_,_,_,_,_]) .no rfl rfl rfl rfl s_97 rfl rfl .hd rfl (Qa rfl (Qa hp2.one (Qa (hl2 0 (by decide)).one (Qa (hl2 1 (by decide)).one (Qa (hl2 2 (by decide)).one (Qa (hl2 3 (by decide)).one (Qa (hl2 4 (by decide)).one (Qa (hl2 5 (by decide)).one (Qa (hl2 6 (by decide)).one (Qa (hl2 7 (by decide)).one (Qa (hl2 8 (by decide)).one (Qa (hl2 9 (by decide)).one rfl))))))))))))<|.nil<|sq_n<|.seq<|.region rfl<|.m rfl rfl<|.z rfl rfl<|.nil<|sq_n<|.drop (List.Sublist.refl _)<|.ret<|Qab (Le.refl _) (.tmp rfl .nil) rfl ?_
  have hz:=kh1
  first
   | exact ⟨_,rfl,rfl,rfl,by rw [atV_yes hz ‹_›,atX_yes hz];exact ⟨_,_,_,rfl,hv,‹_›,‹_›⟩⟩
   | exact ⟨_,rfl,rfl,rfl,by rw [atV_no hz,atX_no hz];exact ⟨_,_,_,rfl,hv,hp,hl⟩⟩
 ·have kh1:=h1;(try simp only [bk] at kh1)
  refine .skip<|sq_n<|.seq<|.region rfl<|.m rfl rfl<|.z rfl rfl<|.nil<|sq_n<|.drop (List.Sublist.refl _)<|.ret<|Qab (Le.refl _) (.tmp rfl .nil) rfl ?_
  have hz:=kh1
  first
   | exact ⟨_,rfl,rfl,rfl,by rw [atV_yes hz ‹_›,atX_yes hz];exact ⟨_,_,_,rfl,hv,‹_›,‹_›⟩⟩
   | exact ⟨_,rfl,rfl,rfl,by rw [atV_no hz,atX_no hz];exact ⟨_,_,_,rfl,hv,hp,hl⟩⟩
end Go.Proofs.YtjflgemfeofciaaGreatDoor
