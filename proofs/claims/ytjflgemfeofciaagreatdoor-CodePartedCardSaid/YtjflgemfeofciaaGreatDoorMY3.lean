import Derived.Test.YtjflgemfeofciaaGreatDoorVb4
namespace Go.Proofs.YtjflgemfeofciaaGreatDoor
open Go Go.Ev
set_option linter.unusedVariables false
set_option linter.unusedSimpArgs false
set_option maxRecDepth 10000
def valE (c:Code) (ver fo gr li:Int):Int:=failE (byE (atE c.err c ver) fo) (!Qag gr 1 5 || !Qag li 0 20000000000) 1
theorem byE_zero {e f:Int} (h:byE e f=0):e=0∧(f=0∨f=1):=by
 obtain ⟨h1,h2⟩:=Qcw (by decide) h
 refine ⟨h1,?_⟩
 by_cases h3:f=0
 ·exact .inl h3
 ·by_cases h4:f=1
  ·exact .inr h4
  ·rw [decide_eq_false h3,decide_eq_false h4] at h2;cases h2
theorem fo2 {fo:Int} (h:fo=0∨fo=1):0≤fo∧fo < 2:=by omega
def lnX (fo gr:Int):Nat:=5 * fo.toNat+(gr - 1).toNat
def valR (f:List Piece→Int→Int) (c:Code) (ver fo gr li:Int):Int:=if valE c ver fo gr li=0 then f ((c.vs.getD ver.toNat .none).ln (lnX fo gr)) li else 0
theorem atV_ln {c:Code} {e i:Int} {v:Version} (h:atE e c i=0):atV e c i v=c.vs.getD i.toNat .none:=if_pos h
end Go.Proofs.YtjflgemfeofciaaGreatDoor
namespace Go.Proofs.YtjflgemfeofciaaGreatDoor
open Go Go.Ev
set_option linter.unusedVariables false
set_option linter.unusedSimpArgs false
set_option maxRecDepth 10000
def okX (x0 x1 x2 x3 x4:Int):Bool:=Qag x0 0 20000000000 && (Qag x1 0 20000000000 && (Qag x2 0 20000000000 && (Qag x3 0 20000000000 && Qag x4 0 20000000000)))
def tonE (c:Code) (ver fo x0 x1 x2 x3 x4:Int):Int:=failE (byE (atE c.err c ver) fo) (!okX x0 x1 x2 x3 x4) 1
def tonR (f:List Piece→Int→Int) (c:Code) (ver fo x0 x1 x2 x3 x4:Int):Int:=if tonE c ver fo x0 x1 x2 x3 x4=0 then downI (tonS f (c.vs.getD ver.toNat .none) fo.toNat x0 x1 x2 x3 x4) else 0
theorem Qfi {c:Code} {ver fo x0 x1 x2 x3 x4:Int} (h:tonE c ver fo x0 x1 x2 x3 x4=0):atE c.err c ver=0∧(fo=0∨fo=1)∧okX x0 x1 x2 x3 x4=true:=by
 obtain ⟨h1,h2⟩:=Qcw (by decide) h
 obtain ⟨h3,h4⟩:=byE_zero h1
 exact ⟨h3,h4,by simpa using h2⟩
theorem Qff {f:List Piece→Int→Int} {c:Code} {ver fo x0 x1 x2 x3 x4:Int} (h: ¬ tonE c ver fo x0 x1 x2 x3 x4=0):tonR f c ver fo x0 x1 x2 x3 x4=0:=if_neg h
theorem tonE_a {c:Code} {ver fo x0 x1 x2 x3 x4:Int} {b:Bool} (h:b= !okX x0 x1 x2 x3 x4):failE (byE (atE c.err c ver) fo) b 1=tonE c ver fo x0 x1 x2 x3 x4:=by rw [h];rfl
theorem Qdy {f:List Piece→Int→Int} {c:Code} {ver fo x0 x1 x2 x3 x4:Int} (hz:tonE c ver fo x0 x1 x2 x3 x4=0):downI (tonS f (atV c.err c ver .none) fo.toNat x0 x1 x2 x3 x4)=tonR f c ver fo x0 x1 x2 x3 x4:=by
 unfold tonR
 rw [if_pos hz,atV_ln (Qfi hz).1]
theorem Tonnage_ok (c:Code) (ver fo x0 x1 x2 x3 x4:Int) (cs:List V) (g:G) (h:CodeR g cs c):Fv Tryz.prog natS (.f 30 [] []) [.agg cs,.i .i64 ver,.i .i64 fo,.agg [.i .i64 x0,.i .i64 x1,.i .i64 x2,.i .i64 x3,.i .i64 x4]] g (.tup [.i .i64 (tonR closV c ver fo x0 x1 x2 x3 x4),.i .i64 (tonE c ver fo x0 x1 x2 x3 x4)]):=by
 obtain ⟨v,rfl,h⟩:=h
 refine Fw.fv ?_
 refine Fw.enter (N:=49) (al:=[(3,_),(2,_),(1,_),(0,_)]) Tryz.func30 (by kernel_rfl) (by kernel_rfl) rfl rfl rfl rfl ?_
 intro B
 refine .seq<|.region rfl<|.box .no rfl rfl rfl rfl fun b1=>.box .no rfl rfl rfl rfl fun b2=>.z rfl rfl<|.z rfl rfl<|.nil<|sq_n<|.seq<|.region rfl<|.z rfl rfl<|.nil<|sq_n<|.seq<|.seq<|.region rfl<|.w (.a (vs:=[_,_,_,_,_]) rfl .hd a_38 s_38 rfl rfl)<|.m rfl rfl<|.nil<|sq_n<|.block<|.unroll<|.seq<|.region rfl<|.b rfl rfl rfl rfl<|.nil<|sq_n<|.seq<|.condT rfl (by decide)<|.skip<|sq_n<|.seq<|.block<|.seq<|.region rfl ?_
 refine .q (.ixv (j:=0) rfl rfl ar_38 s_3 (by decide) (by rfl)) ?_
 refine .z rfl rfl<|.nil<|sq_n<|.region rfl<|.m rfl rfl<|.m rfl rfl<|.py rfl (.move rfl)<|.callV (.yes rfl rfl rfl) rfl rfl rfl (Qan _ _ _ _)<|.py rfl (.not rfl)<|.q (.pickF rfl rfl rfl)<|.z rfl rfl<|.nil<|bq_n<|sq_n<|.region rfl<|.q (.addL (c:=1) rfl rfl rfl (by decide))<|.m rfl rfl<|.nil<|sq_n<|.unroll<|.seq<|.region rfl<|.b rfl rfl rfl rfl<|.nil<|sq_n<|.seq<|.condT rfl (by decide)<|.skip<|sq_n<|.seq<|.block<|.seq<|.region rfl<|.q (.ixv (j:=1) rfl rfl ar_38 s_3 (by decide) (by rfl)) ?_
 refine .z rfl rfl<|.nil<|sq_n<|.region rfl<|.m rfl rfl<|.m rfl rfl<|.split (t:=19) rfl (fun h3=>?_) (fun h3=>?_)
 ·have kh3:=h3;(try simp only [bk] at kh3)
  refine .k h3<|.k h3<|.k h3<|.q (.pickT rfl h3 rfl)<|.z rfl rfl<|.nil<|bq_n<|sq_n<|.region rfl<|.q (.addL (c:=2) rfl rfl rfl (by decide))<|.m rfl rfl<|.nil<|sq_n<|.unroll<|.seq<|.region rfl<|.b rfl rfl rfl rfl<|.nil<|sq_n<|.seq<|.condT rfl (by decide)<|.skip<|sq_n<|.seq<|.block<|.seq<|.region rfl<|.q (.ixv (j:=2) rfl rfl ar_38 s_3 (by decide) (by rfl)) ?_
  refine .z rfl rfl<|.nil<|sq_n<|.region rfl<|.m rfl rfl<|.m rfl rfl<|.k rfl<|.k rfl<|.k rfl<|.q (.pickT rfl rfl rfl)<|.z rfl rfl<|.nil<|bq_n<|sq_n<|.region rfl<|.q (.addL (c:=3) rfl rfl rfl (by decide))<|.m rfl rfl<|.nil<|sq_n<|.unroll<|.seq<|.region rfl<|.b rfl rfl rfl rfl<|.nil<|sq_n<|.seq<|.condT rfl (by decide)<|.skip<|sq_n<|.seq<|.block<|.seq<|.region rfl<|.q (.ixv (j:=3) rfl rfl ar_38 s_3 (by decide) (by rfl)) ?_
  refine .z rfl rfl<|.nil<|sq_n<|.region rfl<|.m rfl rfl<|.m rfl rfl<|.k rfl<|.k rfl<|.k rfl<|.q (.pickT rfl rfl rfl)<|.z rfl rfl<|.nil<|bq_n<|sq_n<|.region rfl<|.q (.addL (c:=4) rfl rfl rfl (by decide))<|.m rfl rfl<|.nil<|sq_n<|.unroll<|.seq<|.region rfl<|.b rfl rfl rfl rfl<|.nil<|sq_n<|.seq<|.condT rfl (by decide)<|.skip<|sq_n<|.seq<|.block<|.seq<|.region rfl<|.q (.ixv (j:=4) rfl rfl ar_38 s_3 (by decide) (by rfl)) ?_
  refine .z rfl rfl<|.nil<|sq_n<|.region rfl<|.m rfl rfl<|.m rfl rfl<|.k rfl<|.k rfl<|.k rfl<|.q (.pickT rfl rfl rfl)<|.z rfl rfl<|.nil<|bq_n<|sq_n<|.region rfl<|.q (.addL (c:=5) rfl rfl rfl (by decide))<|.m rfl rfl<|.nil<|sq_n<|.unroll<|.seq<|.region rfl<|.b rfl rfl rfl rfl<|.nil<|sq_n<|.seq<|.condF rfl (by decide)<|.exit<|sq_e<|sq_e<|bq_x rfl<|sq_n<|.seq<|.region rfl<|.w (.a (vs:=[_,_]) rfl (.tl .hd) a_24 s_24 rfl rfl)<|.call .no rfl rfl rfl (of_ok _ _ _ ⟨_,rfl,h⟩) ?_
  rintro g4 ml4 r4 hle4 ⟨b4,cs4,rfl,rfl,rfl,vv4,p4,lv4,rfl,hv4,hp4,hl4⟩
  replace h:=h.mono VersionR.mono hle4
  refine .m rfl rfl<|.callT .no rfl rfl rfl .hd (at_ok _ _ _ _ _ _ _ _ ⟨_,_,_,rfl,hv4,hp4,hl4⟩) ?_
  rintro g5 ml5 r5 hle5 ⟨cs5,rfl,rfl,rfl,vv5,p5,lv5,rfl,hv5,hp5,hl5⟩
  replace h:=h.mono VersionR.mono hle5
  replace hv4:=hv4.mono VersionR.mono hle5
  replace hp4:=hp4.mono PutR.mono hle5
  replace hl4:=fun k hk=>(hl4 k hk).mono PieceR.mono hle5
  refine .m rfl rfl<|.callR .no rfl rfl rfl .hd (by_ok _ _ _ _ _ _ _ _ _ _ _ _ _ _ _ _ _ _ _)<|.m rfl rfl<|.callR .no rfl rfl rfl .hd (Qeq _ _ _ _ _ _ _ _ _ _ _ _ _ _ _ _ _ _ _ _)<|.z rfl rfl<|.nil<|sq_n<|.seq<|.seq<|.region rfl<|.m rfl rfl<|.q (.nil rfl)<|.q (.fa rfl Qby)<|.w (.s rfl .hd a_30 rfl)<|.b rfl rfl rfl rfl<|.nil<|sq_n<|.cond rfl (fun h6=>?_) (fun h6=>?_)
  ·have kh6:=h6;(try simp only [bk] at kh6)
   have ho:=fun (b:Bool) (e:b= !okX x0 x1 x2 x3 x4)=>tonE_a (c:=c) (ver:=ver) (fo:=fo) e
   have hz: ¬ tonE c ver fo x0 x1 x2 x3 x4=0:=fun e=>kh6 ((ho _ (by unfold okX;simp only [*];simp)).trans e)
   refine .seq<|.draw (tb:=[r1 0 0,r1 1 0,r1 3 0,r1 7 0,r0 0 0,r1 31 0]) rfl (by kernel_rfl) (by kernel_rfl) ?_
   refine .m rfl rfl<|.q (.nil rfl)<|.q (.fa rfl Qby)<|.y rfl rfl rfl (.s rfl .hd a_30 rfl)<|.z rfl rfl<|.z rfl rfl<|.nil<|sq_n<|.ret<|sq_r<|Qab (hle4.trans hle5) (.tmp rfl (.tmp rfl .nil)) rfl ?_
   first
    | (rw [Qff hz,ho _ (by unfold okX;simp only [*];simp)])
    | (rw [hz,Qdy hz])
  ·have kh6:=h6;(try simp only [bk] at kh6)
   have ho:=fun (b:Bool) (e:b= !okX x0 x1 x2 x3 x4)=>tonE_a (c:=c) (ver:=ver) (fo:=fo) e
   have hz:tonE c ver fo x0 x1 x2 x3 x4=0:=(ho _ (by unfold okX;simp only [*];simp)).symm.trans kh6
   obtain ⟨hz1,hz2,hz3⟩:=Qfi hz
   refine .skip<|sq_n<|.seq<|.draw (tb:=[r0 0 0,r0 1 0,r0 3 0,r0 7 0,r0 0 0,r0 0 0,r1 63 0,r1 127 1,r1 255 1]) rfl (by kernel_rfl) (by kernel_rfl) ?_
   refine .m rfl rfl<|.q (.nil rfl)<|.q (.fa rfl Qc)<|.y rfl rfl rfl (.a (vs:=[_,_,_,_,_,_,_,_,_,_,_,_]) rfl .hd a_97 s_97 rfl rfl)<|.m rfl rfl<|.y rfl rfl rfl (.a (vs:=[_,_,_,_,_]) rfl (.tl .hd) a_38 s_38 rfl rfl)<|.callV .no rfl rfl rfl rfl rfl (Qcx _ _ _ _ _ _ _ _ _ ⟨_,_,rfl,hp5,hl5⟩ hz2)<|.z rfl rfl<|.z rfl rfl<|.nil<|sq_n<|.ret<|Qab (hle4.trans hle5) (.tmp rfl (.tmp rfl .nil)) rfl ?_
   first
    | (rw [Qff hz,ho _ (by unfold okX;simp only [*];simp)])
    | (rw [hz,Qdy hz])
 ·have kh3:=h3;(try simp only [bk] at kh3)
  refine .py h3 (.move rfl)<|.callV (.yes rfl rfl h3) rfl rfl rfl (Qan _ _ _ _)<|.py h3 (.not rfl)<|.q (.pickF rfl h3 rfl)<|.z rfl rfl<|.nil<|bq_n<|sq_n<|.region rfl<|.q (.addL (c:=2) rfl rfl rfl (by decide))<|.m rfl rfl<|.nil<|sq_n<|.unroll<|.seq<|.region rfl<|.b rfl rfl rfl rfl<|.nil<|sq_n<|.seq<|.condT rfl (by decide)<|.skip<|sq_n<|.seq<|.block<|.seq<|.region rfl<|.q (.ixv (j:=2) rfl rfl ar_38 s_3 (by decide) (by rfl)) ?_
  refine .z rfl rfl<|.nil<|sq_n<|.region rfl<|.m rfl rfl<|.m rfl rfl<|.split (t:=19) rfl (fun h7=>?_) (fun h7=>?_)
  ·have kh7:=h7;(try simp only [bk] at kh7)
   refine .k h7<|.k h7<|.k h7<|.q (.pickT rfl h7 rfl)<|.z rfl rfl<|.nil<|bq_n<|sq_n<|.region rfl<|.q (.addL (c:=3) rfl rfl rfl (by decide))<|.m rfl rfl<|.nil<|sq_n<|.unroll<|.seq<|.region rfl<|.b rfl rfl rfl rfl<|.nil<|sq_n<|.seq<|.condT rfl (by decide)<|.skip<|sq_n<|.seq<|.block<|.seq<|.region rfl<|.q (.ixv (j:=3) rfl rfl ar_38 s_3 (by decide) (by rfl)) ?_
   refine .z rfl rfl<|.nil<|sq_n<|.region rfl<|.m rfl rfl<|.m rfl rfl<|.k rfl<|.k rfl<|.k rfl<|.q (.pickT rfl rfl rfl)<|.z rfl rfl<|.nil<|bq_n<|sq_n<|.region rfl<|.q (.addL (c:=4) rfl rfl rfl (by decide))<|.m rfl rfl<|.nil<|sq_n<|.unroll<|.seq<|.region rfl<|.b rfl rfl rfl rfl<|.nil<|sq_n<|.seq<|.condT rfl (by decide)<|.skip<|sq_n<|.seq<|.block<|.seq<|.region rfl<|.q (.ixv (j:=4) rfl rfl ar_38 s_3 (by decide) (by rfl)) ?_
   refine .z rfl rfl<|.nil<|sq_n<|.region rfl<|.m rfl rfl<|.m rfl rfl<|.k rfl<|.k rfl<|.k rfl<|.q (.pickT rfl rfl rfl)<|.z rfl rfl<|.nil<|bq_n<|sq_n<|.region rfl<|.q (.addL (c:=5) rfl rfl rfl (by decide))<|.m rfl rfl<|.nil<|sq_n<|.unroll<|.seq<|.region rfl<|.b rfl rfl rfl rfl<|.nil<|sq_n<|.seq<|.condF rfl (by decide)<|.exit<|sq_e<|sq_e<|bq_x rfl<|sq_n<|.seq<|.region rfl<|.w (.a (vs:=[_,_]) rfl (.tl .hd) a_24 s_24 rfl rfl)<|.call .no rfl rfl rfl (of_ok _ _ _ ⟨_,rfl,h⟩) ?_
   rintro g8 ml8 r8 hle8 ⟨b8,cs8,rfl,rfl,rfl,vv8,p8,lv8,rfl,hv8,hp8,hl8⟩
   replace h:=h.mono VersionR.mono hle8
   refine .m rfl rfl<|.callT .no rfl rfl rfl .hd (at_ok _ _ _ _ _ _ _ _ ⟨_,_,_,rfl,hv8,hp8,hl8⟩) ?_
   rintro g9 ml9 r9 hle9 ⟨cs9,rfl,rfl,rfl,vv9,p9,lv9,rfl,hv9,hp9,hl9⟩
   replace h:=h.mono VersionR.mono hle9
   replace hv8:=hv8.mono VersionR.mono hle9
   replace hp8:=hp8.mono PutR.mono hle9
   replace hl8:=fun k hk=>(hl8 k hk).mono PieceR.mono hle9
   refine .m rfl rfl<|.callR .no rfl rfl rfl .hd (by_ok _ _ _ _ _ _ _ _ _ _ _ _ _ _ _ _ _ _ _)<|.m rfl rfl<|.callR .no rfl rfl rfl .hd (Qeq _ _ _ _ _ _ _ _ _ _ _ _ _ _ _ _ _ _ _ _)<|.z rfl rfl<|.nil<|sq_n<|.seq<|.seq<|.region rfl<|.m rfl rfl<|.q (.nil rfl)<|.q (.fa rfl Qby)<|.w (.s rfl .hd a_30 rfl)<|.b rfl rfl rfl rfl<|.nil<|sq_n<|.cond rfl (fun h10=>?_) (fun h10=>?_)
   ·have kh10:=h10;(try simp only [bk] at kh10)
    have ho:=fun (b:Bool) (e:b= !okX x0 x1 x2 x3 x4)=>tonE_a (c:=c) (ver:=ver) (fo:=fo) e
    have hz: ¬ tonE c ver fo x0 x1 x2 x3 x4=0:=fun e=>kh10 ((ho _ (by unfold okX;simp only [*];simp)).trans e)
    refine .seq<|.draw (tb:=[r1 0 0,r1 1 0,r1 3 0,r1 7 0,r0 0 0,r1 31 0]) rfl (by kernel_rfl) (by kernel_rfl) ?_
    refine .m rfl rfl<|.q (.nil rfl)<|.q (.fa rfl Qby)<|.y rfl rfl rfl (.s rfl .hd a_30 rfl)<|.z rfl rfl<|.z rfl rfl<|.nil<|sq_n<|.ret<|sq_r<|Qab (hle8.trans hle9) (.tmp rfl (.tmp rfl .nil)) rfl ?_
    first
     | (rw [Qff hz,ho _ (by unfold okX;simp only [*];simp)])
     | (rw [hz,Qdy hz])
   ·have kh10:=h10;(try simp only [bk] at kh10)
    have ho:=fun (b:Bool) (e:b= !okX x0 x1 x2 x3 x4)=>tonE_a (c:=c) (ver:=ver) (fo:=fo) e
    have hz:tonE c ver fo x0 x1 x2 x3 x4=0:=(ho _ (by unfold okX;simp only [*];simp)).symm.trans kh10
    obtain ⟨hz1,hz2,hz3⟩:=Qfi hz
    refine .skip<|sq_n<|.seq<|.draw (tb:=[r0 0 0,r0 1 0,r0 3 0,r0 7 0,r0 0 0,r0 0 0,r1 63 0,r1 127 1,r1 255 1]) rfl (by kernel_rfl) (by kernel_rfl) ?_
    refine .m rfl rfl<|.q (.nil rfl)<|.q (.fa rfl Qc)<|.y rfl rfl rfl (.a (vs:=[_,_,_,_,_,_,_,_,_,_,_,_]) rfl .hd a_97 s_97 rfl rfl)<|.m rfl rfl<|.y rfl rfl rfl (.a (vs:=[_,_,_,_,_]) rfl (.tl .hd) a_38 s_38 rfl rfl)<|.callV .no rfl rfl rfl rfl rfl (Qcx _ _ _ _ _ _ _ _ _ ⟨_,_,rfl,hp9,hl9⟩ hz2)<|.z rfl rfl<|.z rfl rfl<|.nil<|sq_n<|.ret<|Qab (hle8.trans hle9) (.tmp rfl (.tmp rfl .nil)) rfl ?_
    first
     | (rw [Qff hz,ho _ (by unfold okX;simp only [*];simp)])
     | (rw [hz,Qdy hz])
  ·have kh7:=h7;(try simp only [bk] at kh7)
   refine .py h7 (.move rfl)<|.callV (.yes rfl rfl h7) rfl rfl rfl (Qan _ _ _ _)<|.py h7 (.not rfl)<|.q (.pickF rfl h7 rfl)<|.z rfl rfl<|.nil<|bq_n<|sq_n<|.region rfl<|.q (.addL (c:=3) rfl rfl rfl (by decide))<|.m rfl rfl<|.nil<|sq_n<|.unroll<|.seq<|.region rfl<|.b rfl rfl rfl rfl<|.nil<|sq_n<|.seq<|.condT rfl (by decide)<|.skip<|sq_n<|.seq<|.block<|.seq<|.region rfl<|.q (.ixv (j:=3) rfl rfl ar_38 s_3 (by decide) (by rfl)) ?_
   refine .z rfl rfl<|.nil<|sq_n<|.region rfl<|.m rfl rfl<|.m rfl rfl<|.split (t:=19) rfl (fun h11=>?_) (fun h11=>?_)
   ·have kh11:=h11;(try simp only [bk] at kh11)
    refine .k h11<|.k h11<|.k h11<|.q (.pickT rfl h11 rfl)<|.z rfl rfl<|.nil<|bq_n<|sq_n<|.region rfl<|.q (.addL (c:=4) rfl rfl rfl (by decide))<|.m rfl rfl<|.nil<|sq_n<|.unroll<|.seq<|.region rfl<|.b rfl rfl rfl rfl<|.nil<|sq_n<|.seq<|.condT rfl (by decide)<|.skip<|sq_n<|.seq<|.block<|.seq<|.region rfl<|.q (.ixv (j:=4) rfl rfl ar_38 s_3 (by decide) (by rfl)) ?_
    refine .z rfl rfl<|.nil<|sq_n<|.region rfl<|.m rfl rfl<|.m rfl rfl<|.k rfl<|.k rfl<|.k rfl<|.q (.pickT rfl rfl rfl)<|.z rfl rfl<|.nil<|bq_n<|sq_n<|.region rfl<|.q (.addL (c:=5) rfl rfl rfl (by decide))<|.m rfl rfl<|.nil<|sq_n<|.unroll<|.seq<|.region rfl<|.b rfl rfl rfl rfl<|.nil<|sq_n<|.seq<|.condF rfl (by decide)<|.exit<|sq_e<|sq_e<|bq_x rfl<|sq_n<|.seq<|.region rfl<|.w (.a (vs:=[_,_]) rfl (.tl .hd) a_24 s_24 rfl rfl)<|.call .no rfl rfl rfl (of_ok _ _ _ ⟨_,rfl,h⟩) ?_
    rintro g12 ml12 r12 hle12 ⟨b12,cs12,rfl,rfl,rfl,vv12,p12,lv12,rfl,hv12,hp12,hl12⟩
    replace h:=h.mono VersionR.mono hle12
    refine .m rfl rfl<|.callT .no rfl rfl rfl .hd (at_ok _ _ _ _ _ _ _ _ ⟨_,_,_,rfl,hv12,hp12,hl12⟩) ?_
    rintro g13 ml13 r13 hle13 ⟨cs13,rfl,rfl,rfl,vv13,p13,lv13,rfl,hv13,hp13,hl13⟩
    replace h:=h.mono VersionR.mono hle13
    replace hv12:=hv12.mono VersionR.mono hle13
    replace hp12:=hp12.mono PutR.mono hle13
    replace hl12:=fun k hk=>(hl12 k hk).mono PieceR.mono hle13
    refine .m rfl rfl<|.callR .no rfl rfl rfl .hd (by_ok _ _ _ _ _ _ _ _ _ _ _ _ _ _ _ _ _ _ _)<|.m rfl rfl<|.callR .no rfl rfl rfl .hd (Qeq _ _ _ _ _ _ _ _ _ _ _ _ _ _ _ _ _ _ _ _)<|.z rfl rfl<|.nil<|sq_n<|.seq<|.seq<|.region rfl<|.m rfl rfl<|.q (.nil rfl)<|.q (.fa rfl Qby)<|.w (.s rfl .hd a_30 rfl)<|.b rfl rfl rfl rfl<|.nil<|sq_n<|.cond rfl (fun h14=>?_) (fun h14=>?_)
    ·have kh14:=h14;(try simp only [bk] at kh14)
     have ho:=fun (b:Bool) (e:b= !okX x0 x1 x2 x3 x4)=>tonE_a (c:=c) (ver:=ver) (fo:=fo) e
     have hz: ¬ tonE c ver fo x0 x1 x2 x3 x4=0:=fun e=>kh14 ((ho _ (by unfold okX;simp only [*];simp)).trans e)
     refine .seq<|.draw (tb:=[r1 0 0,r1 1 0,r1 3 0,r1 7 0,r0 0 0,r1 31 0]) rfl (by kernel_rfl) (by kernel_rfl) ?_
     refine .m rfl rfl<|.q (.nil rfl)<|.q (.fa rfl Qby)<|.y rfl rfl rfl (.s rfl .hd a_30 rfl)<|.z rfl rfl<|.z rfl rfl<|.nil<|sq_n<|.ret<|sq_r<|Qab (hle12.trans hle13) (.tmp rfl (.tmp rfl .nil)) rfl ?_
     first
      | (rw [Qff hz,ho _ (by unfold okX;simp only [*];simp)])
      | (rw [hz,Qdy hz])
    ·have kh14:=h14;(try simp only [bk] at kh14)
     have ho:=fun (b:Bool) (e:b= !okX x0 x1 x2 x3 x4)=>tonE_a (c:=c) (ver:=ver) (fo:=fo) e
     have hz:tonE c ver fo x0 x1 x2 x3 x4=0:=(ho _ (by unfold okX;simp only [*];simp)).symm.trans kh14
     obtain ⟨hz1,hz2,hz3⟩:=Qfi hz
     refine .skip<|sq_n<|.seq<|.draw (tb:=[r0 0 0,r0 1 0,r0 3 0,r0 7 0,r0 0 0,r0 0 0,r1 63 0,r1 127 1,r1 255 1]) rfl (by kernel_rfl) (by kernel_rfl) ?_
     refine .m rfl rfl<|.q (.nil rfl)<|.q (.fa rfl Qc)<|.y rfl rfl rfl (.a (vs:=[_,_,_,_,_,_,_,_,_,_,_,_]) rfl .hd a_97 s_97 rfl rfl)<|.m rfl rfl<|.y rfl rfl rfl (.a (vs:=[_,_,_,_,_]) rfl (.tl .hd) a_38 s_38 rfl rfl)<|.callV .no rfl rfl rfl rfl rfl (Qcx _ _ _ _ _ _ _ _ _ ⟨_,_,rfl,hp13,hl13⟩ hz2)<|.z rfl rfl<|.z rfl rfl<|.nil<|sq_n<|.ret<|Qab (hle12.trans hle13) (.tmp rfl (.tmp rfl .nil)) rfl ?_
     first
      | (rw [Qff hz,ho _ (by unfold okX;simp only [*];simp)])
      | (rw [hz,Qdy hz])
   ·have kh11:=h11;(try simp only [bk] at kh11)
    refine .py h11 (.move rfl)<|.callV (.yes rfl rfl h11) rfl rfl rfl (Qan _ _ _ _)<|.py h11 (.not rfl)<|.q (.pickF rfl h11 rfl)<|.z rfl rfl<|.nil<|bq_n<|sq_n<|.region rfl<|.q (.addL (c:=4) rfl rfl rfl (by decide))<|.m rfl rfl<|.nil<|sq_n<|.unroll<|.seq<|.region rfl<|.b rfl rfl rfl rfl<|.nil<|sq_n<|.seq<|.condT rfl (by decide)<|.skip<|sq_n<|.seq<|.block<|.seq<|.region rfl<|.q (.ixv (j:=4) rfl rfl ar_38 s_3 (by decide) (by rfl)) ?_
    refine .z rfl rfl<|.nil<|sq_n<|.region rfl<|.m rfl rfl<|.m rfl rfl<|.split (t:=19) rfl (fun h15=>?_) (fun h15=>?_)
    ·have kh15:=h15;(try simp only [bk] at kh15)
     refine .k h15<|.k h15<|.k h15<|.q (.pickT rfl h15 rfl)<|.z rfl rfl<|.nil<|bq_n<|sq_n<|.region rfl<|.q (.addL (c:=5) rfl rfl rfl (by decide))<|.m rfl rfl<|.nil<|sq_n<|.unroll<|.seq<|.region rfl<|.b rfl rfl rfl rfl<|.nil<|sq_n<|.seq<|.condF rfl (by decide)<|.exit<|sq_e<|sq_e<|bq_x rfl<|sq_n<|.seq<|.region rfl<|.w (.a (vs:=[_,_]) rfl (.tl .hd) a_24 s_24 rfl rfl)<|.call .no rfl rfl rfl (of_ok _ _ _ ⟨_,rfl,h⟩) ?_
     rintro g16 ml16 r16 hle16 ⟨b16,cs16,rfl,rfl,rfl,vv16,p16,lv16,rfl,hv16,hp16,hl16⟩
     replace h:=h.mono VersionR.mono hle16
     refine .m rfl rfl<|.callT .no rfl rfl rfl .hd (at_ok _ _ _ _ _ _ _ _ ⟨_,_,_,rfl,hv16,hp16,hl16⟩) ?_
     rintro g17 ml17 r17 hle17 ⟨cs17,rfl,rfl,rfl,vv17,p17,lv17,rfl,hv17,hp17,hl17⟩
     replace h:=h.mono VersionR.mono hle17
     replace hv16:=hv16.mono VersionR.mono hle17
     replace hp16:=hp16.mono PutR.mono hle17
     replace hl16:=fun k hk=>(hl16 k hk).mono PieceR.mono hle17
     refine .m rfl rfl<|.callR .no rfl rfl rfl .hd (by_ok _ _ _ _ _ _ _ _ _ _ _ _ _ _ _ _ _ _ _)<|.m rfl rfl<|.callR .no rfl rfl rfl .hd (Qeq _ _ _ _ _ _ _ _ _ _ _ _ _ _ _ _ _ _ _ _)<|.z rfl rfl<|.nil<|sq_n<|.seq<|.seq<|.region rfl<|.m rfl rfl<|.q (.nil rfl)<|.q (.fa rfl Qby)<|.w (.s rfl .hd a_30 rfl)<|.b rfl rfl rfl rfl<|.nil<|sq_n<|.cond rfl (fun h18=>?_) (fun h18=>?_)
     ·have kh18:=h18;(try simp only [bk] at kh18)
      have ho:=fun (b:Bool) (e:b= !okX x0 x1 x2 x3 x4)=>tonE_a (c:=c) (ver:=ver) (fo:=fo) e
      have hz: ¬ tonE c ver fo x0 x1 x2 x3 x4=0:=fun e=>kh18 ((ho _ (by unfold okX;simp only [*];simp)).trans e)
      refine .seq<|.draw (tb:=[r1 0 0,r1 1 0,r1 3 0,r1 7 0,r0 0 0,r1 31 0]) rfl (by kernel_rfl) (by kernel_rfl) ?_
      refine .m rfl rfl<|.q (.nil rfl)<|.q (.fa rfl Qby)<|.y rfl rfl rfl (.s rfl .hd a_30 rfl)<|.z rfl rfl<|.z rfl rfl<|.nil<|sq_n<|.ret<|sq_r<|Qab (hle16.trans hle17) (.tmp rfl (.tmp rfl .nil)) rfl ?_
      first
       | (rw [Qff hz,ho _ (by unfold okX;simp only [*];simp)])
       | (rw [hz,Qdy hz])
     ·have kh18:=h18;(try simp only [bk] at kh18)
      have ho:=fun (b:Bool) (e:b= !okX x0 x1 x2 x3 x4)=>tonE_a (c:=c) (ver:=ver) (fo:=fo) e
      have hz:tonE c ver fo x0 x1 x2 x3 x4=0:=(ho _ (by unfold okX;simp only [*];simp)).symm.trans kh18
      obtain ⟨hz1,hz2,hz3⟩:=Qfi hz
      refine .skip<|sq_n<|.seq<|.draw (tb:=[r0 0 0,r0 1 0,r0 3 0,r0 7 0,r0 0 0,r0 0 0,r1 63 0,r1 127 1,r1 255 1]) rfl (by kernel_rfl) (by kernel_rfl) ?_
      refine .m rfl rfl<|.q (.nil rfl)<|.q (.fa rfl Qc)<|.y rfl rfl rfl (.a (vs:=[_,_,_,_,_,_,_,_,_,_,_,_]) rfl .hd a_97 s_97 rfl rfl)<|.m rfl rfl<|.y rfl rfl rfl (.a (vs:=[_,_,_,_,_]) rfl (.tl .hd) a_38 s_38 rfl rfl)<|.callV .no rfl rfl rfl rfl rfl (Qcx _ _ _ _ _ _ _ _ _ ⟨_,_,rfl,hp17,hl17⟩ hz2)<|.z rfl rfl<|.z rfl rfl<|.nil<|sq_n<|.ret<|Qab (hle16.trans hle17) (.tmp rfl (.tmp rfl .nil)) rfl ?_
      first
       | (rw [Qff hz,ho _ (by unfold okX;simp only [*];simp)])
       | (rw [hz,Qdy hz])
    ·have kh15:=h15;(try simp only [bk] at kh15)
     refine .py h15 (.move rfl)<|.callV (.yes rfl rfl h15) rfl rfl rfl (Qan _ _ _ _)<|.py h15 (.not rfl)<|.q (.pickF rfl h15 rfl)<|.z rfl rfl<|.nil<|bq_n<|sq_n<|.region rfl<|.q (.addL (c:=5) rfl rfl rfl (by decide))<|.m rfl rfl<|.nil<|sq_n<|.unroll<|.seq<|.region rfl<|.b rfl rfl rfl rfl<|.nil<|sq_n<|.seq<|.condF rfl (by decide)<|.exit<|sq_e<|sq_e<|bq_x rfl<|sq_n<|.seq<|.region rfl<|.w (.a (vs:=[_,_]) rfl (.tl .hd) a_24 s_24 rfl rfl)<|.call .no rfl rfl rfl (of_ok _ _ _ ⟨_,rfl,h⟩) ?_
     rintro g19 ml19 r19 hle19 ⟨b19,cs19,rfl,rfl,rfl,vv19,p19,lv19,rfl,hv19,hp19,hl19⟩
     replace h:=h.mono VersionR.mono hle19
     refine .m rfl rfl<|.callT .no rfl rfl rfl .hd (at_ok _ _ _ _ _ _ _ _ ⟨_,_,_,rfl,hv19,hp19,hl19⟩) ?_
     rintro g20 ml20 r20 hle20 ⟨cs20,rfl,rfl,rfl,vv20,p20,lv20,rfl,hv20,hp20,hl20⟩
     replace h:=h.mono VersionR.mono hle20
     replace hv19:=hv19.mono VersionR.mono hle20
     replace hp19:=hp19.mono PutR.mono hle20
     replace hl19:=fun k hk=>(hl19 k hk).mono PieceR.mono hle20
     refine .m rfl rfl<|.callR .no rfl rfl rfl .hd (by_ok _ _ _ _ _ _ _ _ _ _ _ _ _ _ _ _ _ _ _)<|.m rfl rfl<|.callR .no rfl rfl rfl .hd (Qeq _ _ _ _ _ _ _ _ _ _ _ _ _ _ _ _ _ _ _ _)<|.z rfl rfl<|.nil<|sq_n<|.seq<|.seq<|.region rfl<|.m rfl rfl<|.q (.nil rfl)<|.q (.fa rfl Qby)<|.w (.s rfl .hd a_30 rfl)<|.b rfl rfl rfl rfl<|.nil<|sq_n<|.cond rfl (fun h21=>?_) (fun h21=>?_)
     ·have kh21:=h21;(try simp only [bk] at kh21)
      have ho:=fun (b:Bool) (e:b= !okX x0 x1 x2 x3 x4)=>tonE_a (c:=c) (ver:=ver) (fo:=fo) e
      have hz: ¬ tonE c ver fo x0 x1 x2 x3 x4=0:=fun e=>kh21 ((ho _ (by unfold okX;simp only [*];simp)).trans e)
      refine .seq<|.draw (tb:=[r1 0 0,r1 1 0,r1 3 0,r1 7 0,r0 0 0,r1 31 0]) rfl (by kernel_rfl) (by kernel_rfl) ?_
      refine .m rfl rfl<|.q (.nil rfl)<|.q (.fa rfl Qby)<|.y rfl rfl rfl (.s rfl .hd a_30 rfl)<|.z rfl rfl<|.z rfl rfl<|.nil<|sq_n<|.ret<|sq_r<|Qab (hle19.trans hle20) (.tmp rfl (.tmp rfl .nil)) rfl ?_
      first
       | (rw [Qff hz,ho _ (by unfold okX;simp only [*];simp)])
       | (rw [hz,Qdy hz])
     ·have kh21:=h21;(try simp only [bk] at kh21)
      have ho:=fun (b:Bool) (e:b= !okX x0 x1 x2 x3 x4)=>tonE_a (c:=c) (ver:=ver) (fo:=fo) e
      have hz:tonE c ver fo x0 x1 x2 x3 x4=0:=(ho _ (by unfold okX;simp only [*];simp)).symm.trans kh21
      obtain ⟨hz1,hz2,hz3⟩:=Qfi hz
      refine .skip<|sq_n<|.seq<|.draw (tb:=[r0 0 0,r0 1 0,r0 3 0,r0 7 0,r0 0 0,r0 0 0,r1 63 0,r1 127 1,r1 255 1]) rfl (by kernel_rfl) (by kernel_rfl) ?_
      refine .m rfl rfl<|.q (.nil rfl)<|.q (.fa rfl Qc)<|.y rfl rfl rfl (.a (vs:=[_,_,_,_,_,_,_,_,_,_,_,_]) rfl .hd a_97 s_97 rfl rfl)<|.m rfl rfl<|.y rfl rfl rfl (.a (vs:=[_,_,_,_,_]) rfl (.tl .hd) a_38 s_38 rfl rfl)<|.callV .no rfl rfl rfl rfl rfl (Qcx _ _ _ _ _ _ _ _ _ ⟨_,_,rfl,hp20,hl20⟩ hz2)<|.z rfl rfl<|.z rfl rfl<|.nil<|sq_n<|.ret<|Qab (hle19.trans hle20) (.tmp rfl (.tmp rfl .nil)) rfl ?_
      first
       | (rw [Qff hz,ho _ (by unfold okX;simp only [*];simp)])
       | (rw [hz,Qdy hz])
theorem rv_pv (n:Int):∀ (r:List Piece) (k:Nat) (p:Piece) (l:List Piece),l.drop k=p :: r→∃ q,l[pixF n r k]? =some q∧rvF n r (p.val n)=q.val n
 | [],k,p,l,h=>by
  refine ⟨p,?_,rfl⟩
  have:l[k]? =(l.drop k)[0]? :=by rw [List.getElem?_drop];rfl
  simp only [pixF]
  rw [this,h];rfl
 | q :: r,k,p,l,h=>by
  unfold pixF rvF
  by_cases hq:q.fr≤n
  ·rw [if_pos hq,if_pos hq]
   refine rv_pv n r (k+1) q l ?_
   rw [←List.drop_drop,h];rfl
  ·rw [if_neg hq,if_neg hq]
   refine ⟨p,?_,rfl⟩
   have:l[k]? =(l.drop k)[0]? :=by rw [List.getElem?_drop];rfl
   rw [this,h];rfl
theorem lineB_first {l:List Piece} {p:Piece} (h:lineB l=true) (hp:l[0]? =some p):p.fr=0:=by
 unfold lineB at h
 simp only [Bool.and_eq_true] at h
 have h0:0 < l.length:=(List.getElem?_eq_some_iff.1 hp).1
 have:=Qcm h.2 h0
 unfold pgood at this
 rw [hp] at this
 simp only [if_true,Bool.and_eq_true,decide_eq_true_eq] at this
 exact this.2.2.2
theorem clos_ref {l:List Piece} {n:Int} (h:lineB l=true) (hn:0≤n):closV l n=refV l n:=by
 cases l with
 | nil=>rfl
 | cons p r=>
  have hp:=lineB_first h (p:=p) rfl
  obtain ⟨q,h1,h2⟩:=rv_pv n r 0 p (p :: r) rfl
  unfold closV refV pix rvF
  rw [if_pos (by omega),h2]
  show (match (p :: r)[pixF n r 0]? with | some p=>p.val n | none=>0)=_
  rw [h1]
end Go.Proofs.YtjflgemfeofciaaGreatDoor
