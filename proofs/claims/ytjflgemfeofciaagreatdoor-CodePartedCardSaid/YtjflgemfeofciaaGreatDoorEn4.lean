import Derived.Test.YtjflgemfeofciaaGreatDoorJu4
import Derived.Test.YtjflgemfeofciaaGreatDoorPq4
namespace Go.Proofs.YtjflgemfeofciaaGreatDoor
open Go Go.Ev
set_option linter.unusedVariables false
set_option linter.unusedSimpArgs false
set_option maxRecDepth 10000
theorem onE_zero {c:Code} {day f:Int} (h:onE c.err c day f=0):c.err=0∧(f=0∨f=1)∧0≤Qbc c day∧Qbc c day < c.vs.length:=by
 have h0:=on_ix h
 unfold onE byE at h
 obtain ⟨a,_⟩:=Qcw (by decide) h
 obtain ⟨b,e⟩:=Qcw (by decide) a
 obtain ⟨d,_⟩:=Qcw (by decide) b
 refine ⟨d,?_,h0⟩
 by_cases e0:f=0
 ·exact .inl e0
 ·by_cases e1:f=1
  ·exact .inr e1
  ·rw [decide_eq_false e0,decide_eq_false e1] at e;cases e
theorem err_ver {c:Code} {k:Nat} {y:Version} (h:c.err=0) (hy:c.vs[k]? =some y):y.ok=true:=by
 unfold Code.err at h
 split at h
 ·rename_i h1
  unfold Code.ok at h1
  simp only [Bool.and_eq_true] at h1
  have:=Qcm h1.2.2 (List.getElem?_eq_some_iff.1 hy).1
  unfold vgood at this
  rw [hy] at this
  simp only [Bool.and_eq_true] at this
  exact this.1
 ·cases h
theorem ver_puts {v:Version} (h:v.ok=true):v.puts.all Put.ok=true:=by
 unfold Version.ok at h
 simp only [Bool.and_eq_true] at h
 exact h.2.2.1
theorem ver_lines {v:Version} (h:v.ok=true):∀ k,k < 10→lineB (v.ln k)=true:=by
 unfold Version.ok at h
 simp only [Bool.and_eq_true] at h
 exact fun k hk=>Qcm h.2.2.2 hk
def verF (c:Code) (day:Int):Version:=c.vs.getD (Qbc c day).toNat .none
def endE (c:Code) (day f:Int) (l:List Room):Int:=withE (onE c.err c day f) l
theorem rooms20 {l:List Room} (h:Qck l=0):l.length≤20:=by
 unfold Qck at h
 split at h
 ·rename_i h1;exact h1.1
 ·cases h
structure EndOk (c:Code) (day f:Int) (l:List Room):Prop where
 on:onE c.err c day f=0
 f01:f=0∨f=1
 ver:onV c.err c day f .none=verF c day
 idx:onX c.err c day f (-1)=Qbc c day
 puts:(verF c day).puts.all Put.ok=true
 lines:∀ k,k < 10→lineB ((verF c day).ln k)=true
 len:l.length≤20
theorem endE_zero {c:Code} {day f:Int} {l:List Room} (h:endE c day f l=0):EndOk c day f l:=by
 unfold endE withE at h
 obtain ⟨a,b⟩:=Qcw (by decide) h
 obtain ⟨e,f01,i1,i2⟩:=onE_zero a
 have hy:c.vs[(Qbc c day).toNat]? =some (verF c day):=by
  have:(Qbc c day).toNat < c.vs.length:=by omega
  unfold verF
  rw [List.getD_eq_getElem?_getD,List.getElem?_eq_getElem this];rfl
 have hv:=err_ver e hy
 refine ⟨a,f01,onV_yes a hy,onX_yes a,ver_puts hv,ver_lines hv,rooms20 ?_⟩
 by_cases e0:Qck l=0
 ·exact e0
 ·rw [decide_eq_false e0] at b;cases b
def judA (sel:Int × Int→Int) (ver:Version) (fo:Int) (lo hi:Nat→Int):List V:=[.i .i64 (downI (tonS closV ver fo.toNat (sel (judL ver fo.toNat lo hi 1)) (sel (judL ver fo.toNat lo hi 2)) (sel (judL ver fo.toNat lo hi 3)) (sel (judL ver fo.toNat lo hi 4)) (sel (judL ver fo.toNat lo hi 5)))),.i .i64 (sel (judL ver fo.toNat lo hi 1)),.i .i64 (sel (judL ver fo.toNat lo hi 2)),.i .i64 (sel (judL ver fo.toNat lo hi 3)),.i .i64 (sel (judL ver fo.toNat lo hi 4)),.i .i64 (sel (judL ver fo.toNat lo hi 5))]
def zEnd:List V:=[.i .i64 0,.i .i64 0,.i .i64 0,.i .i64 0,.i .i64 0,.i .i64 0]
def endA (sel:Int × Int→Int) (c:Code) (day f:Int) (l:List Room):List V:=if endE c day f l=0 then judA sel (verF c day) f (fun i=>litI (verF c day) Room.lo i l) (fun i=>litI (verF c day) Room.hi i l) else zEnd
theorem endA_no {sel:Int × Int→Int} {c:Code} {day f:Int} {l:List Room} (h: ¬ endE c day f l=0):endA sel c day f l=zEnd:=if_neg h
theorem endA_yes {sel:Int × Int→Int} {c:Code} {day f:Int} {l:List Room} (h:endE c day f l=0):endA sel c day f l=judA sel (verF c day) f (fun i=>litI (verF c day) Room.lo i l) (fun i=>litI (verF c day) Room.hi i l):=if_pos h
set_option maxHeartbeats 4000000 in
theorem Ends_ok (c:Code) (day f:Int) (l:List Room) (w:V) (cs:List V) (g:G) (h:CodeR g cs c) (hr:RS RoomR 6 g w l):Fv Tryz.prog natS (.f 24 [] []) [.agg cs,.i .i64 day,.i .i64 f,w] g (.tup [.agg (endA Prod.fst c day f l),.agg (endA Prod.snd c day f l),.i .i64 (endE c day f l)]):=by
 obtain ⟨v,rfl,h⟩:=h
 refine Fw.fv ?_
 refine Fw.enter (N:=44) (al:=[(3,_),(2,_),(1,_),(0,_)]) Tryz.func24 (by kernel_rfl) (by kernel_rfl) rfl rfl rfl rfl ?_
 intro B
 refine .seq<|.region rfl<|.box .no rfl rfl rfl rfl fun b1=>.alloc .no rfl z_40 fun b2=>.alloc .no rfl z_40 fun b3=>.z rfl rfl<|.nil<|sq_n<|.seq<|.region rfl<|.w (.a (vs:=[_,_]) rfl (.tl (.tl .hd)) a_24 s_24 rfl rfl)<|.call .no rfl rfl rfl (of_ok _ _ _ ⟨_,rfl,h⟩) ?_
 rintro g4 ml4 r4 hle4 ⟨b4,cs4,rfl,rfl,rfl,vv4,p4,lv4,rfl,hv4,hp4,hl4⟩
 replace h:=h.mono VersionR.mono hle4
 replace hr:=hr.mono RoomR.mono hle4
 refine .m rfl rfl<|.m rfl rfl<|.callT .no rfl rfl rfl .hd (on_ok _ _ _ _ _ _ _ _ _ ⟨_,_,_,rfl,hv4,hp4,hl4⟩) ?_
 rintro g5 ml5 r5 hle5 ⟨cs5,rfl,rfl,rfl,vv5,p5,lv5,rfl,hv5,hp5,hl5⟩
 replace h:=h.mono VersionR.mono hle5
 replace hr:=hr.mono RoomR.mono hle5
 replace hv4:=hv4.mono VersionR.mono hle5
 replace hp4:=hp4.mono PutR.mono hle5
 replace hl4:=fun k hk=>(hl4 k hk).mono PieceR.mono hle5
 refine .m rfl rfl<|.callR .no rfl rfl rfl .hd (with_ok _ _ _ _ _ _ _ _ _ _ _ _ _ _ _ _ _ _ _ _ hr)<|.z rfl rfl<|.nil<|sq_n<|.seq<|.seq<|.region rfl<|.m rfl rfl<|.q (.nil rfl)<|.q (.fa rfl Qby)<|.w (.s rfl .hd a_30 rfl)<|.b rfl rfl rfl rfl<|.nil<|sq_n<|.cond rfl (fun h6=>?_) (fun h6=>?_)
 ·have kh6:=h6;(try simp only [bk] at kh6)
  have hn: ¬ endE c day f l=0:=kh6
  refine .seq<|.draw (tb:=[r0 0 0,r0 0 0,r1 0 0,r1 4 0,r1 12 0,r1 28 0,r0 1 0,r0 67 1,r1 255 2]) rfl (by kernel_rfl) (by kernel_rfl) ?_
  refine .q (.build (qs:=[]) (cs:=[_,_,_,_,_,_]) rfl b_40 rfl)<|.q (.build (qs:=[]) (cs:=[_,_,_,_,_,_]) rfl b_40 rfl)<|.m rfl rfl<|.q (.nil rfl)<|.q (.fa rfl Qby)<|.y rfl rfl rfl (.s rfl .hd a_30 rfl)<|.st (cs':=[_,_,_,_,_,_]) .no rfl rfl rfl rfl rfl rfl s_40 rfl rfl (.tl (.tl .hd)) rfl rfl (FrL.cN (fun _ s=>s.neb (.tl (.tl .hd)) .hd) FrL.n)<|.st (cs':=[_,_,_,_,_,_]) .no rfl rfl rfl rfl rfl rfl s_40 rfl rfl (.tl .hd) rfl rfl (FrL.cN (fun _ s=>s.neb (.tl .hd) .hd) FrL.n)<|.z rfl rfl<|.nil<|sq_n<|.ret<|sq_r<|Qab (hle4.trans hle5) (.cell (.a (vs:=[_,_,_,_,_,_]) rfl (.tl (.tl .hd)) a_40 s_40 rfl rfl) (.cell (.a (vs:=[_,_,_,_,_,_]) rfl (.tl .hd) a_40 s_40 rfl rfl) (.tmp rfl .nil))) rfl ?_
  first
   | (rw [endA_no hn,endA_no hn];rfl)
   | (rw [endA_yes h0,endA_yes h0,h0,hz.ver];rfl)
 ·have kh6:=h6;(try simp only [bk] at kh6)
  have h0:endE c day f l=0:=kh6
  have hz:=endE_zero h0
  have hz1:(onV c.err c day f .none).puts.all Put.ok=true:=by rw [hz.ver];exact hz.puts
  have hz2:∀ k,k < 10→lineB ((onV c.err c day f .none).ln k)=true:=by rw [hz.ver];exact hz.lines
  refine .freeze .hd ?_
  intro g7 hle8 hz9
  replace h:=h.mono VersionR.mono hle8
  replace hr:=hr.mono RoomR.mono hle8
  replace hv4:=hv4.mono VersionR.mono hle8
  replace hp4:=hp4.mono PutR.mono hle8
  replace hl4:=fun k hk=>(hl4 k hk).mono PieceR.mono hle8
  replace hv5:=hv5.mono VersionR.mono hle8
  replace hp5:=hp5.mono PutR.mono hle8
  replace hl5:=fun k hk=>(hl5 k hk).mono PieceR.mono hle8
  refine .skip<|sq_n<|.seq<|.draw (tb:=[r1 0 0,r1 1 0,r1 3 0,r1 7 0,r0 0 0,r0 0 0,r0 0 0,r0 96 0,r1 255 1,r1 511 2,r1 1023 2,r1 1023 2,r1 2047 2,r1 8191 3]) rfl (by kernel_rfl) (by kernel_rfl) ?_
  refine .m rfl rfl<|.q (.nil rfl)<|.q (.fa rfl Qc)<|.y rfl rfl rfl (.a (vs:=[_,_,_,_,_,_,_,_,_,_,_,_]) rfl (.g hz9) a_97 s_97 rfl rfl)<|.m rfl rfl<|.m rfl rfl<|.m rfl rfl<|.call .no rfl rfl rfl rfl rfl (gplan_ok _ _ _ _ _ _ _ _ _ hz9 ⟨_,_,_,rfl,hv5,hp5,hl5⟩ hr hz.len hz1) ?_
  rintro g10 ml10 r10 hle10 ⟨cs10,rfl,rfl,rv10,rfl,hrv10⟩
  replace h:=h.mono VersionR.mono hle10
  replace hr:=hr.mono RoomR.mono hle10
  replace hv4:=hv4.mono VersionR.mono hle10
  replace hp4:=hp4.mono PutR.mono hle10
  replace hl4:=fun k hk=>(hl4 k hk).mono PieceR.mono hle10
  replace hv5:=hv5.mono VersionR.mono hle10
  replace hp5:=hp5.mono PutR.mono hle10
  replace hl5:=fun k hk=>(hl5 k hk).mono PieceR.mono hle10
  replace hz9:=hle10 _ _ hz9
  refine .callV .no rfl rfl rfl rfl rfl (judged_ok _ _ _ _ _ _ _ _ _ ⟨_,_,rfl,hp5,hl5⟩ (PlanR.gen (v:=onV c.err c day f .none) (l:=l) ⟨_,rfl,hrv10⟩) hz.f01 hz2)<|.m rfl rfl<|.q (.ext rfl rfl)<|.q (.ext rfl rfl)<|.st (cs':=[_,_,_,_,_,_]) .no rfl rfl rfl rfl rfl rfl s_40 rfl rfl (.tl .hd) rfl rfl (.all (Qaa rfl rfl))<|.st (cs':=[_,_,_,_,_,_]) .no rfl rfl rfl rfl rfl rfl s_40 rfl rfl .hd rfl rfl (.all (Qaa rfl rfl))<|.nil<|sq_n<|.seq<|.draw (tb:=[r0 0 0,r0 0 0,r0 1 0,r1 7 1,r1 15 2]) rfl (by kernel_rfl) (by kernel_rfl) ?_
  refine .y rfl rfl rfl (.a (vs:=[_,_,_,_,_,_]) rfl (.tl .hd) a_40 s_40 rfl rfl)<|.y rfl rfl rfl (.a (vs:=[_,_,_,_,_,_]) rfl .hd a_40 s_40 rfl rfl)<|.st (cs':=[_,_,_,_,_,_]) .no rfl rfl rfl rfl rfl rfl s_40 rfl rfl (.tl .hd) rfl rfl (FrL.cN (fun _ s=>s.neb (.tl .hd) .hd) (FrL.cI rfl FrL.n))<|.st (cs':=[_,_,_,_,_,_]) .no rfl rfl rfl rfl rfl rfl s_40 rfl rfl .hd rfl rfl (.all (Qaa rfl (Qaa rfl rfl)))<|.z rfl rfl<|.nil<|sq_n<|.ret<|Qab (((hle4.trans hle5).trans hle8).trans hle10) (.cell (.a (vs:=[_,_,_,_,_,_]) rfl (.tl .hd) a_40 s_40 rfl rfl) (.cell (.a (vs:=[_,_,_,_,_,_]) rfl .hd a_40 s_40 rfl rfl) (.tmp rfl .nil))) rfl ?_
  first
   | (rw [endA_no hn,endA_no hn];rfl)
   | (rw [endA_yes h0,endA_yes h0,h0,hz.ver];rfl)
theorem endA_cells {sel:Int × Int→Int} {c:Code} {day f:Int} {l:List Room}:∃ t a b d e k:Int,endA sel c day f l=[.i .i64 t,.i .i64 a,.i .i64 b,.i .i64 d,.i .i64 e,.i .i64 k]:=by
 unfold endA judA zEnd
 split <;> exact ⟨_,_,_,_,_,_,rfl⟩
def ton0:List V→V
 | v :: _=>v
 | []=>.sn
theorem Judge_ok (c:Code) (day f:Int) (l:List Room) (w:V) (cs:List V) (g:G) (h:CodeR g cs c) (hr:RS RoomR 6 g w l):Fv Tryz.prog natS (.f 22 [] []) [.agg cs,.i .i64 day,.i .i64 f,w] g (.tup [.agg [ton0 (endA Prod.fst c day f l),ton0 (endA Prod.snd c day f l)],.i .i64 (endE c day f l)]):=by
 obtain ⟨v,rfl,h⟩:=h
 obtain ⟨t1,a1,a2,a3,a4,a5,ea⟩:=endA_cells (sel:=Prod.fst) (c:=c) (day:=day) (f:=f) (l:=l)
 obtain ⟨t2,b1,b2,b3,b4,b5,eb⟩:=endA_cells (sel:=Prod.snd) (c:=c) (day:=day) (f:=f) (l:=l)
 have he:=Ends_ok c day f l w _ g ⟨_,rfl,h⟩ hr
 rw [ea,eb] at he ⊢
 refine Fw.fv ?_
 refine Fw.enter (N:=28) (al:=[(3,_),(2,_),(1,_),(0,_)]) Tryz.func22 (by kernel_rfl) (by kernel_rfl) rfl rfl rfl rfl ?_
 intro B
 refine .seq<|.region rfl<|.box .no rfl rfl rfl rfl fun b1=>.alloc .no rfl z_27 fun b2=>.z rfl rfl<|.nil<|sq_n<|.seq<|.region rfl<|.w (.a (vs:=[_,_]) rfl (.tl .hd) a_24 s_24 rfl rfl)<|.m rfl rfl<|.m rfl rfl<|.m rfl rfl<|.callV .no rfl rfl rfl he<|.m rfl rfl<|.q (.ext rfl rfl)<|.q (.ext rfl rfl)<|.q (.ext rfl rfl)<|.alloc .no rfl z_40 fun b3=>.alloc .no rfl z_40 fun b4=>.st (cs':=[_,_,_,_,_,_]) .no rfl rfl rfl rfl s_40 rfl rfl (.tl .hd) rfl rfl<|.st (cs':=[_,_,_,_,_,_]) .no rfl rfl rfl rfl s_40 rfl rfl .hd rfl rfl<|.z rfl rfl<|.nil<|sq_n<|.seq<|.region rfl<|.q (.fa rfl f_40_0)<|.w (.s rfl (.tl .hd) a_3 rfl)<|.q (.fa rfl f_40_0)<|.w (.s rfl .hd a_3 rfl)<|.q (.build (qs:=[(0,_),(1,_)]) (cs:=[_,_]) rfl b_27 rfl) ?_
 refine .m rfl rfl<|.st (cs':=[_,_]) .no rfl rfl rfl rfl s_27 rfl rfl (.tl (.tl .hd)) rfl rfl<|.z rfl rfl<|.nil<|sq_n<|.ret<|Qab (Le.refl _) (.cell (.a (vs:=[_,_]) rfl (.tl (.tl .hd)) a_27 s_27 rfl rfl) (.tmp rfl .nil)) rfl ?_
 rfl
end Go.Proofs.YtjflgemfeofciaaGreatDoor
