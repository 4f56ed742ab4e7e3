import Derived.Test.YtjflgemfeofciaaGreatDoorVa4
namespace Go.Proofs.YtjflgemfeofciaaGreatDoor
open Go Go.Ev
set_option linter.unusedVariables false
set_option linter.unusedSimpArgs false
set_option maxRecDepth 10000
def downI (a:Int):Int:=if a.tmod 1000 < 0 then w64 (w64 (a.tdiv 1000) - 1) else w64 (a.tdiv 1000)
theorem down_ok (a:Int) (g:G):Fv Tryz.prog natS (.f 134 [] []) [.i .i64 a,.i .i64 1000] g (.i .i64 (downI a)):=by
 refine Fw.fv ?_
 refine Fw.enter (N:=16) (al:=[(1,_),(0,_)]) Tryz.func134 (by kernel_rfl) (by kernel_rfl) rfl rfl rfl rfl ?_
 intro B
 refine .seq<|.region rfl<|.z rfl rfl<|.nil<|sq_n<|.seq<|.region rfl<|.m rfl rfl<|.m rfl rfl<|.b rfl rfl rfl rfl<|.z rfl rfl<|.nil<|sq_n<|.seq<|.seq<|.region rfl<|.m rfl rfl<|.m rfl rfl<|.b rfl rfl rfl rfl<|.b rfl rfl rfl rfl<|.nil<|sq_n<|.cond rfl (fun h1=>?_) (fun h1=>?_)
 ·have kh1:=h1;(try simp only [bk] at kh1)
  refine .region rfl<|.m rfl rfl<|.b rfl rfl rfl rfl<|.z rfl rfl<|.nil<|sq_n<|.seq<|.region rfl<|.m rfl rfl<|.z rfl rfl<|.nil<|sq_n<|.ret<|Qaa (Le.refl _) (.tmp rfl .nil) rfl<|congrArg (V.i .i64) ?_;unfold downI;first | (rw [if_pos (by omega)];rfl) | (rw [if_neg (by omega)];rfl)
 ·have kh1:=h1;(try simp only [bk] at kh1)
  refine .skip<|sq_n<|.seq<|.region rfl<|.m rfl rfl<|.z rfl rfl<|.nil<|sq_n<|.ret<|Qaa (Le.refl _) (.tmp rfl .nil) rfl<|congrArg (V.i .i64) ?_;unfold downI;first | (rw [if_pos (by omega)];rfl) | (rw [if_neg (by omega)];rfl)
def wadd (a b:Int):Int:=w64 (a+b)
def tonS (f:List Piece→Int→Int) (v:Version) (k:Nat) (x0 x1 x2 x3 x4:Int):Int:=wadd (wadd (wadd (wadd (wadd 0 (f (v.ln (5 * k)) x0)) (f (v.ln (5 * k+1)) x1)) (f (v.ln (5 * k+2)) x2)) (f (v.ln (5 * k+3)) x3)) (f (v.ln (5 * k+4)) x4)
theorem tonnage_ok (v:Version) (fo:Int) (x0 x1 x2 x3 x4:Int) (cs:List V) (g:G) (h:VersionR g cs v) (hf:fo=0∨fo=1):Fv Tryz.prog natS (.f 84 [] []) [.agg cs,.i .i64 fo,.agg [.i .i64 x0,.i .i64 x1,.i .i64 x2,.i .i64 x3,.i .i64 x4]] g (.i .i64 (downI (tonS closV v fo.toNat x0 x1 x2 x3 x4))):=by
 obtain ⟨p,lv,rfl,hp,hl⟩:=h
 refine Fw.fv ?_
 rcases hf with rfl | rfl
 ·skip
  refine Fw.enter (N:=29) (al:=[(2,_),(1,_),(0,_)]) Tryz.func84 (by kernel_rfl) (by kernel_rfl) rfl rfl rfl rfl ?_
  intro B
  refine .seq<|.region rfl<|.box .no rfl rfl rfl rfl fun b1=>.box .no rfl rfl rfl rfl fun b2=>.z rfl rfl<|.nil<|sq_n<|.seq<|.region rfl<|.z rfl rfl<|.nil<|sq_n<|.seq<|.seq<|.region rfl<|.w (.a (vs:=[_,_,_,_,_]) rfl .hd a_38 s_38 rfl rfl)<|.m rfl rfl<|.nil<|sq_n<|.block<|.unroll<|.seq<|.region rfl<|.b rfl rfl rfl rfl<|.nil<|sq_n<|.seq<|.condT rfl (by decide)<|.skip<|sq_n<|.seq<|.block<|.seq<|.region rfl<|.m rfl rfl ?_
  refine .q (.ixv (j:=0) rfl rfl ar_38 s_3 (by decide) (by rfl)) ?_
  refine .z rfl rfl<|.z rfl rfl<|.nil<|sq_n<|.region rfl<|.m rfl rfl<|.m rfl rfl<|.m rfl rfl<|.q (.fa rfl Qaj)<|.q (.ixa (j:=0) rfl rfl ae_95 (by decide))<|.q (.ixa (j:=0) rfl rfl ae_94 (by decide))<|.w (.s rfl (.tl .hd) a_93 rfl)<|.call .no rfl rfl rfl (Qcj _ (hl 0 (by decide)).any (hl 0 (by decide)).cells _) ?_
  rintro g3 ml3 r3 hle3 ⟨b3,rfl,rfl,hb3⟩
  replace hl:=fun k hk=>(hl k hk).mono PieceR.mono hle3
  refine .m rfl rfl<|.callV .no rfl rfl rfl (Qae _ _ _ _ _ hb3 (hl 0 (by decide)))<|.b rfl rfl rfl rfl<|.z rfl rfl<|.nil<|bq_n<|sq_n<|.region rfl<|.q (.addL (c:=1) rfl rfl rfl (by decide))<|.m rfl rfl<|.nil<|sq_n<|.unroll<|.seq<|.region rfl<|.b rfl rfl rfl rfl<|.nil<|sq_n<|.seq<|.condT rfl (by decide)<|.skip<|sq_n<|.seq<|.block<|.seq<|.region rfl<|.m rfl rfl<|.q (.ixv (j:=1) rfl rfl ar_38 s_3 (by decide) (by rfl)) ?_
  refine .z rfl rfl<|.z rfl rfl<|.nil<|sq_n<|.region rfl<|.m rfl rfl<|.m rfl rfl<|.m rfl rfl<|.q (.fa rfl Qaj)<|.q (.ixa (j:=0) rfl rfl ae_95 (by decide))<|.q (.ixa (j:=1) rfl rfl ae_94 (by decide))<|.w (.s rfl (.tl .hd) a_93 rfl)<|.call .no rfl rfl rfl (Qcj _ (hl 1 (by decide)).any (hl 1 (by decide)).cells _) ?_
  rintro g4 ml4 r4 hle4 ⟨b4,rfl,rfl,hb4⟩
  replace hl:=fun k hk=>(hl k hk).mono PieceR.mono hle4
  refine .m rfl rfl<|.callV .no rfl rfl rfl (Qae _ _ _ _ _ hb4 (hl 1 (by decide)))<|.b rfl rfl rfl rfl<|.z rfl rfl<|.nil<|bq_n<|sq_n<|.region rfl<|.q (.addL (c:=2) rfl rfl rfl (by decide))<|.m rfl rfl<|.nil<|sq_n<|.unroll<|.seq<|.region rfl<|.b rfl rfl rfl rfl<|.nil<|sq_n<|.seq<|.condT rfl (by decide)<|.skip<|sq_n<|.seq<|.block<|.seq<|.region rfl<|.m rfl rfl<|.q (.ixv (j:=2) rfl rfl ar_38 s_3 (by decide) (by rfl)) ?_
  refine .z rfl rfl<|.z rfl rfl<|.nil<|sq_n<|.region rfl<|.m rfl rfl<|.m rfl rfl<|.m rfl rfl<|.q (.fa rfl Qaj)<|.q (.ixa (j:=0) rfl rfl ae_95 (by decide))<|.q (.ixa (j:=2) rfl rfl ae_94 (by decide))<|.w (.s rfl (.tl .hd) a_93 rfl)<|.call .no rfl rfl rfl (Qcj _ (hl 2 (by decide)).any (hl 2 (by decide)).cells _) ?_
  rintro g5 ml5 r5 hle5 ⟨b5,rfl,rfl,hb5⟩
  replace hl:=fun k hk=>(hl k hk).mono PieceR.mono hle5
  refine .m rfl rfl<|.callV .no rfl rfl rfl (Qae _ _ _ _ _ hb5 (hl 2 (by decide)))<|.b rfl rfl rfl rfl<|.z rfl rfl<|.nil<|bq_n<|sq_n<|.region rfl<|.q (.addL (c:=3) rfl rfl rfl (by decide))<|.m rfl rfl<|.nil<|sq_n<|.unroll<|.seq<|.region rfl<|.b rfl rfl rfl rfl<|.nil<|sq_n<|.seq<|.condT rfl (by decide)<|.skip<|sq_n<|.seq<|.block<|.seq<|.region rfl<|.m rfl rfl<|.q (.ixv (j:=3) rfl rfl ar_38 s_3 (by decide) (by rfl)) ?_
  refine .z rfl rfl<|.z rfl rfl<|.nil<|sq_n<|.region rfl<|.m rfl rfl<|.m rfl rfl<|.m rfl rfl<|.q (.fa rfl Qaj)<|.q (.ixa (j:=0) rfl rfl ae_95 (by decide))<|.q (.ixa (j:=3) rfl rfl ae_94 (by decide))<|.w (.s rfl (.tl .hd) a_93 rfl)<|.call .no rfl rfl rfl (Qcj _ (hl 3 (by decide)).any (hl 3 (by decide)).cells _) ?_
  rintro g6 ml6 r6 hle6 ⟨b6,rfl,rfl,hb6⟩
  replace hl:=fun k hk=>(hl k hk).mono PieceR.mono hle6
  refine .m rfl rfl<|.callV .no rfl rfl rfl (Qae _ _ _ _ _ hb6 (hl 3 (by decide)))<|.b rfl rfl rfl rfl<|.z rfl rfl<|.nil<|bq_n<|sq_n<|.region rfl<|.q (.addL (c:=4) rfl rfl rfl (by decide))<|.m rfl rfl<|.nil<|sq_n<|.unroll<|.seq<|.region rfl<|.b rfl rfl rfl rfl<|.nil<|sq_n<|.seq<|.condT rfl (by decide)<|.skip<|sq_n<|.seq<|.block<|.seq<|.region rfl<|.m rfl rfl<|.q (.ixv (j:=4) rfl rfl ar_38 s_3 (by decide) (by rfl)) ?_
  refine .z rfl rfl<|.z rfl rfl<|.nil<|sq_n<|.region rfl<|.m rfl rfl<|.m rfl rfl<|.m rfl rfl<|.q (.fa rfl Qaj)<|.q (.ixa (j:=0) rfl rfl ae_95 (by decide))<|.q (.ixa (j:=4) rfl rfl ae_94 (by decide))<|.w (.s rfl (.tl .hd) a_93 rfl)<|.call .no rfl rfl rfl (Qcj _ (hl 4 (by decide)).any (hl 4 (by decide)).cells _) ?_
  rintro g7 ml7 r7 hle7 ⟨b7,rfl,rfl,hb7⟩
  replace hl:=fun k hk=>(hl k hk).mono PieceR.mono hle7
  refine .m rfl rfl<|.callV .no rfl rfl rfl (Qae _ _ _ _ _ hb7 (hl 4 (by decide)))<|.b rfl rfl rfl rfl<|.z rfl rfl<|.nil<|bq_n<|sq_n<|.region rfl<|.q (.addL (c:=5) rfl rfl rfl (by decide))<|.m rfl rfl<|.nil<|sq_n<|.unroll<|.seq<|.region rfl<|.b rfl rfl rfl rfl<|.nil<|sq_n<|.seq<|.condF rfl (by decide)<|.exit<|sq_e<|sq_e<|bq_x rfl<|sq_n<|.seq<|.region rfl<|.m rfl rfl<|.callV .no rfl rfl rfl (down_ok _ _)<|.z rfl rfl<|.nil<|sq_n<|.ret<|Qaa ((((hle3.trans hle4).trans hle5).trans hle6).trans hle7) (.tmp rfl .nil) rfl ?_
  rfl
 ·skip
  refine Fw.enter (N:=29) (al:=[(2,_),(1,_),(0,_)]) Tryz.func84 (by kernel_rfl) (by kernel_rfl) rfl rfl rfl rfl ?_
  intro B
  refine .seq<|.region rfl<|.box .no rfl rfl rfl rfl fun b1=>.box .no rfl rfl rfl rfl fun b2=>.z rfl rfl<|.nil<|sq_n<|.seq<|.region rfl<|.z rfl rfl<|.nil<|sq_n<|.seq<|.seq<|.region rfl<|.w (.a (vs:=[_,_,_,_,_]) rfl .hd a_38 s_38 rfl rfl)<|.m rfl rfl<|.nil<|sq_n<|.block<|.unroll<|.seq<|.region rfl<|.b rfl rfl rfl rfl<|.nil<|sq_n<|.seq<|.condT rfl (by decide)<|.skip<|sq_n<|.seq<|.block<|.seq<|.region rfl<|.m rfl rfl ?_
  refine .q (.ixv (j:=0) rfl rfl ar_38 s_3 (by decide) (by rfl)) ?_
  refine .z rfl rfl<|.z rfl rfl<|.nil<|sq_n<|.region rfl<|.m rfl rfl<|.m rfl rfl<|.m rfl rfl<|.q (.fa rfl Qaj)<|.q (.ixa (j:=1) rfl rfl ae_95 (by decide))<|.q (.ixa (j:=0) rfl rfl ae_94 (by decide))<|.w (.s rfl (.tl .hd) a_93 rfl)<|.call .no rfl rfl rfl (Qcj _ (hl 5 (by decide)).any (hl 5 (by decide)).cells _) ?_
  rintro g3 ml3 r3 hle3 ⟨b3,rfl,rfl,hb3⟩
  replace hl:=fun k hk=>(hl k hk).mono PieceR.mono hle3
  refine .m rfl rfl<|.callV .no rfl rfl rfl (Qae _ _ _ _ _ hb3 (hl 5 (by decide)))<|.b rfl rfl rfl rfl<|.z rfl rfl<|.nil<|bq_n<|sq_n<|.region rfl<|.q (.addL (c:=1) rfl rfl rfl (by decide))<|.m rfl rfl<|.nil<|sq_n<|.unroll<|.seq<|.region rfl<|.b rfl rfl rfl rfl<|.nil<|sq_n<|.seq<|.condT rfl (by decide)<|.skip<|sq_n<|.seq<|.block<|.seq<|.region rfl<|.m rfl rfl<|.q (.ixv (j:=1) rfl rfl ar_38 s_3 (by decide) (by rfl)) ?_
  refine .z rfl rfl<|.z rfl rfl<|.nil<|sq_n<|.region rfl<|.m rfl rfl<|.m rfl rfl<|.m rfl rfl<|.q (.fa rfl Qaj)<|.q (.ixa (j:=1) rfl rfl ae_95 (by decide))<|.q (.ixa (j:=1) rfl rfl ae_94 (by decide))<|.w (.s rfl (.tl .hd) a_93 rfl)<|.call .no rfl rfl rfl (Qcj _ (hl 6 (by decide)).any (hl 6 (by decide)).cells _) ?_
  rintro g4 ml4 r4 hle4 ⟨b4,rfl,rfl,hb4⟩
  replace hl:=fun k hk=>(hl k hk).mono PieceR.mono hle4
  refine .m rfl rfl<|.callV .no rfl rfl rfl (Qae _ _ _ _ _ hb4 (hl 6 (by decide)))<|.b rfl rfl rfl rfl<|.z rfl rfl<|.nil<|bq_n<|sq_n<|.region rfl<|.q (.addL (c:=2) rfl rfl rfl (by decide))<|.m rfl rfl<|.nil<|sq_n<|.unroll<|.seq<|.region rfl<|.b rfl rfl rfl rfl<|.nil<|sq_n<|.seq<|.condT rfl (by decide)<|.skip<|sq_n<|.seq<|.block<|.seq<|.region rfl<|.m rfl rfl<|.q (.ixv (j:=2) rfl rfl ar_38 s_3 (by decide) (by rfl)) ?_
  refine .z rfl rfl<|.z rfl rfl<|.nil<|sq_n<|.region rfl<|.m rfl rfl<|.m rfl rfl<|.m rfl rfl<|.q (.fa rfl Qaj)<|.q (.ixa (j:=1) rfl rfl ae_95 (by decide))<|.q (.ixa (j:=2) rfl rfl ae_94 (by decide))<|.w (.s rfl (.tl .hd) a_93 rfl)<|.call .no rfl rfl rfl (Qcj _ (hl 7 (by decide)).any (hl 7 (by decide)).cells _) ?_
  rintro g5 ml5 r5 hle5 ⟨b5,rfl,rfl,hb5⟩
  replace hl:=fun k hk=>(hl k hk).mono PieceR.mono hle5
  refine .m rfl rfl<|.callV .no rfl rfl rfl (Qae _ _ _ _ _ hb5 (hl 7 (by decide)))<|.b rfl rfl rfl rfl<|.z rfl rfl<|.nil<|bq_n<|sq_n<|.region rfl<|.q (.addL (c:=3) rfl rfl rfl (by decide))<|.m rfl rfl<|.nil<|sq_n<|.unroll<|.seq<|.region rfl<|.b rfl rfl rfl rfl<|.nil<|sq_n<|.seq<|.condT rfl (by decide)<|.skip<|sq_n<|.seq<|.block<|.seq<|.region rfl<|.m rfl rfl<|.q (.ixv (j:=3) rfl rfl ar_38 s_3 (by decide) (by rfl)) ?_
  refine .z rfl rfl<|.z rfl rfl<|.nil<|sq_n<|.region rfl<|.m rfl rfl<|.m rfl rfl<|.m rfl rfl<|.q (.fa rfl Qaj)<|.q (.ixa (j:=1) rfl rfl ae_95 (by decide))<|.q (.ixa (j:=3) rfl rfl ae_94 (by decide))<|.w (.s rfl (.tl .hd) a_93 rfl)<|.call .no rfl rfl rfl (Qcj _ (hl 8 (by decide)).any (hl 8 (by decide)).cells _) ?_
  rintro g6 ml6 r6 hle6 ⟨b6,rfl,rfl,hb6⟩
  replace hl:=fun k hk=>(hl k hk).mono PieceR.mono hle6
  refine .m rfl rfl<|.callV .no rfl rfl rfl (Qae _ _ _ _ _ hb6 (hl 8 (by decide)))<|.b rfl rfl rfl rfl<|.z rfl rfl<|.nil<|bq_n<|sq_n<|.region rfl<|.q (.addL (c:=4) rfl rfl rfl (by decide))<|.m rfl rfl<|.nil<|sq_n<|.unroll<|.seq<|.region rfl<|.b rfl rfl rfl rfl<|.nil<|sq_n<|.seq<|.condT rfl (by decide)<|.skip<|sq_n<|.seq<|.block<|.seq<|.region rfl<|.m rfl rfl<|.q (.ixv (j:=4) rfl rfl ar_38 s_3 (by decide) (by rfl)) ?_
  refine .z rfl rfl<|.z rfl rfl<|.nil<|sq_n<|.region rfl<|.m rfl rfl<|.m rfl rfl<|.m rfl rfl<|.q (.fa rfl Qaj)<|.q (.ixa (j:=1) rfl rfl ae_95 (by decide))<|.q (.ixa (j:=4) rfl rfl ae_94 (by decide))<|.w (.s rfl (.tl .hd) a_93 rfl)<|.call .no rfl rfl rfl (Qcj _ (hl 9 (by decide)).any (hl 9 (by decide)).cells _) ?_
  rintro g7 ml7 r7 hle7 ⟨b7,rfl,rfl,hb7⟩
  replace hl:=fun k hk=>(hl k hk).mono PieceR.mono hle7
  refine .m rfl rfl<|.callV .no rfl rfl rfl (Qae _ _ _ _ _ hb7 (hl 9 (by decide)))<|.b rfl rfl rfl rfl<|.z rfl rfl<|.nil<|bq_n<|sq_n<|.region rfl<|.q (.addL (c:=5) rfl rfl rfl (by decide))<|.m rfl rfl<|.nil<|sq_n<|.unroll<|.seq<|.region rfl<|.b rfl rfl rfl rfl<|.nil<|sq_n<|.seq<|.condF rfl (by decide)<|.exit<|sq_e<|sq_e<|bq_x rfl<|sq_n<|.seq<|.region rfl<|.m rfl rfl<|.callV .no rfl rfl rfl (down_ok _ _)<|.z rfl rfl<|.nil<|sq_n<|.ret<|Qaa ((((hle3.trans hle4).trans hle5).trans hle6).trans hle7) (.tmp rfl .nil) rfl ?_
  rfl
end Go.Proofs.YtjflgemfeofciaaGreatDoor
