import Derived.Test.YtjflgemfeofciaaGreatDoorCe4
namespace Go.Proofs.YtjflgemfeofciaaGreatDoor
open Go Go.Ev
set_option linter.unusedVariables false
set_option linter.unusedSimpArgs false
set_option maxRecDepth 10000
def exG (f:Int→Int) (a:Int × Int) (n:Int):Int × Int:=(if f n < f a.1 then n else a.1,if f a.2 < f n then n else a.2)
def exS (f:Int→Int) (a:Int × Int) (c:Int × Int):Int × Int:=exG f (exG f a c.1) c.2
def cellL (l:List Piece) (lo hi:Int):List (Int × Int):=(cellN l lo hi (nCell l)).map (cellA l lo hi)
def extS (f:Int→Int) (l:List Piece) (lo hi:Int):Int × Int:=(cellL l lo hi).foldl (exS f) (lo,lo)
theorem Qev {f:Int→Int} {a b m1 m2 m3 m4:Int} {y:Int × Int} (h1:m1=if f y.1 < f a then y.1 else a) (h2:m2=if f b < f y.1 then y.1 else b) (h3:m3=if f y.2 < f m1 then y.2 else m1) (h4:m4=if f m2 < f y.2 then y.2 else m2):exS f (a,b) y=(m3,m4):=by
 subst h1 h2 h3 h4;rfl
theorem Qex {f:Int→Int} {l:List (Int × Int)} {k:Nat} {y:Int × Int} {a b c d:Int} {z:Int × Int} (hy:l[k]? =some y) (he:exS f (a,b) y=(c,d)) (hg:(l.drop k).foldl (exS f) (a,b)=z):(l.drop (k+1)).foldl (exS f) (c,d)=z:=by
 rw [←hg,dc hy,List.foldl_cons,he]
structure ESt where
 k:Nat
 a:Int
 b:Int
theorem Qcp (l:List Piece) (lo hi:Int) (v:V) (g:G) (h:RS PieceR 3 g v l) (hln:lineB l=true):Fv Tryz.prog natS (.f 132 [] []) [v,.agg [.i .i64 lo,.i .i64 hi]] g (.tup [.i .i64 (extS (closV l) l lo hi).1,.i .i64 (extS (closV l) l lo hi).2]):=by
 refine Fw.fv ?_
 refine Fw.enter (N:=61) (al:=[(1,_),(0,_)]) Tryz.func132 (by kernel_rfl) (by kernel_rfl) rfl rfl rfl rfl ?_
 intro B
 refine .seq<|.region rfl<|.box .no rfl rfl rfl rfl fun b1=>.z rfl rfl<|.z rfl rfl<|.nil<|sq_n<|.seq<|.region rfl<|.m rfl rfl<|.call .no rfl rfl rfl (Qcj _ h.any h.cells _) ?_
 rintro g2 ml2 r2 hle2 ⟨b2,rfl,rfl,hb2⟩
 replace h:=h.mono PieceR.mono hle2
 refine .z rfl rfl<|.nil<|sq_n<|.seq<|.draw (tb:=[r0 0 0,r0 1 0,r0 0 0,r0 4 0,r0 3 0,r1 31 0]) rfl (by kernel_rfl) (by kernel_rfl) ?_
 refine .q (.fa rfl Qal)<|.y rfl rfl rfl (.s rfl .hd a_3 rfl)<|.q (.fa rfl Qal)<|.y rfl rfl rfl (.s rfl .hd a_3 rfl)<|.z rfl rfl<|.z rfl rfl<|.nil<|sq_n<|.seq<|.region rfl<|.m rfl rfl<|.w (.a (vs:=[_,_]) rfl .hd a_27 s_27 rfl rfl)<|.call .no rfl rfl rfl (Qey _ _ _ _ _ h hln) ?_
 rintro g3 ml3 r3 hle3 ⟨a3,b3,rfl,rfl,ha3,hb3⟩
 replace h:=h.mono PieceR.mono hle3
 replace hb2:=hle3 _ _ hb2
 refine .m rfl rfl<|.q (.ext rfl rfl)<|.q (.ext rfl rfl)<|.z rfl rfl<|.z rfl rfl<|.nil<|sq_n<|.seq<|.seq<|.region rfl<|.m rfl rfl<|.q (.lenR rfl rfl rfl e_148 hb3)<|.m rfl rfl<|.nil<|sq_n<|.block<|.loopx (α:=ESt) [(6,_),(25,_),(26,_)] _ (fun fx x=>(4,.i .i64 x.a) :: (5,.i .i64 x.b) :: (27,.i .i64 (x.k:Int)) :: fx) (fun mx _=>mx) (fun x g'=>x.k≤((cellN l lo hi (nCell l)).map (cellA l lo hi)).length∧(((cellN l lo hi (nCell l)).map (cellA l lo hi)).drop x.k).foldl (exS (closV l)) (x.a,x.b)=extS (closV l) l lo hi) (fun x=>((cellN l lo hi (nCell l)).map (cellA l lo hi)).length - x.k) (⟨0,lo,lo⟩) ⟨rfl,rfl,rfl,rfl,rfl,rfl,trivial⟩ (List.Sublist.refl _) ⟨Nat.zero_le _,rfl⟩ ?_
 intro x g5 hle4 hJ
 obtain ⟨hk,hg⟩:=hJ
 replace h:=h.mono PieceR.mono hle4
 replace hb2:=hle4 _ _ hb2
 replace ha3:=ha3.mono NatR.mono hle4
 replace hb3:=hb3.mono RngR.mono hle4
 have hlc:=hb3.1
 refine .seq<|.region rfl<|.b rfl rfl rfl rfl<|.nil<|sq_n<|.seq<|.cond rfl (fun h6=>?_) (fun h6=>?_)
 ·have kh6:=h6;(try simp only [bk] at kh6)
  refine .skip<|sq_n<|.seq<|.block<|.seq<|.region rfl<|.ixn .no rfl rfl hb3 rfl e_148 (by omega) ?_
  intro b7 o7 cs7 y7 hy7 hq7 hr7
  obtain rfl:=hr7
  refine .w (.pa 0 (vs:=[_,_]) rfl hq7 rfl a_27 s_27 rfl rfl)<|.alloc .no rfl z_27 fun b8=>.st (cs':=[_,_]) .no rfl rfl rfl rfl s_27 rfl rfl .hd rfl rfl<|.nil<|sq_n<|.seq<|.region rfl<|.q (.fa rfl Qal)<|.w (.s rfl .hd a_3 rfl)<|.q (.fa rfl Qak)<|.w (.s rfl .hd a_3 rfl)<|.bs .no rfl (qs:=[(0,_),(1,_)]) (c:=[_,_]) rfl sl_66 el_3 (by decide) rfl fun b9=>.q (.len rfl rfl rfl (lenV_sl e_66 .sl))<|.m rfl rfl<|.nil<|sq_n<|.block<|.unroll<|.seq<|.region rfl<|.b rfl rfl rfl rfl<|.nil<|sq_n<|.seq<|.condT rfl (by decide)<|.skip<|sq_n<|.seq<|.block<|.seq<|.region rfl<|.q (.ixn (j:=0) rfl .sl rfl e_66 (by decide))<|.w (.s rfl .hd a_3 rfl)<|.z rfl rfl ?_
  refine .nil<|sq_n<|.seq<|.seq<|.region rfl<|.m rfl rfl<|.m rfl rfl<|.callV .no rfl rfl rfl (Qae _ _ _ _ _ hb2 h)<|.m rfl rfl<|.m rfl rfl<|.callV .no rfl rfl rfl (Qae _ _ _ _ _ hb2 h)<|.b rfl rfl rfl rfl<|.nil<|sq_n<|.cond rfl (fun h10=>?_) (fun h10=>?_)
  ·have kh10:=h10;(try simp only [bk] at kh10)
   refine .region rfl<|.m rfl rfl<|.z rfl rfl<|.nil<|sq_n<|.seq<|.region rfl<|.m rfl rfl<|.m rfl rfl<|.callV .no rfl rfl rfl (Qae _ _ _ _ _ hb2 h)<|.m rfl rfl<|.m rfl rfl<|.callV .no rfl rfl rfl (Qae _ _ _ _ _ hb2 h)<|.b rfl rfl rfl rfl<|.nil<|sq_n<|.cond rfl (fun h11=>?_) (fun h11=>?_)
   ·have kh11:=h11;(try simp only [bk] at kh11)
    refine .region rfl<|.m rfl rfl<|.z rfl rfl<|.nil<|bq_n<|sq_n<|.region rfl<|.q (.addL (c:=1) rfl rfl rfl (by decide))<|.m rfl rfl<|.nil<|sq_n<|.unroll<|.seq<|.region rfl<|.b rfl rfl rfl rfl<|.nil<|sq_n<|.seq<|.condT rfl (by decide)<|.skip<|sq_n<|.seq<|.block<|.seq<|.region rfl<|.q (.ixn (j:=1) rfl .sl rfl e_66 (by decide))<|.w (.s rfl .hd a_3 rfl)<|.z rfl rfl<|.nil<|sq_n<|.seq<|.seq<|.region rfl<|.m rfl rfl<|.m rfl rfl<|.callV .no rfl rfl rfl (Qae _ _ _ _ _ hb2 h) ?_
    refine .m rfl rfl<|.m rfl rfl<|.callV .no rfl rfl rfl (Qae _ _ _ _ _ hb2 h)<|.b rfl rfl rfl rfl<|.nil<|sq_n<|.cond rfl (fun h12=>?_) (fun h12=>?_)
    ·have kh12:=h12;(try simp only [bk] at kh12)
     refine .region rfl<|.m rfl rfl<|.z rfl rfl<|.nil<|sq_n<|.seq<|.region rfl<|.m rfl rfl<|.m rfl rfl<|.callV .no rfl rfl rfl (Qae _ _ _ _ _ hb2 h)<|.m rfl rfl<|.m rfl rfl<|.callV .no rfl rfl rfl (Qae _ _ _ _ _ hb2 h)<|.b rfl rfl rfl rfl<|.nil<|sq_n<|.cond rfl (fun h13=>?_) (fun h13=>?_)
     ·have kh13:=h13;(try simp only [bk] at kh13)
      refine .region rfl<|.m rfl rfl<|.z rfl rfl<|.nil<|bq_n<|sq_n<|.region rfl<|.q (.addL (c:=2) rfl rfl rfl (by decide))<|.m rfl rfl<|.nil<|sq_n<|.unroll<|.seq<|.region rfl<|.b rfl rfl rfl rfl<|.nil<|sq_n<|.seq<|.condF rfl (by decide)<|.exit<|sq_e<|sq_e<|bq_x rfl<|bq_n<|sq_n<|.region rfl<|.q (.inc1 rfl rfl (by omega))<|.m rfl rfl<|.nil<|Qac (ESt.mk (x.k+1) _ _) ⟨rfl,rfl,rfl,rfl,rfl,rfl,trivial⟩ (.cons _ (.cons _ (List.Sublist.refl _))) (Le.refl _) ?_ ?_
      ·refine ⟨by simp only;omega,Qex ‹_› ?_ hg⟩
       apply Qev
       iterate 4 (first | exact (if_pos (by assumption)).symm | exact (if_neg (Int.not_lt.2 (by assumption))).symm)
      ·simp only;omega
     ·have kh13:=h13;(try simp only [bk] at kh13)
      refine .skip<|bq_n<|sq_n<|.region rfl<|.q (.addL (c:=2) rfl rfl rfl (by decide))<|.m rfl rfl<|.nil<|sq_n<|.unroll<|.seq<|.region rfl<|.b rfl rfl rfl rfl<|.nil<|sq_n<|.seq<|.condF rfl (by decide)<|.exit<|sq_e<|sq_e<|bq_x rfl<|bq_n<|sq_n<|.region rfl<|.q (.inc1 rfl rfl (by omega))<|.m rfl rfl<|.nil<|Qac (ESt.mk (x.k+1) _ _) ⟨rfl,rfl,rfl,rfl,rfl,rfl,trivial⟩ (.cons _ (.cons _ (List.Sublist.refl _))) (Le.refl _) ?_ ?_
      ·refine ⟨by simp only;omega,Qex ‹_› ?_ hg⟩
       apply Qev
       iterate 4 (first | exact (if_pos (by assumption)).symm | exact (if_neg (Int.not_lt.2 (by assumption))).symm)
      ·simp only;omega
    ·have kh12:=h12;(try simp only [bk] at kh12)
     refine .skip<|sq_n<|.seq<|.region rfl<|.m rfl rfl<|.m rfl rfl<|.callV .no rfl rfl rfl (Qae _ _ _ _ _ hb2 h)<|.m rfl rfl<|.m rfl rfl<|.callV .no rfl rfl rfl (Qae _ _ _ _ _ hb2 h)<|.b rfl rfl rfl rfl<|.nil<|sq_n<|.cond rfl (fun h14=>?_) (fun h14=>?_)
     ·have kh14:=h14;(try simp only [bk] at kh14)
      refine .region rfl<|.m rfl rfl<|.z rfl rfl<|.nil<|bq_n<|sq_n<|.region rfl<|.q (.addL (c:=2) rfl rfl rfl (by decide))<|.m rfl rfl<|.nil<|sq_n<|.unroll<|.seq<|.region rfl<|.b rfl rfl rfl rfl<|.nil<|sq_n<|.seq<|.condF rfl (by decide)<|.exit<|sq_e<|sq_e<|bq_x rfl<|bq_n<|sq_n<|.region rfl<|.q (.inc1 rfl rfl (by omega))<|.m rfl rfl<|.nil<|Qac (ESt.mk (x.k+1) _ _) ⟨rfl,rfl,rfl,rfl,rfl,rfl,trivial⟩ (.cons _ (.cons _ (List.Sublist.refl _))) (Le.refl _) ?_ ?_
      ·refine ⟨by simp only;omega,Qex ‹_› ?_ hg⟩
       apply Qev
       iterate 4 (first | exact (if_pos (by assumption)).symm | exact (if_neg (Int.not_lt.2 (by assumption))).symm)
      ·simp only;omega
     ·have kh14:=h14;(try simp only [bk] at kh14)
      refine .skip<|bq_n<|sq_n<|.region rfl<|.q (.addL (c:=2) rfl rfl rfl (by decide))<|.m rfl rfl<|.nil<|sq_n<|.unroll<|.seq<|.region rfl<|.b rfl rfl rfl rfl<|.nil<|sq_n<|.seq<|.condF rfl (by decide)<|.exit<|sq_e<|sq_e<|bq_x rfl<|bq_n<|sq_n<|.region rfl<|.q (.inc1 rfl rfl (by omega))<|.m rfl rfl<|.nil<|Qac (ESt.mk (x.k+1) _ _) ⟨rfl,rfl,rfl,rfl,rfl,rfl,trivial⟩ (.cons _ (.cons _ (List.Sublist.refl _))) (Le.refl _) ?_ ?_
      ·refine ⟨by simp only;omega,Qex ‹_› ?_ hg⟩
       apply Qev
       iterate 4 (first | exact (if_pos (by assumption)).symm | exact (if_neg (Int.not_lt.2 (by assumption))).symm)
      ·simp only;omega
   ·have kh11:=h11;(try simp only [bk] at kh11)
    refine .skip<|bq_n<|sq_n<|.region rfl<|.q (.addL (c:=1) rfl rfl rfl (by decide))<|.m rfl rfl<|.nil<|sq_n<|.unroll<|.seq<|.region rfl<|.b rfl rfl rfl rfl<|.nil<|sq_n<|.seq<|.condT rfl (by decide)<|.skip<|sq_n<|.seq<|.block<|.seq<|.region rfl<|.q (.ixn (j:=1) rfl .sl rfl e_66 (by decide))<|.w (.s rfl .hd a_3 rfl)<|.z rfl rfl<|.nil<|sq_n<|.seq<|.seq<|.region rfl<|.m rfl rfl<|.m rfl rfl<|.callV .no rfl rfl rfl (Qae _ _ _ _ _ hb2 h)<|.m rfl rfl<|.m rfl rfl<|.callV .no rfl rfl rfl (Qae _ _ _ _ _ hb2 h) ?_
    refine .b rfl rfl rfl rfl<|.nil<|sq_n<|.cond rfl (fun h15=>?_) (fun h15=>?_)
    ·have kh15:=h15;(try simp only [bk] at kh15)
     refine .region rfl<|.m rfl rfl<|.z rfl rfl<|.nil<|sq_n<|.seq<|.region rfl<|.m rfl rfl<|.m rfl rfl<|.callV .no rfl rfl rfl (Qae _ _ _ _ _ hb2 h)<|.m rfl rfl<|.m rfl rfl<|.callV .no rfl rfl rfl (Qae _ _ _ _ _ hb2 h)<|.b rfl rfl rfl rfl<|.nil<|sq_n<|.cond rfl (fun h16=>?_) (fun h16=>?_)
     ·have kh16:=h16;(try simp only [bk] at kh16)
      refine .region rfl<|.m rfl rfl<|.z rfl rfl<|.nil<|bq_n<|sq_n<|.region rfl<|.q (.addL (c:=2) rfl rfl rfl (by decide))<|.m rfl rfl<|.nil<|sq_n<|.unroll<|.seq<|.region rfl<|.b rfl rfl rfl rfl<|.nil<|sq_n<|.seq<|.condF rfl (by decide)<|.exit<|sq_e<|sq_e<|bq_x rfl<|bq_n<|sq_n<|.region rfl<|.q (.inc1 rfl rfl (by omega))<|.m rfl rfl<|.nil<|Qac (ESt.mk (x.k+1) _ _) ⟨rfl,rfl,rfl,rfl,rfl,rfl,trivial⟩ (.cons _ (.cons _ (List.Sublist.refl _))) (Le.refl _) ?_ ?_
      ·refine ⟨by simp only;omega,Qex ‹_› ?_ hg⟩
       apply Qev
       iterate 4 (first | exact (if_pos (by assumption)).symm | exact (if_neg (Int.not_lt.2 (by assumption))).symm)
      ·simp only;omega
     ·have kh16:=h16;(try simp only [bk] at kh16)
      refine .skip<|bq_n<|sq_n<|.region rfl<|.q (.addL (c:=2) rfl rfl rfl (by decide))<|.m rfl rfl<|.nil<|sq_n<|.unroll<|.seq<|.region rfl<|.b rfl rfl rfl rfl<|.nil<|sq_n<|.seq<|.condF rfl (by decide)<|.exit<|sq_e<|sq_e<|bq_x rfl<|bq_n<|sq_n<|.region rfl<|.q (.inc1 rfl rfl (by omega))<|.m rfl rfl<|.nil<|Qac (ESt.mk (x.k+1) _ _) ⟨rfl,rfl,rfl,rfl,rfl,rfl,trivial⟩ (.cons _ (.cons _ (List.Sublist.refl _))) (Le.refl _) ?_ ?_
      ·refine ⟨by simp only;omega,Qex ‹_› ?_ hg⟩
       apply Qev
       iterate 4 (first | exact (if_pos (by assumption)).symm | exact (if_neg (Int.not_lt.2 (by assumption))).symm)
      ·simp only;omega
    ·have kh15:=h15;(try simp only [bk] at kh15)
     refine .skip<|sq_n<|.seq<|.region rfl<|.m rfl rfl<|.m rfl rfl<|.callV .no rfl rfl rfl (Qae _ _ _ _ _ hb2 h)<|.m rfl rfl<|.m rfl rfl<|.callV .no rfl rfl rfl (Qae _ _ _ _ _ hb2 h)<|.b rfl rfl rfl rfl<|.nil<|sq_n<|.cond rfl (fun h17=>?_) (fun h17=>?_)
     ·have kh17:=h17;(try simp only [bk] at kh17)
      refine .region rfl<|.m rfl rfl<|.z rfl rfl<|.nil<|bq_n<|sq_n<|.region rfl<|.q (.addL (c:=2) rfl rfl rfl (by decide))<|.m rfl rfl<|.nil<|sq_n<|.unroll<|.seq<|.region rfl<|.b rfl rfl rfl rfl<|.nil<|sq_n<|.seq<|.condF rfl (by decide)<|.exit<|sq_e<|sq_e<|bq_x rfl<|bq_n<|sq_n<|.region rfl<|.q (.inc1 rfl rfl (by omega))<|.m rfl rfl<|.nil<|Qac (ESt.mk (x.k+1) _ _) ⟨rfl,rfl,rfl,rfl,rfl,rfl,trivial⟩ (.cons _ (.cons _ (List.Sublist.refl _))) (Le.refl _) ?_ ?_
      ·refine ⟨by simp only;omega,Qex ‹_› ?_ hg⟩
       apply Qev
       iterate 4 (first | exact (if_pos (by assumption)).symm | exact (if_neg (Int.not_lt.2 (by assumption))).symm)
      ·simp only;omega
     ·have kh17:=h17;(try simp only [bk] at kh17)
      refine .skip<|bq_n<|sq_n<|.region rfl<|.q (.addL (c:=2) rfl rfl rfl (by decide))<|.m rfl rfl<|.nil<|sq_n<|.unroll<|.seq<|.region rfl<|.b rfl rfl rfl rfl<|.nil<|sq_n<|.seq<|.condF rfl (by decide)<|.exit<|sq_e<|sq_e<|bq_x rfl<|bq_n<|sq_n<|.region rfl<|.q (.inc1 rfl rfl (by omega))<|.m rfl rfl<|.nil<|Qac (ESt.mk (x.k+1) _ _) ⟨rfl,rfl,rfl,rfl,rfl,rfl,trivial⟩ (.cons _ (.cons _ (List.Sublist.refl _))) (Le.refl _) ?_ ?_
      ·refine ⟨by simp only;omega,Qex ‹_› ?_ hg⟩
       apply Qev
       iterate 4 (first | exact (if_pos (by assumption)).symm | exact (if_neg (Int.not_lt.2 (by assumption))).symm)
      ·simp only;omega
  ·have kh10:=h10;(try simp only [bk] at kh10)
   refine .skip<|sq_n<|.seq<|.region rfl<|.m rfl rfl<|.m rfl rfl<|.callV .no rfl rfl rfl (Qae _ _ _ _ _ hb2 h)<|.m rfl rfl<|.m rfl rfl<|.callV .no rfl rfl rfl (Qae _ _ _ _ _ hb2 h)<|.b rfl rfl rfl rfl<|.nil<|sq_n<|.cond rfl (fun h18=>?_) (fun h18=>?_)
   ·have kh18:=h18;(try simp only [bk] at kh18)
    refine .region rfl<|.m rfl rfl<|.z rfl rfl<|.nil<|bq_n<|sq_n<|.region rfl<|.q (.addL (c:=1) rfl rfl rfl (by decide))<|.m rfl rfl<|.nil<|sq_n<|.unroll<|.seq<|.region rfl<|.b rfl rfl rfl rfl<|.nil<|sq_n<|.seq<|.condT rfl (by decide)<|.skip<|sq_n<|.seq<|.block<|.seq<|.region rfl<|.q (.ixn (j:=1) rfl .sl rfl e_66 (by decide))<|.w (.s rfl .hd a_3 rfl)<|.z rfl rfl<|.nil<|sq_n<|.seq<|.seq<|.region rfl<|.m rfl rfl<|.m rfl rfl<|.callV .no rfl rfl rfl (Qae _ _ _ _ _ hb2 h) ?_
    refine .m rfl rfl<|.m rfl rfl<|.callV .no rfl rfl rfl (Qae _ _ _ _ _ hb2 h)<|.b rfl rfl rfl rfl<|.nil<|sq_n<|.cond rfl (fun h19=>?_) (fun h19=>?_)
    ·have kh19:=h19;(try simp only [bk] at kh19)
     refine .region rfl<|.m rfl rfl<|.z rfl rfl<|.nil<|sq_n<|.seq<|.region rfl<|.m rfl rfl<|.m rfl rfl<|.callV .no rfl rfl rfl (Qae _ _ _ _ _ hb2 h)<|.m rfl rfl<|.m rfl rfl<|.callV .no rfl rfl rfl (Qae _ _ _ _ _ hb2 h)<|.b rfl rfl rfl rfl<|.nil<|sq_n<|.cond rfl (fun h20=>?_) (fun h20=>?_)
     ·have kh20:=h20;(try simp only [bk] at kh20)
      refine .region rfl<|.m rfl rfl<|.z rfl rfl<|.nil<|bq_n<|sq_n<|.region rfl<|.q (.addL (c:=2) rfl rfl rfl (by decide))<|.m rfl rfl<|.nil<|sq_n<|.unroll<|.seq<|.region rfl<|.b rfl rfl rfl rfl<|.nil<|sq_n<|.seq<|.condF rfl (by decide)<|.exit<|sq_e<|sq_e<|bq_x rfl<|bq_n<|sq_n<|.region rfl<|.q (.inc1 rfl rfl (by omega))<|.m rfl rfl<|.nil<|Qac (ESt.mk (x.k+1) _ _) ⟨rfl,rfl,rfl,rfl,rfl,rfl,trivial⟩ (.cons _ (.cons _ (List.Sublist.refl _))) (Le.refl _) ?_ ?_
      ·refine ⟨by simp only;omega,Qex ‹_› ?_ hg⟩
       apply Qev
       iterate 4 (first | exact (if_pos (by assumption)).symm | exact (if_neg (Int.not_lt.2 (by assumption))).symm)
      ·simp only;omega
     ·have kh20:=h20;(try simp only [bk] at kh20)
      refine .skip<|bq_n<|sq_n<|.region rfl<|.q (.addL (c:=2) rfl rfl rfl (by decide))<|.m rfl rfl<|.nil<|sq_n<|.unroll<|.seq<|.region rfl<|.b rfl rfl rfl rfl<|.nil<|sq_n<|.seq<|.condF rfl (by decide)<|.exit<|sq_e<|sq_e<|bq_x rfl<|bq_n<|sq_n<|.region rfl<|.q (.inc1 rfl rfl (by omega))<|.m rfl rfl<|.nil<|Qac (ESt.mk (x.k+1) _ _) ⟨rfl,rfl,rfl,rfl,rfl,rfl,trivial⟩ (.cons _ (.cons _ (List.Sublist.refl _))) (Le.refl _) ?_ ?_
      ·refine ⟨by simp only;omega,Qex ‹_› ?_ hg⟩
       apply Qev
       iterate 4 (first | exact (if_pos (by assumption)).symm | exact (if_neg (Int.not_lt.2 (by assumption))).symm)
      ·simp only;omega
    ·have kh19:=h19;(try simp only [bk] at kh19)
     refine .skip<|sq_n<|.seq<|.region rfl<|.m rfl rfl<|.m rfl rfl<|.callV .no rfl rfl rfl (Qae _ _ _ _ _ hb2 h)<|.m rfl rfl<|.m rfl rfl<|.callV .no rfl rfl rfl (Qae _ _ _ _ _ hb2 h)<|.b rfl rfl rfl rfl<|.nil<|sq_n<|.cond rfl (fun h21=>?_) (fun h21=>?_)
     ·have kh21:=h21;(try simp only [bk] at kh21)
      refine .region rfl<|.m rfl rfl<|.z rfl rfl<|.nil<|bq_n<|sq_n<|.region rfl<|.q (.addL (c:=2) rfl rfl rfl (by decide))<|.m rfl rfl<|.nil<|sq_n<|.unroll<|.seq<|.region rfl<|.b rfl rfl rfl rfl<|.nil<|sq_n<|.seq<|.condF rfl (by decide)<|.exit<|sq_e<|sq_e<|bq_x rfl<|bq_n<|sq_n<|.region rfl<|.q (.inc1 rfl rfl (by omega))<|.m rfl rfl<|.nil<|Qac (ESt.mk (x.k+1) _ _) ⟨rfl,rfl,rfl,rfl,rfl,rfl,trivial⟩ (.cons _ (.cons _ (List.Sublist.refl _))) (Le.refl _) ?_ ?_
      ·refine ⟨by simp only;omega,Qex ‹_› ?_ hg⟩
       apply Qev
       iterate 4 (first | exact (if_pos (by assumption)).symm | exact (if_neg (Int.not_lt.2 (by assumption))).symm)
      ·simp only;omega
     ·have kh21:=h21;(try simp only [bk] at kh21)
      refine .skip<|bq_n<|sq_n<|.region rfl<|.q (.addL (c:=2) rfl rfl rfl (by decide))<|.m rfl rfl<|.nil<|sq_n<|.unroll<|.seq<|.region rfl<|.b rfl rfl rfl rfl<|.nil<|sq_n<|.seq<|.condF rfl (by decide)<|.exit<|sq_e<|sq_e<|bq_x rfl<|bq_n<|sq_n<|.region rfl<|.q (.inc1 rfl rfl (by omega))<|.m rfl rfl<|.nil<|Qac (ESt.mk (x.k+1) _ _) ⟨rfl,rfl,rfl,rfl,rfl,rfl,trivial⟩ (.cons _ (.cons _ (List.Sublist.refl _))) (Le.refl _) ?_ ?_
      ·refine ⟨by simp only;omega,Qex ‹_› ?_ hg⟩
       apply Qev
       iterate 4 (first | exact (if_pos (by assumption)).symm | exact (if_neg (Int.not_lt.2 (by assumption))).symm)
      ·simp only;omega
   ·have kh18:=h18;(try simp only [bk] at kh18)
    refine .skip<|bq_n<|sq_n<|.region rfl<|.q (.addL (c:=1) rfl rfl rfl (by decide))<|.m rfl rfl<|.nil<|sq_n<|.unroll<|.seq<|.region rfl<|.b rfl rfl rfl rfl<|.nil<|sq_n<|.seq<|.condT rfl (by decide)<|.skip<|sq_n<|.seq<|.block<|.seq<|.region rfl<|.q (.ixn (j:=1) rfl .sl rfl e_66 (by decide))<|.w (.s rfl .hd a_3 rfl)<|.z rfl rfl<|.nil<|sq_n<|.seq<|.seq<|.region rfl<|.m rfl rfl<|.m rfl rfl<|.callV .no rfl rfl rfl (Qae _ _ _ _ _ hb2 h)<|.m rfl rfl<|.m rfl rfl<|.callV .no rfl rfl rfl (Qae _ _ _ _ _ hb2 h) ?_
    refine .b rfl rfl rfl rfl<|.nil<|sq_n<|.cond rfl (fun h22=>?_) (fun h22=>?_)
    ·have kh22:=h22;(try simp only [bk] at kh22)
     refine .region rfl<|.m rfl rfl<|.z rfl rfl<|.nil<|sq_n<|.seq<|.region rfl<|.m rfl rfl<|.m rfl rfl<|.callV .no rfl rfl rfl (Qae _ _ _ _ _ hb2 h)<|.m rfl rfl<|.m rfl rfl<|.callV .no rfl rfl rfl (Qae _ _ _ _ _ hb2 h)<|.b rfl rfl rfl rfl<|.nil<|sq_n<|.cond rfl (fun h23=>?_) (fun h23=>?_)
     ·have kh23:=h23;(try simp only [bk] at kh23)
      refine .region rfl<|.m rfl rfl<|.z rfl rfl<|.nil<|bq_n<|sq_n<|.region rfl<|.q (.addL (c:=2) rfl rfl rfl (by decide))<|.m rfl rfl<|.nil<|sq_n<|.unroll<|.seq<|.region rfl<|.b rfl rfl rfl rfl<|.nil<|sq_n<|.seq<|.condF rfl (by decide)<|.exit<|sq_e<|sq_e<|bq_x rfl<|bq_n<|sq_n<|.region rfl<|.q (.inc1 rfl rfl (by omega))<|.m rfl rfl<|.nil<|Qac (ESt.mk (x.k+1) _ _) ⟨rfl,rfl,rfl,rfl,rfl,rfl,trivial⟩ (.cons _ (.cons _ (List.Sublist.refl _))) (Le.refl _) ?_ ?_
      ·refine ⟨by simp only;omega,Qex ‹_› ?_ hg⟩
       apply Qev
       iterate 4 (first | exact (if_pos (by assumption)).symm | exact (if_neg (Int.not_lt.2 (by assumption))).symm)
      ·simp only;omega
     ·have kh23:=h23;(try simp only [bk] at kh23)
      refine .skip<|bq_n<|sq_n<|.region rfl<|.q (.addL (c:=2) rfl rfl rfl (by decide))<|.m rfl rfl<|.nil<|sq_n<|.unroll<|.seq<|.region rfl<|.b rfl rfl rfl rfl<|.nil<|sq_n<|.seq<|.condF rfl (by decide)<|.exit<|sq_e<|sq_e<|bq_x rfl<|bq_n<|sq_n<|.region rfl<|.q (.inc1 rfl rfl (by omega))<|.m rfl rfl<|.nil<|Qac (ESt.mk (x.k+1) _ _) ⟨rfl,rfl,rfl,rfl,rfl,rfl,trivial⟩ (.cons _ (.cons _ (List.Sublist.refl _))) (Le.refl _) ?_ ?_
      ·refine ⟨by simp only;omega,Qex ‹_› ?_ hg⟩
       apply Qev
       iterate 4 (first | exact (if_pos (by assumption)).symm | exact (if_neg (Int.not_lt.2 (by assumption))).symm)
      ·simp only;omega
    ·have kh22:=h22;(try simp only [bk] at kh22)
     refine .skip<|sq_n<|.seq<|.region rfl<|.m rfl rfl<|.m rfl rfl<|.callV .no rfl rfl rfl (Qae _ _ _ _ _ hb2 h)<|.m rfl rfl<|.m rfl rfl<|.callV .no rfl rfl rfl (Qae _ _ _ _ _ hb2 h)<|.b rfl rfl rfl rfl<|.nil<|sq_n<|.cond rfl (fun h24=>?_) (fun h24=>?_)
     ·have kh24:=h24;(try simp only [bk] at kh24)
      refine .region rfl<|.m rfl rfl<|.z rfl rfl<|.nil<|bq_n<|sq_n<|.region rfl<|.q (.addL (c:=2) rfl rfl rfl (by decide))<|.m rfl rfl<|.nil<|sq_n<|.unroll<|.seq<|.region rfl<|.b rfl rfl rfl rfl<|.nil<|sq_n<|.seq<|.condF rfl (by decide)<|.exit<|sq_e<|sq_e<|bq_x rfl<|bq_n<|sq_n<|.region rfl<|.q (.inc1 rfl rfl (by omega))<|.m rfl rfl<|.nil<|Qac (ESt.mk (x.k+1) _ _) ⟨rfl,rfl,rfl,rfl,rfl,rfl,trivial⟩ (.cons _ (.cons _ (List.Sublist.refl _))) (Le.refl _) ?_ ?_
      ·refine ⟨by simp only;omega,Qex ‹_› ?_ hg⟩
       apply Qev
       iterate 4 (first | exact (if_pos (by assumption)).symm | exact (if_neg (Int.not_lt.2 (by assumption))).symm)
      ·simp only;omega
     ·have kh24:=h24;(try simp only [bk] at kh24)
      refine .skip<|bq_n<|sq_n<|.region rfl<|.q (.addL (c:=2) rfl rfl rfl (by decide))<|.m rfl rfl<|.nil<|sq_n<|.unroll<|.seq<|.region rfl<|.b rfl rfl rfl rfl<|.nil<|sq_n<|.seq<|.condF rfl (by decide)<|.exit<|sq_e<|sq_e<|bq_x rfl<|bq_n<|sq_n<|.region rfl<|.q (.inc1 rfl rfl (by omega))<|.m rfl rfl<|.nil<|Qac (ESt.mk (x.k+1) _ _) ⟨rfl,rfl,rfl,rfl,rfl,rfl,trivial⟩ (.cons _ (.cons _ (List.Sublist.refl _))) (Le.refl _) ?_ ?_
      ·refine ⟨by simp only;omega,Qex ‹_› ?_ hg⟩
       apply Qev
       iterate 4 (first | exact (if_pos (by assumption)).symm | exact (if_neg (Int.not_lt.2 (by assumption))).symm)
      ·simp only;omega
 ·have kh6:=h6;(try simp only [bk] at kh6)
  refine .exit<|sq_e<|lq_e<|bq_x rfl<|sq_n<|.seq<|.region rfl<|.m rfl rfl<|.m rfl rfl<|.z rfl rfl<|.z rfl rfl<|.nil<|sq_n<|.ret<|Qaa ((hle2.trans hle3).trans hle4) (.tmp rfl (.tmp rfl .nil)) rfl ?_
  rw [←hg,dn (by omega)];rfl
end Go.Proofs.YtjflgemfeofciaaGreatDoor
