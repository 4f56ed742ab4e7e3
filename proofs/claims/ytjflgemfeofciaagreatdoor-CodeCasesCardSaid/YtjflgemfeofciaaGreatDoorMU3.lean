import Derived.Test.YtjflgemfeofciaaGreatDoorMY7
import Derived.Test.YtjflgemfeofciaaGreatDoorQa4
namespace Go.Proofs.YtjflgemfeofciaaGreatDoor
open Go Go.Ev
set_option linter.unusedVariables false
set_option linter.unusedSimpArgs false
set_option maxRecDepth 10000
structure L_r04_places_1 where
 v1_2:V
 cs1_3:List V
 d1_1:List Int
 k1_5:Nat
def Qba (p1:(Int × Int)):List Piece→List Int→Nat→Option ((List Int))
 | [],d1_1,k1_5=>some (d1_1)
 | y1 :: ys1,d1_1,k1_5=>(cond (decide (p1.1 < y1.fr)) ((cond (decide (y1.fr≤p1.2)) (((atI d1_1 ((d1_1.length:Int) - 1)).bind fun y11=>(cond (decide (y11 < (wr (y1.fr - 1)))) ((ck (decide (d1_1.length+1≤1000000)) ((ck (decide ((d1_1 ++ [(wr (y1.fr - 1))]).length+1≤1000000)) (Qba p1 ys1 ((d1_1 ++ [(wr (y1.fr - 1))]) ++ [y1.fr]) (k1_5+1)))))) ((ck (decide (d1_1.length+1≤1000000)) (Qba p1 ys1 (d1_1 ++ [y1.fr]) (k1_5+1))))))) (Qba p1 ys1 d1_1 (k1_5+1)))) (Qba p1 ys1 d1_1 (k1_5+1)))
def Qet (p0:(List Piece)) (p1:(Int × Int)):Option ((List Int)):=((Qba p1 p0 [p1.1] 0).bind fun o1_0_1=>((atI o1_0_1 ((o1_0_1.length:Int) - 1)).bind fun y22=>(cond (decide (y22 < p1.2)) ((ck (decide (o1_0_1.length+1≤1000000)) (some (o1_0_1 ++ [p1.2])))) (some o1_0_1))))
set_option maxHeartbeats 1000000 in
theorem F_r04_places_ok (p0:(List Piece)) (p1:(Int × Int)) (v0_0:V) (g:G) (h0_0:RS PieceR 3 g v0_0 p0) (r:(List Int)) (hF:Qet p0 p1=some r):Fw Tryz.prog natS (.f 166 [] []) [v0_0,.agg [.i .i64 p1.1,.i .i64 p1.2]] g [] fun g' ml' q=>ml'=[]∧∃ (w0_0:V),q=(w0_0)∧RS IntR 1 g' w0_0 r:=by
 refine Fw.drop ?_
 unfold Qet at hF
 have lh0_0:=h0_0.1
 refine Fw.enter (N:=79) (al:=[(1,_),(0,_)]) Tryz.func166 (by kernel_rfl) (by kernel_rfl) rfl rfl rfl rfl ?_
 intro B
 refine .seq<|.region rfl<|.box .no rfl rfl rfl rfl fun b1=>.z rfl rfl<|.nil<|sq_n<|.seq<|.region rfl<|.q (.fa rfl Qal)<|.w (.s rfl .hd a_3 rfl)<|.bs .no rfl (qs:=[(0,_)]) (c:=[_]) rfl sl_66 el_3 (by decide) rfl fun b2=>.z rfl rfl<|.nil<|sq_n<|.seq<|.seq<|.region rfl<|.z rfl rfl<|.nil<|sq_n<|.block ?_
 have ha3:AccR IntR 1 g (.sl b2 0 1 1) [_] [p1.1]:=AccR.lit (Ls.cons (c:=[_]) rfl rfl .nil) rfl (by decide)
 refine .see0 (seeLit0 (n:=1) (s:=1) .hd rfl) ?_
 have lha3:=ha3.le
 obtain ⟨o1,hF,hG1⟩:=bS hF
 refine .loopx (α:=L_r04_places_1) [(0,_),(3,_)] [_] (fun fx x=>(5,x.v1_2) :: (6,.i .i64 (x.k1_5:Int)) :: fx) (fun mx x=>[.acc x.v1_2 1 x.cs1_3 3,rg mx 0]) (fun x g'=>AccR IntR 1 g' x.v1_2 x.cs1_3 x.d1_1∧x.k1_5≤p0.length∧Qba p1 (p0.drop x.k1_5) x.d1_1 x.k1_5=some o1) (fun x=>p0.length - x.k1_5) (L_r04_places_1.mk _ _ [p1.1] 0) ⟨rfl,rfl,rfl,rfl,trivial⟩ (List.Sublist.refl _) ⟨ha3,(by first | omega | (dsimp only;omega)),hF⟩ ?_
 intro x1 gl1 hlo1 hJ1
 obtain ⟨v1_2,cs1_3,d1_1,k1_5⟩:=x1
 try dsimp only at hJ1
 obtain ⟨ha1_4,hk1,hF⟩:=hJ1
 refine .al0 [(5,v1_2),(6,.i .i64 (k1_5:Int)),(0,_),(3,_)] ?_
 replace h0_0:=h0_0.mono PieceR.mono hlo1
 have lha1_4:=ha1_4.le
 refine .seq<|.seq<|.region rfl<|.m rfl rfl<|.m rfl rfl<|.q (.lenR rfl rfl rfl e_93 h0_0)<|.b rfl rfl rfl rfl<|.nil<|sq_n<|.cond rfl (fun h5=>?_) (fun h5=>?_)
 ·have kh5:=dT h5
  obtain ⟨y1,hy1⟩:=getK (l:=p0) (k:=k1_5) kh5
  rw [dc hy1,Qba] at hF
  refine .skip<|sq_n<|.seq<|.block<|.seq<|.draw (tb:=[r0 0 0,r0 0 0,r0 3 0,r0 7 0,r0 15 0,r0 0 0,r0 32 0,r1 127 0,r1 255 0,r0 511 0,r0 511 0,r0 2047 0,r0 4095 0,r0 8191 0,r0 511 0,r0 16895 0,r1 65535 0,r1 131071 0]) rfl (by kernel_rfl) (by kernel_rfl) ?_
  refine .m rfl rfl<|.m rfl rfl<|.ixk (j:=k1_5) .no rfl rfl h0_0 rfl e_93 hy1 ?_
  rintro b6 o6 _ hq6 rfl
  refine .q (.fa rfl Qai)<|.y rfl rfl rfl (.ps 0 rfl hq6 rfl a_3 rfl)<|.q (.fa rfl Qal)<|.y rfl rfl rfl (.s rfl (.tl .hd) a_3 rfl)<|.b rfl rfl rfl rfl<|.m rfl rfl<|.split (t:=24) rfl (fun h7=>?_) (fun h7=>?_)
  ·have kh7:=dT h7
   have hF:=cT h7 hF
   refine .py h7 (.move rfl)<|.py h7 (.move rfl)<|.ixk (j:=k1_5) (.yes rfl rfl h7) rfl rfl h0_0 rfl e_93 hy1 ?_
   rintro b8 o8 _ hq8 rfl
   refine .py h7 (.fa rfl Qai)<|.ld (k:=0) (.yes rfl rfl h7) rfl rfl rfl trivial (.ps 0 rfl hq8 rfl a_3 rfl)<|.py h7 (.fa rfl Qak)<|.ld (k:=0) (.yes rfl rfl h7) rfl rfl rfl trivial (.s rfl (.tl .hd) a_3 rfl)<|.py h7 (.bin rfl rfl rfl)<|.q (.pickT rfl h7 rfl)<|.nil<|sq_n<|.cond rfl (fun h9=>?_) (fun h9=>?_)
   ·have kh9:=dT h9
    have hF:=cT h9 hF
    refine .seq<|.seq<|.draw (tb:=[r0 0 0,r0 0 0,r0 3 0,r0 7 0,r0 15 0,r0 31 0,r0 0 0,r0 0 0,r0 128 0,r0 384 0,r0 960 0,r0 1984 0,r1 4095 0]) rfl (by kernel_rfl) (by kernel_rfl) ?_
    refine .m rfl rfl<|.m rfl rfl<|.ixk (j:=k1_5) .no rfl rfl h0_0 rfl e_93 hy1 ?_
    rintro b10 o10 _ hq10 rfl
    refine .q (.fa rfl Qai)<|.y rfl rfl rfl (.ps 0 rfl hq10 rfl a_3 rfl)<|.b rfl rfl rfl rfl<|.m rfl rfl<|.m rfl rfl<|.q (.lenA rfl rfl rfl e_66 (by decide) ha1_4)<|.q (.sub rfl rfl (by omega)) ?_
    obtain ⟨y11,hy11,hF⟩:=bS hF
    have hj11:=Qez hy11
    have hy11:=Qej hy11
    refine .ixA .no rfl rfl ha1_4 rfl e_66 (by decide) hj11.1 hy11 ?_
    intro b11 n11 cs11 hv11 hc11 hd11 hr11
    obtain rfl:=hr11
    refine .y rfl rfl rfl (.as 0 rfl (.acc hv11 rfl) rfl hd11 hc11 a_3 rfl)<|.b rfl rfl rfl rfl<|.nil<|sq_n<|.cond rfl (fun h12=>?_) (fun h12=>?_)
    ·have kh12:=dT h12
     have hF:=cT h12 hF
     refine .region rfl<|.m rfl rfl<|.m rfl rfl<|.m rfl rfl<|.ixk (j:=k1_5) .no rfl rfl h0_0 rfl e_93 hy1 ?_
     rintro b13 o13 _ hq13 rfl
     refine .q (.fa rfl Qai)<|.w (.ps 0 rfl hq13 rfl a_3 rfl)<|.b rfl rfl rfl rfl<|.bs .no rfl (qs:=[(0,_)]) (c:=[_]) rfl sl_66 el_3 (by decide) rfl fun b14=>?_
     obtain ⟨hl15,hF⟩:=ckS hF
     have hl15:=of_decide_eq_true hl15
     refine .x .no rfl (.appA (m:=1) (new:=[_]) rfl rfl rfl (.tl .hd) sl_66 el_3 (.of rfl .sl sl_66 .hd (Nat.le_of_ble_eq_true rfl) rfl) (by decide) rfl (AccR.room (R:=IntR) (ys:=[(wr (y1.fr - 1))]) ha1_4 (Ls.cons (c:=[_]) rfl rfl .nil) hl15) rfl) fun v15=>.as (.tl .hd) fun av15=>?_
     have ha15:=AccR.app (R:=IntR) (g:=gl1) (ys:=[(wr (y1.fr - 1))]) ha1_4 (Ls.cons (c:=[_]) rfl rfl .nil) hl15 av15
     have lha15:=ha15.le
     refine .z rfl rfl<|.nil<|sq_n<|.region rfl<|.m rfl rfl<|.m rfl rfl<|.m rfl rfl<|.ixk (j:=k1_5) .no rfl rfl h0_0 rfl e_93 hy1 ?_
     rintro b16 o16 _ hq16 rfl
     refine .q (.fa rfl Qai)<|.w (.ps 0 rfl hq16 rfl a_3 rfl)<|.bs .no rfl (qs:=[(0,_)]) (c:=[_]) rfl sl_66 el_3 (by decide) rfl fun b17=>?_
     obtain ⟨hl18,hF⟩:=ckS hF
     have hl18:=of_decide_eq_true hl18
     refine .x .no rfl (.appA (m:=1) (new:=[_]) rfl rfl rfl (.tl (.tl .hd)) sl_66 el_3 (.of rfl .sl sl_66 .hd (Nat.le_of_ble_eq_true rfl) rfl) (by decide) rfl (AccR.room (R:=IntR) (ys:=[y1.fr]) ha15 (Ls.cons (c:=[_]) rfl rfl .nil) hl18) rfl) fun v18=>.as (.tl (.tl .hd)) fun av18=>?_
     have ha18:=AccR.app (R:=IntR) (g:=gl1) (ys:=[y1.fr]) ha15 (Ls.cons (c:=[_]) rfl rfl .nil) hl18 av18
     have lha18:=ha18.le
     refine .z rfl rfl<|.nil<|bq_n<|sq_n<|.region rfl<|.m rfl rfl<|.q (.inc1 rfl rfl (by omega))<|.z rfl rfl<|.nil<|Qac (L_r04_places_1.mk _ _ ((d1_1 ++ [(wr (y1.fr - 1))]) ++ [y1.fr]) (k1_5+1)) ⟨rfl,rfl,rfl,rfl,trivial⟩ (.cons _ (.cons _ (List.Sublist.refl _))) (Le.refl _) ?_ ?_
     ·exact ⟨ha18,(Qaf hy1),hF⟩
     ·simp only;omega
    have kh12:=dF h12
    have hF:=cF h12 hF
    refine .skip<|sq_n<|.region rfl<|.m rfl rfl<|.m rfl rfl<|.m rfl rfl<|.ixk (j:=k1_5) .no rfl rfl h0_0 rfl e_93 hy1 ?_
    rintro b19 o19 _ hq19 rfl
    refine .q (.fa rfl Qai)<|.w (.ps 0 rfl hq19 rfl a_3 rfl)<|.bs .no rfl (qs:=[(0,_)]) (c:=[_]) rfl sl_66 el_3 (by decide) rfl fun b20=>?_
    obtain ⟨hl21,hF⟩:=ckS hF
    have hl21:=of_decide_eq_true hl21
    refine .x .no rfl (.appA (m:=1) (new:=[_]) rfl rfl rfl (.tl .hd) sl_66 el_3 (.of rfl .sl sl_66 .hd (Nat.le_of_ble_eq_true rfl) rfl) (by decide) rfl (AccR.room (R:=IntR) (ys:=[y1.fr]) ha1_4 (Ls.cons (c:=[_]) rfl rfl .nil) hl21) rfl) fun v21=>.as (.tl .hd) fun av21=>?_
    have ha21:=AccR.app (R:=IntR) (g:=gl1) (ys:=[y1.fr]) ha1_4 (Ls.cons (c:=[_]) rfl rfl .nil) hl21 av21
    have lha21:=ha21.le
    refine .z rfl rfl<|.nil<|bq_n<|sq_n<|.region rfl<|.m rfl rfl<|.q (.inc1 rfl rfl (by omega))<|.z rfl rfl<|.nil<|Qac (L_r04_places_1.mk _ _ (d1_1 ++ [y1.fr]) (k1_5+1)) ⟨rfl,rfl,rfl,rfl,trivial⟩ (.cons _ (List.Sublist.refl _)) (Le.refl _) ?_ ?_
    ·exact ⟨ha21,(Qaf hy1),hF⟩
    ·simp only;omega
   have kh9:=dF h9
   have hF:=cF h9 hF
   refine .skip<|bq_n<|sq_n<|.region rfl<|.m rfl rfl<|.q (.inc1 rfl rfl (by omega))<|.z rfl rfl<|.nil<|Qac (L_r04_places_1.mk _ _ d1_1 (k1_5+1)) ⟨rfl,rfl,rfl,rfl,trivial⟩ (List.Sublist.refl _) (Le.refl _) ?_ ?_
   ·exact ⟨ha1_4,(Qaf hy1),hF⟩
   ·simp only;omega
  have kh7:=dF h7
  have hF:=cF h7 hF
  refine .k h7<|.k h7<|.k h7<|.k h7<|.k h7<|.k h7<|.k h7<|.k h7<|.q (.pickF rfl h7 rfl)<|.nil<|sq_n<|.condF rfl rfl<|.skip<|bq_n<|sq_n<|.region rfl<|.m rfl rfl<|.q (.inc1 rfl rfl (by omega))<|.z rfl rfl<|.nil<|Qac (L_r04_places_1.mk _ _ d1_1 (k1_5+1)) ⟨rfl,rfl,rfl,rfl,trivial⟩ (List.Sublist.refl _) (Le.refl _) ?_ ?_
  ·exact ⟨ha1_4,(Qaf hy1),hF⟩
  ·simp only;omega
 have kh5:=dF h5
 rw [dn (by omega),Qba] at hF
 obtain rfl:=sI hF
 have hF:=hG1
 refine .exit<|sq_e<|lq_e<|bq_x rfl<|sq_n<|.seq<|.seq<|.draw (tb:=[r0 0 0,r0 1 0,r0 0 0,r0 0 0,r0 8 0,r0 24 0,r0 60 0,r0 124 0,r1 255 0]) rfl (by kernel_rfl) (by kernel_rfl) ?_
 refine .q (.fa rfl Qak)<|.y rfl rfl rfl (.s rfl (.tl .hd) a_3 rfl)<|.m rfl rfl<|.m rfl rfl<|.q (.lenA rfl rfl rfl e_66 (by decide) ha1_4)<|.q (.sub rfl rfl (by omega)) ?_
 obtain ⟨y22,hy22,hF⟩:=bS hF
 have hj22:=Qez hy22
 have hy22:=Qej hy22
 refine .ixA .no rfl rfl ha1_4 rfl e_66 (by decide) hj22.1 hy22 ?_
 intro b22 n22 cs22 hv22 hc22 hd22 hr22
 obtain rfl:=hr22
 refine .y rfl rfl rfl (.as 0 rfl (.acc hv22 rfl) rfl hd22 hc22 a_3 rfl)<|.b rfl rfl rfl rfl<|.nil<|sq_n<|.cond rfl (fun h23=>?_) (fun h23=>?_)
 ·have hF:=cT h23 hF
  refine .region rfl<|.m rfl rfl<|.q (.fa rfl Qak)<|.w (.s rfl (.tl .hd) a_3 rfl)<|.bs .no rfl (qs:=[(0,_)]) (c:=[_]) rfl sl_66 el_3 (by decide) rfl fun b24=>?_
  obtain ⟨hl25,hF⟩:=ckS hF
  have hl25:=of_decide_eq_true hl25
  refine .x .no rfl (.appA (m:=1) (new:=[_]) rfl rfl rfl (.tl .hd) sl_66 el_3 (.of rfl .sl sl_66 .hd (Nat.le_of_ble_eq_true rfl) rfl) (by decide) rfl (AccR.room (R:=IntR) (ys:=[p1.2]) ha1_4 (Ls.cons (c:=[_]) rfl rfl .nil) hl25) rfl) fun v25=>.as (.tl .hd) fun av25=>?_
  have ha25:=AccR.app (R:=IntR) (g:=gl1) (ys:=[p1.2]) ha1_4 (Ls.cons (c:=[_]) rfl rfl .nil) hl25 av25
  refine .z rfl rfl<|.nil<|sq_n<|.seq<|.region rfl<|.m rfl rfl<|.z rfl rfl<|.nil<|sq_n<|.see (Qdg IntR.mono (.tl .hd) (by decide) ha25) ?_
  rintro gz26 ⟨hle26,hz26⟩
  refine .ret ?_
  obtain rfl:=sI hF
  refine Qaa (hlo1.trans hle26) (.tmp rfl .nil) rfl ?_
  exact ⟨_,rfl,hz26⟩
 have hF:=cF h23 hF
 refine .skip<|sq_n<|.seq<|.region rfl<|.m rfl rfl<|.z rfl rfl<|.nil<|sq_n<|.see (Qdg IntR.mono .hd (by decide) ha1_4) ?_
 rintro gz27 ⟨hle27,hz27⟩
 refine .ret ?_
 obtain rfl:=sI hF
 refine Qaa (hlo1.trans hle27) (.tmp rfl .nil) rfl ?_
 exact ⟨_,rfl,hz27⟩
structure L_r04_value_1 where
 z1_1:Int
 k1_2:Nat
def Qco (p1:Int):List Piece→Int→Nat→Option ((Int))
 | [],z1_1,k1_2=>some (z1_1)
 | y1 :: ys1,z1_1,k1_2=>(cond (decide (y1.fr≤p1)) (Qco p1 ys1 (wr (y1.base+(wr (y1.rate * p1)))) (k1_2+1)) (some (z1_1)))
def Qbf (p0:(List Piece)) (p1:Int):Option (Int):=((Qco p1 p0 0 0).bind fun o1_0_1=>some o1_0_1)
set_option maxHeartbeats 1000000 in
theorem Qbd (p0:(List Piece)) (p1:Int) (v0_0:V) (g:G) (h0_0:RS PieceR 3 g v0_0 p0) (r:Int) (hF:Qbf p0 p1=some r):Fv Tryz.prog natS (.f 91 [] []) [v0_0,.i .i64 p1] g (.i .i64 r):=by
 refine Fw.fv ?_
 unfold Qbf at hF
 have lh0_0:=h0_0.1
 refine Fw.enter (N:=36) (al:=[(1,_),(0,_)]) Tryz.func91 (by kernel_rfl) (by kernel_rfl) rfl rfl rfl rfl ?_
 intro B
 refine .seq<|.region rfl<|.z rfl rfl<|.nil<|sq_n<|.seq<|.region rfl<|.z rfl rfl<|.nil<|sq_n<|.seq<|.seq<|.region rfl<|.z rfl rfl<|.nil<|sq_n<|.block ?_
 obtain ⟨o1,hF,hG1⟩:=bS hF
 refine .loopx (α:=L_r04_value_1) [(0,_),(1,_)] _ (fun fx x=>(5,.i .i64 x.z1_1) :: (6,.i .i64 (x.k1_2:Int)) :: fx) (fun mx _=>mx) (fun x g'=>x.k1_2≤p0.length∧Qco p1 (p0.drop x.k1_2) x.z1_1 x.k1_2=some o1) (fun x=>p0.length - x.k1_2) (L_r04_value_1.mk 0 0) ⟨rfl,rfl,rfl,rfl,trivial⟩ (List.Sublist.refl _) ⟨(by first | omega | (dsimp only;omega)),hF⟩ ?_
 intro x1 gl1 hlo1 hJ1
 obtain ⟨z1_1,k1_2⟩:=x1
 try dsimp only at hJ1
 obtain ⟨hk1,hF⟩:=hJ1
 refine .al0 [(5,.i .i64 z1_1),(6,.i .i64 (k1_2:Int)),(0,_),(1,_)] ?_
 replace h0_0:=h0_0.mono PieceR.mono hlo1
 refine .seq<|.seq<|.region rfl<|.m rfl rfl<|.m rfl rfl<|.q (.lenR rfl rfl rfl e_93 h0_0)<|.b rfl rfl rfl rfl<|.m rfl rfl<|.split (t:=11) rfl (fun h1=>?_) (fun h1=>?_)
 ·have kh1:=dT h1
  obtain ⟨y1,hy1⟩:=getK (l:=p0) (k:=k1_2) kh1
  rw [dc hy1,Qco] at hF
  refine .py h1 (.move rfl)<|.py h1 (.move rfl)<|.ixk (j:=k1_2) (.yes rfl rfl h1) rfl rfl h0_0 rfl e_93 hy1 ?_
  rintro b2 o2 _ hq2 rfl
  refine .py h1 (.fa rfl Qai)<|.wy h1 (.ps 0 rfl hq2 rfl a_3 rfl)<|.py h1 (.move rfl)<|.py h1 (.bin rfl rfl rfl)<|.q (.pickT rfl h1 rfl)<|.nil<|sq_n<|.cond rfl (fun h3=>?_) (fun h3=>?_)
  ·have kh3:=dT h3
   have hF:=cT h3 hF
   refine .skip<|sq_n<|.seq<|.block<|.draw (tb:=[r0 0 0,r0 0 0,r0 3 0,r0 7 0,r0 15 0,r0 0 0,r0 0 0,r0 96 0,r0 224 0,r0 480 0,r0 0 0,r0 2016 0,r1 4095 0,r1 8191 0]) rfl (by kernel_rfl) (by kernel_rfl) ?_
   refine .m rfl rfl<|.m rfl rfl<|.ixk (j:=k1_2) .no rfl rfl h0_0 rfl e_93 hy1 ?_
   rintro b4 o4 _ hq4 rfl
   refine .q (.fa rfl f_157_1)<|.y rfl rfl rfl (.ps 1 rfl hq4 rfl a_3 rfl)<|.m rfl rfl<|.m rfl rfl<|.ixk (j:=k1_2) .no rfl rfl h0_0 rfl e_93 hy1 ?_
   rintro b5 o5 _ hq5 rfl
   refine .q (.fa rfl f_157_2)<|.y rfl rfl rfl (.ps 2 rfl hq5 rfl a_3 rfl)<|.m rfl rfl<|.b rfl rfl rfl rfl<|.b rfl rfl rfl rfl<|.z rfl rfl<|.nil<|bq_n<|sq_n<|.region rfl<|.m rfl rfl<|.q (.inc1 rfl rfl (by omega))<|.z rfl rfl<|.nil<|Qac (L_r04_value_1.mk (wr (y1.base+(wr (y1.rate * p1)))) (k1_2+1)) ⟨rfl,rfl,rfl,rfl,trivial⟩ (List.Sublist.refl _) (Le.refl _) ?_ ?_
   ·exact ⟨(Qaf hy1),hF⟩
   ·simp only;omega
  have hF:=cF h3 hF
  obtain rfl:=sI hF
  have hF:=hG1
  refine .exit<|sq_e<|lq_e<|bq_x rfl<|sq_n<|.seq<|.region rfl<|.m rfl rfl<|.z rfl rfl<|.nil<|sq_n<|.ret ?_
  obtain rfl:=sI hF
  refine Qaa hlo1 (.tmp rfl .nil) rfl ?_
  rfl
 have kh1:=dF h1
 rw [dn (by omega),Qco] at hF
 refine .k h1<|.k h1<|.k h1<|.k h1<|.k h1<|.k h1<|.k h1<|.q (.pickF rfl h1 rfl)<|.nil<|sq_n<|.condF rfl rfl ?_
 obtain rfl:=sI hF
 have hF:=hG1
 refine .exit<|sq_e<|lq_e<|bq_x rfl<|sq_n<|.seq<|.region rfl<|.m rfl rfl<|.z rfl rfl<|.nil<|sq_n<|.ret ?_
 obtain rfl:=sI hF
 refine Qaa hlo1 (.tmp rfl .nil) rfl ?_
 rfl
structure L_r04_extreme_1 where
 z1_1:Int
 k1_2:Nat
def Qbc (p0:(List Piece)) (p2:Bool):List Int→Int→Nat→Option ((Int))
 | [],z1_1,k1_2=>some (z1_1)
 | y1 :: ys1,z1_1,k1_2=>((Qbf p0 y1).bind fun q6=>((Qbf p0 z1_1).bind fun q7=>(cond p2 ((cond (decide (q7 < q6)) (Qbc p0 p2 ys1 y1 (k1_2+1)) (Qbc p0 p2 ys1 z1_1 (k1_2+1)))) ((cond (decide (q6 < q7)) (Qbc p0 p2 ys1 y1 (k1_2+1)) (Qbc p0 p2 ys1 z1_1 (k1_2+1)))))))
def Qas (p0:(List Piece)) (p1:(Int × Int)) (p2:Bool):Option (Int):=((Qet p0 p1).bind fun q2=>((q2[0]?).bind fun y3=>((Qbc p0 p2 (List.drop 1 q2) y3 1).bind fun o1_0_1=>some o1_0_1)))
set_option maxHeartbeats 1000000 in
theorem Qbb (p0:(List Piece)) (p1:(Int × Int)) (p2:Bool) (v0_0:V) (g:G) (h0_0:RS PieceR 3 g v0_0 p0) (r:Int) (hF:Qas p0 p1 p2=some r):Fv Tryz.prog natS (.f 133 [] []) [v0_0,.agg [.i .i64 p1.1,.i .i64 p1.2],.b p2] g (.i .i64 r):=by
 refine Fw.fv ?_
 unfold Qas at hF
 have lh0_0:=h0_0.1
 refine Fw.enter (N:=53) (al:=[(2,_),(1,_),(0,_)]) Tryz.func133 (by kernel_rfl) (by kernel_rfl) rfl rfl rfl rfl ?_
 intro B
 refine .seq<|.region rfl<|.box .no rfl rfl rfl rfl fun b1=>.z rfl rfl<|.nil<|sq_n<|.seq<|.region rfl<|.m rfl rfl<|.w (.a (vs:=[_,_]) rfl .hd a_27 s_27 rfl rfl) ?_
 obtain ⟨q2,hq2,hF⟩:=bS hF
 refine .call .no rfl rfl rfl (F_r04_places_ok p0 p1 _ _ h0_0 _ hq2) ?_
 rintro g2 ml2 r2 hle2 ⟨rfl,w2_0_0,rfl,hw2_0_0⟩
 replace h0_0:=h0_0.mono PieceR.mono hle2
 have lhw2_0_0:=hw2_0_0.1
 refine .z rfl rfl<|.nil<|sq_n<|.seq<|.region rfl<|.m rfl rfl ?_
 obtain ⟨y3,hy3,hF⟩:=bS hF
 have hj3:=Qaf hy3
 refine .ixk (j:=0) .no rfl rfl hw2_0_0 rfl e_66 hy3 ?_
 rintro b3 o3 _ hq3 rfl
 refine .w (.ps 0 rfl hq3 rfl a_3 rfl)<|.z rfl rfl<|.nil<|sq_n<|.seq<|.seq<|.region rfl<|.z rfl rfl<|.nil<|sq_n<|.block ?_
 obtain ⟨o1,hF,hG1⟩:=bS hF
 refine .loopx (α:=L_r04_extreme_1) [(0,_),(2,_),(7,_)] _ (fun fx x=>(8,.i .i64 x.z1_1) :: (9,.i .i64 (x.k1_2:Int)) :: fx) (fun mx _=>mx) (fun x g'=>x.k1_2≤q2.length+1∧Qbc p0 p2 (q2.drop x.k1_2) x.z1_1 x.k1_2=some o1) (fun x=>q2.length - x.k1_2) (L_r04_extreme_1.mk y3 1) ⟨rfl,rfl,rfl,rfl,rfl,trivial⟩ (List.Sublist.refl _) ⟨(by first | omega | (dsimp only;omega)),hF⟩ ?_
 intro x1 gl1 hlo1 hJ1
 obtain ⟨z1_1,k1_2⟩:=x1
 try dsimp only at hJ1
 obtain ⟨hk1,hF⟩:=hJ1
 refine .al0 [(8,.i .i64 z1_1),(9,.i .i64 (k1_2:Int)),(0,_),(2,_),(7,_)] ?_
 replace h0_0:=h0_0.mono PieceR.mono hlo1
 replace hw2_0_0:=hw2_0_0.mono IntR.mono hlo1
 refine .seq<|.seq<|.region rfl<|.m rfl rfl<|.m rfl rfl<|.q (.lenR rfl rfl rfl e_66 hw2_0_0)<|.b rfl rfl rfl rfl<|.nil<|sq_n<|.cond rfl (fun h4=>?_) (fun h4=>?_)
 ·have kh4:=dT h4
  obtain ⟨y1,hy1⟩:=getK (l:=q2) (k:=k1_2) kh4
  rw [dc hy1,Qbc] at hF
  refine .skip<|sq_n<|.seq<|.block<|.seq<|.region rfl<|.m rfl rfl<|.m rfl rfl<|.m rfl rfl<|.ixk (j:=k1_2) .no rfl rfl hw2_0_0 rfl e_66 hy1 ?_
  rintro b5 o5 _ hq5 rfl
  refine .w (.ps 0 rfl hq5 rfl a_3 rfl) ?_
  obtain ⟨q6,hq6,hF⟩:=bS hF
  refine .callV .no rfl rfl rfl (Qbd p0 y1 _ _ h0_0 _ hq6)<|.z rfl rfl<|.nil<|sq_n<|.seq<|.region rfl<|.m rfl rfl<|.m rfl rfl ?_
  obtain ⟨q7,hq7,hF⟩:=bS hF
  refine .callV .no rfl rfl rfl (Qbd p0 z1_1 _ _ h0_0 _ hq7)<|.z rfl rfl<|.nil<|sq_n<|.seq<|.region rfl<|.m rfl rfl<|.m rfl rfl<|.split (t:=34) rfl (fun h8=>?_) (fun h8=>?_)
  ·have kh8:=h8
   have hF:=cT h8 hF
   refine .py h8 (.move rfl)<|.py h8 (.move rfl)<|.py h8 (.bin rfl rfl rfl)<|.q (.pickT rfl h8 rfl)<|.m rfl rfl<|.split (t:=39) rfl (fun h9=>?_) (fun h9=>?_)
   ·have kh9:=dT h9
    have hF:=cT h9 hF
    refine .k h9<|.k h9<|.k h9<|.ku<|.ku<|.ku<|.k h9<|.q (.pickT rfl h9 rfl)<|.nil<|sq_n<|.condT rfl rfl<|.region rfl<|.m rfl rfl<|.m rfl rfl<|.ixk (j:=k1_2) .no rfl rfl hw2_0_0 rfl e_66 hy1 ?_
    rintro b10 o10 _ hq10 rfl
    refine .w (.ps 0 rfl hq10 rfl a_3 rfl)<|.z rfl rfl<|.nil<|bq_n<|sq_n<|.region rfl<|.m rfl rfl<|.q (.inc1 rfl rfl (by omega))<|.z rfl rfl<|.nil<|Qac (L_r04_extreme_1.mk y1 (k1_2+1)) ⟨rfl,rfl,rfl,rfl,rfl,trivial⟩ (List.Sublist.refl _) (Le.refl _) ?_ ?_
    ·exact ⟨(Nat.le_add_right_of_le (Qaf hy1)),hF⟩
    ·simp only;omega
   have kh9:=dF h9
   have hF:=cF h9 hF
   refine .py h9 (.move rfl)<|.py h9 (.not rfl)<|.py h9 (.move rfl)<|.k (bnT h8)<|.k (bnT h8)<|.k (bnT h8)<|.py h9 (.pickF rfl (bnT h8) rfl)<|.q (.pickF rfl h9 rfl)<|.nil<|sq_n<|.condF rfl rfl<|.skip<|bq_n<|sq_n<|.region rfl<|.m rfl rfl<|.q (.inc1 rfl rfl (by omega))<|.z rfl rfl<|.nil<|Qac (L_r04_extreme_1.mk z1_1 (k1_2+1)) ⟨rfl,rfl,rfl,rfl,rfl,trivial⟩ (List.Sublist.refl _) (Le.refl _) ?_ ?_
   ·exact ⟨(Nat.le_add_right_of_le (Qaf hy1)),hF⟩
   ·simp only;omega
  have kh8:=h8
  have hF:=cF h8 hF
  refine .k h8<|.k h8<|.k h8<|.q (.pickF rfl h8 rfl)<|.m rfl rfl<|.py rfl (.move rfl)<|.py rfl (.not rfl)<|.py rfl (.move rfl)<|.py (bnF h8) (.move rfl)<|.py (bnF h8) (.move rfl)<|.py (bnF h8) (.bin rfl rfl rfl)<|.py rfl (.pickT rfl (bnF h8) rfl)<|.q (.pickF rfl rfl rfl)<|.nil<|sq_n<|.cond rfl (fun h11=>?_) (fun h11=>?_)
  ·have kh11:=dT h11
   have hF:=cT h11 hF
   refine .region rfl<|.m rfl rfl<|.m rfl rfl<|.ixk (j:=k1_2) .no rfl rfl hw2_0_0 rfl e_66 hy1 ?_
   rintro b12 o12 _ hq12 rfl
   refine .w (.ps 0 rfl hq12 rfl a_3 rfl)<|.z rfl rfl<|.nil<|bq_n<|sq_n<|.region rfl<|.m rfl rfl<|.q (.inc1 rfl rfl (by omega))<|.z rfl rfl<|.nil<|Qac (L_r04_extreme_1.mk y1 (k1_2+1)) ⟨rfl,rfl,rfl,rfl,rfl,trivial⟩ (List.Sublist.refl _) (Le.refl _) ?_ ?_
   ·exact ⟨(Nat.le_add_right_of_le (Qaf hy1)),hF⟩
   ·simp only;omega
  have kh11:=dF h11
  have hF:=cF h11 hF
  refine .skip<|bq_n<|sq_n<|.region rfl<|.m rfl rfl<|.q (.inc1 rfl rfl (by omega))<|.z rfl rfl<|.nil<|Qac (L_r04_extreme_1.mk z1_1 (k1_2+1)) ⟨rfl,rfl,rfl,rfl,rfl,trivial⟩ (List.Sublist.refl _) (Le.refl _) ?_ ?_
  ·exact ⟨(Nat.le_add_right_of_le (Qaf hy1)),hF⟩
  ·simp only;omega
 have kh4:=dF h4
 rw [dn (by omega),Qbc] at hF
 obtain rfl:=sI hF
 have hF:=hG1
 refine .exit<|sq_e<|lq_e<|bq_x rfl<|sq_n<|.seq<|.region rfl<|.m rfl rfl<|.z rfl rfl<|.nil<|sq_n<|.ret ?_
 obtain rfl:=sI hF
 refine Qaa (hle2.trans hlo1) (.tmp rfl .nil) rfl ?_
 rfl
def Qfx (p0:Int) (p1:Int):Option (Int):=(ck (!(decide (p1=0))) ((ck (!(decide (p1=0))) ((cond (decide ((Int.tmod p0 p1) < 0)) (some (wr ((wr (Int.tdiv p0 p1)) - 1))) (some (wr (Int.tdiv p0 p1))))))))
set_option maxHeartbeats 1000000 in
theorem F_r04_Down_ok (p0:Int) (p1:Int) (g:G) (r:Int) (hF:Qfx p0 p1=some r):Fv Tryz.prog natS (.f 135 [] []) [.i .i64 p0,.i .i64 p1] g (.i .i64 r):=by
 refine Fw.fv ?_
 unfold Qfx at hF
 refine Fw.enter (N:=16) (al:=[(1,_),(0,_)]) Tryz.func135 (by kernel_rfl) (by kernel_rfl) rfl rfl rfl rfl ?_
 intro B
 refine .seq<|.region rfl<|.z rfl rfl<|.nil<|sq_n<|.seq<|.region rfl<|.m rfl rfl<|.m rfl rfl ?_
 obtain ⟨hd1,hF⟩:=ckS hF
 refine .q (.bin rfl rfl (iop_quo hd1))<|.z rfl rfl<|.nil<|sq_n<|.seq<|.seq<|.region rfl<|.m rfl rfl<|.m rfl rfl ?_
 obtain ⟨hd2,hF⟩:=ckS hF
 refine .q (.bin rfl rfl (iop_rem hd2))<|.b rfl rfl rfl rfl<|.nil<|sq_n<|.cond rfl (fun h3=>?_) (fun h3=>?_)
 ·have hF:=cT h3 hF
  refine .region rfl<|.m rfl rfl<|.b rfl rfl rfl rfl<|.z rfl rfl<|.nil<|sq_n<|.seq<|.region rfl<|.m rfl rfl<|.z rfl rfl<|.nil<|sq_n<|.ret ?_
  obtain rfl:=sI hF
  refine Qaa (Le.refl _) (.tmp rfl .nil) rfl ?_
  rfl
 have hF:=cF h3 hF
 refine .skip<|sq_n<|.seq<|.region rfl<|.m rfl rfl<|.z rfl rfl<|.nil<|sq_n<|.ret ?_
 obtain rfl:=sI hF
 refine Qaa (Le.refl _) (.tmp rfl .nil) rfl ?_
 rfl
def Qdc (p0:Version) (p1:Int) (p2:(Nat→Int)):Option (Int):=(cond (decide (p1=0)) (((Qbf (p0.ln 0) (p2 0)).bind fun q4=>((Qbf (p0.ln 1) (p2 1)).bind fun q5=>((Qbf (p0.ln 2) (p2 2)).bind fun q6=>((Qbf (p0.ln 3) (p2 3)).bind fun q7=>((Qbf (p0.ln 4) (p2 4)).bind fun q8=>((Qfx (wr ((wr ((wr ((wr ((wr ((0:Int)+q4))+q5))+q6))+q7))+q8)) 1000).bind fun q9=>some q9))))))) ((cond (decide (p1=1)) (((Qbf (p0.ln 5) (p2 0)).bind fun q10=>((Qbf (p0.ln 6) (p2 1)).bind fun q11=>((Qbf (p0.ln 7) (p2 2)).bind fun q12=>((Qbf (p0.ln 8) (p2 3)).bind fun q13=>((Qbf (p0.ln 9) (p2 4)).bind fun q14=>((Qfx (wr ((wr ((wr ((wr ((wr ((0:Int)+q10))+q11))+q12))+q13))+q14)) 1000).bind fun q15=>some q15))))))) (none))))
set_option maxHeartbeats 1000000 in
theorem F_r04_tonnage_ok (p0:Version) (p1:Int) (p2:(Nat→Int)) (cs0:List V) (g:G) (h0:VersionR g cs0 p0) (r:Int) (hF:Qdc p0 p1 p2=some r):Fv Tryz.prog natS (.f 85 [] []) [.agg cs0,.i .i64 p1,.agg [.i .i64 (p2 0),.i .i64 (p2 1),.i .i64 (p2 2),.i .i64 (p2 3),.i .i64 (p2 4)]] g (.i .i64 r):=by
 refine Fw.fv ?_
 unfold Qdc at hF
 obtain ⟨pq0,lvq0,rfl,hpq0,hlq0⟩:=h0
 refine Fw.enter (N:=27) (al:=[(2,_),(1,_),(0,_)]) Tryz.func85 (by kernel_rfl) (by kernel_rfl) rfl rfl rfl rfl ?_
 intro B
 refine .seq<|.region rfl<|.box .no rfl rfl rfl rfl fun b1=>.box .no rfl rfl rfl rfl fun b2=>.z rfl rfl<|.nil<|sq_n<|.seq<|.region rfl<|.z rfl rfl<|.nil<|sq_n<|.seq<|.seq<|.region rfl<|.z rfl rfl<|.nil<|sq_n<|.block<|.unroll<|.seq<|.seq<|.region rfl<|.m rfl rfl<|.b rfl rfl rfl rfl<|.nil<|sq_n<|.condT rfl (by decide)<|.skip<|sq_n<|.seq<|.block<|.draw (tb:=[r0 0 0,r0 0 0,r0 0 0,r0 0 0,r0 10 0,r0 30 0,r0 62 0,r0 0 0,r0 128 0,r0 384 0,r1 1022 0,r1 2047 1,r1 4095 1]) rfl (by kernel_rfl) (by kernel_rfl) ?_
 refine .m rfl rfl<|.m rfl rfl<|.m rfl rfl<|.q (.fa rfl Qaj) ?_
 by_cases e3_0:(p1:Int)=0
 ·have hF:=cT (decide_eq_true e3_0) hF
  refine .q (.ixae (q:=0) rfl rfl e3_0 ae_95 (by decide))<|.q (.ixa (j:=0) rfl rfl ae_94 (by decide))<|.y rfl rfl rfl (.s rfl (.tl .hd) a_93 rfl)<|.m rfl rfl<|.q (.ixa (j:=0) rfl rfl ae_38 (by decide))<|.y rfl rfl rfl (.s rfl .hd a_3 rfl) ?_
  obtain ⟨q4,hq4,hF⟩:=bS hF
  refine .callV .no rfl rfl rfl rfl rfl (Qbd (p0.ln 0) (p2 0) _ _ (hlq0 0 (by decide)) _ hq4)<|.b rfl rfl rfl rfl<|.z rfl rfl<|.nil<|bq_n<|sq_n<|.region rfl<|.m rfl rfl<|.q (.addL (c:=1) rfl rfl rfl (by decide))<|.z rfl rfl<|.nil<|sq_n<|.unroll<|.seq<|.seq<|.region rfl<|.m rfl rfl<|.b rfl rfl rfl rfl<|.nil<|sq_n<|.condT rfl (by decide)<|.skip<|sq_n<|.seq<|.block<|.draw (tb:=[r0 0 0,r0 0 0,r0 0 0,r0 0 0,r0 10 0,r0 30 0,r0 62 0,r0 0 0,r0 128 0,r0 384 0,r1 1022 0,r1 2047 1,r1 4095 1]) rfl (by kernel_rfl) (by kernel_rfl) ?_
  refine .m rfl rfl<|.m rfl rfl<|.m rfl rfl<|.q (.fa rfl Qaj)<|.q (.ixae (q:=0) rfl rfl e3_0 ae_95 (by decide))<|.q (.ixa (j:=1) rfl rfl ae_94 (by decide))<|.y rfl rfl rfl (.s rfl (.tl .hd) a_93 rfl)<|.m rfl rfl<|.q (.ixa (j:=1) rfl rfl ae_38 (by decide))<|.y rfl rfl rfl (.s rfl .hd a_3 rfl) ?_
  obtain ⟨q5,hq5,hF⟩:=bS hF
  refine .callV .no rfl rfl rfl rfl rfl (Qbd (p0.ln 1) (p2 1) _ _ (hlq0 1 (by decide)) _ hq5)<|.b rfl rfl rfl rfl<|.z rfl rfl<|.nil<|bq_n<|sq_n<|.region rfl<|.m rfl rfl<|.q (.addL (c:=2) rfl rfl rfl (by decide))<|.z rfl rfl<|.nil<|sq_n<|.unroll<|.seq<|.seq<|.region rfl<|.m rfl rfl<|.b rfl rfl rfl rfl<|.nil<|sq_n<|.condT rfl (by decide)<|.skip<|sq_n<|.seq<|.block<|.draw (tb:=[r0 0 0,r0 0 0,r0 0 0,r0 0 0,r0 10 0,r0 30 0,r0 62 0,r0 0 0,r0 128 0,r0 384 0,r1 1022 0,r1 2047 1,r1 4095 1]) rfl (by kernel_rfl) (by kernel_rfl) ?_
  refine .m rfl rfl<|.m rfl rfl<|.m rfl rfl<|.q (.fa rfl Qaj)<|.q (.ixae (q:=0) rfl rfl e3_0 ae_95 (by decide))<|.q (.ixa (j:=2) rfl rfl ae_94 (by decide))<|.y rfl rfl rfl (.s rfl (.tl .hd) a_93 rfl)<|.m rfl rfl<|.q (.ixa (j:=2) rfl rfl ae_38 (by decide))<|.y rfl rfl rfl (.s rfl .hd a_3 rfl) ?_
  obtain ⟨q6,hq6,hF⟩:=bS hF
  refine .callV .no rfl rfl rfl rfl rfl (Qbd (p0.ln 2) (p2 2) _ _ (hlq0 2 (by decide)) _ hq6)<|.b rfl rfl rfl rfl<|.z rfl rfl<|.nil<|bq_n<|sq_n<|.region rfl<|.m rfl rfl<|.q (.addL (c:=3) rfl rfl rfl (by decide))<|.z rfl rfl<|.nil<|sq_n<|.unroll<|.seq<|.seq<|.region rfl<|.m rfl rfl<|.b rfl rfl rfl rfl<|.nil<|sq_n<|.condT rfl (by decide)<|.skip<|sq_n<|.seq<|.block<|.draw (tb:=[r0 0 0,r0 0 0,r0 0 0,r0 0 0,r0 10 0,r0 30 0,r0 62 0,r0 0 0,r0 128 0,r0 384 0,r1 1022 0,r1 2047 1,r1 4095 1]) rfl (by kernel_rfl) (by kernel_rfl) ?_
  refine .m rfl rfl<|.m rfl rfl<|.m rfl rfl<|.q (.fa rfl Qaj)<|.q (.ixae (q:=0) rfl rfl e3_0 ae_95 (by decide))<|.q (.ixa (j:=3) rfl rfl ae_94 (by decide))<|.y rfl rfl rfl (.s rfl (.tl .hd) a_93 rfl)<|.m rfl rfl<|.q (.ixa (j:=3) rfl rfl ae_38 (by decide))<|.y rfl rfl rfl (.s rfl .hd a_3 rfl) ?_
  obtain ⟨q7,hq7,hF⟩:=bS hF
  refine .callV .no rfl rfl rfl rfl rfl (Qbd (p0.ln 3) (p2 3) _ _ (hlq0 3 (by decide)) _ hq7)<|.b rfl rfl rfl rfl<|.z rfl rfl<|.nil<|bq_n<|sq_n<|.region rfl<|.m rfl rfl<|.q (.addL (c:=4) rfl rfl rfl (by decide))<|.z rfl rfl<|.nil<|sq_n<|.unroll<|.seq<|.seq<|.region rfl<|.m rfl rfl<|.b rfl rfl rfl rfl<|.nil<|sq_n<|.condT rfl (by decide)<|.skip<|sq_n<|.seq<|.block<|.draw (tb:=[r0 0 0,r0 0 0,r0 0 0,r0 0 0,r0 10 0,r0 30 0,r0 62 0,r0 0 0,r0 128 0,r0 384 0,r1 1022 0,r1 2047 1,r1 4095 1]) rfl (by kernel_rfl) (by kernel_rfl) ?_
  refine .m rfl rfl<|.m rfl rfl<|.m rfl rfl<|.q (.fa rfl Qaj)<|.q (.ixae (q:=0) rfl rfl e3_0 ae_95 (by decide))<|.q (.ixa (j:=4) rfl rfl ae_94 (by decide))<|.y rfl rfl rfl (.s rfl (.tl .hd) a_93 rfl)<|.m rfl rfl<|.q (.ixa (j:=4) rfl rfl ae_38 (by decide))<|.y rfl rfl rfl (.s rfl .hd a_3 rfl) ?_
  obtain ⟨q8,hq8,hF⟩:=bS hF
  refine .callV .no rfl rfl rfl rfl rfl (Qbd (p0.ln 4) (p2 4) _ _ (hlq0 4 (by decide)) _ hq8)<|.b rfl rfl rfl rfl<|.z rfl rfl<|.nil<|bq_n<|sq_n<|.region rfl<|.m rfl rfl<|.q (.addL (c:=5) rfl rfl rfl (by decide))<|.z rfl rfl<|.nil<|sq_n<|.unroll<|.seq<|.seq<|.region rfl<|.m rfl rfl<|.b rfl rfl rfl rfl<|.nil<|sq_n<|.condF rfl (by decide)<|.exit<|sq_e<|sq_e<|bq_x rfl<|sq_n<|.seq<|.region rfl<|.m rfl rfl ?_
  obtain ⟨q9,hq9,hF⟩:=bS hF
  refine .callV .no rfl rfl rfl (F_r04_Down_ok (wr ((wr ((wr ((wr ((wr ((0:Int)+q4))+q5))+q6))+q7))+q8)) 1000 _ _ hq9)<|.z rfl rfl<|.nil<|sq_n<|.ret ?_
  obtain rfl:=sI hF
  refine Qaa (Le.refl _) (.tmp rfl .nil) rfl ?_
  rfl
 have hF:=cF (decide_eq_false e3_0) hF
 by_cases e3_1:(p1:Int)=1
 ·have hF:=cT (decide_eq_true e3_1) hF
  refine .q (.ixae (q:=1) rfl rfl e3_1 ae_95 (by decide))<|.q (.ixa (j:=0) rfl rfl ae_94 (by decide))<|.y rfl rfl rfl (.s rfl (.tl .hd) a_93 rfl)<|.m rfl rfl<|.q (.ixa (j:=0) rfl rfl ae_38 (by decide))<|.y rfl rfl rfl (.s rfl .hd a_3 rfl) ?_
  obtain ⟨q10,hq10,hF⟩:=bS hF
  refine .callV .no rfl rfl rfl rfl rfl (Qbd (p0.ln 5) (p2 0) _ _ (hlq0 5 (by decide)) _ hq10)<|.b rfl rfl rfl rfl<|.z rfl rfl<|.nil<|bq_n<|sq_n<|.region rfl<|.m rfl rfl<|.q (.addL (c:=1) rfl rfl rfl (by decide))<|.z rfl rfl<|.nil<|sq_n<|.unroll<|.seq<|.seq<|.region rfl<|.m rfl rfl<|.b rfl rfl rfl rfl<|.nil<|sq_n<|.condT rfl (by decide)<|.skip<|sq_n<|.seq<|.block<|.draw (tb:=[r0 0 0,r0 0 0,r0 0 0,r0 0 0,r0 10 0,r0 30 0,r0 62 0,r0 0 0,r0 128 0,r0 384 0,r1 1022 0,r1 2047 1,r1 4095 1]) rfl (by kernel_rfl) (by kernel_rfl) ?_
  refine .m rfl rfl<|.m rfl rfl<|.m rfl rfl<|.q (.fa rfl Qaj)<|.q (.ixae (q:=1) rfl rfl e3_1 ae_95 (by decide))<|.q (.ixa (j:=1) rfl rfl ae_94 (by decide))<|.y rfl rfl rfl (.s rfl (.tl .hd) a_93 rfl)<|.m rfl rfl<|.q (.ixa (j:=1) rfl rfl ae_38 (by decide))<|.y rfl rfl rfl (.s rfl .hd a_3 rfl) ?_
  obtain ⟨q11,hq11,hF⟩:=bS hF
  refine .callV .no rfl rfl rfl rfl rfl (Qbd (p0.ln 6) (p2 1) _ _ (hlq0 6 (by decide)) _ hq11)<|.b rfl rfl rfl rfl<|.z rfl rfl<|.nil<|bq_n<|sq_n<|.region rfl<|.m rfl rfl<|.q (.addL (c:=2) rfl rfl rfl (by decide))<|.z rfl rfl<|.nil<|sq_n<|.unroll<|.seq<|.seq<|.region rfl<|.m rfl rfl<|.b rfl rfl rfl rfl<|.nil<|sq_n<|.condT rfl (by decide)<|.skip<|sq_n<|.seq<|.block<|.draw (tb:=[r0 0 0,r0 0 0,r0 0 0,r0 0 0,r0 10 0,r0 30 0,r0 62 0,r0 0 0,r0 128 0,r0 384 0,r1 1022 0,r1 2047 1,r1 4095 1]) rfl (by kernel_rfl) (by kernel_rfl) ?_
  refine .m rfl rfl<|.m rfl rfl<|.m rfl rfl<|.q (.fa rfl Qaj)<|.q (.ixae (q:=1) rfl rfl e3_1 ae_95 (by decide))<|.q (.ixa (j:=2) rfl rfl ae_94 (by decide))<|.y rfl rfl rfl (.s rfl (.tl .hd) a_93 rfl)<|.m rfl rfl<|.q (.ixa (j:=2) rfl rfl ae_38 (by decide))<|.y rfl rfl rfl (.s rfl .hd a_3 rfl) ?_
  obtain ⟨q12,hq12,hF⟩:=bS hF
  refine .callV .no rfl rfl rfl rfl rfl (Qbd (p0.ln 7) (p2 2) _ _ (hlq0 7 (by decide)) _ hq12)<|.b rfl rfl rfl rfl<|.z rfl rfl<|.nil<|bq_n<|sq_n<|.region rfl<|.m rfl rfl<|.q (.addL (c:=3) rfl rfl rfl (by decide))<|.z rfl rfl<|.nil<|sq_n<|.unroll<|.seq<|.seq<|.region rfl<|.m rfl rfl<|.b rfl rfl rfl rfl<|.nil<|sq_n<|.condT rfl (by decide)<|.skip<|sq_n<|.seq<|.block<|.draw (tb:=[r0 0 0,r0 0 0,r0 0 0,r0 0 0,r0 10 0,r0 30 0,r0 62 0,r0 0 0,r0 128 0,r0 384 0,r1 1022 0,r1 2047 1,r1 4095 1]) rfl (by kernel_rfl) (by kernel_rfl) ?_
  refine .m rfl rfl<|.m rfl rfl<|.m rfl rfl<|.q (.fa rfl Qaj)<|.q (.ixae (q:=1) rfl rfl e3_1 ae_95 (by decide))<|.q (.ixa (j:=3) rfl rfl ae_94 (by decide))<|.y rfl rfl rfl (.s rfl (.tl .hd) a_93 rfl)<|.m rfl rfl<|.q (.ixa (j:=3) rfl rfl ae_38 (by decide))<|.y rfl rfl rfl (.s rfl .hd a_3 rfl) ?_
  obtain ⟨q13,hq13,hF⟩:=bS hF
  refine .callV .no rfl rfl rfl rfl rfl (Qbd (p0.ln 8) (p2 3) _ _ (hlq0 8 (by decide)) _ hq13)<|.b rfl rfl rfl rfl<|.z rfl rfl<|.nil<|bq_n<|sq_n<|.region rfl<|.m rfl rfl<|.q (.addL (c:=4) rfl rfl rfl (by decide))<|.z rfl rfl<|.nil<|sq_n<|.unroll<|.seq<|.seq<|.region rfl<|.m rfl rfl<|.b rfl rfl rfl rfl<|.nil<|sq_n<|.condT rfl (by decide)<|.skip<|sq_n<|.seq<|.block<|.draw (tb:=[r0 0 0,r0 0 0,r0 0 0,r0 0 0,r0 10 0,r0 30 0,r0 62 0,r0 0 0,r0 128 0,r0 384 0,r1 1022 0,r1 2047 1,r1 4095 1]) rfl (by kernel_rfl) (by kernel_rfl) ?_
  refine .m rfl rfl<|.m rfl rfl<|.m rfl rfl<|.q (.fa rfl Qaj)<|.q (.ixae (q:=1) rfl rfl e3_1 ae_95 (by decide))<|.q (.ixa (j:=4) rfl rfl ae_94 (by decide))<|.y rfl rfl rfl (.s rfl (.tl .hd) a_93 rfl)<|.m rfl rfl<|.q (.ixa (j:=4) rfl rfl ae_38 (by decide))<|.y rfl rfl rfl (.s rfl .hd a_3 rfl) ?_
  obtain ⟨q14,hq14,hF⟩:=bS hF
  refine .callV .no rfl rfl rfl rfl rfl (Qbd (p0.ln 9) (p2 4) _ _ (hlq0 9 (by decide)) _ hq14)<|.b rfl rfl rfl rfl<|.z rfl rfl<|.nil<|bq_n<|sq_n<|.region rfl<|.m rfl rfl<|.q (.addL (c:=5) rfl rfl rfl (by decide))<|.z rfl rfl<|.nil<|sq_n<|.unroll<|.seq<|.seq<|.region rfl<|.m rfl rfl<|.b rfl rfl rfl rfl<|.nil<|sq_n<|.condF rfl (by decide)<|.exit<|sq_e<|sq_e<|bq_x rfl<|sq_n<|.seq<|.region rfl<|.m rfl rfl ?_
  obtain ⟨q15,hq15,hF⟩:=bS hF
  refine .callV .no rfl rfl rfl (F_r04_Down_ok (wr ((wr ((wr ((wr ((wr ((0:Int)+q10))+q11))+q12))+q13))+q14)) 1000 _ _ hq15)<|.z rfl rfl<|.nil<|sq_n<|.ret ?_
  obtain rfl:=sI hF
  refine Qaa (Le.refl _) (.tmp rfl .nil) rfl ?_
  rfl
 have hF:=cF (decide_eq_false e3_1) hF
 cases hF
def Qeo (p0:T_Plan):Option ((Nat→(Int × Int))):=some (arr [(p0.Shares 0).Litres,(p0.Shares 1).Litres,(p0.Shares 2).Litres,(p0.Shares 3).Litres,(p0.Shares 4).Litres] (p0.Shares 0).Litres)
set_option maxHeartbeats 1000000 in
theorem F_r04_litres_ok (p0:T_Plan) (cs0:List V) (g:G) (h0:R_Plan g cs0 p0) (r:(Nat→(Int × Int))) (hF:Qeo p0=some r):Fv Tryz.prog natS (.f 81 [] []) [.agg cs0] g (.agg [.i .i64 ((r 0).1),.i .i64 ((r 0).2),.i .i64 ((r 1).1),.i .i64 ((r 1).2),.i .i64 ((r 2).1),.i .i64 ((r 2).2),.i .i64 ((r 3).1),.i .i64 ((r 3).2),.i .i64 ((r 4).1),.i .i64 ((r 4).2)]):=by
 refine Fw.fv ?_
 unfold Qeo at hF
 obtain ⟨v2_q0,v6_q0,v10_q0,v14_q0,v18_q0,v21_q0,rfl,h2_q0,h6_q0,h10_q0,h14_q0,h18_q0,h21_q0⟩:=h0
 refine Fw.enter (N:=17) (al:=[(0,_)]) Tryz.func81 (by kernel_rfl) (by kernel_rfl) rfl rfl rfl rfl ?_
 intro B
 refine .seq<|.region rfl<|.box .no rfl rfl rfl rfl fun b1=>.alloc .no rfl z_109 fun b2=>.nil<|sq_n<|.seq<|.region rfl<|.alloc .no rfl z_109 fun b3=>.nil<|sq_n<|.seq<|.seq<|.region rfl<|.z rfl rfl<|.nil<|sq_n<|.block<|.unroll<|.seq<|.seq<|.region rfl<|.m rfl rfl<|.b rfl rfl rfl rfl<|.nil<|sq_n<|.condT rfl (by decide)<|.skip<|sq_n<|.seq<|.block<|.region rfl<|.m rfl rfl<|.m rfl rfl<|.q (.fa rfl Qar) ?_
 refine .q (.ixa (j:=0) rfl rfl ae_83 (by decide))<|.q (.fa rfl Qag)<|.w (.a (vs:=[_,_]) rfl (.tl (.tl .hd)) a_27 s_27 rfl rfl)<|.q (.ixa (j:=0) rfl rfl Qbp (by decide))<|.st (cs':=[_,_,_,_,_,_,_,_,_,_]) .no rfl rfl rfl rfl s_27 rfl rfl .hd rfl rfl<|.nil<|bq_n<|sq_n<|.region rfl<|.m rfl rfl<|.q (.addL (c:=1) rfl rfl rfl (by decide))<|.z rfl rfl<|.nil<|sq_n<|.unroll<|.seq<|.seq<|.region rfl<|.m rfl rfl<|.b rfl rfl rfl rfl<|.nil<|sq_n<|.condT rfl (by decide)<|.skip<|sq_n<|.seq<|.block<|.region rfl<|.m rfl rfl<|.m rfl rfl<|.q (.fa rfl Qar)<|.q (.ixa (j:=1) rfl rfl ae_83 (by decide))<|.q (.fa rfl Qag)<|.w (.a (vs:=[_,_]) rfl (.tl (.tl .hd)) a_27 s_27 rfl rfl)<|.q (.ixa (j:=1) rfl rfl Qbp (by decide)) ?_
 refine .st (cs':=[_,_,_,_,_,_,_,_,_,_]) .no rfl rfl rfl rfl s_27 rfl rfl .hd rfl rfl<|.nil<|bq_n<|sq_n<|.region rfl<|.m rfl rfl<|.q (.addL (c:=2) rfl rfl rfl (by decide))<|.z rfl rfl<|.nil<|sq_n<|.unroll<|.seq<|.seq<|.region rfl<|.m rfl rfl<|.b rfl rfl rfl rfl<|.nil<|sq_n<|.condT rfl (by decide)<|.skip<|sq_n<|.seq<|.block<|.region rfl<|.m rfl rfl<|.m rfl rfl<|.q (.fa rfl Qar)<|.q (.ixa (j:=2) rfl rfl ae_83 (by decide))<|.q (.fa rfl Qag)<|.w (.a (vs:=[_,_]) rfl (.tl (.tl .hd)) a_27 s_27 rfl rfl)<|.q (.ixa (j:=2) rfl rfl Qbp (by decide))<|.st (cs':=[_,_,_,_,_,_,_,_,_,_]) .no rfl rfl rfl rfl s_27 rfl rfl .hd rfl rfl<|.nil<|bq_n<|sq_n<|.region rfl<|.m rfl rfl ?_
 refine .q (.addL (c:=3) rfl rfl rfl (by decide))<|.z rfl rfl<|.nil<|sq_n<|.unroll<|.seq<|.seq<|.region rfl<|.m rfl rfl<|.b rfl rfl rfl rfl<|.nil<|sq_n<|.condT rfl (by decide)<|.skip<|sq_n<|.seq<|.block<|.region rfl<|.m rfl rfl<|.m rfl rfl<|.q (.fa rfl Qar)<|.q (.ixa (j:=3) rfl rfl ae_83 (by decide))<|.q (.fa rfl Qag)<|.w (.a (vs:=[_,_]) rfl (.tl (.tl .hd)) a_27 s_27 rfl rfl)<|.q (.ixa (j:=3) rfl rfl Qbp (by decide))<|.st (cs':=[_,_,_,_,_,_,_,_,_,_]) .no rfl rfl rfl rfl s_27 rfl rfl .hd rfl rfl<|.nil<|bq_n<|sq_n<|.region rfl<|.m rfl rfl<|.q (.addL (c:=4) rfl rfl rfl (by decide))<|.z rfl rfl<|.nil<|sq_n<|.unroll ?_
 refine .seq<|.seq<|.region rfl<|.m rfl rfl<|.b rfl rfl rfl rfl<|.nil<|sq_n<|.condT rfl (by decide)<|.skip<|sq_n<|.seq<|.block<|.region rfl<|.m rfl rfl<|.m rfl rfl<|.q (.fa rfl Qar)<|.q (.ixa (j:=4) rfl rfl ae_83 (by decide))<|.q (.fa rfl Qag)<|.w (.a (vs:=[_,_]) rfl (.tl (.tl .hd)) a_27 s_27 rfl rfl)<|.q (.ixa (j:=4) rfl rfl Qbp (by decide))<|.st (cs':=[_,_,_,_,_,_,_,_,_,_]) .no rfl rfl rfl rfl s_27 rfl rfl .hd rfl rfl<|.nil<|bq_n<|sq_n<|.region rfl<|.m rfl rfl<|.q (.addL (c:=5) rfl rfl rfl (by decide))<|.z rfl rfl<|.nil<|sq_n<|.unroll<|.seq<|.seq<|.region rfl<|.m rfl rfl ?_
 refine .b rfl rfl rfl rfl<|.nil<|sq_n<|.condF rfl (by decide)<|.exit<|sq_e<|sq_e<|bq_x rfl<|sq_n<|.seq<|.region rfl<|.w (.a (vs:=[_,_,_,_,_,_,_,_,_,_]) rfl .hd a_109 s_109 rfl rfl)<|.st (cs':=[_,_,_,_,_,_,_,_,_,_]) .no rfl rfl rfl rfl s_109 rfl rfl (.tl .hd) rfl rfl<|.nil<|sq_n<|.ret ?_
 obtain rfl:=sI hF
 refine Qaa (Le.refl _) (.cell (.a (vs:=[_,_,_,_,_,_,_,_,_,_]) rfl (.tl .hd) a_109 s_109 rfl rfl) .nil) rfl ?_
 rfl
def Qer (p0:Version) (p1:Int) (p2:(Nat→(Int × Int))) (p3:Bool):Option (T_End):=(cond (decide (p1=0)) (((Qas (p0.ln 0) (p2 0) p3).bind fun q6=>((Qas (p0.ln 1) (p2 1) p3).bind fun q7=>((Qas (p0.ln 2) (p2 2) p3).bind fun q8=>((Qas (p0.ln 3) (p2 3) p3).bind fun q9=>((Qas (p0.ln 4) (p2 4) p3).bind fun q10=>((Qdc p0 p1 (arr [q6,q7,q8,q9,q10] q6)).bind fun q11=>some (T_End.mk q11 (arr [q6,q7,q8,q9,q10] q6))))))))) ((cond (decide (p1=1)) (((Qas (p0.ln 5) (p2 0) p3).bind fun q12=>((Qas (p0.ln 6) (p2 1) p3).bind fun q13=>((Qas (p0.ln 7) (p2 2) p3).bind fun q14=>((Qas (p0.ln 8) (p2 3) p3).bind fun q15=>((Qas (p0.ln 9) (p2 4) p3).bind fun q16=>((Qdc p0 p1 (arr [q12,q13,q14,q15,q16] q12)).bind fun q17=>some (T_End.mk q17 (arr [q12,q13,q14,q15,q16] q12))))))))) (none))))
set_option maxHeartbeats 1000000 in
theorem F_r04_end_ok (p0:Version) (p1:Int) (p2:(Nat→(Int × Int))) (p3:Bool) (cs0:List V) (g:G) (h0:VersionR g cs0 p0) (r:T_End) (hF:Qer p0 p1 p2 p3=some r):Fv Tryz.prog natS (.f 83 [] []) [.agg cs0,.i .i64 p1,.agg [.i .i64 ((p2 0).1),.i .i64 ((p2 0).2),.i .i64 ((p2 1).1),.i .i64 ((p2 1).2),.i .i64 ((p2 2).1),.i .i64 ((p2 2).2),.i .i64 ((p2 3).1),.i .i64 ((p2 3).2),.i .i64 ((p2 4).1),.i .i64 ((p2 4).2)],.b p3] g (.agg [.i .i64 r.Tonnage,.i .i64 (r.Litres 0),.i .i64 (r.Litres 1),.i .i64 (r.Litres 2),.i .i64 (r.Litres 3),.i .i64 (r.Litres 4)]):=by
 refine Fw.fv ?_
 unfold Qer at hF
 obtain ⟨pq0,lvq0,rfl,hpq0,hlq0⟩:=h0
 refine Fw.enter (N:=36) (al:=[(3,_),(2,_),(1,_),(0,_)]) Tryz.func83 (by kernel_rfl) (by kernel_rfl) rfl rfl rfl rfl ?_
 intro B
 refine .seq<|.region rfl<|.box .no rfl rfl rfl rfl fun b1=>.box .no rfl rfl rfl rfl fun b2=>.alloc .no rfl z_40 fun b3=>.nil<|sq_n<|.seq<|.region rfl<|.alloc .no rfl z_40 fun b4=>.nil<|sq_n<|.seq<|.seq<|.region rfl<|.z rfl rfl<|.nil<|sq_n<|.block<|.unroll<|.seq<|.seq<|.region rfl<|.m rfl rfl<|.b rfl rfl rfl rfl<|.nil<|sq_n<|.condT rfl (by decide)<|.skip<|sq_n<|.seq<|.block<|.draw (tb:=[r0 0 0,r0 0 0,r0 0 0,r0 0 0,r0 10 0,r0 30 0,r0 62 0,r0 0 0,r0 128 0,r0 384 0,r0 0 0,r1 2046 0,r0 0 0,r1 8191 1,r1 16383 1]) rfl (by kernel_rfl) (by kernel_rfl) ?_
 refine .m rfl rfl<|.m rfl rfl<|.m rfl rfl<|.q (.fa rfl Qaj) ?_
 by_cases e5_0:(p1:Int)=0
 ·have hF:=cT (decide_eq_true e5_0) hF
  refine .q (.ixae (q:=0) rfl rfl e5_0 ae_95 (by decide))<|.q (.ixa (j:=0) rfl rfl ae_94 (by decide))<|.y rfl rfl rfl (.s rfl (.tl (.tl (.tl .hd))) a_93 rfl)<|.m rfl rfl<|.q (.ixa (j:=0) rfl rfl Qbp (by decide))<|.y rfl rfl rfl (.a (vs:=[_,_]) rfl (.tl (.tl .hd)) a_27 s_27 rfl rfl)<|.m rfl rfl ?_
  obtain ⟨q6,hq6,hF⟩:=bS hF
  refine .callV .no rfl rfl rfl rfl rfl (Qbb (p0.ln 0) (p2 0) p3 _ _ (hlq0 0 (by decide)) _ hq6)<|.q (.fa rfl Qbx)<|.q (.ixa (j:=0) rfl rfl ae_38 (by decide))<|.st (cs':=[_,_,_,_,_,_]) .no rfl rfl rfl rfl rfl rfl s_3 rfl rfl .hd rfl rfl (.all (Qab rfl (Qab rfl rfl)))<|.nil<|bq_n<|sq_n<|.region rfl<|.m rfl rfl<|.q (.addL (c:=1) rfl rfl rfl (by decide))<|.z rfl rfl<|.nil<|sq_n<|.unroll<|.seq<|.seq<|.region rfl<|.m rfl rfl<|.b rfl rfl rfl rfl<|.nil<|sq_n<|.condT rfl (by decide)<|.skip<|sq_n<|.seq<|.block<|.draw (tb:=[r0 0 0,r0 0 0,r0 0 0,r0 0 0,r0 10 0,r0 30 0,r0 62 0,r0 0 0,r0 128 0,r0 384 0,r0 0 0,r1 2046 0,r0 0 0,r1 8191 1,r1 16383 1]) rfl (by kernel_rfl) (by kernel_rfl) ?_
  refine .m rfl rfl<|.m rfl rfl<|.m rfl rfl<|.q (.fa rfl Qaj)<|.q (.ixae (q:=0) rfl rfl e5_0 ae_95 (by decide))<|.q (.ixa (j:=1) rfl rfl ae_94 (by decide))<|.y rfl rfl rfl (.s rfl (.tl (.tl (.tl .hd))) a_93 rfl)<|.m rfl rfl<|.q (.ixa (j:=1) rfl rfl Qbp (by decide))<|.y rfl rfl rfl (.a (vs:=[_,_]) rfl (.tl (.tl .hd)) a_27 s_27 rfl rfl)<|.m rfl rfl ?_
  obtain ⟨q7,hq7,hF⟩:=bS hF
  refine .callV .no rfl rfl rfl rfl rfl (Qbb (p0.ln 1) (p2 1) p3 _ _ (hlq0 1 (by decide)) _ hq7)<|.q (.fa rfl Qbx)<|.q (.ixa (j:=1) rfl rfl ae_38 (by decide))<|.st (cs':=[_,_,_,_,_,_]) .no rfl rfl rfl rfl rfl rfl s_3 rfl rfl .hd rfl rfl (.all (Qab rfl (Qab rfl rfl)))<|.nil<|bq_n<|sq_n<|.region rfl<|.m rfl rfl<|.q (.addL (c:=2) rfl rfl rfl (by decide))<|.z rfl rfl<|.nil<|sq_n<|.unroll<|.seq<|.seq<|.region rfl<|.m rfl rfl<|.b rfl rfl rfl rfl<|.nil<|sq_n<|.condT rfl (by decide)<|.skip<|sq_n<|.seq<|.block<|.draw (tb:=[r0 0 0,r0 0 0,r0 0 0,r0 0 0,r0 10 0,r0 30 0,r0 62 0,r0 0 0,r0 128 0,r0 384 0,r0 0 0,r1 2046 0,r0 0 0,r1 8191 1,r1 16383 1]) rfl (by kernel_rfl) (by kernel_rfl) ?_
  refine .m rfl rfl<|.m rfl rfl<|.m rfl rfl<|.q (.fa rfl Qaj)<|.q (.ixae (q:=0) rfl rfl e5_0 ae_95 (by decide))<|.q (.ixa (j:=2) rfl rfl ae_94 (by decide))<|.y rfl rfl rfl (.s rfl (.tl (.tl (.tl .hd))) a_93 rfl)<|.m rfl rfl<|.q (.ixa (j:=2) rfl rfl Qbp (by decide))<|.y rfl rfl rfl (.a (vs:=[_,_]) rfl (.tl (.tl .hd)) a_27 s_27 rfl rfl)<|.m rfl rfl ?_
  obtain ⟨q8,hq8,hF⟩:=bS hF
  refine .callV .no rfl rfl rfl rfl rfl (Qbb (p0.ln 2) (p2 2) p3 _ _ (hlq0 2 (by decide)) _ hq8)<|.q (.fa rfl Qbx)<|.q (.ixa (j:=2) rfl rfl ae_38 (by decide))<|.st (cs':=[_,_,_,_,_,_]) .no rfl rfl rfl rfl rfl rfl s_3 rfl rfl .hd rfl rfl (.all (Qab rfl (Qab rfl rfl)))<|.nil<|bq_n<|sq_n<|.region rfl<|.m rfl rfl<|.q (.addL (c:=3) rfl rfl rfl (by decide))<|.z rfl rfl<|.nil<|sq_n<|.unroll<|.seq<|.seq<|.region rfl<|.m rfl rfl<|.b rfl rfl rfl rfl<|.nil<|sq_n<|.condT rfl (by decide)<|.skip<|sq_n<|.seq<|.block<|.draw (tb:=[r0 0 0,r0 0 0,r0 0 0,r0 0 0,r0 10 0,r0 30 0,r0 62 0,r0 0 0,r0 128 0,r0 384 0,r0 0 0,r1 2046 0,r0 0 0,r1 8191 1,r1 16383 1]) rfl (by kernel_rfl) (by kernel_rfl) ?_
  refine .m rfl rfl<|.m rfl rfl<|.m rfl rfl<|.q (.fa rfl Qaj)<|.q (.ixae (q:=0) rfl rfl e5_0 ae_95 (by decide))<|.q (.ixa (j:=3) rfl rfl ae_94 (by decide))<|.y rfl rfl rfl (.s rfl (.tl (.tl (.tl .hd))) a_93 rfl)<|.m rfl rfl<|.q (.ixa (j:=3) rfl rfl Qbp (by decide))<|.y rfl rfl rfl (.a (vs:=[_,_]) rfl (.tl (.tl .hd)) a_27 s_27 rfl rfl)<|.m rfl rfl ?_
  obtain ⟨q9,hq9,hF⟩:=bS hF
  refine .callV .no rfl rfl rfl rfl rfl (Qbb (p0.ln 3) (p2 3) p3 _ _ (hlq0 3 (by decide)) _ hq9)<|.q (.fa rfl Qbx)<|.q (.ixa (j:=3) rfl rfl ae_38 (by decide))<|.st (cs':=[_,_,_,_,_,_]) .no rfl rfl rfl rfl rfl rfl s_3 rfl rfl .hd rfl rfl (.all (Qab rfl (Qab rfl rfl)))<|.nil<|bq_n<|sq_n<|.region rfl<|.m rfl rfl<|.q (.addL (c:=4) rfl rfl rfl (by decide))<|.z rfl rfl<|.nil<|sq_n<|.unroll<|.seq<|.seq<|.region rfl<|.m rfl rfl<|.b rfl rfl rfl rfl<|.nil<|sq_n<|.condT rfl (by decide)<|.skip<|sq_n<|.seq<|.block<|.draw (tb:=[r0 0 0,r0 0 0,r0 0 0,r0 0 0,r0 10 0,r0 30 0,r0 62 0,r0 0 0,r0 128 0,r0 384 0,r0 0 0,r1 2046 0,r0 0 0,r1 8191 1,r1 16383 1]) rfl (by kernel_rfl) (by kernel_rfl) ?_
  refine .m rfl rfl<|.m rfl rfl<|.m rfl rfl<|.q (.fa rfl Qaj)<|.q (.ixae (q:=0) rfl rfl e5_0 ae_95 (by decide))<|.q (.ixa (j:=4) rfl rfl ae_94 (by decide))<|.y rfl rfl rfl (.s rfl (.tl (.tl (.tl .hd))) a_93 rfl)<|.m rfl rfl<|.q (.ixa (j:=4) rfl rfl Qbp (by decide))<|.y rfl rfl rfl (.a (vs:=[_,_]) rfl (.tl (.tl .hd)) a_27 s_27 rfl rfl)<|.m rfl rfl ?_
  obtain ⟨q10,hq10,hF⟩:=bS hF
  refine .callV .no rfl rfl rfl rfl rfl (Qbb (p0.ln 4) (p2 4) p3 _ _ (hlq0 4 (by decide)) _ hq10)<|.q (.fa rfl Qbx)<|.q (.ixa (j:=4) rfl rfl ae_38 (by decide))<|.st (cs':=[_,_,_,_,_,_]) .no rfl rfl rfl rfl rfl rfl s_3 rfl rfl .hd rfl rfl (.all (Qab rfl (Qab rfl rfl)))<|.nil<|bq_n<|sq_n<|.region rfl<|.m rfl rfl<|.q (.addL (c:=5) rfl rfl rfl (by decide))<|.z rfl rfl<|.nil<|sq_n<|.unroll<|.seq<|.seq<|.region rfl<|.m rfl rfl<|.b rfl rfl rfl rfl<|.nil<|sq_n<|.condF rfl (by decide)<|.exit<|sq_e<|sq_e<|bq_x rfl<|sq_n<|.seq<|.region rfl<|.w (.a (vs:=[_,_,_,_,_,_,_,_,_,_,_,_]) rfl (.tl (.tl (.tl .hd))) a_97 s_97 rfl rfl)<|.m rfl rfl<|.q (.fa rfl Qbx)<|.w (.a (vs:=[_,_,_,_,_]) rfl .hd a_38 s_38 rfl rfl) ?_
  obtain ⟨q11,hq11,hF⟩:=bS hF
  refine .callV .no rfl rfl rfl (F_r04_tonnage_ok p0 p1 (arr [q6,q7,q8,q9,q10] q6) _ _ ⟨_,_,rfl,hpq0,hlq0⟩ _ hq11)<|.q (.fa rfl f_40_0)<|.st (cs':=[_,_,_,_,_,_]) .no rfl rfl rfl rfl s_3 rfl rfl .hd rfl rfl<|.nil<|sq_n<|.seq<|.region rfl<|.w (.a (vs:=[_,_,_,_,_,_]) rfl .hd a_40 s_40 rfl rfl)<|.st (cs':=[_,_,_,_,_,_]) .no rfl rfl rfl rfl s_40 rfl rfl (.tl .hd) rfl rfl<|.nil<|sq_n<|.ret ?_
  obtain rfl:=sI hF
  refine Qaa (Le.refl _) (.cell (.a (vs:=[_,_,_,_,_,_]) rfl (.tl .hd) a_40 s_40 rfl rfl) .nil) rfl ?_
  rfl
 have hF:=cF (decide_eq_false e5_0) hF
 by_cases e5_1:(p1:Int)=1
 ·have hF:=cT (decide_eq_true e5_1) hF
  refine .q (.ixae (q:=1) rfl rfl e5_1 ae_95 (by decide))<|.q (.ixa (j:=0) rfl rfl ae_94 (by decide))<|.y rfl rfl rfl (.s rfl (.tl (.tl (.tl .hd))) a_93 rfl)<|.m rfl rfl<|.q (.ixa (j:=0) rfl rfl Qbp (by decide))<|.y rfl rfl rfl (.a (vs:=[_,_]) rfl (.tl (.tl .hd)) a_27 s_27 rfl rfl)<|.m rfl rfl ?_
  obtain ⟨q12,hq12,hF⟩:=bS hF
  refine .callV .no rfl rfl rfl rfl rfl (Qbb (p0.ln 5) (p2 0) p3 _ _ (hlq0 5 (by decide)) _ hq12)<|.q (.fa rfl Qbx)<|.q (.ixa (j:=0) rfl rfl ae_38 (by decide))<|.st (cs':=[_,_,_,_,_,_]) .no rfl rfl rfl rfl rfl rfl s_3 rfl rfl .hd rfl rfl (.all (Qab rfl (Qab rfl rfl)))<|.nil<|bq_n<|sq_n<|.region rfl<|.m rfl rfl<|.q (.addL (c:=1) rfl rfl rfl (by decide))<|.z rfl rfl<|.nil<|sq_n<|.unroll<|.seq<|.seq<|.region rfl<|.m rfl rfl<|.b rfl rfl rfl rfl<|.nil<|sq_n<|.condT rfl (by decide)<|.skip<|sq_n<|.seq<|.block<|.draw (tb:=[r0 0 0,r0 0 0,r0 0 0,r0 0 0,r0 10 0,r0 30 0,r0 62 0,r0 0 0,r0 128 0,r0 384 0,r0 0 0,r1 2046 0,r0 0 0,r1 8191 1,r1 16383 1]) rfl (by kernel_rfl) (by kernel_rfl) ?_
  refine .m rfl rfl<|.m rfl rfl<|.m rfl rfl<|.q (.fa rfl Qaj)<|.q (.ixae (q:=1) rfl rfl e5_1 ae_95 (by decide))<|.q (.ixa (j:=1) rfl rfl ae_94 (by decide))<|.y rfl rfl rfl (.s rfl (.tl (.tl (.tl .hd))) a_93 rfl)<|.m rfl rfl<|.q (.ixa (j:=1) rfl rfl Qbp (by decide))<|.y rfl rfl rfl (.a (vs:=[_,_]) rfl (.tl (.tl .hd)) a_27 s_27 rfl rfl)<|.m rfl rfl ?_
  obtain ⟨q13,hq13,hF⟩:=bS hF
  refine .callV .no rfl rfl rfl rfl rfl (Qbb (p0.ln 6) (p2 1) p3 _ _ (hlq0 6 (by decide)) _ hq13)<|.q (.fa rfl Qbx)<|.q (.ixa (j:=1) rfl rfl ae_38 (by decide))<|.st (cs':=[_,_,_,_,_,_]) .no rfl rfl rfl rfl rfl rfl s_3 rfl rfl .hd rfl rfl (.all (Qab rfl (Qab rfl rfl)))<|.nil<|bq_n<|sq_n<|.region rfl<|.m rfl rfl<|.q (.addL (c:=2) rfl rfl rfl (by decide))<|.z rfl rfl<|.nil<|sq_n<|.unroll<|.seq<|.seq<|.region rfl<|.m rfl rfl<|.b rfl rfl rfl rfl<|.nil<|sq_n<|.condT rfl (by decide)<|.skip<|sq_n<|.seq<|.block<|.draw (tb:=[r0 0 0,r0 0 0,r0 0 0,r0 0 0,r0 10 0,r0 30 0,r0 62 0,r0 0 0,r0 128 0,r0 384 0,r0 0 0,r1 2046 0,r0 0 0,r1 8191 1,r1 16383 1]) rfl (by kernel_rfl) (by kernel_rfl) ?_
  refine .m rfl rfl<|.m rfl rfl<|.m rfl rfl<|.q (.fa rfl Qaj)<|.q (.ixae (q:=1) rfl rfl e5_1 ae_95 (by decide))<|.q (.ixa (j:=2) rfl rfl ae_94 (by decide))<|.y rfl rfl rfl (.s rfl (.tl (.tl (.tl .hd))) a_93 rfl)<|.m rfl rfl<|.q (.ixa (j:=2) rfl rfl Qbp (by decide))<|.y rfl rfl rfl (.a (vs:=[_,_]) rfl (.tl (.tl .hd)) a_27 s_27 rfl rfl)<|.m rfl rfl ?_
  obtain ⟨q14,hq14,hF⟩:=bS hF
  refine .callV .no rfl rfl rfl rfl rfl (Qbb (p0.ln 7) (p2 2) p3 _ _ (hlq0 7 (by decide)) _ hq14)<|.q (.fa rfl Qbx)<|.q (.ixa (j:=2) rfl rfl ae_38 (by decide))<|.st (cs':=[_,_,_,_,_,_]) .no rfl rfl rfl rfl rfl rfl s_3 rfl rfl .hd rfl rfl (.all (Qab rfl (Qab rfl rfl)))<|.nil<|bq_n<|sq_n<|.region rfl<|.m rfl rfl<|.q (.addL (c:=3) rfl rfl rfl (by decide))<|.z rfl rfl<|.nil<|sq_n<|.unroll<|.seq<|.seq<|.region rfl<|.m rfl rfl<|.b rfl rfl rfl rfl<|.nil<|sq_n<|.condT rfl (by decide)<|.skip<|sq_n<|.seq<|.block<|.draw (tb:=[r0 0 0,r0 0 0,r0 0 0,r0 0 0,r0 10 0,r0 30 0,r0 62 0,r0 0 0,r0 128 0,r0 384 0,r0 0 0,r1 2046 0,r0 0 0,r1 8191 1,r1 16383 1]) rfl (by kernel_rfl) (by kernel_rfl) ?_
  refine .m rfl rfl<|.m rfl rfl<|.m rfl rfl<|.q (.fa rfl Qaj)<|.q (.ixae (q:=1) rfl rfl e5_1 ae_95 (by decide))<|.q (.ixa (j:=3) rfl rfl ae_94 (by decide))<|.y rfl rfl rfl (.s rfl (.tl (.tl (.tl .hd))) a_93 rfl)<|.m rfl rfl<|.q (.ixa (j:=3) rfl rfl Qbp (by decide))<|.y rfl rfl rfl (.a (vs:=[_,_]) rfl (.tl (.tl .hd)) a_27 s_27 rfl rfl)<|.m rfl rfl ?_
  obtain ⟨q15,hq15,hF⟩:=bS hF
  refine .callV .no rfl rfl rfl rfl rfl (Qbb (p0.ln 8) (p2 3) p3 _ _ (hlq0 8 (by decide)) _ hq15)<|.q (.fa rfl Qbx)<|.q (.ixa (j:=3) rfl rfl ae_38 (by decide))<|.st (cs':=[_,_,_,_,_,_]) .no rfl rfl rfl rfl rfl rfl s_3 rfl rfl .hd rfl rfl (.all (Qab rfl (Qab rfl rfl)))<|.nil<|bq_n<|sq_n<|.region rfl<|.m rfl rfl<|.q (.addL (c:=4) rfl rfl rfl (by decide))<|.z rfl rfl<|.nil<|sq_n<|.unroll<|.seq<|.seq<|.region rfl<|.m rfl rfl<|.b rfl rfl rfl rfl<|.nil<|sq_n<|.condT rfl (by decide)<|.skip<|sq_n<|.seq<|.block<|.draw (tb:=[r0 0 0,r0 0 0,r0 0 0,r0 0 0,r0 10 0,r0 30 0,r0 62 0,r0 0 0,r0 128 0,r0 384 0,r0 0 0,r1 2046 0,r0 0 0,r1 8191 1,r1 16383 1]) rfl (by kernel_rfl) (by kernel_rfl) ?_
  refine .m rfl rfl<|.m rfl rfl<|.m rfl rfl<|.q (.fa rfl Qaj)<|.q (.ixae (q:=1) rfl rfl e5_1 ae_95 (by decide))<|.q (.ixa (j:=4) rfl rfl ae_94 (by decide))<|.y rfl rfl rfl (.s rfl (.tl (.tl (.tl .hd))) a_93 rfl)<|.m rfl rfl<|.q (.ixa (j:=4) rfl rfl Qbp (by decide))<|.y rfl rfl rfl (.a (vs:=[_,_]) rfl (.tl (.tl .hd)) a_27 s_27 rfl rfl)<|.m rfl rfl ?_
  obtain ⟨q16,hq16,hF⟩:=bS hF
  refine .callV .no rfl rfl rfl rfl rfl (Qbb (p0.ln 9) (p2 4) p3 _ _ (hlq0 9 (by decide)) _ hq16)<|.q (.fa rfl Qbx)<|.q (.ixa (j:=4) rfl rfl ae_38 (by decide))<|.st (cs':=[_,_,_,_,_,_]) .no rfl rfl rfl rfl rfl rfl s_3 rfl rfl .hd rfl rfl (.all (Qab rfl (Qab rfl rfl)))<|.nil<|bq_n<|sq_n<|.region rfl<|.m rfl rfl<|.q (.addL (c:=5) rfl rfl rfl (by decide))<|.z rfl rfl<|.nil<|sq_n<|.unroll<|.seq<|.seq<|.region rfl<|.m rfl rfl<|.b rfl rfl rfl rfl<|.nil<|sq_n<|.condF rfl (by decide)<|.exit<|sq_e<|sq_e<|bq_x rfl<|sq_n<|.seq<|.region rfl<|.w (.a (vs:=[_,_,_,_,_,_,_,_,_,_,_,_]) rfl (.tl (.tl (.tl .hd))) a_97 s_97 rfl rfl)<|.m rfl rfl<|.q (.fa rfl Qbx)<|.w (.a (vs:=[_,_,_,_,_]) rfl .hd a_38 s_38 rfl rfl) ?_
  obtain ⟨q17,hq17,hF⟩:=bS hF
  refine .callV .no rfl rfl rfl (F_r04_tonnage_ok p0 p1 (arr [q12,q13,q14,q15,q16] q12) _ _ ⟨_,_,rfl,hpq0,hlq0⟩ _ hq17)<|.q (.fa rfl f_40_0)<|.st (cs':=[_,_,_,_,_,_]) .no rfl rfl rfl rfl s_3 rfl rfl .hd rfl rfl<|.nil<|sq_n<|.seq<|.region rfl<|.w (.a (vs:=[_,_,_,_,_,_]) rfl .hd a_40 s_40 rfl rfl)<|.st (cs':=[_,_,_,_,_,_]) .no rfl rfl rfl rfl s_40 rfl rfl (.tl .hd) rfl rfl<|.nil<|sq_n<|.ret ?_
  obtain rfl:=sI hF
  refine Qaa (Le.refl _) (.cell (.a (vs:=[_,_,_,_,_,_]) rfl (.tl .hd) a_40 s_40 rfl rfl) .nil) rfl ?_
  rfl
 have hF:=cF (decide_eq_false e5_1) hF
 cases hF
end Go.Proofs.YtjflgemfeofciaaGreatDoor
namespace Go.Proofs.YtjflgemfeofciaaGreatDoor
open Go Go.Ev
set_option linter.unusedVariables false
set_option linter.unusedSimpArgs false
set_option maxRecDepth 10000
end Go.Proofs.YtjflgemfeofciaaGreatDoor
namespace Go.Proofs.YtjflgemfeofciaaGreatDoor
open Go Go.Ev
set_option linter.unusedVariables false
set_option linter.unusedSimpArgs false
set_option maxRecDepth 10000
end Go.Proofs.YtjflgemfeofciaaGreatDoor
namespace Go.Proofs.YtjflgemfeofciaaGreatDoor
open Go Go.Ev
set_option linter.unusedVariables false
set_option linter.unusedSimpArgs false
set_option maxRecDepth 10000
end Go.Proofs.YtjflgemfeofciaaGreatDoor
