import Derived.Test.YtjflgemfeofciaaGreatDoorMZ1
import Derived.Test.YtjflgemfeofciaaGreatDoorMU3
namespace Go.Proofs.YtjflgemfeofciaaGreatDoor
open Go Go.Ev
set_option linter.unusedVariables false
set_option linter.unusedSimpArgs false
set_option maxRecDepth 10000
structure L_r04_meets_1 where
 v1_2:V
 cs1_3:List V
 d1_1:List Int
 v1_6:V
 cs1_7:List V
 d1_5:List (Int × Int)
 k1_9:Nat
def Qbh (p0:(List Piece)) (p1:(Int × Int)):List Piece→List Int→List (Int × Int)→Nat→Option ((List Int × List (Int × Int)))
 | [],d1_1,d1_5,k1_9=>some ((d1_1,d1_5))
 | y1 :: ys1,d1_1,d1_5,k1_9=>(cond (decide ((((k1_9+1):Nat):Int) < (p0.length:Int))) (((p0[(k1_9+1)]?).bind fun y15=>(cond (decide ((max p1.1 y1.fr)≤(min p1.2 (wr (y15.fr - 1))))) ((ck (decide (d1_1.length+1≤1000000)) ((ck (decide (d1_5.length+1≤1000000)) (Qbh p0 p1 ys1 (d1_1 ++ [(k1_9:Int)]) (d1_5 ++ [((max p1.1 y1.fr),(min p1.2 (wr (y15.fr - 1))))]) (k1_9+1)))))) (Qbh p0 p1 ys1 d1_1 d1_5 (k1_9+1))))) ((cond (decide ((max p1.1 y1.fr)≤p1.2)) ((ck (decide (d1_1.length+1≤1000000)) ((ck (decide (d1_5.length+1≤1000000)) (Qbh p0 p1 ys1 (d1_1 ++ [(k1_9:Int)]) (d1_5 ++ [((max p1.1 y1.fr),p1.2)]) (k1_9+1)))))) (Qbh p0 p1 ys1 d1_1 d1_5 (k1_9+1)))))
def Qcu (p0:(List Piece)) (p1:(Int × Int)):Option ((List Int) × (List (Int × Int))):=(cond (decide ((p0.length:Int)=0)) (some ([0],[p1])) (((Qbh p0 p1 p0 [] [] 0).bind fun ⟨o1_0_1,o1_0_2⟩=>some (o1_0_1,o1_0_2))))
set_option maxHeartbeats 1000000 in
theorem Qdi (p0:(List Piece)) (p1:(Int × Int)) (v0_0:V) (g:G) (h0_0:RS PieceR 3 g v0_0 p0) (r:(List Int) × (List (Int × Int))) (hF:Qcu p0 p1=some r):Fw Tryz.prog natS (.f 140 [] []) [v0_0,.agg [.i .i64 p1.1,.i .i64 p1.2]] g [] fun g' ml' q=>ml'=[]∧∃ (w0_0 w1_0:V),q=(.tup [w0_0,w1_0])∧RS IntR 1 g' w0_0 r.1∧RS RngR 2 g' w1_0 r.2:=by
 refine Fw.drop ?_
 unfold Qcu at hF
 have lh0_0:=h0_0.1
 refine Fw.enter (N:=62) (al:=[(1,_),(0,_)]) Tryz.func140 (by kernel_rfl) (by kernel_rfl) rfl rfl rfl rfl ?_
 intro B
 refine .seq<|.region rfl<|.box .no rfl rfl rfl rfl fun b1=>.z rfl rfl<|.z rfl rfl<|.nil<|sq_n<|.seq<|.seq<|.region rfl<|.m rfl rfl<|.q (.lenR rfl rfl rfl e_93 h0_0)<|.b rfl rfl rfl rfl<|.nil<|sq_n<|.cond rfl (fun h2=>?_) (fun h2=>?_)
 ·have hF:=cT h2 hF
  refine .seq<|.draw (tb:=[r0 0 0,r1 0 0,r1 2 0,r0 1 0,r1 15 0]) rfl (by kernel_rfl) (by kernel_rfl) ?_
  refine .f .no rfl (.bs (qs:=[(0,_)]) (c:=[_]) rfl sl_66 el_3 (by decide) rfl) fun b3=>.y rfl rfl rfl (.a (vs:=[_,_]) rfl .hd a_27 s_27 rfl rfl)<|.f .no rfl (.bs (qs:=[(0,_)]) (c:=[_,_]) rfl Qdv el_27 (by decide) rfl) fun b4=>.z rfl rfl<|.z rfl rfl<|.nil<|sq_n ?_
  have ha5:AccR IntR 1 g (.sl b3 0 1 1) [_] [0]:=AccR.lit (Ls.cons (c:=[_]) rfl rfl .nil) rfl (by decide)
  refine .see0 (seeLit0 (n:=1) (s:=1) (.tl .hd) rfl) ?_
  refine .see (Qdg IntR.mono .hd (by decide) ha5) ?_
  rintro gz7 ⟨hle7,hz7⟩
  have ha8:AccR RngR 2 gz7 (.sl b4 0 1 1) [_,_] [p1]:=AccR.lit (Ls.cons (c:=[_,_]) rfl rfl .nil) rfl (by decide)
  refine .see0 (seeLit0 (n:=1) (s:=2) .hd rfl) ?_
  refine .see (Qdg RngR.mono .hd (by decide) ha8) ?_
  rintro gz10 ⟨hle10,hz10⟩
  replace hz7:=hz7.mono IntR.mono hle10
  refine .ret<|sq_r ?_
  obtain rfl:=sI hF
  refine Qaa (hle7.trans hle10) (.tmp rfl (.tmp rfl .nil)) rfl ?_
  exact ⟨_,_,rfl,hz7,hz10⟩
 have kh2:=dF h2
 have hF:=cF h2 hF
 refine .skip<|sq_n<|.seq<|.region rfl<|.z rfl rfl<|.nil<|sq_n<|.seq<|.region rfl<|.z rfl rfl<|.nil<|sq_n<|.seq<|.seq<|.region rfl<|.z rfl rfl<|.nil<|sq_n<|.block<|.acc 1 3<|.acc 2 27 ?_
 obtain ⟨o1,hF,hG1⟩:=bS hF
 refine .loopx (α:=L_r04_meets_1) [(0,_),(3,_)] [_] (fun fx x=>(6,x.v1_2) :: (7,x.v1_6) :: (8,.i .i64 (x.k1_9:Int)) :: fx) (fun mx x=>[.acc x.v1_6 2 x.cs1_7 27,.acc x.v1_2 1 x.cs1_3 3,rg mx 0]) (fun x g'=>AccR IntR 1 g' x.v1_2 x.cs1_3 x.d1_1∧AccR RngR 2 g' x.v1_6 x.cs1_7 x.d1_5∧x.k1_9≤p0.length∧Qbh p0 p1 (p0.drop x.k1_9) x.d1_1 x.d1_5 x.k1_9=some o1) (fun x=>p0.length - x.k1_9) (L_r04_meets_1.mk _ _ [] _ _ [] 0) ⟨rfl,rfl,rfl,rfl,rfl,trivial⟩ (List.Sublist.refl _) ⟨AccR.nil,AccR.nil,(by first | omega | (dsimp only;omega)),hF⟩ ?_
 intro x1 gl1 hlo1 hJ1
 obtain ⟨v1_2,cs1_3,d1_1,v1_6,cs1_7,d1_5,k1_9⟩:=x1
 try dsimp only at hJ1
 obtain ⟨ha1_4,ha1_8,hk1,hF⟩:=hJ1
 refine .al0 [(6,v1_2),(7,v1_6),(8,.i .i64 (k1_9:Int)),(0,_),(3,_)] ?_
 replace h0_0:=h0_0.mono PieceR.mono hlo1
 have lha1_4:=ha1_4.le
 have lha1_8:=ha1_8.le
 refine .seq<|.seq<|.region rfl<|.m rfl rfl<|.m rfl rfl<|.q (.lenR rfl rfl rfl e_93 h0_0)<|.b rfl rfl rfl rfl<|.nil<|sq_n<|.cond rfl (fun h13=>?_) (fun h13=>?_)
 ·have kh13:=dT h13
  obtain ⟨y1,hy1⟩:=getK (l:=p0) (k:=k1_9) kh13
  rw [dc hy1,Qbh] at hF
  refine .skip<|sq_n<|.seq<|.block<|.seq<|.region rfl<|.q (.fa rfl Qak)<|.w (.s rfl (.tl (.tl .hd)) a_3 rfl)<|.z rfl rfl<|.nil<|sq_n<|.seq<|.seq<|.region rfl<|.m rfl rfl<|.q (.inc1 rfl rfl (by omega))<|.m rfl rfl<|.q (.lenR rfl rfl rfl e_93 h0_0)<|.b rfl rfl rfl rfl<|.nil<|sq_n<|.cond rfl (fun h14=>?_) (fun h14=>?_)
  ·have kh14:=dT h14
   have hF:=cT h14 hF
   refine .region rfl<|.m rfl rfl<|.m rfl rfl<|.m rfl rfl<|.q (.inc1 rfl rfl (by omega)) ?_
   obtain ⟨y15,hy15,hF⟩:=bS hF
   have hj15:=Qaf hy15
   refine .ixk (j:=(k1_9+1)) .no rfl rfl h0_0 rfl e_93 hy15 ?_
   rintro b15 o15 _ hq15 rfl
   refine .q (.fa rfl Qai)<|.w (.ps 0 rfl hq15 rfl a_3 rfl)<|.b rfl rfl rfl rfl<|.q (.mn rfl rfl rfl rfl)<|.z rfl rfl<|.nil<|sq_n<|.seq<|.draw (tb:=[r0 0 0,r0 1 0,r0 0 0,r0 0 0,r0 12 0,r0 28 0,r0 60 0,r1 127 0,r1 255 0]) rfl (by kernel_rfl) (by kernel_rfl) ?_
   refine .q (.fa rfl Qal)<|.y rfl rfl rfl (.s rfl (.tl (.tl .hd)) a_3 rfl)<|.m rfl rfl<|.m rfl rfl<|.ixk (j:=k1_9) .no rfl rfl h0_0 rfl e_93 hy1 ?_
   rintro b16 o16 _ hq16 rfl
   refine .q (.fa rfl Qai)<|.y rfl rfl rfl (.ps 0 rfl hq16 rfl a_3 rfl)<|.q (.mx rfl rfl rfl rfl)<|.z rfl rfl<|.nil<|sq_n<|.seq<|.region rfl<|.m rfl rfl<|.m rfl rfl<|.b rfl rfl rfl rfl<|.nil<|sq_n<|.cond rfl (fun h17=>?_) (fun h17=>?_)
   ·have kh17:=dT h17
    have hF:=cT h17 hF
    refine .seq<|.region rfl<|.m rfl rfl<|.m rfl rfl<|.bs .no rfl (qs:=[(0,_)]) (c:=[_]) rfl sl_66 el_3 (by decide) rfl fun b18=>?_
    obtain ⟨hl19,hF⟩:=ckS hF
    have hl19:=of_decide_eq_true hl19
    refine .x .no rfl (.appA (m:=1) (new:=[_]) rfl rfl rfl (.tl (.tl .hd)) sl_66 el_3 (.of rfl .sl sl_66 .hd (Nat.le_of_ble_eq_true rfl) rfl) (by decide) rfl (AccR.room (R:=IntR) (ys:=[(k1_9:Int)]) ha1_4 (Ls.cons (c:=[_]) rfl rfl .nil) hl19) rfl) fun v19=>.as (.tl (.tl .hd)) fun av19=>?_
    have ha19:=AccR.app (R:=IntR) (g:=gl1) (ys:=[(k1_9:Int)]) ha1_4 (Ls.cons (c:=[_]) rfl rfl .nil) hl19 av19
    have lha19:=ha19.le
    refine .z rfl rfl<|.nil<|sq_n<|.region rfl<|.m rfl rfl<|.m rfl rfl<|.m rfl rfl<|.q (.build (qs:=[(0,_),(1,_)]) (cs:=[_,_]) rfl b_27 rfl)<|.bs .no rfl (qs:=[(0,_)]) (c:=[_,_]) rfl Qdv el_27 (by decide) rfl fun b20=>?_
    obtain ⟨hl21,hF⟩:=ckS hF
    have hl21:=of_decide_eq_true hl21
    refine .x .no rfl (.appA (m:=1) (new:=[_,_]) rfl rfl rfl (.tl (.tl .hd)) Qdv el_27 (.of rfl .sl Qdv .hd (Nat.le_of_ble_eq_true rfl) rfl) (by decide) rfl (AccR.room (R:=RngR) (ys:=[((max p1.1 y1.fr),(min p1.2 (wr (y15.fr - 1))))]) ha1_8 (Ls.cons (c:=[_,_]) rfl rfl .nil) hl21) rfl) fun v21=>.as (.tl (.tl .hd)) fun av21=>?_
    have ha21:=AccR.app (R:=RngR) (g:=gl1) (ys:=[((max p1.1 y1.fr),(min p1.2 (wr (y15.fr - 1))))]) ha1_8 (Ls.cons (c:=[_,_]) rfl rfl .nil) hl21 av21
    have lha21:=ha21.le
    refine .z rfl rfl<|.nil<|bq_n<|sq_n<|.region rfl<|.m rfl rfl<|.q (.inc1 rfl rfl (by omega))<|.z rfl rfl<|.nil<|Qac (L_r04_meets_1.mk _ _ (d1_1 ++ [(k1_9:Int)]) _ _ (d1_5 ++ [((max p1.1 y1.fr),(min p1.2 (wr (y15.fr - 1))))]) (k1_9+1)) ⟨rfl,rfl,rfl,rfl,rfl,trivial⟩ (.cons _ (.cons _ (List.Sublist.refl _))) (Le.refl _) ?_ ?_
    ·exact ⟨ha19,ha21,(Qaf hy1),hF⟩
    ·simp only;omega
   have kh17:=dF h17
   have hF:=cF h17 hF
   refine .skip<|bq_n<|sq_n<|.region rfl<|.m rfl rfl<|.q (.inc1 rfl rfl (by omega))<|.z rfl rfl<|.nil<|Qac (L_r04_meets_1.mk _ _ d1_1 _ _ d1_5 (k1_9+1)) ⟨rfl,rfl,rfl,rfl,rfl,trivial⟩ (List.Sublist.refl _) (Le.refl _) ?_ ?_
   ·exact ⟨ha1_4,ha1_8,(Qaf hy1),hF⟩
   ·simp only;omega
  have kh14:=dF h14
  have hF:=cF h14 hF
  refine .skip<|sq_n<|.seq<|.draw (tb:=[r0 0 0,r0 1 0,r0 0 0,r0 0 0,r0 12 0,r0 28 0,r0 60 0,r1 127 0,r1 255 0]) rfl (by kernel_rfl) (by kernel_rfl) ?_
  refine .q (.fa rfl Qal)<|.y rfl rfl rfl (.s rfl (.tl (.tl .hd)) a_3 rfl)<|.m rfl rfl<|.m rfl rfl<|.ixk (j:=k1_9) .no rfl rfl h0_0 rfl e_93 hy1 ?_
  rintro b22 o22 _ hq22 rfl
  refine .q (.fa rfl Qai)<|.y rfl rfl rfl (.ps 0 rfl hq22 rfl a_3 rfl)<|.q (.mx rfl rfl rfl rfl)<|.z rfl rfl<|.nil<|sq_n<|.seq<|.region rfl<|.m rfl rfl<|.m rfl rfl<|.b rfl rfl rfl rfl<|.nil<|sq_n<|.cond rfl (fun h23=>?_) (fun h23=>?_)
  ·have kh23:=dT h23
   have hF:=cT h23 hF
   refine .seq<|.region rfl<|.m rfl rfl<|.m rfl rfl<|.bs .no rfl (qs:=[(0,_)]) (c:=[_]) rfl sl_66 el_3 (by decide) rfl fun b24=>?_
   obtain ⟨hl25,hF⟩:=ckS hF
   have hl25:=of_decide_eq_true hl25
   refine .x .no rfl (.appA (m:=1) (new:=[_]) rfl rfl rfl (.tl (.tl .hd)) sl_66 el_3 (.of rfl .sl sl_66 .hd (Nat.le_of_ble_eq_true rfl) rfl) (by decide) rfl (AccR.room (R:=IntR) (ys:=[(k1_9:Int)]) ha1_4 (Ls.cons (c:=[_]) rfl rfl .nil) hl25) rfl) fun v25=>.as (.tl (.tl .hd)) fun av25=>?_
   have ha25:=AccR.app (R:=IntR) (g:=gl1) (ys:=[(k1_9:Int)]) ha1_4 (Ls.cons (c:=[_]) rfl rfl .nil) hl25 av25
   have lha25:=ha25.le
   refine .z rfl rfl<|.nil<|sq_n<|.region rfl<|.m rfl rfl<|.m rfl rfl<|.m rfl rfl<|.q (.build (qs:=[(0,_),(1,_)]) (cs:=[_,_]) rfl b_27 rfl)<|.bs .no rfl (qs:=[(0,_)]) (c:=[_,_]) rfl Qdv el_27 (by decide) rfl fun b26=>?_
   obtain ⟨hl27,hF⟩:=ckS hF
   have hl27:=of_decide_eq_true hl27
   refine .x .no rfl (.appA (m:=1) (new:=[_,_]) rfl rfl rfl (.tl (.tl .hd)) Qdv el_27 (.of rfl .sl Qdv .hd (Nat.le_of_ble_eq_true rfl) rfl) (by decide) rfl (AccR.room (R:=RngR) (ys:=[((max p1.1 y1.fr),p1.2)]) ha1_8 (Ls.cons (c:=[_,_]) rfl rfl .nil) hl27) rfl) fun v27=>.as (.tl (.tl .hd)) fun av27=>?_
   have ha27:=AccR.app (R:=RngR) (g:=gl1) (ys:=[((max p1.1 y1.fr),p1.2)]) ha1_8 (Ls.cons (c:=[_,_]) rfl rfl .nil) hl27 av27
   have lha27:=ha27.le
   refine .z rfl rfl<|.nil<|bq_n<|sq_n<|.region rfl<|.m rfl rfl<|.q (.inc1 rfl rfl (by omega))<|.z rfl rfl<|.nil<|Qac (L_r04_meets_1.mk _ _ (d1_1 ++ [(k1_9:Int)]) _ _ (d1_5 ++ [((max p1.1 y1.fr),p1.2)]) (k1_9+1)) ⟨rfl,rfl,rfl,rfl,rfl,trivial⟩ (.cons _ (.cons _ (List.Sublist.refl _))) (Le.refl _) ?_ ?_
   ·exact ⟨ha25,ha27,(Qaf hy1),hF⟩
   ·simp only;omega
  have kh23:=dF h23
  have hF:=cF h23 hF
  refine .skip<|bq_n<|sq_n<|.region rfl<|.m rfl rfl<|.q (.inc1 rfl rfl (by omega))<|.z rfl rfl<|.nil<|Qac (L_r04_meets_1.mk _ _ d1_1 _ _ d1_5 (k1_9+1)) ⟨rfl,rfl,rfl,rfl,rfl,trivial⟩ (List.Sublist.refl _) (Le.refl _) ?_ ?_
  ·exact ⟨ha1_4,ha1_8,(Qaf hy1),hF⟩
  ·simp only;omega
 have kh13:=dF h13
 rw [dn (by omega),Qbh] at hF
 obtain rfl:=sI hF
 have hF:=hG1
 refine .exit<|sq_e<|lq_e<|bq_x rfl<|sq_n<|.seq<|.region rfl<|.m rfl rfl<|.m rfl rfl<|.z rfl rfl<|.z rfl rfl<|.nil<|sq_n<|.see (Qdg IntR.mono (.tl .hd) (by decide) ha1_4) ?_
 rintro gz28 ⟨hle28,hz28⟩
 replace ha1_8:=ha1_8.mono RngR.mono hle28
 refine .see (Qdg RngR.mono .hd (by decide) ha1_8) ?_
 rintro gz29 ⟨hle29,hz29⟩
 replace hz28:=hz28.mono IntR.mono hle29
 refine .ret ?_
 obtain rfl:=sI hF
 refine Qaa ((hlo1.trans hle28).trans hle29) (.tmp rfl (.tmp rfl .nil)) rfl ?_
 exact ⟨_,_,rfl,hz28,hz29⟩
structure L_r04_cases_2 where
 v2_2:V
 cs2_3:List V
 d2_1:List T_Case
 k2_5:Nat
def Qce (q6:(List Int) × (List (Int × Int))) (k1_5:Nat):List Int→List T_Case→Nat→Option ((List T_Case))
 | [],d2_1,k2_5=>some (d2_1)
 | y2 :: ys2,d2_1,k2_5=>((atI [(T_Case.mk (arr [0,0,0,0,0] 0) (arr [(0,0),(0,0),(0,0),(0,0),(0,0)] (0,0)) (0,0))] (k1_5:Int)).bind fun y13=>((q6.2[k2_5]?).bind fun y16=>(ck (decide (d2_1.length+1≤1000000)) (Qce q6 k1_5 ys2 (d2_1 ++ [(T_Case.mk (arr [y2,(y13.Pieces 1),(y13.Pieces 2),(y13.Pieces 3),(y13.Pieces 4)] y2) (arr [y16,(y13.Litres 1),(y13.Litres 2),(y13.Litres 3),(y13.Litres 4)] y16) y13.Tonnages)]) (k2_5+1)))))
structure L_r04_cases_4 where
 v4_2:V
 cs4_3:List V
 d4_1:List T_Case
 k4_5:Nat
def Qcc (o1_0_1:List T_Case) (q20:(List Int) × (List (Int × Int))) (k3_5:Nat):List Int→List T_Case→Nat→Option ((List T_Case))
 | [],d4_1,k4_5=>some (d4_1)
 | y4 :: ys4,d4_1,k4_5=>((atI o1_0_1 (k3_5:Int)).bind fun y25=>((q20.2[k4_5]?).bind fun y28=>(ck (decide (d4_1.length+1≤1000000)) (Qcc o1_0_1 q20 k3_5 ys4 (d4_1 ++ [(T_Case.mk (arr [(y25.Pieces 0),y4,(y25.Pieces 2),(y25.Pieces 3),(y25.Pieces 4)] (y25.Pieces 0)) (arr [(y25.Litres 0),y28,(y25.Litres 2),(y25.Litres 3),(y25.Litres 4)] (y25.Litres 0)) y25.Tonnages)]) (k4_5+1)))))
structure L_r04_cases_6 where
 v6_2:V
 cs6_3:List V
 d6_1:List T_Case
 k6_5:Nat
def Qcb (o3_0_1:List T_Case) (q32:(List Int) × (List (Int × Int))) (k5_5:Nat):List Int→List T_Case→Nat→Option ((List T_Case))
 | [],d6_1,k6_5=>some (d6_1)
 | y6 :: ys6,d6_1,k6_5=>((atI o3_0_1 (k5_5:Int)).bind fun y37=>((q32.2[k6_5]?).bind fun y40=>(ck (decide (d6_1.length+1≤1000000)) (Qcb o3_0_1 q32 k5_5 ys6 (d6_1 ++ [(T_Case.mk (arr [(y37.Pieces 0),(y37.Pieces 1),y6,(y37.Pieces 3),(y37.Pieces 4)] (y37.Pieces 0)) (arr [(y37.Litres 0),(y37.Litres 1),y40,(y37.Litres 3),(y37.Litres 4)] (y37.Litres 0)) y37.Tonnages)]) (k6_5+1)))))
structure L_r04_cases_8 where
 v8_2:V
 cs8_3:List V
 d8_1:List T_Case
 k8_5:Nat
def Qbz (o5_0_1:List T_Case) (q44:(List Int) × (List (Int × Int))) (k7_5:Nat):List Int→List T_Case→Nat→Option ((List T_Case))
 | [],d8_1,k8_5=>some (d8_1)
 | y8 :: ys8,d8_1,k8_5=>((atI o5_0_1 (k7_5:Int)).bind fun y49=>((q44.2[k8_5]?).bind fun y52=>(ck (decide (d8_1.length+1≤1000000)) (Qbz o5_0_1 q44 k7_5 ys8 (d8_1 ++ [(T_Case.mk (arr [(y49.Pieces 0),(y49.Pieces 1),(y49.Pieces 2),y8,(y49.Pieces 4)] (y49.Pieces 0)) (arr [(y49.Litres 0),(y49.Litres 1),(y49.Litres 2),y52,(y49.Litres 4)] (y49.Litres 0)) y49.Tonnages)]) (k8_5+1)))))
structure L_r04_cases_10 where
 v10_2:V
 cs10_3:List V
 d10_1:List T_Case
 k10_5:Nat
def Qbt (o7_0_1:List T_Case) (q56:(List Int) × (List (Int × Int))) (k9_5:Nat):List Int→List T_Case→Nat→Option ((List T_Case))
 | [],d10_1,k10_5=>some (d10_1)
 | y10 :: ys10,d10_1,k10_5=>((atI o7_0_1 (k9_5:Int)).bind fun y61=>((q56.2[k10_5]?).bind fun y64=>(ck (decide (d10_1.length+1≤1000000)) (Qbt o7_0_1 q56 k9_5 ys10 (d10_1 ++ [(T_Case.mk (arr [(y61.Pieces 0),(y61.Pieces 1),(y61.Pieces 2),(y61.Pieces 3),y10] (y61.Pieces 0)) (arr [(y61.Litres 0),(y61.Litres 1),(y61.Litres 2),(y61.Litres 3),y64] (y61.Litres 0)) y61.Tonnages)]) (k10_5+1)))))
structure L_r04_cases_11 where
 k11_1:Nat
 cw11_2:List V
 dw11_2:List T_Case
 m11:Nat
def Qbv (p0:Version) (p1:Int):Nat→Nat→List T_Case→Option ((List T_Case))
 | 0,_,_=>none
 | mm11+1,k11_1,dw11_2=>(cond (decide ((k11_1:Int) < (dw11_2.length:Int))) (((atI dw11_2 (k11_1:Int)).bind fun y68=>((Qer p0 p1 y68.Litres false).bind fun q69=>((atI dw11_2 (k11_1:Int)).bind fun y70=>((Qer p0 p1 y70.Litres true).bind fun q71=>((atI dw11_2 (k11_1:Int)).bind fun y72=>Qbv p0 p1 mm11 (k11_1+1) (List.set dw11_2 k11_1 (T_Case.mk y72.Pieces y72.Litres (q69.Tonnage,q71.Tonnage))))))))) (some (dw11_2)))
structure L_r04_cases_9 where
 v9_2:V
 cs9_3:List V
 d9_1:List T_Case
 k9_5:Nat
def Qc (o7_0_1:List T_Case) (q56:(List Int) × (List (Int × Int))):Nat→List T_Case→Nat→Option ((List T_Case))
 | 0,d9_1,k9_5=>some (d9_1)
 | mm9+1,d9_1,k9_5=>((Qbt o7_0_1 q56 k9_5 q56.1 d9_1 0).bind fun o10_0_1=>Qc o7_0_1 q56 mm9 o10_0_1 (k9_5+1))
structure L_r04_cases_7 where
 v7_2:V
 cs7_3:List V
 d7_1:List T_Case
 k7_5:Nat
def Qcd (o5_0_1:List T_Case) (q44:(List Int) × (List (Int × Int))):Nat→List T_Case→Nat→Option ((List T_Case))
 | 0,d7_1,k7_5=>some (d7_1)
 | mm7+1,d7_1,k7_5=>((Qbz o5_0_1 q44 k7_5 q44.1 d7_1 0).bind fun o8_0_1=>Qcd o5_0_1 q44 mm7 o8_0_1 (k7_5+1))
structure L_r04_cases_5 where
 v5_2:V
 cs5_3:List V
 d5_1:List T_Case
 k5_5:Nat
def Qca (o3_0_1:List T_Case) (q32:(List Int) × (List (Int × Int))):Nat→List T_Case→Nat→Option ((List T_Case))
 | 0,d5_1,k5_5=>some (d5_1)
 | mm5+1,d5_1,k5_5=>((Qcb o3_0_1 q32 k5_5 q32.1 d5_1 0).bind fun o6_0_1=>Qca o3_0_1 q32 mm5 o6_0_1 (k5_5+1))
structure L_r04_cases_3 where
 v3_2:V
 cs3_3:List V
 d3_1:List T_Case
 k3_5:Nat
def Qby (o1_0_1:List T_Case) (q20:(List Int) × (List (Int × Int))):Nat→List T_Case→Nat→Option ((List T_Case))
 | 0,d3_1,k3_5=>some (d3_1)
 | mm3+1,d3_1,k3_5=>((Qcc o1_0_1 q20 k3_5 q20.1 d3_1 0).bind fun o4_0_1=>Qby o1_0_1 q20 mm3 o4_0_1 (k3_5+1))
structure L_r04_cases_1 where
 v1_2:V
 cs1_3:List V
 d1_1:List T_Case
 k1_5:Nat
def Qbr (q6:(List Int) × (List (Int × Int))):Nat→List T_Case→Nat→Option ((List T_Case))
 | 0,d1_1,k1_5=>some (d1_1)
 | mm1+1,d1_1,k1_5=>((Qce q6 k1_5 q6.1 d1_1 0).bind fun o2_0_1=>Qbr q6 mm1 o2_0_1 (k1_5+1))
def Qfb (p0:Version) (p1:Int) (p2:(Nat→(Int × Int))):Option ((List T_Case) × Bool):=(ck (decide ((0:Int)≤p1) && decide (p1 < (2:Int))) (((Qcu (arr [(p0.ln 0),(p0.ln 5)] (p0.ln 0) p1.toNat) (p2 0)).bind fun q6=>(cond (decide ((512:Int) < (wr ((1:Int) * (q6.1.length:Int))))) (some ([],false)) (((Qbr q6 ((([(T_Case.mk (arr [0,0,0,0,0] 0) (arr [(0,0),(0,0),(0,0),(0,0),(0,0)] (0,0)) (0,0))].length:Int) - (0:Int)).toNat) [] 0).bind fun o1_0_1=>((Qcu (arr [(p0.ln 1),(p0.ln 6)] (p0.ln 1) p1.toNat) (p2 1)).bind fun q20=>(cond (decide ((512:Int) < (wr ((o1_0_1.length:Int) * (q20.1.length:Int))))) (some ([],false)) (((Qby o1_0_1 q20 (((o1_0_1.length:Int) - (0:Int)).toNat) [] 0).bind fun o3_0_1=>((Qcu (arr [(p0.ln 2),(p0.ln 7)] (p0.ln 2) p1.toNat) (p2 2)).bind fun q32=>(cond (decide ((512:Int) < (wr ((o3_0_1.length:Int) * (q32.1.length:Int))))) (some ([],false)) (((Qca o3_0_1 q32 (((o3_0_1.length:Int) - (0:Int)).toNat) [] 0).bind fun o5_0_1=>((Qcu (arr [(p0.ln 3),(p0.ln 8)] (p0.ln 3) p1.toNat) (p2 3)).bind fun q44=>(cond (decide ((512:Int) < (wr ((o5_0_1.length:Int) * (q44.1.length:Int))))) (some ([],false)) (((Qcd o5_0_1 q44 (((o5_0_1.length:Int) - (0:Int)).toNat) [] 0).bind fun o7_0_1=>((Qcu (arr [(p0.ln 4),(p0.ln 9)] (p0.ln 4) p1.toNat) (p2 4)).bind fun q56=>(cond (decide ((512:Int) < (wr ((o7_0_1.length:Int) * (q56.1.length:Int))))) (some ([],false)) (((Qc o7_0_1 q56 (((o7_0_1.length:Int) - (0:Int)).toNat) [] 0).bind fun o9_0_1=>((Qbv p0 p1 (o9_0_1.length+1) 0 o9_0_1).bind fun o11_0_1=>some (o11_0_1,true))))))))))))))))))))))))
set_option maxHeartbeats 1000000 in
theorem F_r04_cases_ok (p0:Version) (p1:Int) (p2:(Nat→(Int × Int))) (cs0:List V) (g:G) (h0:VersionR g cs0 p0) (r:(List T_Case) × Bool) (hF:Qfb p0 p1 p2=some r):Fw Tryz.prog natS (.f 95 [] []) [.agg cs0,.i .i64 p1,.agg [.i .i64 ((p2 0).1),.i .i64 ((p2 0).2),.i .i64 ((p2 1).1),.i .i64 ((p2 1).2),.i .i64 ((p2 2).1),.i .i64 ((p2 2).2),.i .i64 ((p2 3).1),.i .i64 ((p2 3).2),.i .i64 ((p2 4).1),.i .i64 ((p2 4).2)]] g [] fun g' ml' q=>ml'=[]∧∃ (w0_0:V),q=(.tup [w0_0,.b r.2])∧RS R_Case 17 g' w0_0 r.1:=by
 refine Fw.drop ?_
 unfold Qfb at hF
 obtain ⟨pq0,lvq0,rfl,hpq0,hlq0⟩:=h0
 have lh0_1:=hpq0.1
 have lh0_2:=(hlq0 0 (by decide)).1
 have lh0_3:=(hlq0 1 (by decide)).1
 have lh0_4:=(hlq0 2 (by decide)).1
 have lh0_5:=(hlq0 3 (by decide)).1
 have lh0_6:=(hlq0 4 (by decide)).1
 have lh0_7:=(hlq0 5 (by decide)).1
 have lh0_8:=(hlq0 6 (by decide)).1
 have lh0_9:=(hlq0 7 (by decide)).1
 have lh0_10:=(hlq0 8 (by decide)).1
 have lh0_11:=(hlq0 9 (by decide)).1
 refine Fw.enter (N:=107) (al:=[(2,_),(1,_),(0,_)]) Tryz.func95 (by kernel_rfl) (by kernel_rfl) rfl rfl rfl rfl ?_
 intro B
 refine .seq<|.region rfl<|.box .no rfl rfl rfl rfl fun b1=>.box .no rfl rfl rfl rfl fun b2=>.z rfl rfl<|.z rfl rfl<|.nil<|sq_n<|.seq<|.region rfl<|.q (.build (qs:=[]) (cs:=[_,_,_,_,_,_,_,_,_,_,_,_,_,_,_,_,_]) rfl b_111 rfl)<|.bs .no rfl (qs:=[(0,_)]) (c:=[_,_,_,_,_,_,_,_,_,_,_,_,_,_,_,_,_]) rfl sl_56 Qgc (by decide) rfl fun b3=>.z rfl rfl<|.nil<|sq_n<|.seq<|.seq<|.region rfl<|.z rfl rfl<|.nil<|sq_n<|.block<|.unroll<|.seq<|.seq<|.region rfl<|.m rfl rfl<|.b rfl rfl rfl rfl<|.nil<|sq_n<|.condT rfl (by decide)<|.skip<|sq_n<|.seq<|.block ?_
 refine .seq<|.draw (tb:=[r0 0 0,r0 0 0,r0 0 0,r0 5 0,r0 15 0,r0 31 0,r0 0 0,r0 64 0,r0 192 0,r1 511 0,r1 1023 1,r1 2047 1,r1 2047 1,r1 4095 1,r1 16383 1]) rfl (by kernel_rfl) (by kernel_rfl) ?_
 refine .m rfl rfl<|.m rfl rfl<|.q (.fa rfl Qaj) ?_
 obtain ⟨hsy4,hF⟩:=ckS hF
 have hsy4:=symB (n:=2) hsy4
 refine .q (.ixai rfl rfl ae_95 hsy4)<|.q (.ixa (j:=0) rfl rfl ae_94 (by decide))<|.ldc (k:=0) (Φ:=fun w5_0=>RS PieceR 3 g w5_0 (arr [(p0.ln 0),(p0.ln 5)] (p0.ln 0) p1.toNat)) .no rfl rfl rfl trivial (sym2 hsy4 (fun e=>⟨_,.sO (o':=2) rfl (by rw [e];try rfl) (.tl (.tl .hd)) a_93 rfl,by rw [e];exact (hlq0 0 (by decide))⟩) (fun e=>⟨_,.sO (o':=7) rfl (by rw [e];try rfl) (.tl (.tl .hd)) a_93 rfl,by rw [e];exact (hlq0 5 (by decide))⟩)) fun v5 hv5=>?_
 have lhv5:=hv5.1
 refine .m rfl rfl<|.q (.ixa (j:=0) rfl rfl Qbp (by decide))<|.y rfl rfl rfl (.a (vs:=[_,_]) rfl (.tl .hd) a_27 s_27 rfl rfl) ?_
 obtain ⟨q6,hq6,hF⟩:=bS hF
 refine .call .no rfl rfl rfl rfl rfl (Qdi (arr [(p0.ln 0),(p0.ln 5)] (p0.ln 0) p1.toNat) (p2 0) _ _ hv5 _ hq6) ?_
 rintro g6 ml6 r6 hle6 ⟨rfl,w6_0_0,w6_1_0,rfl,hw6_0_0,hw6_1_0⟩
 replace hpq0:=hpq0.mono PutR.mono hle6
 replace hlq0:=fun k hk=>(hlq0 k hk).mono PieceR.mono hle6
 have lhw6_0_0:=hw6_0_0.1
 have lhw6_1_0:=hw6_1_0.1
 refine .m rfl rfl<|.q (.ext rfl rfl)<|.q (.ext rfl rfl)<|.z rfl rfl<|.z rfl rfl<|.nil<|sq_n<|.seq<|.seq<|.region rfl<|.m rfl rfl<|.q (.len rfl rfl rfl (lenV_sl e_56 .sl))<|.m rfl rfl<|.q (.lenR rfl rfl rfl e_66 hw6_0_0)<|.b rfl rfl rfl rfl<|.b rfl rfl rfl rfl<|.nil<|sq_n<|.cond rfl (fun h7=>?_) (fun h7=>?_)
 ·have hF:=cT h7 hF
  refine .seq<|.region rfl<|.z rfl rfl<|.z rfl rfl<|.nil<|sq_n<|.ret<|sq_r<|bq_r<|sq_r<|sq_r<|bq_r<|sq_r ?_
  obtain rfl:=sI hF
  refine Qaa hle6 (.tmp rfl (.tmp rfl .nil)) rfl ?_
  exact ⟨_,rfl,RS.nil⟩
 have kh7:=dF h7
 have hF:=cF h7 hF
 refine .skip<|sq_n<|.seq<|.region rfl<|.z rfl rfl<|.nil<|sq_n<|.seq<|.seq<|.region rfl<|.z rfl rfl<|.nil<|sq_n<|.block ?_
 have ha8:AccR R_Case 17 g6 (.sl b3 0 1 1) [_,_,_,_,_,_,_,_,_,_,_,_,_,_,_,_,_] [(T_Case.mk (arr [0,0,0,0,0] 0) (arr [(0,0),(0,0),(0,0),(0,0),(0,0)] (0,0)) (0,0))]:=AccR.lit (Ls.cons (c:=[_,_,_,_,_,_,_,_,_,_,_,_,_,_,_,_,_]) rfl rfl .nil) rfl (by decide)
 refine .see0 (seeLit0 (n:=1) (s:=17) .hd rfl) ?_
 have lha8:=ha8.le
 refine .acc 17 111 ?_
 obtain ⟨o1,hF,hG1⟩:=bS hF
 refine .loopx (α:=L_r04_cases_1) [(1,_),(3,_),(5,_),(8,_),(9,_),(10,_),(11,_)] [_,_,_] (fun fx x=>(12,x.v1_2) :: (13,.i .i64 (x.k1_5:Int)) :: fx) (fun mx x=>[.acc x.v1_2 17 x.cs1_3 111,rg mx 0,rg mx 1,rg mx 2]) (fun x g'=>AccR R_Case 17 g' x.v1_2 x.cs1_3 x.d1_1∧Qbr q6 ((([(T_Case.mk (arr [0,0,0,0,0] 0) (arr [(0,0),(0,0),(0,0),(0,0),(0,0)] (0,0)) (0,0))].length:Int) - (x.k1_5:Int)).toNat) x.d1_1 x.k1_5=some o1) (fun x=>(([(T_Case.mk (arr [0,0,0,0,0] 0) (arr [(0,0),(0,0),(0,0),(0,0),(0,0)] (0,0)) (0,0))].length:Int) - (x.k1_5:Int)).toNat) (L_r04_cases_1.mk _ _ [] 0) ⟨rfl,rfl,rfl,rfl,rfl,rfl,rfl,rfl,rfl,trivial⟩ (List.Sublist.refl _) ⟨AccR.nil,hF⟩ ?_
 intro x1 gl1 hlo1 hJ1
 obtain ⟨v1_2,cs1_3,d1_1,k1_5⟩:=x1
 try dsimp only at hJ1
 obtain ⟨ha1_4,hF⟩:=hJ1
 refine .al0 [(12,v1_2),(13,.i .i64 (k1_5:Int)),(1,_),(3,_),(5,_),(8,_),(9,_),(10,_),(11,_)] ?_
 replace hpq0:=hpq0.mono PutR.mono hlo1
 replace hlq0:=fun k hk=>(hlq0 k hk).mono PieceR.mono hlo1
 replace hw6_0_0:=hw6_0_0.mono IntR.mono hlo1
 replace hw6_1_0:=hw6_1_0.mono RngR.mono hlo1
 replace ha8:=ha8.mono R_Case.mono hlo1
 have lha1_4:=ha1_4.le
 refine .seq<|.seq<|.region rfl<|.m rfl rfl<|.m rfl rfl<|.q (.lenA rfl rfl rfl e_56 (by decide) ha8)<|.b rfl rfl rfl rfl<|.nil<|sq_n<|.cond rfl (fun h11=>?_) (fun h11=>?_)
 ·have kh11:=dT h11
  have em1:(([(T_Case.mk (arr [0,0,0,0,0] 0) (arr [(0,0),(0,0),(0,0),(0,0),(0,0)] (0,0)) (0,0))].length:Int) - (k1_5:Int)).toNat=(([(T_Case.mk (arr [0,0,0,0,0] 0) (arr [(0,0),(0,0),(0,0),(0,0),(0,0)] (0,0)) (0,0))].length:Int) - ((k1_5+1:Nat):Int)).toNat+1:=by omega
  rw [em1,Qbr] at hF
  refine .skip<|sq_n<|.seq<|.block<|.seq<|.region rfl<|.z rfl rfl<|.nil<|sq_n<|.block ?_
  obtain ⟨o2,hF,hG2⟩:=bS hF
  refine .loopx (α:=L_r04_cases_2) [(1,_),(3,_),(5,_),(8,_),(9,_),(10,_),(11,_),(13,_)] [_,_,_] (fun fx x=>(12,x.v2_2) :: (14,.i .i64 (x.k2_5:Int)) :: fx) (fun mx x=>[.acc x.v2_2 17 x.cs2_3 111,rg mx 0,rg mx 1,rg mx 2]) (fun x g'=>AccR R_Case 17 g' x.v2_2 x.cs2_3 x.d2_1∧x.k2_5≤q6.1.length∧Qce q6 k1_5 (q6.1.drop x.k2_5) x.d2_1 x.k2_5=some o2) (fun x=>q6.1.length - x.k2_5) (L_r04_cases_2.mk _ _ d1_1 0) ⟨rfl,rfl,rfl,rfl,rfl,rfl,rfl,rfl,rfl,rfl,trivial⟩ (List.Sublist.refl _) ⟨ha1_4,(by first | omega | (dsimp only;omega)),hF⟩ ?_
  intro x2 gl2 hlo2 hJ2
  obtain ⟨v2_2,cs2_3,d2_1,k2_5⟩:=x2
  try dsimp only at hJ2
  obtain ⟨ha2_4,hk2,hF⟩:=hJ2
  refine .al0 [(12,v2_2),(14,.i .i64 (k2_5:Int)),(1,_),(3,_),(5,_),(8,_),(9,_),(10,_),(11,_),(13,_)] ?_
  replace hw6_0_0:=hw6_0_0.mono IntR.mono hlo2
  replace hw6_1_0:=hw6_1_0.mono RngR.mono hlo2
  replace ha8:=ha8.mono R_Case.mono hlo2
  have lha2_4:=ha2_4.le
  refine .seq<|.seq<|.region rfl<|.m rfl rfl<|.m rfl rfl<|.q (.lenR rfl rfl rfl e_66 hw6_0_0)<|.b rfl rfl rfl rfl<|.nil<|sq_n<|.cond rfl (fun h12=>?_) (fun h12=>?_)
  ·have kh12:=dT h12
   obtain ⟨y2,hy2⟩:=getK (l:=q6.1) (k:=k2_5) kh12
   rw [dc hy2,Qce] at hF
   refine .skip<|sq_n<|.seq<|.block<|.seq<|.region rfl<|.m rfl rfl<|.m rfl rfl ?_
   obtain ⟨y13,hy13,hF⟩:=bS hF
   have hj13:=Qez hy13
   have hy13:=Qej hy13
   refine .ixA .no rfl rfl ha8 rfl e_56 (by decide) hj13.1 hy13 ?_
   intro b13 n13 cs13 hv13 hc13 hd13 hr13
   obtain rfl:=hr13
   refine .w (.aa 0 (vs:=[_,_,_,_,_,_,_,_,_,_,_,_,_,_,_,_,_]) rfl (.tl (.acc hv13 rfl)) rfl hd13 hc13 (AccR.cellsLe ha8 hy13) a_111 s_111 rfl rfl)<|.alloc .no rfl z_111 fun b14=>.st (cs':=[_,_,_,_,_,_,_,_,_,_,_,_,_,_,_,_,_]) .no rfl rfl rfl rfl s_111 rfl rfl .hd rfl rfl<|.nil<|sq_n<|.seq<|.region rfl<|.m rfl rfl<|.m rfl rfl<|.m rfl rfl<|.ixk (j:=k2_5) .no rfl rfl hw6_0_0 rfl e_66 hy2 ?_
   rintro b15 o15 _ hq15 rfl
   refine .w (.ps 0 rfl hq15 rfl a_3 rfl)<|.q (.fa rfl Qfw)<|.q (.ixa (j:=0) rfl rfl ae_38 (by decide))<|.st (cs':=[_,_,_,_,_,_,_,_,_,_,_,_,_,_,_,_,_]) .no rfl rfl rfl rfl s_3 rfl rfl .hd rfl rfl<|.nil<|sq_n<|.seq<|.region rfl<|.m rfl rfl<|.m rfl rfl<|.m rfl rfl ?_
   obtain ⟨y16,hy16,hF⟩:=bS hF
   have hj16:=Qaf hy16
   refine .ixk (j:=k2_5) .no rfl rfl hw6_1_0 rfl e_148 hy16 ?_
   rintro b16 o16 _ hq16 rfl
   refine .w (.pa 0 (vs:=[_,_]) rfl hq16 rfl a_27 s_27 rfl rfl)<|.q (.fa rfl Qef)<|.q (.ixa (j:=0) rfl rfl Qbp (by decide))<|.st (cs':=[_,_,_,_,_,_,_,_,_,_,_,_,_,_,_,_,_]) .no rfl rfl rfl rfl s_27 rfl rfl .hd rfl rfl<|.nil<|sq_n<|.region rfl<|.m rfl rfl<|.w (.a (vs:=[_,_,_,_,_,_,_,_,_,_,_,_,_,_,_,_,_]) rfl .hd a_111 s_111 rfl rfl)<|.bs .no rfl (qs:=[(0,_)]) (c:=[_,_,_,_,_,_,_,_,_,_,_,_,_,_,_,_,_]) rfl sl_56 Qgc (by decide) rfl fun b17=>?_
   obtain ⟨hl18,hF⟩:=ckS hF
   have hl18:=of_decide_eq_true hl18
   refine .x .no rfl (.appA (m:=1) (new:=[_,_,_,_,_,_,_,_,_,_,_,_,_,_,_,_,_]) rfl rfl rfl (.tl (.tl .hd)) sl_56 Qgc (.of rfl .sl sl_56 .hd (Nat.le_of_ble_eq_true rfl) rfl) (by decide) rfl (AccR.room (R:=R_Case) (ys:=[(T_Case.mk (arr [y2,(y13.Pieces 1),(y13.Pieces 2),(y13.Pieces 3),(y13.Pieces 4)] y2) (arr [y16,(y13.Litres 1),(y13.Litres 2),(y13.Litres 3),(y13.Litres 4)] y16) y13.Tonnages)]) ha2_4 (Ls.cons (c:=[_,_,_,_,_,_,_,_,_,_,_,_,_,_,_,_,_]) rfl rfl .nil) hl18) rfl) fun v18=>.as (.tl (.tl .hd)) fun av18=>?_
   have ha18:=AccR.app (R:=R_Case) (g:=gl2) (ys:=[(T_Case.mk (arr [y2,(y13.Pieces 1),(y13.Pieces 2),(y13.Pieces 3),(y13.Pieces 4)] y2) (arr [y16,(y13.Litres 1),(y13.Litres 2),(y13.Litres 3),(y13.Litres 4)] y16) y13.Tonnages)]) ha2_4 (Ls.cons (c:=[_,_,_,_,_,_,_,_,_,_,_,_,_,_,_,_,_]) rfl rfl .nil) hl18 av18
   have lha18:=ha18.le
   refine .z rfl rfl<|.nil<|bq_n<|sq_n<|.region rfl<|.m rfl rfl<|.q (.inc1 rfl rfl (by omega))<|.z rfl rfl<|.nil<|Qac (L_r04_cases_2.mk _ _ (d2_1 ++ [(T_Case.mk (arr [y2,(y13.Pieces 1),(y13.Pieces 2),(y13.Pieces 3),(y13.Pieces 4)] y2) (arr [y16,(y13.Litres 1),(y13.Litres 2),(y13.Litres 3),(y13.Litres 4)] y16) y13.Tonnages)]) (k2_5+1)) ⟨rfl,rfl,rfl,rfl,rfl,rfl,rfl,rfl,rfl,rfl,trivial⟩ (.cons _ (.cons _ (List.Sublist.refl _))) (Le.refl _) ?_ ?_
   ·exact ⟨ha18,(Qaf hy2),hF⟩
   ·simp only;omega
  have kh12:=dF h12
  rw [dn (by omega),Qce] at hF
  obtain rfl:=sI hF
  have hF:=hG2
  refine .exit<|sq_e<|lq_e<|bq_x rfl<|bq_n<|sq_n<|.region rfl<|.m rfl rfl<|.q (.inc1 rfl rfl (by omega))<|.z rfl rfl<|.nil<|Qac (L_r04_cases_1.mk _ _ d2_1 (k1_5+1)) ⟨rfl,rfl,rfl,rfl,rfl,rfl,rfl,rfl,rfl,trivial⟩ (List.Sublist.refl _) hlo2 ?_ ?_
  ·exact ⟨ha2_4,hF⟩
  ·simp only;omega
 have kh11:=dF h11
 have em1:(([(T_Case.mk (arr [0,0,0,0,0] 0) (arr [(0,0),(0,0),(0,0),(0,0),(0,0)] (0,0)) (0,0))].length:Int) - (k1_5:Int)).toNat=0:=by omega
 rw [em1,Qbr] at hF
 obtain rfl:=sI hF
 have hF:=hG1
 refine .exit<|sq_e<|lq_e<|bq_x rfl<|sq_n<|.region rfl<|.m rfl rfl<|.z rfl rfl<|.nil<|bq_n<|sq_n<|.region rfl<|.m rfl rfl<|.q (.addL (c:=1) rfl rfl rfl (by decide))<|.z rfl rfl<|.nil<|sq_n<|.unroll<|.seq<|.seq<|.region rfl<|.m rfl rfl<|.b rfl rfl rfl rfl<|.nil<|sq_n<|.condT rfl (by decide)<|.skip<|sq_n<|.seq<|.block<|.seq<|.draw (tb:=[r0 0 0,r0 0 0,r0 0 0,r0 5 0,r0 15 0,r0 31 0,r0 0 0,r0 64 0,r0 192 0,r1 511 0,r1 1023 1,r1 2047 1,r1 2047 1,r1 4095 1,r1 16383 1]) rfl (by kernel_rfl) (by kernel_rfl) ?_
 refine .m rfl rfl<|.m rfl rfl<|.q (.fa rfl Qaj)<|.q (.ixai rfl rfl ae_95 hsy4)<|.q (.ixa (j:=1) rfl rfl ae_94 (by decide))<|.ldc (k:=0) (Φ:=fun w19_0=>RS PieceR 3 gl1 w19_0 (arr [(p0.ln 1),(p0.ln 6)] (p0.ln 1) p1.toNat)) .no rfl rfl rfl trivial (sym2 hsy4 (fun e=>⟨_,.sO (o':=3) rfl (by rw [e];try rfl) (.tl (.tl (.tl .hd))) a_93 rfl,by rw [e];exact (hlq0 1 (by decide))⟩) (fun e=>⟨_,.sO (o':=8) rfl (by rw [e];try rfl) (.tl (.tl (.tl .hd))) a_93 rfl,by rw [e];exact (hlq0 6 (by decide))⟩)) fun v19 hv19=>?_
 have lhv19:=hv19.1
 refine .m rfl rfl<|.q (.ixa (j:=1) rfl rfl Qbp (by decide))<|.y rfl rfl rfl (.a (vs:=[_,_]) rfl (.tl (.tl .hd)) a_27 s_27 rfl rfl) ?_
 obtain ⟨q20,hq20,hF⟩:=bS hF
 refine .call .no rfl rfl rfl rfl rfl (Qdi (arr [(p0.ln 1),(p0.ln 6)] (p0.ln 1) p1.toNat) (p2 1) _ _ hv19 _ hq20) ?_
 rintro g20 ml20 r20 hle20 ⟨rfl,w20_0_0,w20_1_0,rfl,hw20_0_0,hw20_1_0⟩
 replace hpq0:=hpq0.mono PutR.mono hle20
 replace hlq0:=fun k hk=>(hlq0 k hk).mono PieceR.mono hle20
 replace ha1_4:=ha1_4.mono R_Case.mono hle20
 have lhw20_0_0:=hw20_0_0.1
 have lhw20_1_0:=hw20_1_0.1
 refine .m rfl rfl<|.q (.ext rfl rfl)<|.q (.ext rfl rfl)<|.z rfl rfl<|.z rfl rfl<|.nil<|sq_n<|.seq<|.seq<|.region rfl<|.m rfl rfl<|.q (.lenA rfl rfl rfl e_56 (by decide) ha1_4)<|.m rfl rfl<|.q (.lenR rfl rfl rfl e_66 hw20_0_0)<|.b rfl rfl rfl rfl<|.b rfl rfl rfl rfl<|.nil<|sq_n<|.cond rfl (fun h21=>?_) (fun h21=>?_)
 ·have hF:=cT h21 hF
  refine .seq<|.region rfl<|.z rfl rfl<|.z rfl rfl<|.nil<|sq_n<|.ret<|sq_r<|bq_r<|sq_r<|sq_r<|bq_r<|sq_r ?_
  obtain rfl:=sI hF
  refine Qaa ((hle6.trans hlo1).trans hle20) (.tmp rfl (.tmp rfl .nil)) rfl ?_
  exact ⟨_,rfl,RS.nil⟩
 have kh21:=dF h21
 have hF:=cF h21 hF
 refine .skip<|sq_n<|.seq<|.region rfl<|.z rfl rfl<|.nil<|sq_n<|.seq<|.seq<|.region rfl<|.z rfl rfl<|.nil<|sq_n<|.block<|.acc 17 111 ?_
 obtain ⟨o3,hF,hG3⟩:=bS hF
 refine .loopx (α:=L_r04_cases_3) [(1,_),(3,_),(5,_),(8,_),(9,_),(10,_),(11,_)] [_,_,_,_] (fun fx x=>(12,x.v3_2) :: (13,.i .i64 (x.k3_5:Int)) :: fx) (fun mx x=>[.acc x.v3_2 17 x.cs3_3 111,rg mx 0,rg mx 1,rg mx 2,rg mx 3]) (fun x g'=>AccR R_Case 17 g' x.v3_2 x.cs3_3 x.d3_1∧Qby d1_1 q20 (((d1_1.length:Int) - (x.k3_5:Int)).toNat) x.d3_1 x.k3_5=some o3) (fun x=>((d1_1.length:Int) - (x.k3_5:Int)).toNat) (L_r04_cases_3.mk _ _ [] 0) ⟨rfl,rfl,rfl,rfl,rfl,rfl,rfl,rfl,rfl,trivial⟩ (List.Sublist.refl _) ⟨AccR.nil,hF⟩ ?_
 intro x3 gl3 hlo3 hJ3
 obtain ⟨v3_2,cs3_3,d3_1,k3_5⟩:=x3
 try dsimp only at hJ3
 obtain ⟨ha3_4,hF⟩:=hJ3
 refine .al0 [(12,v3_2),(13,.i .i64 (k3_5:Int)),(1,_),(3,_),(5,_),(8,_),(9,_),(10,_),(11,_)] ?_
 replace hpq0:=hpq0.mono PutR.mono hlo3
 replace hlq0:=fun k hk=>(hlq0 k hk).mono PieceR.mono hlo3
 replace ha1_4:=ha1_4.mono R_Case.mono hlo3
 replace hw20_0_0:=hw20_0_0.mono IntR.mono hlo3
 replace hw20_1_0:=hw20_1_0.mono RngR.mono hlo3
 have lha3_4:=ha3_4.le
 refine .seq<|.seq<|.region rfl<|.m rfl rfl<|.m rfl rfl<|.q (.lenA rfl rfl rfl e_56 (by decide) ha1_4)<|.b rfl rfl rfl rfl<|.nil<|sq_n<|.cond rfl (fun h23=>?_) (fun h23=>?_)
 ·have kh23:=dT h23
  have em3:((d1_1.length:Int) - (k3_5:Int)).toNat=((d1_1.length:Int) - ((k3_5+1:Nat):Int)).toNat+1:=by omega
  rw [em3,Qby] at hF
  refine .skip<|sq_n<|.seq<|.block<|.seq<|.region rfl<|.z rfl rfl<|.nil<|sq_n<|.block ?_
  obtain ⟨o4,hF,hG4⟩:=bS hF
  refine .loopx (α:=L_r04_cases_4) [(1,_),(3,_),(5,_),(8,_),(9,_),(10,_),(11,_),(13,_)] [_,_,_,_] (fun fx x=>(12,x.v4_2) :: (14,.i .i64 (x.k4_5:Int)) :: fx) (fun mx x=>[.acc x.v4_2 17 x.cs4_3 111,rg mx 0,rg mx 1,rg mx 2,rg mx 3]) (fun x g'=>AccR R_Case 17 g' x.v4_2 x.cs4_3 x.d4_1∧x.k4_5≤q20.1.length∧Qcc d1_1 q20 k3_5 (q20.1.drop x.k4_5) x.d4_1 x.k4_5=some o4) (fun x=>q20.1.length - x.k4_5) (L_r04_cases_4.mk _ _ d3_1 0) ⟨rfl,rfl,rfl,rfl,rfl,rfl,rfl,rfl,rfl,rfl,trivial⟩ (List.Sublist.refl _) ⟨ha3_4,(by first | omega | (dsimp only;omega)),hF⟩ ?_
  intro x4 gl4 hlo4 hJ4
  obtain ⟨v4_2,cs4_3,d4_1,k4_5⟩:=x4
  try dsimp only at hJ4
  obtain ⟨ha4_4,hk4,hF⟩:=hJ4
  refine .al0 [(12,v4_2),(14,.i .i64 (k4_5:Int)),(1,_),(3,_),(5,_),(8,_),(9,_),(10,_),(11,_),(13,_)] ?_
  replace ha1_4:=ha1_4.mono R_Case.mono hlo4
  replace hw20_0_0:=hw20_0_0.mono IntR.mono hlo4
  replace hw20_1_0:=hw20_1_0.mono RngR.mono hlo4
  have lha4_4:=ha4_4.le
  refine .seq<|.seq<|.region rfl<|.m rfl rfl<|.m rfl rfl<|.q (.lenR rfl rfl rfl e_66 hw20_0_0)<|.b rfl rfl rfl rfl<|.nil<|sq_n<|.cond rfl (fun h24=>?_) (fun h24=>?_)
  ·have kh24:=dT h24
   obtain ⟨y4,hy4⟩:=getK (l:=q20.1) (k:=k4_5) kh24
   rw [dc hy4,Qcc] at hF
   refine .skip<|sq_n<|.seq<|.block<|.seq<|.region rfl<|.m rfl rfl<|.m rfl rfl ?_
   obtain ⟨y25,hy25,hF⟩:=bS hF
   have hj25:=Qez hy25
   have hy25:=Qej hy25
   refine .ixA .no rfl rfl ha1_4 rfl e_56 (by decide) hj25.1 hy25 ?_
   intro b25 n25 cs25 hv25 hc25 hd25 hr25
   obtain rfl:=hr25
   refine .w (.aa 0 (vs:=[_,_,_,_,_,_,_,_,_,_,_,_,_,_,_,_,_]) rfl (.tl (.acc hv25 rfl)) rfl hd25 hc25 (AccR.cellsLe ha1_4 hy25) a_111 s_111 rfl rfl)<|.alloc .no rfl z_111 fun b26=>.st (cs':=[_,_,_,_,_,_,_,_,_,_,_,_,_,_,_,_,_]) .no rfl rfl rfl rfl s_111 rfl rfl .hd rfl rfl<|.nil<|sq_n<|.seq<|.region rfl<|.m rfl rfl<|.m rfl rfl<|.m rfl rfl<|.ixk (j:=k4_5) .no rfl rfl hw20_0_0 rfl e_66 hy4 ?_
   rintro b27 o27 _ hq27 rfl
   refine .w (.ps 0 rfl hq27 rfl a_3 rfl)<|.q (.fa rfl Qfw)<|.q (.ixa (j:=1) rfl rfl ae_38 (by decide))<|.st (cs':=[_,_,_,_,_,_,_,_,_,_,_,_,_,_,_,_,_]) .no rfl rfl rfl rfl s_3 rfl rfl .hd rfl rfl<|.nil<|sq_n<|.seq<|.region rfl<|.m rfl rfl<|.m rfl rfl<|.m rfl rfl ?_
   obtain ⟨y28,hy28,hF⟩:=bS hF
   have hj28:=Qaf hy28
   refine .ixk (j:=k4_5) .no rfl rfl hw20_1_0 rfl e_148 hy28 ?_
   rintro b28 o28 _ hq28 rfl
   refine .w (.pa 0 (vs:=[_,_]) rfl hq28 rfl a_27 s_27 rfl rfl)<|.q (.fa rfl Qef)<|.q (.ixa (j:=1) rfl rfl Qbp (by decide))<|.st (cs':=[_,_,_,_,_,_,_,_,_,_,_,_,_,_,_,_,_]) .no rfl rfl rfl rfl s_27 rfl rfl .hd rfl rfl<|.nil<|sq_n<|.region rfl<|.m rfl rfl<|.w (.a (vs:=[_,_,_,_,_,_,_,_,_,_,_,_,_,_,_,_,_]) rfl .hd a_111 s_111 rfl rfl)<|.bs .no rfl (qs:=[(0,_)]) (c:=[_,_,_,_,_,_,_,_,_,_,_,_,_,_,_,_,_]) rfl sl_56 Qgc (by decide) rfl fun b29=>?_
   obtain ⟨hl30,hF⟩:=ckS hF
   have hl30:=of_decide_eq_true hl30
   refine .x .no rfl (.appA (m:=1) (new:=[_,_,_,_,_,_,_,_,_,_,_,_,_,_,_,_,_]) rfl rfl rfl (.tl (.tl .hd)) sl_56 Qgc (.of rfl .sl sl_56 .hd (Nat.le_of_ble_eq_true rfl) rfl) (by decide) rfl (AccR.room (R:=R_Case) (ys:=[(T_Case.mk (arr [(y25.Pieces 0),y4,(y25.Pieces 2),(y25.Pieces 3),(y25.Pieces 4)] (y25.Pieces 0)) (arr [(y25.Litres 0),y28,(y25.Litres 2),(y25.Litres 3),(y25.Litres 4)] (y25.Litres 0)) y25.Tonnages)]) ha4_4 (Ls.cons (c:=[_,_,_,_,_,_,_,_,_,_,_,_,_,_,_,_,_]) rfl rfl .nil) hl30) rfl) fun v30=>.as (.tl (.tl .hd)) fun av30=>?_
   have ha30:=AccR.app (R:=R_Case) (g:=gl4) (ys:=[(T_Case.mk (arr [(y25.Pieces 0),y4,(y25.Pieces 2),(y25.Pieces 3),(y25.Pieces 4)] (y25.Pieces 0)) (arr [(y25.Litres 0),y28,(y25.Litres 2),(y25.Litres 3),(y25.Litres 4)] (y25.Litres 0)) y25.Tonnages)]) ha4_4 (Ls.cons (c:=[_,_,_,_,_,_,_,_,_,_,_,_,_,_,_,_,_]) rfl rfl .nil) hl30 av30
   have lha30:=ha30.le
   refine .z rfl rfl<|.nil<|bq_n<|sq_n<|.region rfl<|.m rfl rfl<|.q (.inc1 rfl rfl (by omega))<|.z rfl rfl<|.nil<|Qac (L_r04_cases_4.mk _ _ (d4_1 ++ [(T_Case.mk (arr [(y25.Pieces 0),y4,(y25.Pieces 2),(y25.Pieces 3),(y25.Pieces 4)] (y25.Pieces 0)) (arr [(y25.Litres 0),y28,(y25.Litres 2),(y25.Litres 3),(y25.Litres 4)] (y25.Litres 0)) y25.Tonnages)]) (k4_5+1)) ⟨rfl,rfl,rfl,rfl,rfl,rfl,rfl,rfl,rfl,rfl,trivial⟩ (.cons _ (.cons _ (List.Sublist.refl _))) (Le.refl _) ?_ ?_
   ·exact ⟨ha30,(Qaf hy4),hF⟩
   ·simp only;omega
  have kh24:=dF h24
  rw [dn (by omega),Qcc] at hF
  obtain rfl:=sI hF
  have hF:=hG4
  refine .exit<|sq_e<|lq_e<|bq_x rfl<|bq_n<|sq_n<|.region rfl<|.m rfl rfl<|.q (.inc1 rfl rfl (by omega))<|.z rfl rfl<|.nil<|Qac (L_r04_cases_3.mk _ _ d4_1 (k3_5+1)) ⟨rfl,rfl,rfl,rfl,rfl,rfl,rfl,rfl,rfl,trivial⟩ (List.Sublist.refl _) hlo4 ?_ ?_
  ·exact ⟨ha4_4,hF⟩
  ·simp only;omega
 have kh23:=dF h23
 have em3:((d1_1.length:Int) - (k3_5:Int)).toNat=0:=by omega
 rw [em3,Qby] at hF
 obtain rfl:=sI hF
 have hF:=hG3
 refine .exit<|sq_e<|lq_e<|bq_x rfl<|sq_n<|.region rfl<|.m rfl rfl<|.z rfl rfl<|.nil<|bq_n<|sq_n<|.region rfl<|.m rfl rfl<|.q (.addL (c:=2) rfl rfl rfl (by decide))<|.z rfl rfl<|.nil<|sq_n<|.unroll<|.seq<|.seq<|.region rfl<|.m rfl rfl<|.b rfl rfl rfl rfl<|.nil<|sq_n<|.condT rfl (by decide)<|.skip<|sq_n<|.seq<|.block<|.seq<|.draw (tb:=[r0 0 0,r0 0 0,r0 0 0,r0 5 0,r0 15 0,r0 31 0,r0 0 0,r0 64 0,r0 192 0,r1 511 0,r1 1023 1,r1 2047 1,r1 2047 1,r1 4095 1,r1 16383 1]) rfl (by kernel_rfl) (by kernel_rfl) ?_
 refine .m rfl rfl<|.m rfl rfl<|.q (.fa rfl Qaj)<|.q (.ixai rfl rfl ae_95 hsy4)<|.q (.ixa (j:=2) rfl rfl ae_94 (by decide))<|.ldc (k:=0) (Φ:=fun w31_0=>RS PieceR 3 gl3 w31_0 (arr [(p0.ln 2),(p0.ln 7)] (p0.ln 2) p1.toNat)) .no rfl rfl rfl trivial (sym2 hsy4 (fun e=>⟨_,.sO (o':=4) rfl (by rw [e];try rfl) (.tl (.tl (.tl (.tl .hd)))) a_93 rfl,by rw [e];exact (hlq0 2 (by decide))⟩) (fun e=>⟨_,.sO (o':=9) rfl (by rw [e];try rfl) (.tl (.tl (.tl (.tl .hd)))) a_93 rfl,by rw [e];exact (hlq0 7 (by decide))⟩)) fun v31 hv31=>?_
 have lhv31:=hv31.1
 refine .m rfl rfl<|.q (.ixa (j:=2) rfl rfl Qbp (by decide))<|.y rfl rfl rfl (.a (vs:=[_,_]) rfl (.tl (.tl (.tl .hd))) a_27 s_27 rfl rfl) ?_
 obtain ⟨q32,hq32,hF⟩:=bS hF
 refine .call .no rfl rfl rfl rfl rfl (Qdi (arr [(p0.ln 2),(p0.ln 7)] (p0.ln 2) p1.toNat) (p2 2) _ _ hv31 _ hq32) ?_
 rintro g32 ml32 r32 hle32 ⟨rfl,w32_0_0,w32_1_0,rfl,hw32_0_0,hw32_1_0⟩
 replace hpq0:=hpq0.mono PutR.mono hle32
 replace hlq0:=fun k hk=>(hlq0 k hk).mono PieceR.mono hle32
 replace ha3_4:=ha3_4.mono R_Case.mono hle32
 have lhw32_0_0:=hw32_0_0.1
 have lhw32_1_0:=hw32_1_0.1
 refine .m rfl rfl<|.q (.ext rfl rfl)<|.q (.ext rfl rfl)<|.z rfl rfl<|.z rfl rfl<|.nil<|sq_n<|.seq<|.seq<|.region rfl<|.m rfl rfl<|.q (.lenA rfl rfl rfl e_56 (by decide) ha3_4)<|.m rfl rfl<|.q (.lenR rfl rfl rfl e_66 hw32_0_0)<|.b rfl rfl rfl rfl<|.b rfl rfl rfl rfl<|.nil<|sq_n<|.cond rfl (fun h33=>?_) (fun h33=>?_)
 ·have hF:=cT h33 hF
  refine .seq<|.region rfl<|.z rfl rfl<|.z rfl rfl<|.nil<|sq_n<|.ret<|sq_r<|bq_r<|sq_r<|sq_r<|bq_r<|sq_r ?_
  obtain rfl:=sI hF
  refine Qaa ((((hle6.trans hlo1).trans hle20).trans hlo3).trans hle32) (.tmp rfl (.tmp rfl .nil)) rfl ?_
  exact ⟨_,rfl,RS.nil⟩
 have kh33:=dF h33
 have hF:=cF h33 hF
 refine .skip<|sq_n<|.seq<|.region rfl<|.z rfl rfl<|.nil<|sq_n<|.seq<|.seq<|.region rfl<|.z rfl rfl<|.nil<|sq_n<|.block<|.acc 17 111 ?_
 obtain ⟨o5,hF,hG5⟩:=bS hF
 refine .loopx (α:=L_r04_cases_5) [(1,_),(3,_),(5,_),(8,_),(9,_),(10,_),(11,_)] [_,_,_,_,_] (fun fx x=>(12,x.v5_2) :: (13,.i .i64 (x.k5_5:Int)) :: fx) (fun mx x=>[.acc x.v5_2 17 x.cs5_3 111,rg mx 0,rg mx 1,rg mx 2,rg mx 3,rg mx 4]) (fun x g'=>AccR R_Case 17 g' x.v5_2 x.cs5_3 x.d5_1∧Qca d3_1 q32 (((d3_1.length:Int) - (x.k5_5:Int)).toNat) x.d5_1 x.k5_5=some o5) (fun x=>((d3_1.length:Int) - (x.k5_5:Int)).toNat) (L_r04_cases_5.mk _ _ [] 0) ⟨rfl,rfl,rfl,rfl,rfl,rfl,rfl,rfl,rfl,trivial⟩ (List.Sublist.refl _) ⟨AccR.nil,hF⟩ ?_
 intro x5 gl5 hlo5 hJ5
 obtain ⟨v5_2,cs5_3,d5_1,k5_5⟩:=x5
 try dsimp only at hJ5
 obtain ⟨ha5_4,hF⟩:=hJ5
 refine .al0 [(12,v5_2),(13,.i .i64 (k5_5:Int)),(1,_),(3,_),(5,_),(8,_),(9,_),(10,_),(11,_)] ?_
 replace hpq0:=hpq0.mono PutR.mono hlo5
 replace hlq0:=fun k hk=>(hlq0 k hk).mono PieceR.mono hlo5
 replace ha3_4:=ha3_4.mono R_Case.mono hlo5
 replace hw32_0_0:=hw32_0_0.mono IntR.mono hlo5
 replace hw32_1_0:=hw32_1_0.mono RngR.mono hlo5
 have lha5_4:=ha5_4.le
 refine .seq<|.seq<|.region rfl<|.m rfl rfl<|.m rfl rfl<|.q (.lenA rfl rfl rfl e_56 (by decide) ha3_4)<|.b rfl rfl rfl rfl<|.nil<|sq_n<|.cond rfl (fun h35=>?_) (fun h35=>?_)
 ·have kh35:=dT h35
  have em5:((d3_1.length:Int) - (k5_5:Int)).toNat=((d3_1.length:Int) - ((k5_5+1:Nat):Int)).toNat+1:=by omega
  rw [em5,Qca] at hF
  refine .skip<|sq_n<|.seq<|.block<|.seq<|.region rfl<|.z rfl rfl<|.nil<|sq_n<|.block ?_
  obtain ⟨o6,hF,hG6⟩:=bS hF
  refine .loopx (α:=L_r04_cases_6) [(1,_),(3,_),(5,_),(8,_),(9,_),(10,_),(11,_),(13,_)] [_,_,_,_,_] (fun fx x=>(12,x.v6_2) :: (14,.i .i64 (x.k6_5:Int)) :: fx) (fun mx x=>[.acc x.v6_2 17 x.cs6_3 111,rg mx 0,rg mx 1,rg mx 2,rg mx 3,rg mx 4]) (fun x g'=>AccR R_Case 17 g' x.v6_2 x.cs6_3 x.d6_1∧x.k6_5≤q32.1.length∧Qcb d3_1 q32 k5_5 (q32.1.drop x.k6_5) x.d6_1 x.k6_5=some o6) (fun x=>q32.1.length - x.k6_5) (L_r04_cases_6.mk _ _ d5_1 0) ⟨rfl,rfl,rfl,rfl,rfl,rfl,rfl,rfl,rfl,rfl,trivial⟩ (List.Sublist.refl _) ⟨ha5_4,(by first | omega | (dsimp only;omega)),hF⟩ ?_
  intro x6 gl6 hlo6 hJ6
  obtain ⟨v6_2,cs6_3,d6_1,k6_5⟩:=x6
  try dsimp only at hJ6
  obtain ⟨ha6_4,hk6,hF⟩:=hJ6
  refine .al0 [(12,v6_2),(14,.i .i64 (k6_5:Int)),(1,_),(3,_),(5,_),(8,_),(9,_),(10,_),(11,_),(13,_)] ?_
  replace ha3_4:=ha3_4.mono R_Case.mono hlo6
  replace hw32_0_0:=hw32_0_0.mono IntR.mono hlo6
  replace hw32_1_0:=hw32_1_0.mono RngR.mono hlo6
  have lha6_4:=ha6_4.le
  refine .seq<|.seq<|.region rfl<|.m rfl rfl<|.m rfl rfl<|.q (.lenR rfl rfl rfl e_66 hw32_0_0)<|.b rfl rfl rfl rfl<|.nil<|sq_n<|.cond rfl (fun h36=>?_) (fun h36=>?_)
  ·have kh36:=dT h36
   obtain ⟨y6,hy6⟩:=getK (l:=q32.1) (k:=k6_5) kh36
   rw [dc hy6,Qcb] at hF
   refine .skip<|sq_n<|.seq<|.block<|.seq<|.region rfl<|.m rfl rfl<|.m rfl rfl ?_
   obtain ⟨y37,hy37,hF⟩:=bS hF
   have hj37:=Qez hy37
   have hy37:=Qej hy37
   refine .ixA .no rfl rfl ha3_4 rfl e_56 (by decide) hj37.1 hy37 ?_
   intro b37 n37 cs37 hv37 hc37 hd37 hr37
   obtain rfl:=hr37
   refine .w (.aa 0 (vs:=[_,_,_,_,_,_,_,_,_,_,_,_,_,_,_,_,_]) rfl (.tl (.acc hv37 rfl)) rfl hd37 hc37 (AccR.cellsLe ha3_4 hy37) a_111 s_111 rfl rfl)<|.alloc .no rfl z_111 fun b38=>.st (cs':=[_,_,_,_,_,_,_,_,_,_,_,_,_,_,_,_,_]) .no rfl rfl rfl rfl s_111 rfl rfl .hd rfl rfl<|.nil<|sq_n<|.seq<|.region rfl<|.m rfl rfl<|.m rfl rfl<|.m rfl rfl<|.ixk (j:=k6_5) .no rfl rfl hw32_0_0 rfl e_66 hy6 ?_
   rintro b39 o39 _ hq39 rfl
   refine .w (.ps 0 rfl hq39 rfl a_3 rfl)<|.q (.fa rfl Qfw)<|.q (.ixa (j:=2) rfl rfl ae_38 (by decide))<|.st (cs':=[_,_,_,_,_,_,_,_,_,_,_,_,_,_,_,_,_]) .no rfl rfl rfl rfl s_3 rfl rfl .hd rfl rfl<|.nil<|sq_n<|.seq<|.region rfl<|.m rfl rfl<|.m rfl rfl<|.m rfl rfl ?_
   obtain ⟨y40,hy40,hF⟩:=bS hF
   have hj40:=Qaf hy40
   refine .ixk (j:=k6_5) .no rfl rfl hw32_1_0 rfl e_148 hy40 ?_
   rintro b40 o40 _ hq40 rfl
   refine .w (.pa 0 (vs:=[_,_]) rfl hq40 rfl a_27 s_27 rfl rfl)<|.q (.fa rfl Qef)<|.q (.ixa (j:=2) rfl rfl Qbp (by decide))<|.st (cs':=[_,_,_,_,_,_,_,_,_,_,_,_,_,_,_,_,_]) .no rfl rfl rfl rfl s_27 rfl rfl .hd rfl rfl<|.nil<|sq_n<|.region rfl<|.m rfl rfl<|.w (.a (vs:=[_,_,_,_,_,_,_,_,_,_,_,_,_,_,_,_,_]) rfl .hd a_111 s_111 rfl rfl)<|.bs .no rfl (qs:=[(0,_)]) (c:=[_,_,_,_,_,_,_,_,_,_,_,_,_,_,_,_,_]) rfl sl_56 Qgc (by decide) rfl fun b41=>?_
   obtain ⟨hl42,hF⟩:=ckS hF
   have hl42:=of_decide_eq_true hl42
   refine .x .no rfl (.appA (m:=1) (new:=[_,_,_,_,_,_,_,_,_,_,_,_,_,_,_,_,_]) rfl rfl rfl (.tl (.tl .hd)) sl_56 Qgc (.of rfl .sl sl_56 .hd (Nat.le_of_ble_eq_true rfl) rfl) (by decide) rfl (AccR.room (R:=R_Case) (ys:=[(T_Case.mk (arr [(y37.Pieces 0),(y37.Pieces 1),y6,(y37.Pieces 3),(y37.Pieces 4)] (y37.Pieces 0)) (arr [(y37.Litres 0),(y37.Litres 1),y40,(y37.Litres 3),(y37.Litres 4)] (y37.Litres 0)) y37.Tonnages)]) ha6_4 (Ls.cons (c:=[_,_,_,_,_,_,_,_,_,_,_,_,_,_,_,_,_]) rfl rfl .nil) hl42) rfl) fun v42=>.as (.tl (.tl .hd)) fun av42=>?_
   have ha42:=AccR.app (R:=R_Case) (g:=gl6) (ys:=[(T_Case.mk (arr [(y37.Pieces 0),(y37.Pieces 1),y6,(y37.Pieces 3),(y37.Pieces 4)] (y37.Pieces 0)) (arr [(y37.Litres 0),(y37.Litres 1),y40,(y37.Litres 3),(y37.Litres 4)] (y37.Litres 0)) y37.Tonnages)]) ha6_4 (Ls.cons (c:=[_,_,_,_,_,_,_,_,_,_,_,_,_,_,_,_,_]) rfl rfl .nil) hl42 av42
   have lha42:=ha42.le
   refine .z rfl rfl<|.nil<|bq_n<|sq_n<|.region rfl<|.m rfl rfl<|.q (.inc1 rfl rfl (by omega))<|.z rfl rfl<|.nil<|Qac (L_r04_cases_6.mk _ _ (d6_1 ++ [(T_Case.mk (arr [(y37.Pieces 0),(y37.Pieces 1),y6,(y37.Pieces 3),(y37.Pieces 4)] (y37.Pieces 0)) (arr [(y37.Litres 0),(y37.Litres 1),y40,(y37.Litres 3),(y37.Litres 4)] (y37.Litres 0)) y37.Tonnages)]) (k6_5+1)) ⟨rfl,rfl,rfl,rfl,rfl,rfl,rfl,rfl,rfl,rfl,trivial⟩ (.cons _ (.cons _ (List.Sublist.refl _))) (Le.refl _) ?_ ?_
   ·exact ⟨ha42,(Qaf hy6),hF⟩
   ·simp only;omega
  have kh36:=dF h36
  rw [dn (by omega),Qcb] at hF
  obtain rfl:=sI hF
  have hF:=hG6
  refine .exit<|sq_e<|lq_e<|bq_x rfl<|bq_n<|sq_n<|.region rfl<|.m rfl rfl<|.q (.inc1 rfl rfl (by omega))<|.z rfl rfl<|.nil<|Qac (L_r04_cases_5.mk _ _ d6_1 (k5_5+1)) ⟨rfl,rfl,rfl,rfl,rfl,rfl,rfl,rfl,rfl,trivial⟩ (List.Sublist.refl _) hlo6 ?_ ?_
  ·exact ⟨ha6_4,hF⟩
  ·simp only;omega
 have kh35:=dF h35
 have em5:((d3_1.length:Int) - (k5_5:Int)).toNat=0:=by omega
 rw [em5,Qca] at hF
 obtain rfl:=sI hF
 have hF:=hG5
 refine .exit<|sq_e<|lq_e<|bq_x rfl<|sq_n<|.region rfl<|.m rfl rfl<|.z rfl rfl<|.nil<|bq_n<|sq_n<|.region rfl<|.m rfl rfl<|.q (.addL (c:=3) rfl rfl rfl (by decide))<|.z rfl rfl<|.nil<|sq_n<|.unroll<|.seq<|.seq<|.region rfl<|.m rfl rfl<|.b rfl rfl rfl rfl<|.nil<|sq_n<|.condT rfl (by decide)<|.skip<|sq_n<|.seq<|.block<|.seq<|.draw (tb:=[r0 0 0,r0 0 0,r0 0 0,r0 5 0,r0 15 0,r0 31 0,r0 0 0,r0 64 0,r0 192 0,r1 511 0,r1 1023 1,r1 2047 1,r1 2047 1,r1 4095 1,r1 16383 1]) rfl (by kernel_rfl) (by kernel_rfl) ?_
 refine .m rfl rfl<|.m rfl rfl<|.q (.fa rfl Qaj)<|.q (.ixai rfl rfl ae_95 hsy4)<|.q (.ixa (j:=3) rfl rfl ae_94 (by decide))<|.ldc (k:=0) (Φ:=fun w43_0=>RS PieceR 3 gl5 w43_0 (arr [(p0.ln 3),(p0.ln 8)] (p0.ln 3) p1.toNat)) .no rfl rfl rfl trivial (sym2 hsy4 (fun e=>⟨_,.sO (o':=5) rfl (by rw [e];try rfl) (.tl (.tl (.tl (.tl (.tl .hd))))) a_93 rfl,by rw [e];exact (hlq0 3 (by decide))⟩) (fun e=>⟨_,.sO (o':=10) rfl (by rw [e];try rfl) (.tl (.tl (.tl (.tl (.tl .hd))))) a_93 rfl,by rw [e];exact (hlq0 8 (by decide))⟩)) fun v43 hv43=>?_
 have lhv43:=hv43.1
 refine .m rfl rfl<|.q (.ixa (j:=3) rfl rfl Qbp (by decide))<|.y rfl rfl rfl (.a (vs:=[_,_]) rfl (.tl (.tl (.tl (.tl .hd)))) a_27 s_27 rfl rfl) ?_
 obtain ⟨q44,hq44,hF⟩:=bS hF
 refine .call .no rfl rfl rfl rfl rfl (Qdi (arr [(p0.ln 3),(p0.ln 8)] (p0.ln 3) p1.toNat) (p2 3) _ _ hv43 _ hq44) ?_
 rintro g44 ml44 r44 hle44 ⟨rfl,w44_0_0,w44_1_0,rfl,hw44_0_0,hw44_1_0⟩
 replace hpq0:=hpq0.mono PutR.mono hle44
 replace hlq0:=fun k hk=>(hlq0 k hk).mono PieceR.mono hle44
 replace ha5_4:=ha5_4.mono R_Case.mono hle44
 have lhw44_0_0:=hw44_0_0.1
 have lhw44_1_0:=hw44_1_0.1
 refine .m rfl rfl<|.q (.ext rfl rfl)<|.q (.ext rfl rfl)<|.z rfl rfl<|.z rfl rfl<|.nil<|sq_n<|.seq<|.seq<|.region rfl<|.m rfl rfl<|.q (.lenA rfl rfl rfl e_56 (by decide) ha5_4)<|.m rfl rfl<|.q (.lenR rfl rfl rfl e_66 hw44_0_0)<|.b rfl rfl rfl rfl<|.b rfl rfl rfl rfl<|.nil<|sq_n<|.cond rfl (fun h45=>?_) (fun h45=>?_)
 ·have hF:=cT h45 hF
  refine .seq<|.region rfl<|.z rfl rfl<|.z rfl rfl<|.nil<|sq_n<|.ret<|sq_r<|bq_r<|sq_r<|sq_r<|bq_r<|sq_r ?_
  obtain rfl:=sI hF
  refine Qaa ((((((hle6.trans hlo1).trans hle20).trans hlo3).trans hle32).trans hlo5).trans hle44) (.tmp rfl (.tmp rfl .nil)) rfl ?_
  exact ⟨_,rfl,RS.nil⟩
 have kh45:=dF h45
 have hF:=cF h45 hF
 refine .skip<|sq_n<|.seq<|.region rfl<|.z rfl rfl<|.nil<|sq_n<|.seq<|.seq<|.region rfl<|.z rfl rfl<|.nil<|sq_n<|.block<|.acc 17 111 ?_
 obtain ⟨o7,hF,hG7⟩:=bS hF
 refine .loopx (α:=L_r04_cases_7) [(1,_),(3,_),(5,_),(8,_),(9,_),(10,_),(11,_)] [_,_,_,_,_,_] (fun fx x=>(12,x.v7_2) :: (13,.i .i64 (x.k7_5:Int)) :: fx) (fun mx x=>[.acc x.v7_2 17 x.cs7_3 111,rg mx 0,rg mx 1,rg mx 2,rg mx 3,rg mx 4,rg mx 5]) (fun x g'=>AccR R_Case 17 g' x.v7_2 x.cs7_3 x.d7_1∧Qcd d5_1 q44 (((d5_1.length:Int) - (x.k7_5:Int)).toNat) x.d7_1 x.k7_5=some o7) (fun x=>((d5_1.length:Int) - (x.k7_5:Int)).toNat) (L_r04_cases_7.mk _ _ [] 0) ⟨rfl,rfl,rfl,rfl,rfl,rfl,rfl,rfl,rfl,trivial⟩ (List.Sublist.refl _) ⟨AccR.nil,hF⟩ ?_
 intro x7 gl7 hlo7 hJ7
 obtain ⟨v7_2,cs7_3,d7_1,k7_5⟩:=x7
 try dsimp only at hJ7
 obtain ⟨ha7_4,hF⟩:=hJ7
 refine .al0 [(12,v7_2),(13,.i .i64 (k7_5:Int)),(1,_),(3,_),(5,_),(8,_),(9,_),(10,_),(11,_)] ?_
 replace hpq0:=hpq0.mono PutR.mono hlo7
 replace hlq0:=fun k hk=>(hlq0 k hk).mono PieceR.mono hlo7
 replace ha5_4:=ha5_4.mono R_Case.mono hlo7
 replace hw44_0_0:=hw44_0_0.mono IntR.mono hlo7
 replace hw44_1_0:=hw44_1_0.mono RngR.mono hlo7
 have lha7_4:=ha7_4.le
 refine .seq<|.seq<|.region rfl<|.m rfl rfl<|.m rfl rfl<|.q (.lenA rfl rfl rfl e_56 (by decide) ha5_4)<|.b rfl rfl rfl rfl<|.nil<|sq_n<|.cond rfl (fun h47=>?_) (fun h47=>?_)
 ·have kh47:=dT h47
  have em7:((d5_1.length:Int) - (k7_5:Int)).toNat=((d5_1.length:Int) - ((k7_5+1:Nat):Int)).toNat+1:=by omega
  rw [em7,Qcd] at hF
  refine .skip<|sq_n<|.seq<|.block<|.seq<|.region rfl<|.z rfl rfl<|.nil<|sq_n<|.block ?_
  obtain ⟨o8,hF,hG8⟩:=bS hF
  refine .loopx (α:=L_r04_cases_8) [(1,_),(3,_),(5,_),(8,_),(9,_),(10,_),(11,_),(13,_)] [_,_,_,_,_,_] (fun fx x=>(12,x.v8_2) :: (14,.i .i64 (x.k8_5:Int)) :: fx) (fun mx x=>[.acc x.v8_2 17 x.cs8_3 111,rg mx 0,rg mx 1,rg mx 2,rg mx 3,rg mx 4,rg mx 5]) (fun x g'=>AccR R_Case 17 g' x.v8_2 x.cs8_3 x.d8_1∧x.k8_5≤q44.1.length∧Qbz d5_1 q44 k7_5 (q44.1.drop x.k8_5) x.d8_1 x.k8_5=some o8) (fun x=>q44.1.length - x.k8_5) (L_r04_cases_8.mk _ _ d7_1 0) ⟨rfl,rfl,rfl,rfl,rfl,rfl,rfl,rfl,rfl,rfl,trivial⟩ (List.Sublist.refl _) ⟨ha7_4,(by first | omega | (dsimp only;omega)),hF⟩ ?_
  intro x8 gl8 hlo8 hJ8
  obtain ⟨v8_2,cs8_3,d8_1,k8_5⟩:=x8
  try dsimp only at hJ8
  obtain ⟨ha8_4,hk8,hF⟩:=hJ8
  refine .al0 [(12,v8_2),(14,.i .i64 (k8_5:Int)),(1,_),(3,_),(5,_),(8,_),(9,_),(10,_),(11,_),(13,_)] ?_
  replace ha5_4:=ha5_4.mono R_Case.mono hlo8
  replace hw44_0_0:=hw44_0_0.mono IntR.mono hlo8
  replace hw44_1_0:=hw44_1_0.mono RngR.mono hlo8
  have lha8_4:=ha8_4.le
  refine .seq<|.seq<|.region rfl<|.m rfl rfl<|.m rfl rfl<|.q (.lenR rfl rfl rfl e_66 hw44_0_0)<|.b rfl rfl rfl rfl<|.nil<|sq_n<|.cond rfl (fun h48=>?_) (fun h48=>?_)
  ·have kh48:=dT h48
   obtain ⟨y8,hy8⟩:=getK (l:=q44.1) (k:=k8_5) kh48
   rw [dc hy8,Qbz] at hF
   refine .skip<|sq_n<|.seq<|.block<|.seq<|.region rfl<|.m rfl rfl<|.m rfl rfl ?_
   obtain ⟨y49,hy49,hF⟩:=bS hF
   have hj49:=Qez hy49
   have hy49:=Qej hy49
   refine .ixA .no rfl rfl ha5_4 rfl e_56 (by decide) hj49.1 hy49 ?_
   intro b49 n49 cs49 hv49 hc49 hd49 hr49
   obtain rfl:=hr49
   refine .w (.aa 0 (vs:=[_,_,_,_,_,_,_,_,_,_,_,_,_,_,_,_,_]) rfl (.tl (.acc hv49 rfl)) rfl hd49 hc49 (AccR.cellsLe ha5_4 hy49) a_111 s_111 rfl rfl)<|.alloc .no rfl z_111 fun b50=>.st (cs':=[_,_,_,_,_,_,_,_,_,_,_,_,_,_,_,_,_]) .no rfl rfl rfl rfl s_111 rfl rfl .hd rfl rfl<|.nil<|sq_n<|.seq<|.region rfl<|.m rfl rfl<|.m rfl rfl<|.m rfl rfl<|.ixk (j:=k8_5) .no rfl rfl hw44_0_0 rfl e_66 hy8 ?_
   rintro b51 o51 _ hq51 rfl
   refine .w (.ps 0 rfl hq51 rfl a_3 rfl)<|.q (.fa rfl Qfw)<|.q (.ixa (j:=3) rfl rfl ae_38 (by decide))<|.st (cs':=[_,_,_,_,_,_,_,_,_,_,_,_,_,_,_,_,_]) .no rfl rfl rfl rfl s_3 rfl rfl .hd rfl rfl<|.nil<|sq_n<|.seq<|.region rfl<|.m rfl rfl<|.m rfl rfl<|.m rfl rfl ?_
   obtain ⟨y52,hy52,hF⟩:=bS hF
   have hj52:=Qaf hy52
   refine .ixk (j:=k8_5) .no rfl rfl hw44_1_0 rfl e_148 hy52 ?_
   rintro b52 o52 _ hq52 rfl
   refine .w (.pa 0 (vs:=[_,_]) rfl hq52 rfl a_27 s_27 rfl rfl)<|.q (.fa rfl Qef)<|.q (.ixa (j:=3) rfl rfl Qbp (by decide))<|.st (cs':=[_,_,_,_,_,_,_,_,_,_,_,_,_,_,_,_,_]) .no rfl rfl rfl rfl s_27 rfl rfl .hd rfl rfl<|.nil<|sq_n<|.region rfl<|.m rfl rfl<|.w (.a (vs:=[_,_,_,_,_,_,_,_,_,_,_,_,_,_,_,_,_]) rfl .hd a_111 s_111 rfl rfl)<|.bs .no rfl (qs:=[(0,_)]) (c:=[_,_,_,_,_,_,_,_,_,_,_,_,_,_,_,_,_]) rfl sl_56 Qgc (by decide) rfl fun b53=>?_
   obtain ⟨hl54,hF⟩:=ckS hF
   have hl54:=of_decide_eq_true hl54
   refine .x .no rfl (.appA (m:=1) (new:=[_,_,_,_,_,_,_,_,_,_,_,_,_,_,_,_,_]) rfl rfl rfl (.tl (.tl .hd)) sl_56 Qgc (.of rfl .sl sl_56 .hd (Nat.le_of_ble_eq_true rfl) rfl) (by decide) rfl (AccR.room (R:=R_Case) (ys:=[(T_Case.mk (arr [(y49.Pieces 0),(y49.Pieces 1),(y49.Pieces 2),y8,(y49.Pieces 4)] (y49.Pieces 0)) (arr [(y49.Litres 0),(y49.Litres 1),(y49.Litres 2),y52,(y49.Litres 4)] (y49.Litres 0)) y49.Tonnages)]) ha8_4 (Ls.cons (c:=[_,_,_,_,_,_,_,_,_,_,_,_,_,_,_,_,_]) rfl rfl .nil) hl54) rfl) fun v54=>.as (.tl (.tl .hd)) fun av54=>?_
   have ha54:=AccR.app (R:=R_Case) (g:=gl8) (ys:=[(T_Case.mk (arr [(y49.Pieces 0),(y49.Pieces 1),(y49.Pieces 2),y8,(y49.Pieces 4)] (y49.Pieces 0)) (arr [(y49.Litres 0),(y49.Litres 1),(y49.Litres 2),y52,(y49.Litres 4)] (y49.Litres 0)) y49.Tonnages)]) ha8_4 (Ls.cons (c:=[_,_,_,_,_,_,_,_,_,_,_,_,_,_,_,_,_]) rfl rfl .nil) hl54 av54
   have lha54:=ha54.le
   refine .z rfl rfl<|.nil<|bq_n<|sq_n<|.region rfl<|.m rfl rfl<|.q (.inc1 rfl rfl (by omega))<|.z rfl rfl<|.nil<|Qac (L_r04_cases_8.mk _ _ (d8_1 ++ [(T_Case.mk (arr [(y49.Pieces 0),(y49.Pieces 1),(y49.Pieces 2),y8,(y49.Pieces 4)] (y49.Pieces 0)) (arr [(y49.Litres 0),(y49.Litres 1),(y49.Litres 2),y52,(y49.Litres 4)] (y49.Litres 0)) y49.Tonnages)]) (k8_5+1)) ⟨rfl,rfl,rfl,rfl,rfl,rfl,rfl,rfl,rfl,rfl,trivial⟩ (.cons _ (.cons _ (List.Sublist.refl _))) (Le.refl _) ?_ ?_
   ·exact ⟨ha54,(Qaf hy8),hF⟩
   ·simp only;omega
  have kh48:=dF h48
  rw [dn (by omega),Qbz] at hF
  obtain rfl:=sI hF
  have hF:=hG8
  refine .exit<|sq_e<|lq_e<|bq_x rfl<|bq_n<|sq_n<|.region rfl<|.m rfl rfl<|.q (.inc1 rfl rfl (by omega))<|.z rfl rfl<|.nil<|Qac (L_r04_cases_7.mk _ _ d8_1 (k7_5+1)) ⟨rfl,rfl,rfl,rfl,rfl,rfl,rfl,rfl,rfl,trivial⟩ (List.Sublist.refl _) hlo8 ?_ ?_
  ·exact ⟨ha8_4,hF⟩
  ·simp only;omega
 have kh47:=dF h47
 have em7:((d5_1.length:Int) - (k7_5:Int)).toNat=0:=by omega
 rw [em7,Qcd] at hF
 obtain rfl:=sI hF
 have hF:=hG7
 refine .exit<|sq_e<|lq_e<|bq_x rfl<|sq_n<|.region rfl<|.m rfl rfl<|.z rfl rfl<|.nil<|bq_n<|sq_n<|.region rfl<|.m rfl rfl<|.q (.addL (c:=4) rfl rfl rfl (by decide))<|.z rfl rfl<|.nil<|sq_n<|.unroll<|.seq<|.seq<|.region rfl<|.m rfl rfl<|.b rfl rfl rfl rfl<|.nil<|sq_n<|.condT rfl (by decide)<|.skip<|sq_n<|.seq<|.block<|.seq<|.draw (tb:=[r0 0 0,r0 0 0,r0 0 0,r0 5 0,r0 15 0,r0 31 0,r0 0 0,r0 64 0,r0 192 0,r1 511 0,r1 1023 1,r1 2047 1,r1 2047 1,r1 4095 1,r1 16383 1]) rfl (by kernel_rfl) (by kernel_rfl) ?_
 refine .m rfl rfl<|.m rfl rfl<|.q (.fa rfl Qaj)<|.q (.ixai rfl rfl ae_95 hsy4)<|.q (.ixa (j:=4) rfl rfl ae_94 (by decide))<|.ldc (k:=0) (Φ:=fun w55_0=>RS PieceR 3 gl7 w55_0 (arr [(p0.ln 4),(p0.ln 9)] (p0.ln 4) p1.toNat)) .no rfl rfl rfl trivial (sym2 hsy4 (fun e=>⟨_,.sO (o':=6) rfl (by rw [e];try rfl) (.tl (.tl (.tl (.tl (.tl (.tl .hd)))))) a_93 rfl,by rw [e];exact (hlq0 4 (by decide))⟩) (fun e=>⟨_,.sO (o':=11) rfl (by rw [e];try rfl) (.tl (.tl (.tl (.tl (.tl (.tl .hd)))))) a_93 rfl,by rw [e];exact (hlq0 9 (by decide))⟩)) fun v55 hv55=>?_
 have lhv55:=hv55.1
 refine .m rfl rfl<|.q (.ixa (j:=4) rfl rfl Qbp (by decide))<|.y rfl rfl rfl (.a (vs:=[_,_]) rfl (.tl (.tl (.tl (.tl (.tl .hd))))) a_27 s_27 rfl rfl) ?_
 obtain ⟨q56,hq56,hF⟩:=bS hF
 refine .call .no rfl rfl rfl rfl rfl (Qdi (arr [(p0.ln 4),(p0.ln 9)] (p0.ln 4) p1.toNat) (p2 4) _ _ hv55 _ hq56) ?_
 rintro g56 ml56 r56 hle56 ⟨rfl,w56_0_0,w56_1_0,rfl,hw56_0_0,hw56_1_0⟩
 replace hpq0:=hpq0.mono PutR.mono hle56
 replace hlq0:=fun k hk=>(hlq0 k hk).mono PieceR.mono hle56
 replace ha7_4:=ha7_4.mono R_Case.mono hle56
 have lhw56_0_0:=hw56_0_0.1
 have lhw56_1_0:=hw56_1_0.1
 refine .m rfl rfl<|.q (.ext rfl rfl)<|.q (.ext rfl rfl)<|.z rfl rfl<|.z rfl rfl<|.nil<|sq_n<|.seq<|.seq<|.region rfl<|.m rfl rfl<|.q (.lenA rfl rfl rfl e_56 (by decide) ha7_4)<|.m rfl rfl<|.q (.lenR rfl rfl rfl e_66 hw56_0_0)<|.b rfl rfl rfl rfl<|.b rfl rfl rfl rfl<|.nil<|sq_n<|.cond rfl (fun h57=>?_) (fun h57=>?_)
 ·have hF:=cT h57 hF
  refine .seq<|.region rfl<|.z rfl rfl<|.z rfl rfl<|.nil<|sq_n<|.ret<|sq_r<|bq_r<|sq_r<|sq_r<|bq_r<|sq_r ?_
  obtain rfl:=sI hF
  refine Qaa ((((((((hle6.trans hlo1).trans hle20).trans hlo3).trans hle32).trans hlo5).trans hle44).trans hlo7).trans hle56) (.tmp rfl (.tmp rfl .nil)) rfl ?_
  exact ⟨_,rfl,RS.nil⟩
 have kh57:=dF h57
 have hF:=cF h57 hF
 refine .skip<|sq_n<|.seq<|.region rfl<|.z rfl rfl<|.nil<|sq_n<|.seq<|.seq<|.region rfl<|.z rfl rfl<|.nil<|sq_n<|.block<|.acc 17 111 ?_
 obtain ⟨o9,hF,hG9⟩:=bS hF
 refine .loopx (α:=L_r04_cases_9) [(1,_),(3,_),(5,_),(8,_),(9,_),(10,_),(11,_)] [_,_,_,_,_,_,_] (fun fx x=>(12,x.v9_2) :: (13,.i .i64 (x.k9_5:Int)) :: fx) (fun mx x=>[.acc x.v9_2 17 x.cs9_3 111,rg mx 0,rg mx 1,rg mx 2,rg mx 3,rg mx 4,rg mx 5,rg mx 6]) (fun x g'=>AccR R_Case 17 g' x.v9_2 x.cs9_3 x.d9_1∧Qc d7_1 q56 (((d7_1.length:Int) - (x.k9_5:Int)).toNat) x.d9_1 x.k9_5=some o9) (fun x=>((d7_1.length:Int) - (x.k9_5:Int)).toNat) (L_r04_cases_9.mk _ _ [] 0) ⟨rfl,rfl,rfl,rfl,rfl,rfl,rfl,rfl,rfl,trivial⟩ (List.Sublist.refl _) ⟨AccR.nil,hF⟩ ?_
 intro x9 gl9 hlo9 hJ9
 obtain ⟨v9_2,cs9_3,d9_1,k9_5⟩:=x9
 try dsimp only at hJ9
 obtain ⟨ha9_4,hF⟩:=hJ9
 refine .al0 [(12,v9_2),(13,.i .i64 (k9_5:Int)),(1,_),(3,_),(5,_),(8,_),(9,_),(10,_),(11,_)] ?_
 replace hpq0:=hpq0.mono PutR.mono hlo9
 replace hlq0:=fun k hk=>(hlq0 k hk).mono PieceR.mono hlo9
 replace ha7_4:=ha7_4.mono R_Case.mono hlo9
 replace hw56_0_0:=hw56_0_0.mono IntR.mono hlo9
 replace hw56_1_0:=hw56_1_0.mono RngR.mono hlo9
 have lha9_4:=ha9_4.le
 refine .seq<|.seq<|.region rfl<|.m rfl rfl<|.m rfl rfl<|.q (.lenA rfl rfl rfl e_56 (by decide) ha7_4)<|.b rfl rfl rfl rfl<|.nil<|sq_n<|.cond rfl (fun h59=>?_) (fun h59=>?_)
 ·have kh59:=dT h59
  have em9:((d7_1.length:Int) - (k9_5:Int)).toNat=((d7_1.length:Int) - ((k9_5+1:Nat):Int)).toNat+1:=by omega
  rw [em9,Qc] at hF
  refine .skip<|sq_n<|.seq<|.block<|.seq<|.region rfl<|.z rfl rfl<|.nil<|sq_n<|.block ?_
  obtain ⟨o10,hF,hG10⟩:=bS hF
  refine .loopx (α:=L_r04_cases_10) [(1,_),(3,_),(5,_),(8,_),(9,_),(10,_),(11,_),(13,_)] [_,_,_,_,_,_,_] (fun fx x=>(12,x.v10_2) :: (14,.i .i64 (x.k10_5:Int)) :: fx) (fun mx x=>[.acc x.v10_2 17 x.cs10_3 111,rg mx 0,rg mx 1,rg mx 2,rg mx 3,rg mx 4,rg mx 5,rg mx 6]) (fun x g'=>AccR R_Case 17 g' x.v10_2 x.cs10_3 x.d10_1∧x.k10_5≤q56.1.length∧Qbt d7_1 q56 k9_5 (q56.1.drop x.k10_5) x.d10_1 x.k10_5=some o10) (fun x=>q56.1.length - x.k10_5) (L_r04_cases_10.mk _ _ d9_1 0) ⟨rfl,rfl,rfl,rfl,rfl,rfl,rfl,rfl,rfl,rfl,trivial⟩ (List.Sublist.refl _) ⟨ha9_4,(by first | omega | (dsimp only;omega)),hF⟩ ?_
  intro x10 gl10 hlo10 hJ10
  obtain ⟨v10_2,cs10_3,d10_1,k10_5⟩:=x10
  try dsimp only at hJ10
  obtain ⟨ha10_4,hk10,hF⟩:=hJ10
  refine .al0 [(12,v10_2),(14,.i .i64 (k10_5:Int)),(1,_),(3,_),(5,_),(8,_),(9,_),(10,_),(11,_),(13,_)] ?_
  replace ha7_4:=ha7_4.mono R_Case.mono hlo10
  replace hw56_0_0:=hw56_0_0.mono IntR.mono hlo10
  replace hw56_1_0:=hw56_1_0.mono RngR.mono hlo10
  have lha10_4:=ha10_4.le
  refine .seq<|.seq<|.region rfl<|.m rfl rfl<|.m rfl rfl<|.q (.lenR rfl rfl rfl e_66 hw56_0_0)<|.b rfl rfl rfl rfl<|.nil<|sq_n<|.cond rfl (fun h60=>?_) (fun h60=>?_)
  ·have kh60:=dT h60
   obtain ⟨y10,hy10⟩:=getK (l:=q56.1) (k:=k10_5) kh60
   rw [dc hy10,Qbt] at hF
   refine .skip<|sq_n<|.seq<|.block<|.seq<|.region rfl<|.m rfl rfl<|.m rfl rfl ?_
   obtain ⟨y61,hy61,hF⟩:=bS hF
   have hj61:=Qez hy61
   have hy61:=Qej hy61
   refine .ixA .no rfl rfl ha7_4 rfl e_56 (by decide) hj61.1 hy61 ?_
   intro b61 n61 cs61 hv61 hc61 hd61 hr61
   obtain rfl:=hr61
   refine .w (.aa 0 (vs:=[_,_,_,_,_,_,_,_,_,_,_,_,_,_,_,_,_]) rfl (.tl (.acc hv61 rfl)) rfl hd61 hc61 (AccR.cellsLe ha7_4 hy61) a_111 s_111 rfl rfl)<|.alloc .no rfl z_111 fun b62=>.st (cs':=[_,_,_,_,_,_,_,_,_,_,_,_,_,_,_,_,_]) .no rfl rfl rfl rfl s_111 rfl rfl .hd rfl rfl<|.nil<|sq_n<|.seq<|.region rfl<|.m rfl rfl<|.m rfl rfl<|.m rfl rfl<|.ixk (j:=k10_5) .no rfl rfl hw56_0_0 rfl e_66 hy10 ?_
   rintro b63 o63 _ hq63 rfl
   refine .w (.ps 0 rfl hq63 rfl a_3 rfl)<|.q (.fa rfl Qfw)<|.q (.ixa (j:=4) rfl rfl ae_38 (by decide))<|.st (cs':=[_,_,_,_,_,_,_,_,_,_,_,_,_,_,_,_,_]) .no rfl rfl rfl rfl s_3 rfl rfl .hd rfl rfl<|.nil<|sq_n<|.seq<|.region rfl<|.m rfl rfl<|.m rfl rfl<|.m rfl rfl ?_
   obtain ⟨y64,hy64,hF⟩:=bS hF
   have hj64:=Qaf hy64
   refine .ixk (j:=k10_5) .no rfl rfl hw56_1_0 rfl e_148 hy64 ?_
   rintro b64 o64 _ hq64 rfl
   refine .w (.pa 0 (vs:=[_,_]) rfl hq64 rfl a_27 s_27 rfl rfl)<|.q (.fa rfl Qef)<|.q (.ixa (j:=4) rfl rfl Qbp (by decide))<|.st (cs':=[_,_,_,_,_,_,_,_,_,_,_,_,_,_,_,_,_]) .no rfl rfl rfl rfl s_27 rfl rfl .hd rfl rfl<|.nil<|sq_n<|.region rfl<|.m rfl rfl<|.w (.a (vs:=[_,_,_,_,_,_,_,_,_,_,_,_,_,_,_,_,_]) rfl .hd a_111 s_111 rfl rfl)<|.bs .no rfl (qs:=[(0,_)]) (c:=[_,_,_,_,_,_,_,_,_,_,_,_,_,_,_,_,_]) rfl sl_56 Qgc (by decide) rfl fun b65=>?_
   obtain ⟨hl66,hF⟩:=ckS hF
   have hl66:=of_decide_eq_true hl66
   refine .x .no rfl (.appA (m:=1) (new:=[_,_,_,_,_,_,_,_,_,_,_,_,_,_,_,_,_]) rfl rfl rfl (.tl (.tl .hd)) sl_56 Qgc (.of rfl .sl sl_56 .hd (Nat.le_of_ble_eq_true rfl) rfl) (by decide) rfl (AccR.room (R:=R_Case) (ys:=[(T_Case.mk (arr [(y61.Pieces 0),(y61.Pieces 1),(y61.Pieces 2),(y61.Pieces 3),y10] (y61.Pieces 0)) (arr [(y61.Litres 0),(y61.Litres 1),(y61.Litres 2),(y61.Litres 3),y64] (y61.Litres 0)) y61.Tonnages)]) ha10_4 (Ls.cons (c:=[_,_,_,_,_,_,_,_,_,_,_,_,_,_,_,_,_]) rfl rfl .nil) hl66) rfl) fun v66=>.as (.tl (.tl .hd)) fun av66=>?_
   have ha66:=AccR.app (R:=R_Case) (g:=gl10) (ys:=[(T_Case.mk (arr [(y61.Pieces 0),(y61.Pieces 1),(y61.Pieces 2),(y61.Pieces 3),y10] (y61.Pieces 0)) (arr [(y61.Litres 0),(y61.Litres 1),(y61.Litres 2),(y61.Litres 3),y64] (y61.Litres 0)) y61.Tonnages)]) ha10_4 (Ls.cons (c:=[_,_,_,_,_,_,_,_,_,_,_,_,_,_,_,_,_]) rfl rfl .nil) hl66 av66
   have lha66:=ha66.le
   refine .z rfl rfl<|.nil<|bq_n<|sq_n<|.region rfl<|.m rfl rfl<|.q (.inc1 rfl rfl (by omega))<|.z rfl rfl<|.nil<|Qac (L_r04_cases_10.mk _ _ (d10_1 ++ [(T_Case.mk (arr [(y61.Pieces 0),(y61.Pieces 1),(y61.Pieces 2),(y61.Pieces 3),y10] (y61.Pieces 0)) (arr [(y61.Litres 0),(y61.Litres 1),(y61.Litres 2),(y61.Litres 3),y64] (y61.Litres 0)) y61.Tonnages)]) (k10_5+1)) ⟨rfl,rfl,rfl,rfl,rfl,rfl,rfl,rfl,rfl,rfl,trivial⟩ (.cons _ (.cons _ (List.Sublist.refl _))) (Le.refl _) ?_ ?_
   ·exact ⟨ha66,(Qaf hy10),hF⟩
   ·simp only;omega
  have kh60:=dF h60
  rw [dn (by omega),Qbt] at hF
  obtain rfl:=sI hF
  have hF:=hG10
  refine .exit<|sq_e<|lq_e<|bq_x rfl<|bq_n<|sq_n<|.region rfl<|.m rfl rfl<|.q (.inc1 rfl rfl (by omega))<|.z rfl rfl<|.nil<|Qac (L_r04_cases_9.mk _ _ d10_1 (k9_5+1)) ⟨rfl,rfl,rfl,rfl,rfl,rfl,rfl,rfl,rfl,trivial⟩ (List.Sublist.refl _) hlo10 ?_ ?_
  ·exact ⟨ha10_4,hF⟩
  ·simp only;omega
 have kh59:=dF h59
 have em9:((d7_1.length:Int) - (k9_5:Int)).toNat=0:=by omega
 rw [em9,Qc] at hF
 obtain rfl:=sI hF
 have hF:=hG9
 refine .exit<|sq_e<|lq_e<|bq_x rfl<|sq_n<|.region rfl<|.m rfl rfl<|.z rfl rfl<|.nil<|bq_n<|sq_n<|.region rfl<|.m rfl rfl<|.q (.addL (c:=5) rfl rfl rfl (by decide))<|.z rfl rfl<|.nil<|sq_n<|.unroll<|.seq<|.seq<|.region rfl<|.m rfl rfl<|.b rfl rfl rfl rfl<|.nil<|sq_n<|.condF rfl (by decide)<|.exit<|sq_e<|sq_e<|bq_x rfl<|sq_n<|.seq<|.seq<|.region rfl<|.z rfl rfl<|.nil<|sq_n<|.block ?_
 obtain ⟨o11,hF,hG11⟩:=bS hF
 refine .loopx (α:=L_r04_cases_11) [(1,_),(3,_),(8,_)] [_,_,_,_,_,_,_] (fun fx x=>(16,.i .i64 (x.k11_1:Int)) :: fx) (fun mx x=>[.acc v9_2 17 x.cw11_2 111,rg mx 0,rg mx 1,rg mx 2,rg mx 3,rg mx 4,rg mx 5,rg mx 6]) (fun x g'=>AccR R_Case 17 g' v9_2 x.cw11_2 x.dw11_2∧Qbv p0 p1 x.m11 x.k11_1 x.dw11_2=some o11) (fun x=>x.m11) (L_r04_cases_11.mk 0 _ d9_1 (d9_1.length+1)) ⟨rfl,rfl,rfl,rfl,trivial⟩ (List.Sublist.refl _) ⟨ha9_4,hF⟩ ?_
 intro x11 gl11 hlo11 hJ11
 obtain ⟨k11_1,cw11_2,dw11_2,m11⟩:=x11
 try dsimp only at hJ11
 obtain ⟨hw11_2,hF⟩:=hJ11
 refine .al0 [(16,.i .i64 (k11_1:Int)),(1,_),(3,_),(8,_)] ?_
 replace hpq0:=hpq0.mono PutR.mono hlo11
 replace hlq0:=fun k hk=>(hlq0 k hk).mono PieceR.mono hlo11
 obtain ⟨mm11,rfl⟩:∃ q,m11=q+1:=by
  cases m11 with
  | zero=>rw [Qbv] at hF;cases hF
  | succ q=>exact ⟨q,rfl⟩
 rw [Qbv] at hF
 have lhw11_2:=hw11_2.le
 refine .seq<|.seq<|.region rfl<|.m rfl rfl<|.m rfl rfl<|.q (.lenA rfl rfl rfl e_56 (by decide) hw11_2)<|.b rfl rfl rfl rfl<|.nil<|sq_n<|.cond rfl (fun h67=>?_) (fun h67=>?_)
 ·have kh67:=dT h67
  have hF:=cT h67 hF
  refine .skip<|sq_n<|.seq<|.block<|.draw (tb:=[r0 0 0,r0 0 0,r0 0 0,r0 0 0,r0 0 0,r0 0 0,r0 48 0,r0 112 0,r0 240 0,r0 508 0,r0 1020 1,r0 0 0,r0 0 0,r0 0 0,r0 0 0,r0 24576 0,r0 57344 0,r0 122880 0,r1 261116 1,r1 523260 2,r1 1048572 2,r1 2097151 2,r1 4194303 2,r1 8388607 2]) rfl (by kernel_rfl) (by kernel_rfl) ?_
  refine .m rfl rfl<|.m rfl rfl<|.y rfl rfl rfl (.a (vs:=[_,_,_,_,_,_,_,_,_,_,_,_]) rfl (.tl (.tl (.tl (.tl (.tl (.tl (.tl .hd))))))) a_97 s_97 rfl rfl)<|.m rfl rfl<|.m rfl rfl<|.m rfl rfl ?_
  obtain ⟨y68,hy68,hF⟩:=bS hF
  have hj68:=Qez hy68
  have hy68:=Qej hy68
  refine .ixA .no rfl rfl hw11_2 rfl e_56 (by decide) hj68.1 hy68 ?_
  intro b68 n68 cs68 hv68 hc68 hd68 hr68
  obtain rfl:=hr68
  refine .q (.fa rfl Qef)<|.y rfl rfl rfl (.aa 5 (vs:=[_,_,_,_,_,_,_,_,_,_]) rfl (.acc hv68 rfl) rfl hd68 hc68 (AccR.cellsLe hw11_2 hy68) a_109 s_109 rfl rfl) ?_
  obtain ⟨q69,hq69,hF⟩:=bS hF
  refine .callV .no rfl rfl rfl rfl rfl (F_r04_end_ok p0 p1 y68.Litres false _ _ ⟨_,_,rfl,hpq0,hlq0⟩ _ hq69)<|.q (.fieldS rfl fo_40_0 (partV_s a_3 rfl))<|.ld (k:=1) .no rfl rfl rfl trivial (.a (vs:=[_,_,_,_,_,_,_,_,_,_,_,_]) rfl (.tl (.tl (.tl (.tl (.tl (.tl (.tl .hd))))))) a_97 s_97 rfl rfl)<|.m rfl rfl<|.m rfl rfl<|.m rfl rfl ?_
  obtain ⟨y70,hy70,hF⟩:=bS hF
  have hj70:=Qez hy70
  have hy70:=Qej hy70
  refine .ixA .no rfl rfl hw11_2 rfl e_56 (by decide) hj70.1 hy70 ?_
  intro b70 n70 cs70 hv70 hc70 hd70 hr70
  obtain rfl:=hr70
  refine .q (.fa rfl Qef)<|.ld (k:=1) .no rfl rfl rfl trivial (.aa 5 (vs:=[_,_,_,_,_,_,_,_,_,_]) rfl (.acc hv70 rfl) rfl hd70 hc70 (AccR.cellsLe hw11_2 hy70) a_109 s_109 rfl rfl) ?_
  obtain ⟨q71,hq71,hF⟩:=bS hF
  refine .callV .no rfl rfl rfl rfl rfl (F_r04_end_ok p0 p1 y70.Litres true _ _ ⟨_,_,rfl,hpq0,hlq0⟩ _ hq71)<|.q (.fieldS rfl fo_40_0 (partV_s a_3 rfl))<|.q (.build (qs:=[(0,_),(1,_)]) (cs:=[_,_]) rfl b_27 rfl) ?_
  obtain ⟨y72,hy72,hF⟩:=bS hF
  have hj72:=Qez hy72
  have hy72:=Qej hy72
  refine .ixA .no rfl rfl hw11_2 rfl e_56 (by decide) hj72.1 hy72 ?_
  intro b72 n72 cs72 hv72 hc72 hd72 hr72
  obtain rfl:=hr72
  refine .q (.fa rfl f_111_2)<|.see0 (seeBlk0 .hd hv72)<|.st (cs':=_) .no rfl rfl rfl rfl rfl rfl s_27 rfl rfl .hd (AccR.ble (k:=15) hw11_2 hy72 (by decide)) rfl (.all (Qab rfl (Qab rfl (Qab rfl (Qab rfl rfl))))) ?_
  have ha73:=AccR.set (k:=15) (us:=[(.i .i64 q69.Tonnage),(.i .i64 q71.Tonnage)]) (y':=(T_Case.mk y72.Pieces y72.Litres (q69.Tonnage,q71.Tonnage))) hw11_2 hy72 hd72 (Nat.le_of_ble_eq_true rfl) rfl
  have hd73:=AccR.part (k:=15) (us:=[(.i .i64 q69.Tonnage),(.i .i64 q71.Tonnage)]) hw11_2 hy72 hd72 (Nat.le_of_ble_eq_true rfl)
  refine .see0 (seeAcc0 .hd hv72 ha73.sh) ?_
  have lha73:=ha73.le
  refine .nil<|bq_n<|sq_n<|.region rfl<|.m rfl rfl<|.q (.inc1 rfl rfl (by omega))<|.z rfl rfl<|.nil<|Qac (L_r04_cases_11.mk (k11_1+1) _ (List.set dw11_2 k11_1 (T_Case.mk y72.Pieces y72.Litres (q69.Tonnage,q71.Tonnage))) mm11) ⟨rfl,rfl,rfl,rfl,trivial⟩ (List.Sublist.refl _) (Le.refl _) ?_ ?_
  ·exact ⟨ha73,hF⟩
  ·simp only;omega
 have hF:=cF h67 hF
 obtain rfl:=sI hF
 have hF:=hG11
 refine .exit<|sq_e<|lq_e<|bq_x rfl<|sq_n<|.seq<|.region rfl<|.m rfl rfl<|.z rfl rfl<|.z rfl rfl<|.nil<|sq_n<|.see (Qdg R_Case.mono .hd (by decide) hw11_2) ?_
 rintro gz74 ⟨hle74,hz74⟩
 refine .ret ?_
 obtain rfl:=sI hF
 refine Qaa (((((((((((hle6.trans hlo1).trans hle20).trans hlo3).trans hle32).trans hlo5).trans hle44).trans hlo7).trans hle56).trans hlo9).trans hlo11).trans hle74) (.tmp rfl (.tmp rfl .nil)) rfl ?_
 exact ⟨_,rfl,hz74⟩
def Qei (p0:Code) (p1:Int) (p2:Int) (p3:(List Room)):Option ((List T_Case) × Int):=(cond (!(decide ((endE p0 p1 p2 p3)=0))) (some ([],(endE p0 p1 p2 p3))) (((atI p0.vs (askI p0 p1 p2 p3)).bind fun y4=>((Qgb y4 (askI p0 p1 p2 p3) p3).bind fun q6=>((Qeo q6).bind fun q7=>((Qfb y4 p2 q7).bind fun q8=>(cond (!q8.2) (some ([],2)) (some (q8.1,0)))))))))
set_option maxHeartbeats 1000000 in
theorem F_r04_Cases_ok (p0:Code) (p1:Int) (p2:Int) (p3:(List Room)) (v3_0:V) (cs0:List V) (g:G) (h0:CodeR g cs0 p0) (h3_0:RS RoomR 6 g v3_0 p3) (r:(List T_Case) × Int) (hF:Qei p0 p1 p2 p3=some r):Fw Tryz.prog natS (.f 33 [] []) [.agg cs0,.i .i64 p1,.i .i64 p2,v3_0] g [] fun g' ml' q=>ml'=[]∧∃ (w0_0:V),q=(.tup [w0_0,.i .i64 r.2])∧RS R_Case 17 g' w0_0 r.1:=by
 refine Fw.drop ?_
 unfold Qei at hF
 obtain ⟨vq0,rfl,hcq0⟩:=h0
 refine Fw.enter (N:=45) (al:=[(3,_),(2,_),(1,_),(0,_)]) Tryz.func33 (by kernel_rfl) (by kernel_rfl) rfl rfl rfl rfl ?_
 intro B
 refine .seq<|.region rfl<|.box .no rfl rfl rfl rfl fun b1=>.z rfl rfl<|.z rfl rfl<|.nil<|sq_n<|.seq<|.region rfl<|.w (.a (vs:=[_,_]) rfl .hd a_24 s_24 rfl rfl)<|.m rfl rfl<|.m rfl rfl<|.m rfl rfl<|.callV .no rfl rfl rfl (asked_ok _ _ _ _ _ _ _ ⟨_,rfl,hcq0⟩ h3_0)<|.m rfl rfl<|.q (.ext rfl rfl)<|.q (.ext rfl rfl)<|.z rfl rfl<|.z rfl rfl<|.nil<|sq_n<|.seq<|.seq<|.region rfl<|.m rfl rfl<|.b rfl rfl rfl rfl<|.nil<|sq_n<|.cond rfl (fun h3=>?_) (fun h3=>?_)
 ·have hF:=cT h3 hF
  refine .seq<|.region rfl<|.m rfl rfl<|.z rfl rfl<|.z rfl rfl<|.nil<|sq_n<|.ret<|sq_r ?_
  obtain rfl:=sI hF
  refine Qaa (Le.refl _) (.tmp rfl (.tmp rfl .nil)) rfl ?_
  exact ⟨_,rfl,RS.nil⟩
 have hF:=cF h3 hF
 refine .skip<|sq_n<|.seq<|.region rfl<|.q (.fa rfl Qfh)<|.w (.s rfl .hd a_22 rfl)<|.m rfl rfl ?_
 obtain ⟨y4,hy4,hF⟩:=bS hF
 have hj4:=Qez hy4
 refine .ixl .no rfl rfl hcq0 rfl e_22 hy4 ?_
 rintro b4 o4 _ hq4 ⟨p4,lv4,rfl,hp4,hl4⟩
 refine .w (.pa 0 (vs:=[_,_,_,_,_,_,_,_,_,_,_,_]) rfl hq4 rfl a_97 s_97 rfl rfl)<|.alloc .no rfl z_97 fun b5=>.st (cs':=[_,_,_,_,_,_,_,_,_,_,_,_]) .no rfl rfl rfl rfl s_97 rfl rfl .hd rfl (Qa rfl (Qa hp4.one (Qa (hl4 0 (by decide)).one (Qa (hl4 1 (by decide)).one (Qa (hl4 2 (by decide)).one (Qa (hl4 3 (by decide)).one (Qa (hl4 4 (by decide)).one (Qa (hl4 5 (by decide)).one (Qa (hl4 6 (by decide)).one (Qa (hl4 7 (by decide)).one (Qa (hl4 8 (by decide)).one (Qa (hl4 9 (by decide)).one rfl))))))))))))<|.nil<|sq_n<|.seq<|.draw (tb:=[r0 0 0,r0 0 0,r0 0 0,r0 0 0,r0 0 0,r0 28 0,r0 60 1,r1 127 2,r1 255 3,r1 511 3,r1 511 3,r1 1023 3,r1 4095 3]) rfl (by kernel_rfl) (by kernel_rfl) ?_
 refine .y rfl rfl rfl (.a (vs:=[_,_,_,_,_,_,_,_,_,_,_,_]) rfl .hd a_97 s_97 rfl rfl)<|.m rfl rfl<|.y rfl rfl rfl (.a (vs:=[_,_,_,_,_,_,_,_,_,_,_,_]) rfl .hd a_97 s_97 rfl rfl)<|.m rfl rfl<|.m rfl rfl ?_
 obtain ⟨q6,hq6,hF⟩:=bS hF
 refine .call .no rfl rfl rfl rfl rfl (F_r04_plan_ok y4 (askI p0 p1 p2 p3) p3 _ _ _ ⟨_,_,rfl,hp4,hl4⟩ h3_0 _ hq6) ?_
 rintro g6 ml6 r6 hle6 ⟨rfl,cs6_0,rfl,⟨v2_6_0,v6_6_0,v10_6_0,v14_6_0,v18_6_0,v21_6_0,rfl,h2_6_0,h6_6_0,h10_6_0,h14_6_0,h18_6_0,h21_6_0⟩⟩
 replace hp4:=hp4.mono PutR.mono hle6
 replace hl4:=fun k hk=>(hl4 k hk).mono PieceR.mono hle6
 obtain ⟨q7,hq7,hF⟩:=bS hF
 refine .callV .no rfl rfl rfl rfl rfl (F_r04_litres_ok q6 _ _ ⟨_,_,_,_,_,_,rfl,h2_6_0,h6_6_0,h10_6_0,h14_6_0,h18_6_0,h21_6_0⟩ _ hq7) ?_
 obtain ⟨q8,hq8,hF⟩:=bS hF
 refine .call .no rfl rfl rfl rfl rfl (F_r04_cases_ok y4 p2 q7 _ _ ⟨_,_,rfl,hp4,hl4⟩ _ hq8) ?_
 rintro g8 ml8 r8 hle8 ⟨rfl,w8_0_0,rfl,hw8_0_0⟩
 refine .m rfl rfl<|.q (.ext rfl rfl)<|.q (.ext rfl rfl)<|.z rfl rfl<|.z rfl rfl<|.nil<|sq_n<|.seq<|.seq<|.region rfl<|.m rfl rfl<|.q (.not rfl)<|.nil<|sq_n<|.cond rfl (fun h9=>?_) (fun h9=>?_)
 ·have hF:=cT h9 hF
  refine .seq<|.region rfl<|.z rfl rfl<|.z rfl rfl<|.nil<|sq_n<|.ret<|sq_r ?_
  obtain rfl:=sI hF
  refine Qaa (hle6.trans hle8) (.tmp rfl (.tmp rfl .nil)) rfl ?_
  exact ⟨_,rfl,RS.nil⟩
 have hF:=cF h9 hF
 refine .skip<|sq_n<|.seq<|.region rfl<|.m rfl rfl<|.z rfl rfl<|.z rfl rfl<|.nil<|sq_n<|.ret ?_
 obtain rfl:=sI hF
 refine Qaa (hle6.trans hle8) (.tmp rfl (.tmp rfl .nil)) rfl ?_
 exact ⟨_,rfl,hw8_0_0⟩
structure L_r04_SameCases_1 where
 k1_1:Nat
def Qaz (p1:(List T_Case)):List T_Case→Nat→Option ((Bool) ⊕ (Unit))
 | [],k1_1=>some ((Sum.inr ()))
 | y1 :: ys1,k1_1=>((p1[k1_1]?).bind fun y4=>(cond (!(((decide ((y1.Pieces 0)=(y4.Pieces 0))) && ((decide ((y1.Pieces 1)=(y4.Pieces 1))) && ((decide ((y1.Pieces 2)=(y4.Pieces 2))) && ((decide ((y1.Pieces 3)=(y4.Pieces 3))) && ((decide ((y1.Pieces 4)=(y4.Pieces 4))) && true))))) && ((((decide (((y1.Litres 0).1)=((y4.Litres 0).1))) && ((decide (((y1.Litres 0).2)=((y4.Litres 0).2))) && true)) && (((decide (((y1.Litres 1).1)=((y4.Litres 1).1))) && ((decide (((y1.Litres 1).2)=((y4.Litres 1).2))) && true)) && (((decide (((y1.Litres 2).1)=((y4.Litres 2).1))) && ((decide (((y1.Litres 2).2)=((y4.Litres 2).2))) && true)) && (((decide (((y1.Litres 3).1)=((y4.Litres 3).1))) && ((decide (((y1.Litres 3).2)=((y4.Litres 3).2))) && true)) && (((decide (((y1.Litres 4).1)=((y4.Litres 4).1))) && ((decide (((y1.Litres 4).2)=((y4.Litres 4).2))) && true)) && true))))) && (((decide (y1.Tonnages.1=y4.Tonnages.1)) && ((decide (y1.Tonnages.2=y4.Tonnages.2)) && true)) && true)))) (some ((Sum.inl false))) (Qaz p1 ys1 (k1_1+1))))
def Qcf (p0:(List T_Case)) (p1:(List T_Case)):Option (Bool):=(cond (!(decide ((p0.length:Int)=(p1.length:Int)))) (some false) (((Qaz p1 p0 0).bind fun o=>match o with | (Sum.inl q)=>(some q) | (Sum.inr _)=>(some true))))
set_option maxHeartbeats 1000000 in
theorem Qfm (p0:(List T_Case)) (p1:(List T_Case)) (v0_0 v1_0:V) (g:G) (h0_0:RS R_Case 17 g v0_0 p0) (h1_0:RS R_Case 17 g v1_0 p1) (r:Bool) (hF:Qcf p0 p1=some r):Fv Tryz.prog natS (.f 38 [] []) [v0_0,v1_0] g (.b r):=by
 refine Fw.fv ?_
 unfold Qcf at hF
 have lh0_0:=h0_0.1
 have lh1_0:=h1_0.1
 refine Fw.enter (N:=26) (al:=[(1,_),(0,_)]) Tryz.func38 (by kernel_rfl) (by kernel_rfl) rfl rfl rfl rfl ?_
 intro B
 refine .seq<|.region rfl<|.z rfl rfl<|.nil<|sq_n<|.seq<|.seq<|.region rfl<|.m rfl rfl<|.q (.lenR rfl rfl rfl e_56 h0_0)<|.m rfl rfl<|.q (.lenR rfl rfl rfl e_56 h1_0)<|.b rfl rfl rfl rfl<|.nil<|sq_n<|.cond rfl (fun h1=>?_) (fun h1=>?_)
 ·have hF:=cT h1 hF
  refine .seq<|.region rfl<|.z rfl rfl<|.nil<|sq_n<|.ret<|sq_r ?_
  obtain rfl:=sI hF
  refine Qaa (Le.refl _) (.tmp rfl .nil) rfl ?_
  rfl
 have kh1:=dT (nF h1)
 have hF:=cF h1 hF
 refine .skip<|sq_n<|.seq<|.seq<|.region rfl<|.z rfl rfl<|.nil<|sq_n<|.block ?_
 obtain ⟨o1,hF,hG1⟩:=bS hF
 refine .loopx (α:=L_r04_SameCases_1) [(0,_),(1,_)] _ (fun fx x=>(5,.i .i64 (x.k1_1:Int)) :: fx) (fun mx _=>mx) (fun x g'=>x.k1_1≤p0.length∧Qaz p1 (p0.drop x.k1_1) x.k1_1=some o1) (fun x=>p0.length - x.k1_1) (L_r04_SameCases_1.mk 0) ⟨rfl,rfl,rfl,trivial⟩ (List.Sublist.refl _) ⟨(by first | omega | (dsimp only;omega)),hF⟩ ?_
 intro x1 gl1 hlo1 hJ1
 obtain ⟨k1_1⟩:=x1
 try dsimp only at hJ1
 obtain ⟨hk1,hF⟩:=hJ1
 refine .al0 [(5,.i .i64 (k1_1:Int)),(0,_),(1,_)] ?_
 replace h0_0:=h0_0.mono R_Case.mono hlo1
 replace h1_0:=h1_0.mono R_Case.mono hlo1
 refine .seq<|.seq<|.region rfl<|.m rfl rfl<|.m rfl rfl<|.q (.lenR rfl rfl rfl e_56 h0_0)<|.b rfl rfl rfl rfl<|.nil<|sq_n<|.cond rfl (fun h2=>?_) (fun h2=>?_)
 ·have kh2:=dT h2
  obtain ⟨y1,hy1⟩:=getK (l:=p0) (k:=k1_1) kh2
  rw [dc hy1,Qaz] at hF
  refine .skip<|sq_n<|.seq<|.block<|.seq<|.draw (tb:=[r0 0 0,r0 0 0,r0 3 0,r0 7 0,r0 0 0,r0 0 0,r0 48 0,r0 112 0,r1 255 0]) rfl (by kernel_rfl) (by kernel_rfl) ?_
  refine .m rfl rfl<|.m rfl rfl<|.ixk (j:=k1_1) .no rfl rfl h0_0 rfl e_56 hy1 ?_
  rintro b3 o3 _ hq3 rfl
  refine .y rfl rfl rfl (.pa 0 (vs:=[_,_,_,_,_,_,_,_,_,_,_,_,_,_,_,_,_]) rfl hq3 rfl a_111 s_111 rfl rfl)<|.m rfl rfl<|.m rfl rfl ?_
  obtain ⟨y4,hy4,hF⟩:=bS hF
  have hj4:=Qaf hy4
  refine .ixk (j:=k1_1) .no rfl rfl h1_0 rfl e_56 hy4 ?_
  rintro b4 o4 _ hq4 rfl
  refine .y rfl rfl rfl (.pa 0 (vs:=[_,_,_,_,_,_,_,_,_,_,_,_,_,_,_,_,_]) rfl hq4 rfl a_111 s_111 rfl rfl)<|.q (.binE rfl rfl (binV_neq (by kernel_rfl) (eq_111 _ _ _ _ _ _ _ _ _ _ _ _ _ _ _ _ _ _ _ _ _ _ _ _ _ _ _ _ _ _ _ _ _ _))) ?_
  refine .nil<|sq_n<|.cond rfl (fun h5=>?_) (fun h5=>?_)
  ·have hF:=cT h5 hF
   refine .seq<|.region rfl<|.z rfl rfl<|.nil<|sq_n<|.ret<|bq_r<|sq_r<|lq_r<|bq_r<|sq_r ?_
   obtain rfl:=sI hF
   have hF:=hG1
   obtain rfl:=sI hF
   refine Qaa hlo1 (.tmp rfl .nil) rfl ?_
   rfl
  have kh5:=(nF h5)
  have hF:=cF h5 hF
  refine .skip<|bq_n<|sq_n<|.region rfl<|.m rfl rfl<|.q (.inc1 rfl rfl (by omega))<|.z rfl rfl<|.nil<|Qac (L_r04_SameCases_1.mk (k1_1+1)) ⟨rfl,rfl,rfl,trivial⟩ (List.Sublist.refl _) (Le.refl _) ?_ ?_
  ·exact ⟨(Qaf hy1),hF⟩
  ·simp only;omega
 have kh2:=dF h2
 rw [dn (by omega),Qaz] at hF
 obtain rfl:=sI hF
 have hF:=hG1
 refine .exit<|sq_e<|lq_e<|bq_x rfl<|sq_n<|.seq<|.region rfl<|.z rfl rfl<|.nil<|sq_n<|.ret ?_
 obtain rfl:=sI hF
 refine Qaa hlo1 (.tmp rfl .nil) rfl ?_
 rfl
structure L_r04_SameOpens_1 where
 k1_1:Nat
def Qbu (p1:(List T_Open)):List T_Open→Nat→Option ((Bool) ⊕ (Unit))
 | [],k1_1=>some ((Sum.inr ()))
 | y1 :: ys1,k1_1=>((p1[k1_1]?).bind fun y4=>(cond (!((decide (y1.Group=y4.Group)) && ((decide (y1.Piece=y4.Piece)) && ((decide (y1.From=y4.From)) && true)))) (some ((Sum.inl false))) (Qbu p1 ys1 (k1_1+1))))
def Qcz (p0:(List T_Open)) (p1:(List T_Open)):Option (Bool):=(cond (!(decide ((p0.length:Int)=(p1.length:Int)))) (some false) (((Qbu p1 p0 0).bind fun o=>match o with | (Sum.inl q)=>(some q) | (Sum.inr _)=>(some true))))
set_option maxHeartbeats 1000000 in
theorem F_r04_SameOpens_ok (p0:(List T_Open)) (p1:(List T_Open)) (v0_0 v1_0:V) (g:G) (h0_0:RS R_Open 3 g v0_0 p0) (h1_0:RS R_Open 3 g v1_0 p1) (r:Bool) (hF:Qcz p0 p1=some r):Fv Tryz.prog natS (.f 39 [] []) [v0_0,v1_0] g (.b r):=by
 refine Fw.fv ?_
 unfold Qcz at hF
 have lh0_0:=h0_0.1
 have lh1_0:=h1_0.1
 refine Fw.enter (N:=26) (al:=[(1,_),(0,_)]) Tryz.func39 (by kernel_rfl) (by kernel_rfl) rfl rfl rfl rfl ?_
 intro B
 refine .seq<|.region rfl<|.z rfl rfl<|.nil<|sq_n<|.seq<|.seq<|.region rfl<|.m rfl rfl<|.q (.lenR rfl rfl rfl e_60 h0_0)<|.m rfl rfl<|.q (.lenR rfl rfl rfl e_60 h1_0)<|.b rfl rfl rfl rfl<|.nil<|sq_n<|.cond rfl (fun h1=>?_) (fun h1=>?_)
 ·have hF:=cT h1 hF
  refine .seq<|.region rfl<|.z rfl rfl<|.nil<|sq_n<|.ret<|sq_r ?_
  obtain rfl:=sI hF
  refine Qaa (Le.refl _) (.tmp rfl .nil) rfl ?_
  rfl
 have kh1:=dT (nF h1)
 have hF:=cF h1 hF
 refine .skip<|sq_n<|.seq<|.seq<|.region rfl<|.z rfl rfl<|.nil<|sq_n<|.block ?_
 obtain ⟨o1,hF,hG1⟩:=bS hF
 refine .loopx (α:=L_r04_SameOpens_1) [(0,_),(1,_)] _ (fun fx x=>(5,.i .i64 (x.k1_1:Int)) :: fx) (fun mx _=>mx) (fun x g'=>x.k1_1≤p0.length∧Qbu p1 (p0.drop x.k1_1) x.k1_1=some o1) (fun x=>p0.length - x.k1_1) (L_r04_SameOpens_1.mk 0) ⟨rfl,rfl,rfl,trivial⟩ (List.Sublist.refl _) ⟨(by first | omega | (dsimp only;omega)),hF⟩ ?_
 intro x1 gl1 hlo1 hJ1
 obtain ⟨k1_1⟩:=x1
 try dsimp only at hJ1
 obtain ⟨hk1,hF⟩:=hJ1
 refine .al0 [(5,.i .i64 (k1_1:Int)),(0,_),(1,_)] ?_
 replace h0_0:=h0_0.mono R_Open.mono hlo1
 replace h1_0:=h1_0.mono R_Open.mono hlo1
 refine .seq<|.seq<|.region rfl<|.m rfl rfl<|.m rfl rfl<|.q (.lenR rfl rfl rfl e_60 h0_0)<|.b rfl rfl rfl rfl<|.nil<|sq_n<|.cond rfl (fun h2=>?_) (fun h2=>?_)
 ·have kh2:=dT h2
  obtain ⟨y1,hy1⟩:=getK (l:=p0) (k:=k1_1) kh2
  rw [dc hy1,Qbu] at hF
  refine .skip<|sq_n<|.seq<|.block<|.seq<|.draw (tb:=[r0 0 0,r0 0 0,r0 3 0,r0 7 0,r0 0 0,r0 0 0,r0 48 0,r0 112 0,r1 255 0]) rfl (by kernel_rfl) (by kernel_rfl) ?_
  refine .m rfl rfl<|.m rfl rfl<|.ixk (j:=k1_1) .no rfl rfl h0_0 rfl e_60 hy1 ?_
  rintro b3 o3 _ hq3 rfl
  refine .y rfl rfl rfl (.pa 0 (vs:=[_,_,_]) rfl hq3 rfl a_124 s_124 rfl rfl)<|.m rfl rfl<|.m rfl rfl ?_
  obtain ⟨y4,hy4,hF⟩:=bS hF
  have hj4:=Qaf hy4
  refine .ixk (j:=k1_1) .no rfl rfl h1_0 rfl e_60 hy4 ?_
  rintro b4 o4 _ hq4 rfl
  refine .y rfl rfl rfl (.pa 0 (vs:=[_,_,_]) rfl hq4 rfl a_124 s_124 rfl rfl)<|.q (.binE rfl rfl (binV_neq (by kernel_rfl) (eq_124 _ _ _ _ _ _))) ?_
  refine .nil<|sq_n<|.cond rfl (fun h5=>?_) (fun h5=>?_)
  ·have hF:=cT h5 hF
   refine .seq<|.region rfl<|.z rfl rfl<|.nil<|sq_n<|.ret<|bq_r<|sq_r<|lq_r<|bq_r<|sq_r ?_
   obtain rfl:=sI hF
   have hF:=hG1
   obtain rfl:=sI hF
   refine Qaa hlo1 (.tmp rfl .nil) rfl ?_
   rfl
  have kh5:=(nF h5)
  have hF:=cF h5 hF
  refine .skip<|bq_n<|sq_n<|.region rfl<|.m rfl rfl<|.q (.inc1 rfl rfl (by omega))<|.z rfl rfl<|.nil<|Qac (L_r04_SameOpens_1.mk (k1_1+1)) ⟨rfl,rfl,rfl,trivial⟩ (List.Sublist.refl _) (Le.refl _) ?_ ?_
  ·exact ⟨(Qaf hy1),hF⟩
  ·simp only;omega
 have kh2:=dF h2
 rw [dn (by omega),Qbu] at hF
 obtain rfl:=sI hF
 have hF:=hG1
 refine .exit<|sq_e<|lq_e<|bq_x rfl<|sq_n<|.seq<|.region rfl<|.z rfl rfl<|.nil<|sq_n<|.ret ?_
 obtain rfl:=sI hF
 refine Qaa hlo1 (.tmp rfl .nil) rfl ?_
 rfl
structure L_r04_CheckCases_1 where
 k1_1:Nat
 z1_2:Int
 z1_3:Int
def Qbm:List T_Case→Nat→Int→Int→Option ((Int × Int))
 | [],k1_1,z1_2,z1_3=>some ((z1_2,z1_3))
 | y1 :: ys1,k1_1,z1_2,z1_3=>Qbm ys1 (k1_1+1) (min z1_2 y1.Tonnages.1) (max z1_3 y1.Tonnages.2)
def Qcv (p0:Code) (p1:Int) (p2:Int) (p3:(List Room)) (p4:(List T_Case)):Option ((Int × Int) × Int):=((Qei p0 p1 p2 p3).bind fun q3=>(cond (!(decide (q3.2=0))) (some ((0,0),q3.2)) (((Qcf q3.1 p4).bind fun q5=>(cond (!q5) (some ((0,0),46)) (((q3.1[0]?).bind fun y7=>((Qbm (List.drop 1 q3.1) 1 y7.Tonnages.1 y7.Tonnages.2).bind fun ⟨o1_0_1,o1_0_2⟩=>some ((o1_0_1,o1_0_2),0)))))))))
set_option maxHeartbeats 1000000 in
theorem F_r04_CheckCases_ok (p0:Code) (p1:Int) (p2:Int) (p3:(List Room)) (p4:(List T_Case)) (v3_0 v4_0:V) (cs0:List V) (g:G) (h0:CodeR g cs0 p0) (h3_0:RS RoomR 6 g v3_0 p3) (h4_0:RS R_Case 17 g v4_0 p4) (r:(Int × Int) × Int) (hF:Qcv p0 p1 p2 p3 p4=some r):Fv Tryz.prog natS (.f 35 [] []) [.agg cs0,.i .i64 p1,.i .i64 p2,v3_0,v4_0] g (.tup [.agg [.i .i64 r.1.1,.i .i64 r.1.2],.i .i64 r.2]):=by
 refine Fw.fv ?_
 unfold Qcv at hF
 obtain ⟨vq0,rfl,hcq0⟩:=h0
 have lh0_1:=hcq0.1
 have lh3_0:=h3_0.1
 have lh4_0:=h4_0.1
 refine Fw.enter (N:=64) (al:=[(4,_),(3,_),(2,_),(1,_),(0,_)]) Tryz.func35 (by kernel_rfl) (by kernel_rfl) rfl rfl rfl rfl ?_
 intro B
 refine .seq<|.region rfl<|.box .no rfl rfl rfl rfl fun b1=>.alloc .no rfl z_27 fun b2=>.z rfl rfl<|.nil<|sq_n<|.seq<|.region rfl<|.w (.a (vs:=[_,_]) rfl (.tl .hd) a_24 s_24 rfl rfl)<|.m rfl rfl<|.m rfl rfl<|.m rfl rfl ?_
 obtain ⟨q3,hq3,hF⟩:=bS hF
 refine .call .no rfl rfl rfl (F_r04_Cases_ok p0 p1 p2 p3 _ _ _ ⟨_,rfl,hcq0⟩ h3_0 _ hq3) ?_
 rintro g3 ml3 r3 hle3 ⟨rfl,w3_0_0,rfl,hw3_0_0⟩
 replace h4_0:=h4_0.mono R_Case.mono hle3
 have lhw3_0_0:=hw3_0_0.1
 refine .m rfl rfl<|.q (.ext rfl rfl)<|.q (.ext rfl rfl)<|.z rfl rfl<|.z rfl rfl<|.nil<|sq_n<|.seq<|.seq<|.region rfl<|.m rfl rfl<|.b rfl rfl rfl rfl<|.nil<|sq_n<|.cond rfl (fun h4=>?_) (fun h4=>?_)
 ·have hF:=cT h4 hF
  refine .seq<|.region rfl<|.q (.build (qs:=[]) (cs:=[_,_]) rfl b_27 rfl)<|.m rfl rfl<|.st (cs':=[_,_]) .no rfl rfl rfl rfl s_27 rfl rfl .hd rfl rfl<|.z rfl rfl<|.nil<|sq_n<|.ret<|sq_r ?_
  obtain rfl:=sI hF
  refine Qaa hle3 (.cell (.a (vs:=[_,_]) rfl .hd a_27 s_27 rfl rfl) (.tmp rfl .nil)) rfl ?_
  rfl
 have kh4:=dT (nF h4)
 have hF:=cF h4 hF
 refine .skip<|sq_n<|.seq<|.seq<|.region rfl<|.m rfl rfl<|.m rfl rfl ?_
 obtain ⟨q5,hq5,hF⟩:=bS hF
 refine .callV .no rfl rfl rfl (Qfm q3.1 p4 _ _ _ hw3_0_0 h4_0 _ hq5)<|.q (.not rfl)<|.nil<|sq_n<|.cond rfl (fun h6=>?_) (fun h6=>?_)
 ·have hF:=cT h6 hF
  refine .seq<|.region rfl<|.q (.build (qs:=[]) (cs:=[_,_]) rfl b_27 rfl)<|.st (cs':=[_,_]) .no rfl rfl rfl rfl s_27 rfl rfl .hd rfl rfl<|.z rfl rfl<|.nil<|sq_n<|.ret<|sq_r ?_
  obtain rfl:=sI hF
  refine Qaa hle3 (.cell (.a (vs:=[_,_]) rfl .hd a_27 s_27 rfl rfl) (.tmp rfl .nil)) rfl ?_
  rfl
 have kh6:=h6
 have hF:=cF h6 hF
 refine .skip<|sq_n<|.seq<|.region rfl<|.m rfl rfl ?_
 obtain ⟨y7,hy7,hF⟩:=bS hF
 have hj7:=Qaf hy7
 refine .ixk (j:=0) .no rfl rfl hw3_0_0 rfl e_56 hy7 ?_
 rintro b7 o7 _ hq7 rfl
 refine .q (.fa rfl f_111_2)<|.w (.pa 15 (vs:=[_,_]) rfl hq7 rfl a_27 s_27 rfl rfl)<|.alloc .no rfl z_27 fun b8=>.st (cs':=[_,_]) .no rfl rfl rfl rfl s_27 rfl rfl .hd rfl rfl<|.nil<|sq_n<|.seq<|.seq<|.region rfl<|.z rfl rfl<|.nil<|sq_n<|.block ?_
 obtain ⟨o1,hF,hG1⟩:=bS hF
 refine .loopx (α:=L_r04_CheckCases_1) [(10,_),(12,_),(14,_)] [_,_] (fun fx x=>(15,.i .i64 (x.k1_1:Int)) :: fx) (fun mx x=>[.blk b8 (.cells [.i .i64 x.z1_2,.i .i64 x.z1_3] 27),rg mx 0,rg mx 1]) (fun x g'=>x.k1_1≤q3.1.length+1∧Qbm (q3.1.drop x.k1_1) x.k1_1 x.z1_2 x.z1_3=some o1) (fun x=>q3.1.length - x.k1_1) (L_r04_CheckCases_1.mk 1 y7.Tonnages.1 y7.Tonnages.2) ⟨rfl,rfl,rfl,rfl,trivial⟩ (List.Sublist.refl _) ⟨(by first | omega | (dsimp only;omega)),hF⟩ ?_
 intro x1 gl1 hlo1 hJ1
 obtain ⟨k1_1,z1_2,z1_3⟩:=x1
 try dsimp only at hJ1
 obtain ⟨hk1,hF⟩:=hJ1
 refine .al0 [(15,.i .i64 (k1_1:Int)),(10,_),(12,_),(14,_)] ?_
 replace hw3_0_0:=hw3_0_0.mono R_Case.mono hlo1
 refine .seq<|.seq<|.region rfl<|.m rfl rfl<|.m rfl rfl<|.q (.lenR rfl rfl rfl e_56 hw3_0_0)<|.b rfl rfl rfl rfl<|.nil<|sq_n<|.cond rfl (fun h9=>?_) (fun h9=>?_)
 ·have kh9:=dT h9
  obtain ⟨y1,hy1⟩:=getK (l:=q3.1) (k:=k1_1) kh9
  rw [dc hy1,Qbm] at hF
  refine .skip<|sq_n<|.seq<|.block<|.seq<|.draw (tb:=[r0 0 0,r0 1 0,r0 0 0,r0 0 0,r0 12 0,r0 28 0,r0 60 0,r0 124 0,r1 255 0,r1 511 0,r1 1023 0]) rfl (by kernel_rfl) (by kernel_rfl) ?_
  refine .q (.fa rfl Qal)<|.y rfl rfl rfl (.s rfl .hd a_3 rfl)<|.m rfl rfl<|.m rfl rfl<|.ixk (j:=k1_1) .no rfl rfl hw3_0_0 rfl e_56 hy1 ?_
  rintro b10 o10 _ hq10 rfl
  refine .q (.fa rfl f_111_2)<|.q (.fa rfl Qal)<|.y rfl rfl rfl (.ps 15 rfl hq10 rfl a_3 rfl)<|.q (.mn rfl rfl rfl rfl)<|.q (.fa rfl Qal)<|.st (cs':=[_,_]) .no rfl rfl rfl rfl rfl rfl s_3 rfl rfl .hd rfl rfl (.all (Qab rfl (Qab rfl rfl)))<|.nil<|sq_n<|.draw (tb:=[r0 0 0,r0 1 0,r0 0 0,r0 0 0,r0 12 0,r0 28 0,r0 60 0,r0 124 0,r1 255 0,r1 511 0,r1 1023 0]) rfl (by kernel_rfl) (by kernel_rfl) ?_
  refine .q (.fa rfl Qak)<|.y rfl rfl rfl (.s rfl .hd a_3 rfl)<|.m rfl rfl<|.m rfl rfl<|.ixk (j:=k1_1) .no rfl rfl hw3_0_0 rfl e_56 hy1 ?_
  rintro b11 o11 _ hq11 rfl
  refine .q (.fa rfl f_111_2)<|.q (.fa rfl Qak)<|.y rfl rfl rfl (.ps 16 rfl hq11 rfl a_3 rfl)<|.q (.mx rfl rfl rfl rfl)<|.q (.fa rfl Qak)<|.st (cs':=[_,_]) .no rfl rfl rfl rfl rfl rfl s_3 rfl rfl .hd rfl rfl (.all (Qab rfl (Qab rfl rfl)))<|.nil<|bq_n<|sq_n<|.region rfl<|.m rfl rfl<|.q (.inc1 rfl rfl (by omega))<|.z rfl rfl<|.nil<|Qac (L_r04_CheckCases_1.mk (k1_1+1) (min z1_2 y1.Tonnages.1) (max z1_3 y1.Tonnages.2)) ⟨rfl,rfl,rfl,rfl,trivial⟩ (List.Sublist.refl _) (Le.refl _) ?_ ?_
  ·exact ⟨(Nat.le_add_right_of_le (Qaf hy1)),hF⟩
  ·simp only;omega
 have kh9:=dF h9
 rw [dn (by omega),Qbm] at hF
 obtain rfl:=sI hF
 have hF:=hG1
 refine .exit<|sq_e<|lq_e<|bq_x rfl<|sq_n<|.seq<|.region rfl<|.w (.a (vs:=[_,_]) rfl .hd a_27 s_27 rfl rfl)<|.st (cs':=[_,_]) .no rfl rfl rfl rfl s_27 rfl rfl (.tl .hd) rfl rfl<|.z rfl rfl<|.nil<|sq_n<|.ret ?_
 obtain rfl:=sI hF
 refine Qaa (hle3.trans hlo1) (.cell (.a (vs:=[_,_]) rfl (.tl .hd) a_27 s_27 rfl rfl) (.tmp rfl .nil)) rfl ?_
 rfl
structure L_r04_Opens_5 where
 v5_2:V
 cs5_3:List V
 d5_1:List T_Open
 k5_5:Nat
def Qbk (q7:(Nat→(Int × Int))):List Piece→List T_Open→Nat→Option ((List T_Open))
 | [],d5_1,k5_5=>some (d5_1)
 | y5 :: ys5,d5_1,k5_5=>(cond (decide (((q7 4).1) < y5.fr)) ((cond (decide (y5.fr≤((q7 4).2))) ((ck (decide (d5_1.length+1≤1000000)) (Qbk q7 ys5 (d5_1 ++ [(T_Open.mk 5 (k5_5:Int) y5.fr)]) (k5_5+1)))) (Qbk q7 ys5 d5_1 (k5_5+1)))) (Qbk q7 ys5 d5_1 (k5_5+1)))
structure L_r04_Opens_4 where
 v4_2:V
 cs4_3:List V
 d4_1:List T_Open
 k4_5:Nat
def Qbl (q7:(Nat→(Int × Int))):List Piece→List T_Open→Nat→Option ((List T_Open))
 | [],d4_1,k4_5=>some (d4_1)
 | y4 :: ys4,d4_1,k4_5=>(cond (decide (((q7 3).1) < y4.fr)) ((cond (decide (y4.fr≤((q7 3).2))) ((ck (decide (d4_1.length+1≤1000000)) (Qbl q7 ys4 (d4_1 ++ [(T_Open.mk 4 (k4_5:Int) y4.fr)]) (k4_5+1)))) (Qbl q7 ys4 d4_1 (k4_5+1)))) (Qbl q7 ys4 d4_1 (k4_5+1)))
structure L_r04_Opens_3 where
 v3_2:V
 cs3_3:List V
 d3_1:List T_Open
 k3_5:Nat
def Qbg (q7:(Nat→(Int × Int))):List Piece→List T_Open→Nat→Option ((List T_Open))
 | [],d3_1,k3_5=>some (d3_1)
 | y3 :: ys3,d3_1,k3_5=>(cond (decide (((q7 2).1) < y3.fr)) ((cond (decide (y3.fr≤((q7 2).2))) ((ck (decide (d3_1.length+1≤1000000)) (Qbg q7 ys3 (d3_1 ++ [(T_Open.mk 3 (k3_5:Int) y3.fr)]) (k3_5+1)))) (Qbg q7 ys3 d3_1 (k3_5+1)))) (Qbg q7 ys3 d3_1 (k3_5+1)))
structure L_r04_Opens_2 where
 v2_2:V
 cs2_3:List V
 d2_1:List T_Open
 k2_5:Nat
def Qbj (q7:(Nat→(Int × Int))):List Piece→List T_Open→Nat→Option ((List T_Open))
 | [],d2_1,k2_5=>some (d2_1)
 | y2 :: ys2,d2_1,k2_5=>(cond (decide (((q7 1).1) < y2.fr)) ((cond (decide (y2.fr≤((q7 1).2))) ((ck (decide (d2_1.length+1≤1000000)) (Qbj q7 ys2 (d2_1 ++ [(T_Open.mk 2 (k2_5:Int) y2.fr)]) (k2_5+1)))) (Qbj q7 ys2 d2_1 (k2_5+1)))) (Qbj q7 ys2 d2_1 (k2_5+1)))
structure L_r04_Opens_1 where
 v1_2:V
 cs1_3:List V
 d1_1:List T_Open
 k1_5:Nat
def Qbq (q7:(Nat→(Int × Int))):List Piece→List T_Open→Nat→Option ((List T_Open))
 | [],d1_1,k1_5=>some (d1_1)
 | y1 :: ys1,d1_1,k1_5=>(cond (decide (((q7 0).1) < y1.fr)) ((cond (decide (y1.fr≤((q7 0).2))) ((ck (decide (d1_1.length+1≤1000000)) (Qbq q7 ys1 (d1_1 ++ [(T_Open.mk 1 (k1_5:Int) y1.fr)]) (k1_5+1)))) (Qbq q7 ys1 d1_1 (k1_5+1)))) (Qbq q7 ys1 d1_1 (k1_5+1)))
def Qf (p0:Code) (p1:Int) (p2:Int) (p3:(List Room)):Option ((List T_Open) × Int):=(cond (!(decide ((endE p0 p1 p2 p3)=0))) (some ([],(endE p0 p1 p2 p3))) (((atI p0.vs (askI p0 p1 p2 p3)).bind fun y4=>((Qgb y4 (askI p0 p1 p2 p3) p3).bind fun q6=>((Qeo q6).bind fun q7=>(ck (decide ((0:Int)≤p2) && decide (p2 < (2:Int))) (((Qbq q7 (List.drop 1 (arr [(y4.ln 0),(y4.ln 5)] (y4.ln 0) p2.toNat)) [] 1).bind fun o1_0_1=>((Qbj q7 (List.drop 1 (arr [(y4.ln 1),(y4.ln 6)] (y4.ln 1) p2.toNat)) o1_0_1 1).bind fun o2_0_1=>((Qbg q7 (List.drop 1 (arr [(y4.ln 2),(y4.ln 7)] (y4.ln 2) p2.toNat)) o2_0_1 1).bind fun o3_0_1=>((Qbl q7 (List.drop 1 (arr [(y4.ln 3),(y4.ln 8)] (y4.ln 3) p2.toNat)) o3_0_1 1).bind fun o4_0_1=>((Qbk q7 (List.drop 1 (arr [(y4.ln 4),(y4.ln 9)] (y4.ln 4) p2.toNat)) o4_0_1 1).bind fun o5_0_1=>some (o5_0_1,0)))))))))))))
set_option maxHeartbeats 1000000 in
theorem F_r04_Opens_ok (p0:Code) (p1:Int) (p2:Int) (p3:(List Room)) (v3_0:V) (cs0:List V) (g:G) (h0:CodeR g cs0 p0) (h3_0:RS RoomR 6 g v3_0 p3) (r:(List T_Open) × Int) (hF:Qf p0 p1 p2 p3=some r):Fw Tryz.prog natS (.f 37 [] []) [.agg cs0,.i .i64 p1,.i .i64 p2,v3_0] g [] fun g' ml' q=>ml'=[]∧∃ (w0_0:V),q=(.tup [w0_0,.i .i64 r.2])∧RS R_Open 3 g' w0_0 r.1:=by
 refine Fw.drop ?_
 unfold Qf at hF
 obtain ⟨vq0,rfl,hcq0⟩:=h0
 have lh0_1:=hcq0.1
 have lh3_0:=h3_0.1
 refine Fw.enter (N:=90) (al:=[(3,_),(2,_),(1,_),(0,_)]) Tryz.func37 (by kernel_rfl) (by kernel_rfl) rfl rfl rfl rfl ?_
 intro B
 refine .seq<|.region rfl<|.box .no rfl rfl rfl rfl fun b1=>.z rfl rfl<|.z rfl rfl<|.nil<|sq_n<|.seq<|.region rfl<|.w (.a (vs:=[_,_]) rfl .hd a_24 s_24 rfl rfl)<|.m rfl rfl<|.m rfl rfl<|.m rfl rfl<|.callV .no rfl rfl rfl (asked_ok _ _ _ _ _ _ _ ⟨_,rfl,hcq0⟩ h3_0)<|.m rfl rfl<|.q (.ext rfl rfl)<|.q (.ext rfl rfl)<|.z rfl rfl<|.z rfl rfl<|.nil<|sq_n<|.seq<|.seq<|.region rfl<|.m rfl rfl<|.b rfl rfl rfl rfl<|.nil<|sq_n<|.cond rfl (fun h3=>?_) (fun h3=>?_)
 ·have hF:=cT h3 hF
  refine .seq<|.region rfl<|.m rfl rfl<|.z rfl rfl<|.z rfl rfl<|.nil<|sq_n<|.ret<|sq_r ?_
  obtain rfl:=sI hF
  refine Qaa (Le.refl _) (.tmp rfl (.tmp rfl .nil)) rfl ?_
  exact ⟨_,rfl,RS.nil⟩
 have kh3:=dT (nF h3)
 have hF:=cF h3 hF
 refine .skip<|sq_n<|.seq<|.region rfl<|.q (.fa rfl Qfh)<|.w (.s rfl .hd a_22 rfl)<|.m rfl rfl ?_
 obtain ⟨y4,hy4,hF⟩:=bS hF
 have hj4:=Qez hy4
 refine .ixl .no rfl rfl hcq0 rfl e_22 hy4 ?_
 rintro b4 o4 _ hq4 ⟨p4,lv4,rfl,hp4,hl4⟩
 have lh4_1:=hp4.1
 have lh4_2:=(hl4 0 (by decide)).1
 have lh4_3:=(hl4 1 (by decide)).1
 have lh4_4:=(hl4 2 (by decide)).1
 have lh4_5:=(hl4 3 (by decide)).1
 have lh4_6:=(hl4 4 (by decide)).1
 have lh4_7:=(hl4 5 (by decide)).1
 have lh4_8:=(hl4 6 (by decide)).1
 have lh4_9:=(hl4 7 (by decide)).1
 have lh4_10:=(hl4 8 (by decide)).1
 have lh4_11:=(hl4 9 (by decide)).1
 refine .w (.pa 0 (vs:=[_,_,_,_,_,_,_,_,_,_,_,_]) rfl hq4 rfl a_97 s_97 rfl rfl)<|.alloc .no rfl z_97 fun b5=>.st (cs':=[_,_,_,_,_,_,_,_,_,_,_,_]) .no rfl rfl rfl rfl s_97 rfl rfl .hd rfl (Qa rfl (Qa hp4.one (Qa (hl4 0 (by decide)).one (Qa (hl4 1 (by decide)).one (Qa (hl4 2 (by decide)).one (Qa (hl4 3 (by decide)).one (Qa (hl4 4 (by decide)).one (Qa (hl4 5 (by decide)).one (Qa (hl4 6 (by decide)).one (Qa (hl4 7 (by decide)).one (Qa (hl4 8 (by decide)).one (Qa (hl4 9 (by decide)).one rfl))))))))))))<|.nil<|sq_n<|.seq<|.region rfl<|.w (.a (vs:=[_,_,_,_,_,_,_,_,_,_,_,_]) rfl .hd a_97 s_97 rfl rfl)<|.m rfl rfl<|.m rfl rfl ?_
 obtain ⟨q6,hq6,hF⟩:=bS hF
 refine .call .no rfl rfl rfl (F_r04_plan_ok y4 (askI p0 p1 p2 p3) p3 _ _ _ ⟨_,_,rfl,hp4,hl4⟩ h3_0 _ hq6) ?_
 rintro g6 ml6 r6 hle6 ⟨rfl,cs6_0,rfl,⟨v2_6_0,v6_6_0,v10_6_0,v14_6_0,v18_6_0,v21_6_0,rfl,h2_6_0,h6_6_0,h10_6_0,h14_6_0,h18_6_0,h21_6_0⟩⟩
 replace hl4:=fun k hk=>(hl4 k hk).mono PieceR.mono hle6
 have lh6_0_2:=h2_6_0.1
 have lh6_0_6:=h6_6_0.1
 have lh6_0_10:=h10_6_0.1
 have lh6_0_14:=h14_6_0.1
 have lh6_0_18:=h18_6_0.1
 have lh6_0_21:=h21_6_0.1
 obtain ⟨q7,hq7,hF⟩:=bS hF
 refine .callV .no rfl rfl rfl (F_r04_litres_ok q6 _ _ ⟨_,_,_,_,_,_,rfl,h2_6_0,h6_6_0,h10_6_0,h14_6_0,h18_6_0,h21_6_0⟩ _ hq7)<|.alloc .no rfl z_109 fun b8=>.st (cs':=[_,_,_,_,_,_,_,_,_,_]) .no rfl rfl rfl rfl s_109 rfl rfl .hd rfl rfl<|.nil<|sq_n<|.seq<|.region rfl<|.z rfl rfl<|.nil<|sq_n<|.seq<|.seq<|.region rfl<|.z rfl rfl<|.nil<|sq_n<|.block<|.unroll<|.seq<|.seq<|.region rfl<|.m rfl rfl<|.b rfl rfl rfl rfl<|.nil<|sq_n<|.condT rfl (by decide)<|.skip<|sq_n<|.seq<|.block<|.seq<|.region rfl<|.m rfl rfl<|.m rfl rfl<|.q (.fa rfl Qaj) ?_
 obtain ⟨hsy9,hF⟩:=ckS hF
 have hsy9:=symB (n:=2) hsy9
 refine .q (.ixai rfl rfl ae_95 hsy9)<|.q (.ixa (j:=0) rfl rfl ae_94 (by decide))<|.ldc (Φ:=fun w10_0=>RS PieceR 3 g6 w10_0 (arr [(y4.ln 0),(y4.ln 5)] (y4.ln 0) p2.toNat)) .no rfl (sym2 hsy9 (fun e=>⟨_,.sO (o':=2) rfl (by rw [e];try rfl) (.tl .hd) a_93 rfl,by rw [e];exact (hl4 0 (by decide))⟩) (fun e=>⟨_,.sO (o':=7) rfl (by rw [e];try rfl) (.tl .hd) a_93 rfl,by rw [e];exact (hl4 5 (by decide))⟩)) fun v10 hv10=>?_
 have lhv10:=hv10.1
 refine .z rfl rfl<|.nil<|sq_n<|.seq<|.region rfl<|.z rfl rfl<|.nil<|sq_n<|.block<|.acc 3 124 ?_
 obtain ⟨o1,hF,hG1⟩:=bS hF
 refine .loopx (α:=L_r04_Opens_1) [(2,_),(12,_),(13,_),(15,_),(16,_)] [_,_,_] (fun fx x=>(14,x.v1_2) :: (17,.i .i64 (x.k1_5:Int)) :: fx) (fun mx x=>[.acc x.v1_2 3 x.cs1_3 124,rg mx 0,rg mx 1,rg mx 2]) (fun x g'=>AccR R_Open 3 g' x.v1_2 x.cs1_3 x.d1_1∧x.k1_5≤(arr [(y4.ln 0),(y4.ln 5)] (y4.ln 0) p2.toNat).length+1∧Qbq q7 ((arr [(y4.ln 0),(y4.ln 5)] (y4.ln 0) p2.toNat).drop x.k1_5) x.d1_1 x.k1_5=some o1) (fun x=>(arr [(y4.ln 0),(y4.ln 5)] (y4.ln 0) p2.toNat).length - x.k1_5) (L_r04_Opens_1.mk _ _ [] 1) ⟨rfl,rfl,rfl,rfl,rfl,rfl,rfl,trivial⟩ (List.Sublist.refl _) ⟨AccR.nil,(by first | omega | (dsimp only;omega)),hF⟩ ?_
 intro x1 gl1 hlo1 hJ1
 obtain ⟨v1_2,cs1_3,d1_1,k1_5⟩:=x1
 try dsimp only at hJ1
 obtain ⟨ha1_4,hk1,hF⟩:=hJ1
 refine .al0 [(14,v1_2),(17,.i .i64 (k1_5:Int)),(2,_),(12,_),(13,_),(15,_),(16,_)] ?_
 replace hl4:=fun k hk=>(hl4 k hk).mono PieceR.mono hlo1
 replace hv10:=hv10.mono PieceR.mono hlo1
 have lha1_4:=ha1_4.le
 refine .seq<|.seq<|.region rfl<|.m rfl rfl<|.m rfl rfl<|.q (.lenR rfl rfl rfl e_93 hv10)<|.b rfl rfl rfl rfl<|.nil<|sq_n<|.cond rfl (fun h12=>?_) (fun h12=>?_)
 ·have kh12:=dT h12
  obtain ⟨y1,hy1⟩:=getK (l:=(arr [(y4.ln 0),(y4.ln 5)] (y4.ln 0) p2.toNat)) (k:=k1_5) kh12
  rw [dc hy1,Qbq] at hF
  refine .skip<|sq_n<|.seq<|.block<|.seq<|.draw (tb:=[r0 0 0,r0 0 0,r0 3 0,r0 7 0,r0 15 0,r0 0 0,r0 32 0,r0 96 0,r0 224 0,r1 511 0,r1 1023 0,r0 2047 0,r0 2047 0,r0 8191 0,r0 16383 0,r0 32767 0,r0 2047 0,r0 67583 0,r0 198655 0,r0 460799 0,r1 1048575 0,r1 2097151 0]) rfl (by kernel_rfl) (by kernel_rfl) ?_
  refine .m rfl rfl<|.m rfl rfl<|.ixk (j:=k1_5) .no rfl rfl hv10 rfl e_93 hy1 ?_
  rintro b13 o13 _ hq13 rfl
  refine .q (.fa rfl Qai)<|.y rfl rfl rfl (.ps 0 rfl hq13 rfl a_3 rfl)<|.m rfl rfl<|.q (.ixa (j:=0) rfl rfl Qbp (by decide))<|.q (.fa rfl Qal)<|.y rfl rfl rfl (.s rfl (.tl .hd) a_3 rfl)<|.b rfl rfl rfl rfl<|.m rfl rfl<|.split (t:=65) rfl (fun h14=>?_) (fun h14=>?_)
  ·have kh14:=dT h14
   have hF:=cT h14 hF
   refine .py h14 (.move rfl)<|.py h14 (.move rfl)<|.ixk (j:=k1_5) (.yes rfl rfl h14) rfl rfl hv10 rfl e_93 hy1 ?_
   rintro b15 o15 _ hq15 rfl
   refine .py h14 (.fa rfl Qai)<|.ld (k:=0) (.yes rfl rfl h14) rfl rfl rfl trivial (.ps 0 rfl hq15 rfl a_3 rfl)<|.py h14 (.move rfl)<|.py h14 (.ixa (j:=0) rfl rfl Qbp (by decide))<|.py h14 (.fa rfl Qak)<|.ld (k:=0) (.yes rfl rfl h14) rfl rfl rfl trivial (.s rfl (.tl .hd) a_3 rfl)<|.py h14 (.bin rfl rfl rfl)<|.q (.pickT rfl h14 rfl)<|.nil<|sq_n<|.cond rfl (fun h16=>?_) (fun h16=>?_)
   ·have kh16:=dT h16
    have hF:=cT h16 hF
    refine .region rfl<|.m rfl rfl<|.m rfl rfl<|.q (.addL (c:=1) rfl rfl rfl (by decide))<|.m rfl rfl<|.m rfl rfl<|.m rfl rfl<|.ixk (j:=k1_5) .no rfl rfl hv10 rfl e_93 hy1 ?_
    rintro b17 o17 _ hq17 rfl
    refine .q (.fa rfl Qai)<|.w (.ps 0 rfl hq17 rfl a_3 rfl)<|.q (.build (qs:=[(0,_),(1,_),(2,_)]) (cs:=[_,_,_]) rfl b_124 rfl)<|.bs .no rfl (qs:=[(0,_)]) (c:=[_,_,_]) rfl sl_60 Qdp (by decide) rfl fun b18=>?_
    obtain ⟨hl19,hF⟩:=ckS hF
    have hl19:=of_decide_eq_true hl19
    refine .x .no rfl (.appA (m:=1) (new:=[_,_,_]) rfl rfl rfl (.tl .hd) sl_60 Qdp (.of rfl .sl sl_60 .hd (Nat.le_of_ble_eq_true rfl) rfl) (by decide) rfl (AccR.room (R:=R_Open) (ys:=[(T_Open.mk 1 (k1_5:Int) y1.fr)]) ha1_4 (Ls.cons (c:=[_,_,_]) rfl rfl .nil) hl19) rfl) fun v19=>.as (.tl .hd) fun av19=>?_
    have ha19:=AccR.app (R:=R_Open) (g:=gl1) (ys:=[(T_Open.mk 1 (k1_5:Int) y1.fr)]) ha1_4 (Ls.cons (c:=[_,_,_]) rfl rfl .nil) hl19 av19
    have lha19:=ha19.le
    refine .z rfl rfl<|.nil<|bq_n<|sq_n<|.region rfl<|.m rfl rfl<|.q (.inc1 rfl rfl (by omega))<|.z rfl rfl<|.nil<|Qac (L_r04_Opens_1.mk _ _ (d1_1 ++ [(T_Open.mk 1 (k1_5:Int) y1.fr)]) (k1_5+1)) ⟨rfl,rfl,rfl,rfl,rfl,rfl,rfl,trivial⟩ (.cons _ (List.Sublist.refl _)) (Le.refl _) ?_ ?_
    ·exact ⟨ha19,(Nat.le_add_right_of_le (Qaf hy1)),hF⟩
    ·simp only;omega
   have kh16:=dF h16
   have hF:=cF h16 hF
   refine .skip<|bq_n<|sq_n<|.region rfl<|.m rfl rfl<|.q (.inc1 rfl rfl (by omega))<|.z rfl rfl<|.nil<|Qac (L_r04_Opens_1.mk _ _ d1_1 (k1_5+1)) ⟨rfl,rfl,rfl,rfl,rfl,rfl,rfl,trivial⟩ (List.Sublist.refl _) (Le.refl _) ?_ ?_
   ·exact ⟨ha1_4,(Nat.le_add_right_of_le (Qaf hy1)),hF⟩
   ·simp only;omega
  have kh14:=dF h14
  have hF:=cF h14 hF
  refine .k h14<|.k h14<|.k h14<|.k h14<|.k h14<|.k h14<|.k h14<|.k h14<|.k h14<|.k h14<|.q (.pickF rfl h14 rfl)<|.nil<|sq_n<|.condF rfl rfl<|.skip<|bq_n<|sq_n<|.region rfl<|.m rfl rfl<|.q (.inc1 rfl rfl (by omega))<|.z rfl rfl<|.nil<|Qac (L_r04_Opens_1.mk _ _ d1_1 (k1_5+1)) ⟨rfl,rfl,rfl,rfl,rfl,rfl,rfl,trivial⟩ (List.Sublist.refl _) (Le.refl _) ?_ ?_
  ·exact ⟨ha1_4,(Nat.le_add_right_of_le (Qaf hy1)),hF⟩
  ·simp only;omega
 have kh12:=dF h12
 rw [dn (by omega),Qbq] at hF
 obtain rfl:=sI hF
 have hF:=hG1
 refine .exit<|sq_e<|lq_e<|bq_x rfl<|bq_n<|sq_n<|.region rfl<|.m rfl rfl<|.q (.addL (c:=1) rfl rfl rfl (by decide))<|.z rfl rfl<|.nil<|sq_n<|.unroll<|.seq<|.seq<|.region rfl<|.m rfl rfl<|.b rfl rfl rfl rfl<|.nil<|sq_n<|.condT rfl (by decide)<|.skip<|sq_n<|.seq<|.block<|.seq<|.region rfl<|.m rfl rfl<|.m rfl rfl<|.q (.fa rfl Qaj)<|.q (.ixai rfl rfl ae_95 hsy9)<|.q (.ixa (j:=1) rfl rfl ae_94 (by decide))<|.ldc (Φ:=fun w20_0=>RS PieceR 3 gl1 w20_0 (arr [(y4.ln 1),(y4.ln 6)] (y4.ln 1) p2.toNat)) .no rfl (sym2 hsy9 (fun e=>⟨_,.sO (o':=3) rfl (by rw [e];try rfl) (.tl (.tl .hd)) a_93 rfl,by rw [e];exact (hl4 1 (by decide))⟩) (fun e=>⟨_,.sO (o':=8) rfl (by rw [e];try rfl) (.tl (.tl .hd)) a_93 rfl,by rw [e];exact (hl4 6 (by decide))⟩)) fun v20 hv20=>?_
 have lhv20:=hv20.1
 refine .z rfl rfl<|.nil<|sq_n<|.seq<|.region rfl<|.z rfl rfl<|.nil<|sq_n<|.block ?_
 obtain ⟨o2,hF,hG2⟩:=bS hF
 refine .loopx (α:=L_r04_Opens_2) [(2,_),(12,_),(13,_),(15,_),(16,_)] [_,_,_] (fun fx x=>(14,x.v2_2) :: (17,.i .i64 (x.k2_5:Int)) :: fx) (fun mx x=>[.acc x.v2_2 3 x.cs2_3 124,rg mx 0,rg mx 1,rg mx 2]) (fun x g'=>AccR R_Open 3 g' x.v2_2 x.cs2_3 x.d2_1∧x.k2_5≤(arr [(y4.ln 1),(y4.ln 6)] (y4.ln 1) p2.toNat).length+1∧Qbj q7 ((arr [(y4.ln 1),(y4.ln 6)] (y4.ln 1) p2.toNat).drop x.k2_5) x.d2_1 x.k2_5=some o2) (fun x=>(arr [(y4.ln 1),(y4.ln 6)] (y4.ln 1) p2.toNat).length - x.k2_5) (L_r04_Opens_2.mk _ _ d1_1 1) ⟨rfl,rfl,rfl,rfl,rfl,rfl,rfl,trivial⟩ (List.Sublist.refl _) ⟨ha1_4,(by first | omega | (dsimp only;omega)),hF⟩ ?_
 intro x2 gl2 hlo2 hJ2
 obtain ⟨v2_2,cs2_3,d2_1,k2_5⟩:=x2
 try dsimp only at hJ2
 obtain ⟨ha2_4,hk2,hF⟩:=hJ2
 refine .al0 [(14,v2_2),(17,.i .i64 (k2_5:Int)),(2,_),(12,_),(13,_),(15,_),(16,_)] ?_
 replace hl4:=fun k hk=>(hl4 k hk).mono PieceR.mono hlo2
 replace hv20:=hv20.mono PieceR.mono hlo2
 have lha2_4:=ha2_4.le
 refine .seq<|.seq<|.region rfl<|.m rfl rfl<|.m rfl rfl<|.q (.lenR rfl rfl rfl e_93 hv20)<|.b rfl rfl rfl rfl<|.nil<|sq_n<|.cond rfl (fun h21=>?_) (fun h21=>?_)
 ·have kh21:=dT h21
  obtain ⟨y2,hy2⟩:=getK (l:=(arr [(y4.ln 1),(y4.ln 6)] (y4.ln 1) p2.toNat)) (k:=k2_5) kh21
  rw [dc hy2,Qbj] at hF
  refine .skip<|sq_n<|.seq<|.block<|.seq<|.draw (tb:=[r0 0 0,r0 0 0,r0 3 0,r0 7 0,r0 15 0,r0 0 0,r0 32 0,r0 96 0,r0 224 0,r1 511 0,r1 1023 0,r0 2047 0,r0 2047 0,r0 8191 0,r0 16383 0,r0 32767 0,r0 2047 0,r0 67583 0,r0 198655 0,r0 460799 0,r1 1048575 0,r1 2097151 0]) rfl (by kernel_rfl) (by kernel_rfl) ?_
  refine .m rfl rfl<|.m rfl rfl<|.ixk (j:=k2_5) .no rfl rfl hv20 rfl e_93 hy2 ?_
  rintro b22 o22 _ hq22 rfl
  refine .q (.fa rfl Qai)<|.y rfl rfl rfl (.ps 0 rfl hq22 rfl a_3 rfl)<|.m rfl rfl<|.q (.ixa (j:=1) rfl rfl Qbp (by decide))<|.q (.fa rfl Qal)<|.y rfl rfl rfl (.s rfl (.tl .hd) a_3 rfl)<|.b rfl rfl rfl rfl<|.m rfl rfl<|.split (t:=65) rfl (fun h23=>?_) (fun h23=>?_)
  ·have kh23:=dT h23
   have hF:=cT h23 hF
   refine .py h23 (.move rfl)<|.py h23 (.move rfl)<|.ixk (j:=k2_5) (.yes rfl rfl h23) rfl rfl hv20 rfl e_93 hy2 ?_
   rintro b24 o24 _ hq24 rfl
   refine .py h23 (.fa rfl Qai)<|.ld (k:=0) (.yes rfl rfl h23) rfl rfl rfl trivial (.ps 0 rfl hq24 rfl a_3 rfl)<|.py h23 (.move rfl)<|.py h23 (.ixa (j:=1) rfl rfl Qbp (by decide))<|.py h23 (.fa rfl Qak)<|.ld (k:=0) (.yes rfl rfl h23) rfl rfl rfl trivial (.s rfl (.tl .hd) a_3 rfl)<|.py h23 (.bin rfl rfl rfl)<|.q (.pickT rfl h23 rfl)<|.nil<|sq_n<|.cond rfl (fun h25=>?_) (fun h25=>?_)
   ·have kh25:=dT h25
    have hF:=cT h25 hF
    refine .region rfl<|.m rfl rfl<|.m rfl rfl<|.q (.addL (c:=2) rfl rfl rfl (by decide))<|.m rfl rfl<|.m rfl rfl<|.m rfl rfl<|.ixk (j:=k2_5) .no rfl rfl hv20 rfl e_93 hy2 ?_
    rintro b26 o26 _ hq26 rfl
    refine .q (.fa rfl Qai)<|.w (.ps 0 rfl hq26 rfl a_3 rfl)<|.q (.build (qs:=[(0,_),(1,_),(2,_)]) (cs:=[_,_,_]) rfl b_124 rfl)<|.bs .no rfl (qs:=[(0,_)]) (c:=[_,_,_]) rfl sl_60 Qdp (by decide) rfl fun b27=>?_
    obtain ⟨hl28,hF⟩:=ckS hF
    have hl28:=of_decide_eq_true hl28
    refine .x .no rfl (.appA (m:=1) (new:=[_,_,_]) rfl rfl rfl (.tl .hd) sl_60 Qdp (.of rfl .sl sl_60 .hd (Nat.le_of_ble_eq_true rfl) rfl) (by decide) rfl (AccR.room (R:=R_Open) (ys:=[(T_Open.mk 2 (k2_5:Int) y2.fr)]) ha2_4 (Ls.cons (c:=[_,_,_]) rfl rfl .nil) hl28) rfl) fun v28=>.as (.tl .hd) fun av28=>?_
    have ha28:=AccR.app (R:=R_Open) (g:=gl2) (ys:=[(T_Open.mk 2 (k2_5:Int) y2.fr)]) ha2_4 (Ls.cons (c:=[_,_,_]) rfl rfl .nil) hl28 av28
    have lha28:=ha28.le
    refine .z rfl rfl<|.nil<|bq_n<|sq_n<|.region rfl<|.m rfl rfl<|.q (.inc1 rfl rfl (by omega))<|.z rfl rfl<|.nil<|Qac (L_r04_Opens_2.mk _ _ (d2_1 ++ [(T_Open.mk 2 (k2_5:Int) y2.fr)]) (k2_5+1)) ⟨rfl,rfl,rfl,rfl,rfl,rfl,rfl,trivial⟩ (.cons _ (List.Sublist.refl _)) (Le.refl _) ?_ ?_
    ·exact ⟨ha28,(Nat.le_add_right_of_le (Qaf hy2)),hF⟩
    ·simp only;omega
   have kh25:=dF h25
   have hF:=cF h25 hF
   refine .skip<|bq_n<|sq_n<|.region rfl<|.m rfl rfl<|.q (.inc1 rfl rfl (by omega))<|.z rfl rfl<|.nil<|Qac (L_r04_Opens_2.mk _ _ d2_1 (k2_5+1)) ⟨rfl,rfl,rfl,rfl,rfl,rfl,rfl,trivial⟩ (List.Sublist.refl _) (Le.refl _) ?_ ?_
   ·exact ⟨ha2_4,(Nat.le_add_right_of_le (Qaf hy2)),hF⟩
   ·simp only;omega
  have kh23:=dF h23
  have hF:=cF h23 hF
  refine .k h23<|.k h23<|.k h23<|.k h23<|.k h23<|.k h23<|.k h23<|.k h23<|.k h23<|.k h23<|.q (.pickF rfl h23 rfl)<|.nil<|sq_n<|.condF rfl rfl<|.skip<|bq_n<|sq_n<|.region rfl<|.m rfl rfl<|.q (.inc1 rfl rfl (by omega))<|.z rfl rfl<|.nil<|Qac (L_r04_Opens_2.mk _ _ d2_1 (k2_5+1)) ⟨rfl,rfl,rfl,rfl,rfl,rfl,rfl,trivial⟩ (List.Sublist.refl _) (Le.refl _) ?_ ?_
  ·exact ⟨ha2_4,(Nat.le_add_right_of_le (Qaf hy2)),hF⟩
  ·simp only;omega
 have kh21:=dF h21
 rw [dn (by omega),Qbj] at hF
 obtain rfl:=sI hF
 have hF:=hG2
 refine .exit<|sq_e<|lq_e<|bq_x rfl<|bq_n<|sq_n<|.region rfl<|.m rfl rfl<|.q (.addL (c:=2) rfl rfl rfl (by decide))<|.z rfl rfl<|.nil<|sq_n<|.unroll<|.seq<|.seq<|.region rfl<|.m rfl rfl<|.b rfl rfl rfl rfl<|.nil<|sq_n<|.condT rfl (by decide)<|.skip<|sq_n<|.seq<|.block<|.seq<|.region rfl<|.m rfl rfl<|.m rfl rfl<|.q (.fa rfl Qaj)<|.q (.ixai rfl rfl ae_95 hsy9)<|.q (.ixa (j:=2) rfl rfl ae_94 (by decide))<|.ldc (Φ:=fun w29_0=>RS PieceR 3 gl2 w29_0 (arr [(y4.ln 2),(y4.ln 7)] (y4.ln 2) p2.toNat)) .no rfl (sym2 hsy9 (fun e=>⟨_,.sO (o':=4) rfl (by rw [e];try rfl) (.tl (.tl .hd)) a_93 rfl,by rw [e];exact (hl4 2 (by decide))⟩) (fun e=>⟨_,.sO (o':=9) rfl (by rw [e];try rfl) (.tl (.tl .hd)) a_93 rfl,by rw [e];exact (hl4 7 (by decide))⟩)) fun v29 hv29=>?_
 have lhv29:=hv29.1
 refine .z rfl rfl<|.nil<|sq_n<|.seq<|.region rfl<|.z rfl rfl<|.nil<|sq_n<|.block ?_
 obtain ⟨o3,hF,hG3⟩:=bS hF
 refine .loopx (α:=L_r04_Opens_3) [(2,_),(12,_),(13,_),(15,_),(16,_)] [_,_,_] (fun fx x=>(14,x.v3_2) :: (17,.i .i64 (x.k3_5:Int)) :: fx) (fun mx x=>[.acc x.v3_2 3 x.cs3_3 124,rg mx 0,rg mx 1,rg mx 2]) (fun x g'=>AccR R_Open 3 g' x.v3_2 x.cs3_3 x.d3_1∧x.k3_5≤(arr [(y4.ln 2),(y4.ln 7)] (y4.ln 2) p2.toNat).length+1∧Qbg q7 ((arr [(y4.ln 2),(y4.ln 7)] (y4.ln 2) p2.toNat).drop x.k3_5) x.d3_1 x.k3_5=some o3) (fun x=>(arr [(y4.ln 2),(y4.ln 7)] (y4.ln 2) p2.toNat).length - x.k3_5) (L_r04_Opens_3.mk _ _ d2_1 1) ⟨rfl,rfl,rfl,rfl,rfl,rfl,rfl,trivial⟩ (List.Sublist.refl _) ⟨ha2_4,(by first | omega | (dsimp only;omega)),hF⟩ ?_
 intro x3 gl3 hlo3 hJ3
 obtain ⟨v3_2,cs3_3,d3_1,k3_5⟩:=x3
 try dsimp only at hJ3
 obtain ⟨ha3_4,hk3,hF⟩:=hJ3
 refine .al0 [(14,v3_2),(17,.i .i64 (k3_5:Int)),(2,_),(12,_),(13,_),(15,_),(16,_)] ?_
 replace hl4:=fun k hk=>(hl4 k hk).mono PieceR.mono hlo3
 replace hv29:=hv29.mono PieceR.mono hlo3
 have lha3_4:=ha3_4.le
 refine .seq<|.seq<|.region rfl<|.m rfl rfl<|.m rfl rfl<|.q (.lenR rfl rfl rfl e_93 hv29)<|.b rfl rfl rfl rfl<|.nil<|sq_n<|.cond rfl (fun h30=>?_) (fun h30=>?_)
 ·have kh30:=dT h30
  obtain ⟨y3,hy3⟩:=getK (l:=(arr [(y4.ln 2),(y4.ln 7)] (y4.ln 2) p2.toNat)) (k:=k3_5) kh30
  rw [dc hy3,Qbg] at hF
  refine .skip<|sq_n<|.seq<|.block<|.seq<|.draw (tb:=[r0 0 0,r0 0 0,r0 3 0,r0 7 0,r0 15 0,r0 0 0,r0 32 0,r0 96 0,r0 224 0,r1 511 0,r1 1023 0,r0 2047 0,r0 2047 0,r0 8191 0,r0 16383 0,r0 32767 0,r0 2047 0,r0 67583 0,r0 198655 0,r0 460799 0,r1 1048575 0,r1 2097151 0]) rfl (by kernel_rfl) (by kernel_rfl) ?_
  refine .m rfl rfl<|.m rfl rfl<|.ixk (j:=k3_5) .no rfl rfl hv29 rfl e_93 hy3 ?_
  rintro b31 o31 _ hq31 rfl
  refine .q (.fa rfl Qai)<|.y rfl rfl rfl (.ps 0 rfl hq31 rfl a_3 rfl)<|.m rfl rfl<|.q (.ixa (j:=2) rfl rfl Qbp (by decide))<|.q (.fa rfl Qal)<|.y rfl rfl rfl (.s rfl (.tl .hd) a_3 rfl)<|.b rfl rfl rfl rfl<|.m rfl rfl<|.split (t:=65) rfl (fun h32=>?_) (fun h32=>?_)
  ·have kh32:=dT h32
   have hF:=cT h32 hF
   refine .py h32 (.move rfl)<|.py h32 (.move rfl)<|.ixk (j:=k3_5) (.yes rfl rfl h32) rfl rfl hv29 rfl e_93 hy3 ?_
   rintro b33 o33 _ hq33 rfl
   refine .py h32 (.fa rfl Qai)<|.ld (k:=0) (.yes rfl rfl h32) rfl rfl rfl trivial (.ps 0 rfl hq33 rfl a_3 rfl)<|.py h32 (.move rfl)<|.py h32 (.ixa (j:=2) rfl rfl Qbp (by decide))<|.py h32 (.fa rfl Qak)<|.ld (k:=0) (.yes rfl rfl h32) rfl rfl rfl trivial (.s rfl (.tl .hd) a_3 rfl)<|.py h32 (.bin rfl rfl rfl)<|.q (.pickT rfl h32 rfl)<|.nil<|sq_n<|.cond rfl (fun h34=>?_) (fun h34=>?_)
   ·have kh34:=dT h34
    have hF:=cT h34 hF
    refine .region rfl<|.m rfl rfl<|.m rfl rfl<|.q (.addL (c:=3) rfl rfl rfl (by decide))<|.m rfl rfl<|.m rfl rfl<|.m rfl rfl<|.ixk (j:=k3_5) .no rfl rfl hv29 rfl e_93 hy3 ?_
    rintro b35 o35 _ hq35 rfl
    refine .q (.fa rfl Qai)<|.w (.ps 0 rfl hq35 rfl a_3 rfl)<|.q (.build (qs:=[(0,_),(1,_),(2,_)]) (cs:=[_,_,_]) rfl b_124 rfl)<|.bs .no rfl (qs:=[(0,_)]) (c:=[_,_,_]) rfl sl_60 Qdp (by decide) rfl fun b36=>?_
    obtain ⟨hl37,hF⟩:=ckS hF
    have hl37:=of_decide_eq_true hl37
    refine .x .no rfl (.appA (m:=1) (new:=[_,_,_]) rfl rfl rfl (.tl .hd) sl_60 Qdp (.of rfl .sl sl_60 .hd (Nat.le_of_ble_eq_true rfl) rfl) (by decide) rfl (AccR.room (R:=R_Open) (ys:=[(T_Open.mk 3 (k3_5:Int) y3.fr)]) ha3_4 (Ls.cons (c:=[_,_,_]) rfl rfl .nil) hl37) rfl) fun v37=>.as (.tl .hd) fun av37=>?_
    have ha37:=AccR.app (R:=R_Open) (g:=gl3) (ys:=[(T_Open.mk 3 (k3_5:Int) y3.fr)]) ha3_4 (Ls.cons (c:=[_,_,_]) rfl rfl .nil) hl37 av37
    have lha37:=ha37.le
    refine .z rfl rfl<|.nil<|bq_n<|sq_n<|.region rfl<|.m rfl rfl<|.q (.inc1 rfl rfl (by omega))<|.z rfl rfl<|.nil<|Qac (L_r04_Opens_3.mk _ _ (d3_1 ++ [(T_Open.mk 3 (k3_5:Int) y3.fr)]) (k3_5+1)) ⟨rfl,rfl,rfl,rfl,rfl,rfl,rfl,trivial⟩ (.cons _ (List.Sublist.refl _)) (Le.refl _) ?_ ?_
    ·exact ⟨ha37,(Nat.le_add_right_of_le (Qaf hy3)),hF⟩
    ·simp only;omega
   have kh34:=dF h34
   have hF:=cF h34 hF
   refine .skip<|bq_n<|sq_n<|.region rfl<|.m rfl rfl<|.q (.inc1 rfl rfl (by omega))<|.z rfl rfl<|.nil<|Qac (L_r04_Opens_3.mk _ _ d3_1 (k3_5+1)) ⟨rfl,rfl,rfl,rfl,rfl,rfl,rfl,trivial⟩ (List.Sublist.refl _) (Le.refl _) ?_ ?_
   ·exact ⟨ha3_4,(Nat.le_add_right_of_le (Qaf hy3)),hF⟩
   ·simp only;omega
  have kh32:=dF h32
  have hF:=cF h32 hF
  refine .k h32<|.k h32<|.k h32<|.k h32<|.k h32<|.k h32<|.k h32<|.k h32<|.k h32<|.k h32<|.q (.pickF rfl h32 rfl)<|.nil<|sq_n<|.condF rfl rfl<|.skip<|bq_n<|sq_n<|.region rfl<|.m rfl rfl<|.q (.inc1 rfl rfl (by omega))<|.z rfl rfl<|.nil<|Qac (L_r04_Opens_3.mk _ _ d3_1 (k3_5+1)) ⟨rfl,rfl,rfl,rfl,rfl,rfl,rfl,trivial⟩ (List.Sublist.refl _) (Le.refl _) ?_ ?_
  ·exact ⟨ha3_4,(Nat.le_add_right_of_le (Qaf hy3)),hF⟩
  ·simp only;omega
 have kh30:=dF h30
 rw [dn (by omega),Qbg] at hF
 obtain rfl:=sI hF
 have hF:=hG3
 refine .exit<|sq_e<|lq_e<|bq_x rfl<|bq_n<|sq_n<|.region rfl<|.m rfl rfl<|.q (.addL (c:=3) rfl rfl rfl (by decide))<|.z rfl rfl<|.nil<|sq_n<|.unroll<|.seq<|.seq<|.region rfl<|.m rfl rfl<|.b rfl rfl rfl rfl<|.nil<|sq_n<|.condT rfl (by decide)<|.skip<|sq_n<|.seq<|.block<|.seq<|.region rfl<|.m rfl rfl<|.m rfl rfl<|.q (.fa rfl Qaj)<|.q (.ixai rfl rfl ae_95 hsy9)<|.q (.ixa (j:=3) rfl rfl ae_94 (by decide))<|.ldc (Φ:=fun w38_0=>RS PieceR 3 gl3 w38_0 (arr [(y4.ln 3),(y4.ln 8)] (y4.ln 3) p2.toNat)) .no rfl (sym2 hsy9 (fun e=>⟨_,.sO (o':=5) rfl (by rw [e];try rfl) (.tl (.tl .hd)) a_93 rfl,by rw [e];exact (hl4 3 (by decide))⟩) (fun e=>⟨_,.sO (o':=10) rfl (by rw [e];try rfl) (.tl (.tl .hd)) a_93 rfl,by rw [e];exact (hl4 8 (by decide))⟩)) fun v38 hv38=>?_
 have lhv38:=hv38.1
 refine .z rfl rfl<|.nil<|sq_n<|.seq<|.region rfl<|.z rfl rfl<|.nil<|sq_n<|.block ?_
 obtain ⟨o4,hF,hG4⟩:=bS hF
 refine .loopx (α:=L_r04_Opens_4) [(2,_),(12,_),(13,_),(15,_),(16,_)] [_,_,_] (fun fx x=>(14,x.v4_2) :: (17,.i .i64 (x.k4_5:Int)) :: fx) (fun mx x=>[.acc x.v4_2 3 x.cs4_3 124,rg mx 0,rg mx 1,rg mx 2]) (fun x g'=>AccR R_Open 3 g' x.v4_2 x.cs4_3 x.d4_1∧x.k4_5≤(arr [(y4.ln 3),(y4.ln 8)] (y4.ln 3) p2.toNat).length+1∧Qbl q7 ((arr [(y4.ln 3),(y4.ln 8)] (y4.ln 3) p2.toNat).drop x.k4_5) x.d4_1 x.k4_5=some o4) (fun x=>(arr [(y4.ln 3),(y4.ln 8)] (y4.ln 3) p2.toNat).length - x.k4_5) (L_r04_Opens_4.mk _ _ d3_1 1) ⟨rfl,rfl,rfl,rfl,rfl,rfl,rfl,trivial⟩ (List.Sublist.refl _) ⟨ha3_4,(by first | omega | (dsimp only;omega)),hF⟩ ?_
 intro x4 gl4 hlo4 hJ4
 obtain ⟨v4_2,cs4_3,d4_1,k4_5⟩:=x4
 try dsimp only at hJ4
 obtain ⟨ha4_4,hk4,hF⟩:=hJ4
 refine .al0 [(14,v4_2),(17,.i .i64 (k4_5:Int)),(2,_),(12,_),(13,_),(15,_),(16,_)] ?_
 replace hl4:=fun k hk=>(hl4 k hk).mono PieceR.mono hlo4
 replace hv38:=hv38.mono PieceR.mono hlo4
 have lha4_4:=ha4_4.le
 refine .seq<|.seq<|.region rfl<|.m rfl rfl<|.m rfl rfl<|.q (.lenR rfl rfl rfl e_93 hv38)<|.b rfl rfl rfl rfl<|.nil<|sq_n<|.cond rfl (fun h39=>?_) (fun h39=>?_)
 ·have kh39:=dT h39
  obtain ⟨y4,hy4⟩:=getK (l:=(arr [(y4.ln 3),(y4.ln 8)] (y4.ln 3) p2.toNat)) (k:=k4_5) kh39
  rw [dc hy4,Qbl] at hF
  refine .skip<|sq_n<|.seq<|.block<|.seq<|.draw (tb:=[r0 0 0,r0 0 0,r0 3 0,r0 7 0,r0 15 0,r0 0 0,r0 32 0,r0 96 0,r0 224 0,r1 511 0,r1 1023 0,r0 2047 0,r0 2047 0,r0 8191 0,r0 16383 0,r0 32767 0,r0 2047 0,r0 67583 0,r0 198655 0,r0 460799 0,r1 1048575 0,r1 2097151 0]) rfl (by kernel_rfl) (by kernel_rfl) ?_
  refine .m rfl rfl<|.m rfl rfl<|.ixk (j:=k4_5) .no rfl rfl hv38 rfl e_93 hy4 ?_
  rintro b40 o40 _ hq40 rfl
  refine .q (.fa rfl Qai)<|.y rfl rfl rfl (.ps 0 rfl hq40 rfl a_3 rfl)<|.m rfl rfl<|.q (.ixa (j:=3) rfl rfl Qbp (by decide))<|.q (.fa rfl Qal)<|.y rfl rfl rfl (.s rfl (.tl .hd) a_3 rfl)<|.b rfl rfl rfl rfl<|.m rfl rfl<|.split (t:=65) rfl (fun h41=>?_) (fun h41=>?_)
  ·have kh41:=dT h41
   have hF:=cT h41 hF
   refine .py h41 (.move rfl)<|.py h41 (.move rfl)<|.ixk (j:=k4_5) (.yes rfl rfl h41) rfl rfl hv38 rfl e_93 hy4 ?_
   rintro b42 o42 _ hq42 rfl
   refine .py h41 (.fa rfl Qai)<|.ld (k:=0) (.yes rfl rfl h41) rfl rfl rfl trivial (.ps 0 rfl hq42 rfl a_3 rfl)<|.py h41 (.move rfl)<|.py h41 (.ixa (j:=3) rfl rfl Qbp (by decide))<|.py h41 (.fa rfl Qak)<|.ld (k:=0) (.yes rfl rfl h41) rfl rfl rfl trivial (.s rfl (.tl .hd) a_3 rfl)<|.py h41 (.bin rfl rfl rfl)<|.q (.pickT rfl h41 rfl)<|.nil<|sq_n<|.cond rfl (fun h43=>?_) (fun h43=>?_)
   ·have kh43:=dT h43
    have hF:=cT h43 hF
    refine .region rfl<|.m rfl rfl<|.m rfl rfl<|.q (.addL (c:=4) rfl rfl rfl (by decide))<|.m rfl rfl<|.m rfl rfl<|.m rfl rfl<|.ixk (j:=k4_5) .no rfl rfl hv38 rfl e_93 hy4 ?_
    rintro b44 o44 _ hq44 rfl
    refine .q (.fa rfl Qai)<|.w (.ps 0 rfl hq44 rfl a_3 rfl)<|.q (.build (qs:=[(0,_),(1,_),(2,_)]) (cs:=[_,_,_]) rfl b_124 rfl)<|.bs .no rfl (qs:=[(0,_)]) (c:=[_,_,_]) rfl sl_60 Qdp (by decide) rfl fun b45=>?_
    obtain ⟨hl46,hF⟩:=ckS hF
    have hl46:=of_decide_eq_true hl46
    refine .x .no rfl (.appA (m:=1) (new:=[_,_,_]) rfl rfl rfl (.tl .hd) sl_60 Qdp (.of rfl .sl sl_60 .hd (Nat.le_of_ble_eq_true rfl) rfl) (by decide) rfl (AccR.room (R:=R_Open) (ys:=[(T_Open.mk 4 (k4_5:Int) y4.fr)]) ha4_4 (Ls.cons (c:=[_,_,_]) rfl rfl .nil) hl46) rfl) fun v46=>.as (.tl .hd) fun av46=>?_
    have ha46:=AccR.app (R:=R_Open) (g:=gl4) (ys:=[(T_Open.mk 4 (k4_5:Int) y4.fr)]) ha4_4 (Ls.cons (c:=[_,_,_]) rfl rfl .nil) hl46 av46
    have lha46:=ha46.le
    refine .z rfl rfl<|.nil<|bq_n<|sq_n<|.region rfl<|.m rfl rfl<|.q (.inc1 rfl rfl (by omega))<|.z rfl rfl<|.nil<|Qac (L_r04_Opens_4.mk _ _ (d4_1 ++ [(T_Open.mk 4 (k4_5:Int) y4.fr)]) (k4_5+1)) ⟨rfl,rfl,rfl,rfl,rfl,rfl,rfl,trivial⟩ (.cons _ (List.Sublist.refl _)) (Le.refl _) ?_ ?_
    ·exact ⟨ha46,(Nat.le_add_right_of_le (Qaf hy4)),hF⟩
    ·simp only;omega
   have kh43:=dF h43
   have hF:=cF h43 hF
   refine .skip<|bq_n<|sq_n<|.region rfl<|.m rfl rfl<|.q (.inc1 rfl rfl (by omega))<|.z rfl rfl<|.nil<|Qac (L_r04_Opens_4.mk _ _ d4_1 (k4_5+1)) ⟨rfl,rfl,rfl,rfl,rfl,rfl,rfl,trivial⟩ (List.Sublist.refl _) (Le.refl _) ?_ ?_
   ·exact ⟨ha4_4,(Nat.le_add_right_of_le (Qaf hy4)),hF⟩
   ·simp only;omega
  have kh41:=dF h41
  have hF:=cF h41 hF
  refine .k h41<|.k h41<|.k h41<|.k h41<|.k h41<|.k h41<|.k h41<|.k h41<|.k h41<|.k h41<|.q (.pickF rfl h41 rfl)<|.nil<|sq_n<|.condF rfl rfl<|.skip<|bq_n<|sq_n<|.region rfl<|.m rfl rfl<|.q (.inc1 rfl rfl (by omega))<|.z rfl rfl<|.nil<|Qac (L_r04_Opens_4.mk _ _ d4_1 (k4_5+1)) ⟨rfl,rfl,rfl,rfl,rfl,rfl,rfl,trivial⟩ (List.Sublist.refl _) (Le.refl _) ?_ ?_
  ·exact ⟨ha4_4,(Nat.le_add_right_of_le (Qaf hy4)),hF⟩
  ·simp only;omega
 have kh39:=dF h39
 rw [dn (by omega),Qbl] at hF
 obtain rfl:=sI hF
 have hF:=hG4
 refine .exit<|sq_e<|lq_e<|bq_x rfl<|bq_n<|sq_n<|.region rfl<|.m rfl rfl<|.q (.addL (c:=4) rfl rfl rfl (by decide))<|.z rfl rfl<|.nil<|sq_n<|.unroll<|.seq<|.seq<|.region rfl<|.m rfl rfl<|.b rfl rfl rfl rfl<|.nil<|sq_n<|.condT rfl (by decide)<|.skip<|sq_n<|.seq<|.block<|.seq<|.region rfl<|.m rfl rfl<|.m rfl rfl<|.q (.fa rfl Qaj)<|.q (.ixai rfl rfl ae_95 hsy9)<|.q (.ixa (j:=4) rfl rfl ae_94 (by decide))<|.ldc (Φ:=fun w47_0=>RS PieceR 3 gl4 w47_0 (arr [(y4.ln 4),(y4.ln 9)] (y4.ln 4) p2.toNat)) .no rfl (sym2 hsy9 (fun e=>⟨_,.sO (o':=6) rfl (by rw [e];try rfl) (.tl (.tl .hd)) a_93 rfl,by rw [e];exact (hl4 4 (by decide))⟩) (fun e=>⟨_,.sO (o':=11) rfl (by rw [e];try rfl) (.tl (.tl .hd)) a_93 rfl,by rw [e];exact (hl4 9 (by decide))⟩)) fun v47 hv47=>?_
 have lhv47:=hv47.1
 refine .z rfl rfl<|.nil<|sq_n<|.seq<|.region rfl<|.z rfl rfl<|.nil<|sq_n<|.block ?_
 obtain ⟨o5,hF,hG5⟩:=bS hF
 refine .loopx (α:=L_r04_Opens_5) [(2,_),(12,_),(13,_),(15,_),(16,_)] [_,_,_] (fun fx x=>(14,x.v5_2) :: (17,.i .i64 (x.k5_5:Int)) :: fx) (fun mx x=>[.acc x.v5_2 3 x.cs5_3 124,rg mx 0,rg mx 1,rg mx 2]) (fun x g'=>AccR R_Open 3 g' x.v5_2 x.cs5_3 x.d5_1∧x.k5_5≤(arr [(y4.ln 4),(y4.ln 9)] (y4.ln 4) p2.toNat).length+1∧Qbk q7 ((arr [(y4.ln 4),(y4.ln 9)] (y4.ln 4) p2.toNat).drop x.k5_5) x.d5_1 x.k5_5=some o5) (fun x=>(arr [(y4.ln 4),(y4.ln 9)] (y4.ln 4) p2.toNat).length - x.k5_5) (L_r04_Opens_5.mk _ _ d4_1 1) ⟨rfl,rfl,rfl,rfl,rfl,rfl,rfl,trivial⟩ (List.Sublist.refl _) ⟨ha4_4,(by first | omega | (dsimp only;omega)),hF⟩ ?_
 intro x5 gl5 hlo5 hJ5
 obtain ⟨v5_2,cs5_3,d5_1,k5_5⟩:=x5
 try dsimp only at hJ5
 obtain ⟨ha5_4,hk5,hF⟩:=hJ5
 refine .al0 [(14,v5_2),(17,.i .i64 (k5_5:Int)),(2,_),(12,_),(13,_),(15,_),(16,_)] ?_
 replace hv47:=hv47.mono PieceR.mono hlo5
 have lha5_4:=ha5_4.le
 refine .seq<|.seq<|.region rfl<|.m rfl rfl<|.m rfl rfl<|.q (.lenR rfl rfl rfl e_93 hv47)<|.b rfl rfl rfl rfl<|.nil<|sq_n<|.cond rfl (fun h48=>?_) (fun h48=>?_)
 ·have kh48:=dT h48
  obtain ⟨y5,hy5⟩:=getK (l:=(arr [(y4.ln 4),(y4.ln 9)] (y4.ln 4) p2.toNat)) (k:=k5_5) kh48
  rw [dc hy5,Qbk] at hF
  refine .skip<|sq_n<|.seq<|.block<|.seq<|.draw (tb:=[r0 0 0,r0 0 0,r0 3 0,r0 7 0,r0 15 0,r0 0 0,r0 32 0,r0 96 0,r0 224 0,r1 511 0,r1 1023 0,r0 2047 0,r0 2047 0,r0 8191 0,r0 16383 0,r0 32767 0,r0 2047 0,r0 67583 0,r0 198655 0,r0 460799 0,r1 1048575 0,r1 2097151 0]) rfl (by kernel_rfl) (by kernel_rfl) ?_
  refine .m rfl rfl<|.m rfl rfl<|.ixk (j:=k5_5) .no rfl rfl hv47 rfl e_93 hy5 ?_
  rintro b49 o49 _ hq49 rfl
  refine .q (.fa rfl Qai)<|.y rfl rfl rfl (.ps 0 rfl hq49 rfl a_3 rfl)<|.m rfl rfl<|.q (.ixa (j:=4) rfl rfl Qbp (by decide))<|.q (.fa rfl Qal)<|.y rfl rfl rfl (.s rfl (.tl .hd) a_3 rfl)<|.b rfl rfl rfl rfl<|.m rfl rfl<|.split (t:=65) rfl (fun h50=>?_) (fun h50=>?_)
  ·have kh50:=dT h50
   have hF:=cT h50 hF
   refine .py h50 (.move rfl)<|.py h50 (.move rfl)<|.ixk (j:=k5_5) (.yes rfl rfl h50) rfl rfl hv47 rfl e_93 hy5 ?_
   rintro b51 o51 _ hq51 rfl
   refine .py h50 (.fa rfl Qai)<|.ld (k:=0) (.yes rfl rfl h50) rfl rfl rfl trivial (.ps 0 rfl hq51 rfl a_3 rfl)<|.py h50 (.move rfl)<|.py h50 (.ixa (j:=4) rfl rfl Qbp (by decide))<|.py h50 (.fa rfl Qak)<|.ld (k:=0) (.yes rfl rfl h50) rfl rfl rfl trivial (.s rfl (.tl .hd) a_3 rfl)<|.py h50 (.bin rfl rfl rfl)<|.q (.pickT rfl h50 rfl)<|.nil<|sq_n<|.cond rfl (fun h52=>?_) (fun h52=>?_)
   ·have kh52:=dT h52
    have hF:=cT h52 hF
    refine .region rfl<|.m rfl rfl<|.m rfl rfl<|.q (.addL (c:=5) rfl rfl rfl (by decide))<|.m rfl rfl<|.m rfl rfl<|.m rfl rfl<|.ixk (j:=k5_5) .no rfl rfl hv47 rfl e_93 hy5 ?_
    rintro b53 o53 _ hq53 rfl
    refine .q (.fa rfl Qai)<|.w (.ps 0 rfl hq53 rfl a_3 rfl)<|.q (.build (qs:=[(0,_),(1,_),(2,_)]) (cs:=[_,_,_]) rfl b_124 rfl)<|.bs .no rfl (qs:=[(0,_)]) (c:=[_,_,_]) rfl sl_60 Qdp (by decide) rfl fun b54=>?_
    obtain ⟨hl55,hF⟩:=ckS hF
    have hl55:=of_decide_eq_true hl55
    refine .x .no rfl (.appA (m:=1) (new:=[_,_,_]) rfl rfl rfl (.tl .hd) sl_60 Qdp (.of rfl .sl sl_60 .hd (Nat.le_of_ble_eq_true rfl) rfl) (by decide) rfl (AccR.room (R:=R_Open) (ys:=[(T_Open.mk 5 (k5_5:Int) y5.fr)]) ha5_4 (Ls.cons (c:=[_,_,_]) rfl rfl .nil) hl55) rfl) fun v55=>.as (.tl .hd) fun av55=>?_
    have ha55:=AccR.app (R:=R_Open) (g:=gl5) (ys:=[(T_Open.mk 5 (k5_5:Int) y5.fr)]) ha5_4 (Ls.cons (c:=[_,_,_]) rfl rfl .nil) hl55 av55
    have lha55:=ha55.le
    refine .z rfl rfl<|.nil<|bq_n<|sq_n<|.region rfl<|.m rfl rfl<|.q (.inc1 rfl rfl (by omega))<|.z rfl rfl<|.nil<|Qac (L_r04_Opens_5.mk _ _ (d5_1 ++ [(T_Open.mk 5 (k5_5:Int) y5.fr)]) (k5_5+1)) ⟨rfl,rfl,rfl,rfl,rfl,rfl,rfl,trivial⟩ (.cons _ (List.Sublist.refl _)) (Le.refl _) ?_ ?_
    ·exact ⟨ha55,(Nat.le_add_right_of_le (Qaf hy5)),hF⟩
    ·simp only;omega
   have kh52:=dF h52
   have hF:=cF h52 hF
   refine .skip<|bq_n<|sq_n<|.region rfl<|.m rfl rfl<|.q (.inc1 rfl rfl (by omega))<|.z rfl rfl<|.nil<|Qac (L_r04_Opens_5.mk _ _ d5_1 (k5_5+1)) ⟨rfl,rfl,rfl,rfl,rfl,rfl,rfl,trivial⟩ (List.Sublist.refl _) (Le.refl _) ?_ ?_
   ·exact ⟨ha5_4,(Nat.le_add_right_of_le (Qaf hy5)),hF⟩
   ·simp only;omega
  have kh50:=dF h50
  have hF:=cF h50 hF
  refine .k h50<|.k h50<|.k h50<|.k h50<|.k h50<|.k h50<|.k h50<|.k h50<|.k h50<|.k h50<|.q (.pickF rfl h50 rfl)<|.nil<|sq_n<|.condF rfl rfl<|.skip<|bq_n<|sq_n<|.region rfl<|.m rfl rfl<|.q (.inc1 rfl rfl (by omega))<|.z rfl rfl<|.nil<|Qac (L_r04_Opens_5.mk _ _ d5_1 (k5_5+1)) ⟨rfl,rfl,rfl,rfl,rfl,rfl,rfl,trivial⟩ (List.Sublist.refl _) (Le.refl _) ?_ ?_
  ·exact ⟨ha5_4,(Nat.le_add_right_of_le (Qaf hy5)),hF⟩
  ·simp only;omega
 have kh48:=dF h48
 rw [dn (by omega),Qbk] at hF
 obtain rfl:=sI hF
 have hF:=hG5
 refine .exit<|sq_e<|lq_e<|bq_x rfl<|bq_n<|sq_n<|.region rfl<|.m rfl rfl<|.q (.addL (c:=5) rfl rfl rfl (by decide))<|.z rfl rfl<|.nil<|sq_n<|.unroll<|.seq<|.seq<|.region rfl<|.m rfl rfl<|.b rfl rfl rfl rfl<|.nil<|sq_n<|.condF rfl (by decide)<|.exit<|sq_e<|sq_e<|bq_x rfl<|sq_n<|.seq<|.region rfl<|.m rfl rfl<|.z rfl rfl<|.z rfl rfl<|.nil<|sq_n<|.see (Qdg R_Open.mono .hd (by decide) ha5_4) ?_
 rintro gz56 ⟨hle56,hz56⟩
 refine .ret ?_
 obtain rfl:=sI hF
 refine Qaa ((((((hle6.trans hlo1).trans hlo2).trans hlo3).trans hlo4).trans hlo5).trans hle56) (.tmp rfl (.tmp rfl .nil)) rfl ?_
 exact ⟨_,rfl,hz56⟩
def Qe (p0:Code) (p1:T_Ask) (p2:(List T_Case)):Option (Bool):=((Qda p0 p1.Day p1.Formula p1.Rooms).bind fun q3=>((Qei p0 p1.Day p1.Formula p1.Rooms).bind fun q4=>((Qcr p0 p1.Day p1.Formula p1.Rooms p2).bind fun q5=>((Qcv p0 p1.Day p1.Formula p1.Rooms p2).bind fun q7=>((Qds p0 p1.Day p1.Formula p1.Rooms).bind fun q9=>((Qf p0 p1.Day p1.Formula p1.Rooms).bind fun q10=>((Qcf q3.1 q4.1).bind fun q11=>(cond q11 ((cond (decide (q3.2=q4.2)) ((cond ((decide (q5.1.1=q7.1.1)) && ((decide (q5.1.2=q7.1.2)) && true)) ((cond (decide (q5.2=q7.2)) (((Qcz q9.1 q10.1).bind fun q16=>(cond q16 ((cond (decide (q9.2=q10.2)) (some true) (some false))) (some false)))) (some false))) (some false))) (some false))) (some false)))))))))
set_option maxHeartbeats 1000000 in
theorem F_l04_CodeCases_ok (p0:Code) (p1:T_Ask) (p2:(List T_Case)) (v2_0:V) (cs0 cs1:List V) (g:G) (h0:CodeR g cs0 p0) (h1:R_Ask g cs1 p1) (h2_0:RS R_Case 17 g v2_0 p2) (r:Bool) (hF:Qe p0 p1 p2=some r):Fv Tryz.prog natS (.f 6 [] []) [.agg cs0,.agg cs1,v2_0] g (.b r):=by
 refine Fw.fv ?_
 unfold Qe at hF
 obtain ⟨vq0,rfl,hcq0⟩:=h0
 obtain ⟨v2_q1,rfl,h2_q1⟩:=h1
 refine Fw.enter (N:=118) (al:=[(2,_),(1,_),(0,_)]) Tryz.func6 (by kernel_rfl) (by kernel_rfl) rfl rfl rfl rfl ?_
 intro B
 refine .seq<|.region rfl<|.box .no rfl rfl rfl rfl fun b1=>.box .no rfl rfl rfl rfl fun b2=>.z rfl rfl<|.nil<|sq_n<|.seq<|.region rfl<|.w (.a (vs:=[_,_]) rfl (.tl .hd) a_24 s_24 rfl rfl)<|.q (.fa rfl f_37_0)<|.w (.s rfl .hd a_3 rfl)<|.q (.fa rfl f_37_1)<|.w (.s rfl .hd a_3 rfl)<|.q (.fa rfl f_37_2)<|.w (.s rfl .hd a_25 rfl) ?_
 obtain ⟨q3,hq3,hF⟩:=bS hF
 refine .call .no rfl rfl rfl (F_code_Cases_ok p0 p1.Day p1.Formula p1.Rooms _ _ _ ⟨_,rfl,hcq0⟩ h2_q1 _ hq3) ?_
 rintro g3 ml3 r3 hle3 ⟨rfl,w3_0_0,rfl,hw3_0_0⟩
 replace hcq0:=hcq0.mono VersionR.mono hle3
 replace h2_q1:=h2_q1.mono RoomR.mono hle3
 replace h2_0:=h2_0.mono R_Case.mono hle3
 refine .m rfl rfl<|.q (.ext rfl rfl)<|.q (.ext rfl rfl)<|.z rfl rfl<|.z rfl rfl<|.nil<|sq_n<|.seq<|.region rfl<|.w (.a (vs:=[_,_]) rfl (.tl .hd) a_24 s_24 rfl rfl)<|.q (.fa rfl f_37_0)<|.w (.s rfl .hd a_3 rfl)<|.q (.fa rfl f_37_1)<|.w (.s rfl .hd a_3 rfl)<|.q (.fa rfl f_37_2)<|.w (.s rfl .hd a_25 rfl) ?_
 obtain ⟨q4,hq4,hF⟩:=bS hF
 refine .call .no rfl rfl rfl (F_r04_Cases_ok p0 p1.Day p1.Formula p1.Rooms _ _ _ ⟨_,rfl,hcq0⟩ h2_q1 _ hq4) ?_
 rintro g4 ml4 r4 hle4 ⟨rfl,w4_0_0,rfl,hw4_0_0⟩
 replace hcq0:=hcq0.mono VersionR.mono hle4
 replace h2_q1:=h2_q1.mono RoomR.mono hle4
 replace h2_0:=h2_0.mono R_Case.mono hle4
 replace hw3_0_0:=hw3_0_0.mono R_Case.mono hle4
 refine .m rfl rfl<|.q (.ext rfl rfl)<|.q (.ext rfl rfl)<|.z rfl rfl<|.z rfl rfl<|.nil<|sq_n<|.seq<|.region rfl<|.w (.a (vs:=[_,_]) rfl (.tl .hd) a_24 s_24 rfl rfl)<|.q (.fa rfl f_37_0)<|.w (.s rfl .hd a_3 rfl)<|.q (.fa rfl f_37_1)<|.w (.s rfl .hd a_3 rfl)<|.q (.fa rfl f_37_2)<|.w (.s rfl .hd a_25 rfl)<|.m rfl rfl ?_
 obtain ⟨q5,hq5,hF⟩:=bS hF
 refine .callV .no rfl rfl rfl (F_code_CheckCases_ok p0 p1.Day p1.Formula p1.Rooms p2 _ _ _ _ ⟨_,rfl,hcq0⟩ h2_q1 h2_0 _ hq5)<|.m rfl rfl<|.q (.ext rfl rfl)<|.q (.ext rfl rfl)<|.alloc .no rfl z_27 fun b6=>.st (cs':=[_,_]) .no rfl rfl rfl rfl s_27 rfl rfl .hd rfl rfl<|.z rfl rfl<|.nil<|sq_n<|.seq<|.region rfl<|.w (.a (vs:=[_,_]) rfl (.tl (.tl .hd)) a_24 s_24 rfl rfl)<|.q (.fa rfl f_37_0)<|.w (.s rfl (.tl .hd) a_3 rfl)<|.q (.fa rfl f_37_1)<|.w (.s rfl (.tl .hd) a_3 rfl)<|.q (.fa rfl f_37_2)<|.w (.s rfl (.tl .hd) a_25 rfl)<|.m rfl rfl ?_
 obtain ⟨q7,hq7,hF⟩:=bS hF
 refine .callV .no rfl rfl rfl (F_r04_CheckCases_ok p0 p1.Day p1.Formula p1.Rooms p2 _ _ _ _ ⟨_,rfl,hcq0⟩ h2_q1 h2_0 _ hq7)<|.m rfl rfl<|.q (.ext rfl rfl)<|.q (.ext rfl rfl)<|.alloc .no rfl z_27 fun b8=>.st (cs':=[_,_]) .no rfl rfl rfl rfl s_27 rfl rfl .hd rfl rfl<|.z rfl rfl<|.nil<|sq_n<|.seq<|.region rfl<|.w (.a (vs:=[_,_]) rfl (.tl (.tl (.tl .hd))) a_24 s_24 rfl rfl)<|.q (.fa rfl f_37_0)<|.w (.s rfl (.tl (.tl .hd)) a_3 rfl)<|.q (.fa rfl f_37_1)<|.w (.s rfl (.tl (.tl .hd)) a_3 rfl)<|.q (.fa rfl f_37_2)<|.w (.s rfl (.tl (.tl .hd)) a_25 rfl) ?_
 obtain ⟨q9,hq9,hF⟩:=bS hF
 refine .call .no rfl rfl rfl (F_code_Opens_ok p0 p1.Day p1.Formula p1.Rooms _ _ _ ⟨_,rfl,hcq0⟩ h2_q1 _ hq9) ?_
 rintro g9 ml9 r9 hle9 ⟨rfl,w9_0_0,rfl,hw9_0_0⟩
 replace hcq0:=hcq0.mono VersionR.mono hle9
 replace h2_q1:=h2_q1.mono RoomR.mono hle9
 replace hw3_0_0:=hw3_0_0.mono R_Case.mono hle9
 replace hw4_0_0:=hw4_0_0.mono R_Case.mono hle9
 refine .m rfl rfl<|.q (.ext rfl rfl)<|.q (.ext rfl rfl)<|.z rfl rfl<|.z rfl rfl<|.nil<|sq_n<|.seq<|.region rfl<|.w (.a (vs:=[_,_]) rfl (.tl (.tl (.tl .hd))) a_24 s_24 rfl rfl)<|.q (.fa rfl f_37_0)<|.w (.s rfl (.tl (.tl .hd)) a_3 rfl)<|.q (.fa rfl f_37_1)<|.w (.s rfl (.tl (.tl .hd)) a_3 rfl)<|.q (.fa rfl f_37_2)<|.w (.s rfl (.tl (.tl .hd)) a_25 rfl) ?_
 obtain ⟨q10,hq10,hF⟩:=bS hF
 refine .call .no rfl rfl rfl (F_r04_Opens_ok p0 p1.Day p1.Formula p1.Rooms _ _ _ ⟨_,rfl,hcq0⟩ h2_q1 _ hq10) ?_
 rintro g10 ml10 r10 hle10 ⟨rfl,w10_0_0,rfl,hw10_0_0⟩
 replace hw3_0_0:=hw3_0_0.mono R_Case.mono hle10
 replace hw4_0_0:=hw4_0_0.mono R_Case.mono hle10
 replace hw9_0_0:=hw9_0_0.mono R_Open.mono hle10
 refine .m rfl rfl<|.q (.ext rfl rfl)<|.q (.ext rfl rfl)<|.z rfl rfl<|.z rfl rfl<|.nil<|sq_n<|.seq<|.region rfl<|.m rfl rfl<|.m rfl rfl ?_
 obtain ⟨q11,hq11,hF⟩:=bS hF
 refine .callV .no rfl rfl rfl (Qfm q3.1 q4.1 _ _ _ hw3_0_0 hw4_0_0 _ hq11)<|.m rfl rfl<|.split (t:=90) rfl (fun h12=>?_) (fun h12=>?_)
 ·have hF:=cT h12 hF
  refine .py h12 (.move rfl)<|.py h12 (.move rfl)<|.py h12 (.bin rfl rfl rfl)<|.q (.pickT rfl h12 rfl)<|.m rfl rfl<|.split (t:=95) rfl (fun h13=>?_) (fun h13=>?_)
  ·have hF:=cT h13 hF
   refine .wy h13 (.a (vs:=[_,_]) rfl (.tl .hd) a_27 s_27 rfl rfl)<|.wy h13 (.a (vs:=[_,_]) rfl .hd a_27 s_27 rfl rfl)<|.py h13 (.binE rfl rfl (binV_eql (by kernel_rfl) (eq_27 _ _ _ _))) ?_
   refine .q (.pickT rfl h13 rfl)<|.m rfl rfl<|.split (t:=100) rfl (fun h14=>?_) (fun h14=>?_)
   ·have hF:=cT h14 hF
    refine .py h14 (.move rfl)<|.py h14 (.move rfl)<|.py h14 (.bin rfl rfl rfl)<|.q (.pickT rfl h14 rfl)<|.m rfl rfl<|.split (t:=105) rfl (fun h15=>?_) (fun h15=>?_)
    ·have hF:=cT h15 hF
     refine .py h15 (.move rfl)<|.py h15 (.move rfl) ?_
     obtain ⟨q16,hq16,hF⟩:=bS hF
     refine .callV (.yes rfl rfl h15) rfl rfl rfl (F_r04_SameOpens_ok q9.1 q10.1 _ _ _ hw9_0_0 hw10_0_0 _ hq16)<|.q (.pickT rfl h15 rfl)<|.m rfl rfl<|.split (t:=110) rfl (fun h17=>?_) (fun h17=>?_)
     ·have hF:=cT h17 hF
      refine .py h17 (.move rfl)<|.py h17 (.move rfl)<|.py h17 (.bin rfl rfl rfl)<|.q (.pickT rfl h17 rfl)<|.m rfl rfl<|.split (t:=115) rfl (fun h18=>?_) (fun h18=>?_)
      ·have hF:=cT h18 hF
       refine .callV (.yes rfl rfl h18) rfl rfl rfl (sane_ok _)<|.q (.pickT rfl h18 rfl)<|.z rfl rfl<|.nil<|sq_n<|.ret ?_
       obtain rfl:=sI hF
       refine Qaa (((hle3.trans hle4).trans hle9).trans hle10) (.tmp rfl .nil) rfl ?_
       rfl
      have hF:=cF h18 hF
      refine .k h18<|.q (.pickF rfl h18 rfl)<|.z rfl rfl<|.nil<|sq_n<|.ret ?_
      obtain rfl:=sI hF
      refine Qaa (((hle3.trans hle4).trans hle9).trans hle10) (.tmp rfl .nil) rfl ?_
      rfl
     have hF:=cF h17 hF
     refine .k h17<|.k h17<|.k h17<|.q (.pickF rfl h17 rfl)<|.m rfl rfl<|.k rfl<|.q (.pickF rfl rfl rfl)<|.z rfl rfl<|.nil<|sq_n<|.ret ?_
     obtain rfl:=sI hF
     refine Qaa (((hle3.trans hle4).trans hle9).trans hle10) (.tmp rfl .nil) rfl ?_
     rfl
    have hF:=cF h15 hF
    refine .k h15<|.k h15<|.k h15<|.q (.pickF rfl h15 rfl)<|.m rfl rfl<|.k rfl<|.k rfl<|.k rfl<|.q (.pickF rfl rfl rfl)<|.m rfl rfl<|.k rfl<|.q (.pickF rfl rfl rfl)<|.z rfl rfl<|.nil<|sq_n<|.ret ?_
    obtain rfl:=sI hF
    refine Qaa (((hle3.trans hle4).trans hle9).trans hle10) (.tmp rfl .nil) rfl ?_
    rfl
   have hF:=cF h14 hF
   refine .k h14<|.k h14<|.k h14<|.q (.pickF rfl h14 rfl)<|.m rfl rfl<|.k rfl<|.k rfl<|.k rfl<|.q (.pickF rfl rfl rfl)<|.m rfl rfl<|.k rfl<|.k rfl<|.k rfl<|.q (.pickF rfl rfl rfl)<|.m rfl rfl<|.k rfl<|.q (.pickF rfl rfl rfl)<|.z rfl rfl<|.nil<|sq_n<|.ret ?_
   obtain rfl:=sI hF
   refine Qaa (((hle3.trans hle4).trans hle9).trans hle10) (.tmp rfl .nil) rfl ?_
   rfl
  have hF:=cF h13 hF
  refine .k h13<|.k h13<|.k h13<|.q (.pickF rfl h13 rfl)<|.m rfl rfl<|.k rfl<|.k rfl<|.k rfl<|.q (.pickF rfl rfl rfl)<|.m rfl rfl<|.k rfl<|.k rfl<|.k rfl<|.q (.pickF rfl rfl rfl)<|.m rfl rfl<|.k rfl<|.k rfl<|.k rfl<|.q (.pickF rfl rfl rfl)<|.m rfl rfl<|.k rfl<|.q (.pickF rfl rfl rfl)<|.z rfl rfl<|.nil<|sq_n<|.ret ?_
  obtain rfl:=sI hF
  refine Qaa (((hle3.trans hle4).trans hle9).trans hle10) (.tmp rfl .nil) rfl ?_
  rfl
 have hF:=cF h12 hF
 refine .k h12<|.k h12<|.k h12<|.q (.pickF rfl h12 rfl)<|.m rfl rfl<|.k rfl<|.k rfl<|.k rfl<|.q (.pickF rfl rfl rfl)<|.m rfl rfl<|.k rfl<|.k rfl<|.k rfl<|.q (.pickF rfl rfl rfl)<|.m rfl rfl<|.k rfl<|.k rfl<|.k rfl<|.q (.pickF rfl rfl rfl)<|.m rfl rfl<|.k rfl<|.k rfl<|.k rfl<|.q (.pickF rfl rfl rfl)<|.m rfl rfl<|.k rfl<|.q (.pickF rfl rfl rfl)<|.z rfl rfl<|.nil<|sq_n<|.ret ?_
 obtain rfl:=sI hF
 refine Qaa (((hle3.trans hle4).trans hle9).trans hle10) (.tmp rfl .nil) rfl ?_
 rfl
end Go.Proofs.YtjflgemfeofciaaGreatDoor
