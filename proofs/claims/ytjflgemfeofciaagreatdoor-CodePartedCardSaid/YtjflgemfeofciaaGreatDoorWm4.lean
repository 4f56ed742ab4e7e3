import Derived.Test.YtjflgemfeofciaaGreatDoorWl4
namespace Go.Proofs.YtjflgemfeofciaaGreatDoor
open Go Go.Ev
set_option linter.unusedVariables false
set_option linter.unusedSimpArgs false
set_option maxRecDepth 10000
structure L_r04_Version_3 where
 z3_1:Int
 z3_2:Int
 v3_4:V
 cs3_5:List V
 d3_3:List Test
 m3:Nat
def Qbt (y2:(Nat→Int)):Nat→Int→Int→List Test→Option ((Int × List Test))
 | 0,_,_,_=>none
 | mm3+1,z3_1,z3_2,d3_3=>((Qak (y2 1) 3).bind fun q13=>(cond (decide (z3_1 < q13)) (((Qak (wr ((y2 2)+z3_1)) 3).bind fun q15=>((Qak (wr ((wr (Int.tdiv (y2 2) 3))+z3_1)) 6).bind fun q16=>((Qak (wr ((y2 3)+z3_1)) 8).bind fun q17=>(ck (decide (d3_3.length+1≤1000000)) (Qbt y2 mm3 (wr (z3_1+1)) z3_2 (d3_3 ++ [(Test.mk (wr ((1:Int)+q15)) (wr ((1:Int)+q16)) q17)]))))))) (some ((z3_2,d3_3)))))
structure L_r04_Version_2 where
 k2_1:Nat
 z2_2:Int
 v2_4:V
 cs2_5:List V
 d2_3:List Put
def Qbs:List (Nat→Int)→Nat→Int→List Put→Option ((Int × List Put × List Piece × List Piece × List Piece × List Piece × List Piece × List Piece × List Piece × List Piece × List Piece × List Piece))
 | [],k2_1,z2_2,d2_3=>some ((z2_2,d2_3,[],[],[],[],[],[],[],[],[],[]))
 | y2 :: ys2,k2_1,z2_2,d2_3=>(cond (decide ((k2_1:Int) < 6)) (((Qak (y2 0) 4).bind fun q10=>((Qbt y2 5 0 q10 []).bind fun ⟨o3_0_1,o3_0_2⟩=>(ck (decide (d2_3.length+1≤1000000)) (Qbs ys2 (k2_1+1) z2_2 (d2_3 ++ [(Put.mk o3_0_1 o3_0_2)])))))) (some ((z2_2,d2_3,[],[],[],[],[],[],[],[],[],[]))))
structure J_r04_Version_1 where
 z1_1:Int
 v1_3:V
 d1_2:List Put
 v1_6:V
 d1_5:List Piece
 v1_9:V
 d1_8:List Piece
 v1_12:V
 d1_11:List Piece
 v1_15:V
 d1_14:List Piece
 v1_18:V
 d1_17:List Piece
 v1_21:V
 d1_20:List Piece
 v1_24:V
 d1_23:List Piece
 v1_27:V
 d1_26:List Piece
 v1_30:V
 d1_29:List Piece
 v1_33:V
 d1_32:List Piece
structure J_r04_Version_6 where
 v6_2:V
 d6_1:List Piece
structure J_r04_Version_8 where
 z8_1:Int
structure J_r04_Version_7 where
 z7_1:Int
 z7_2:Int
structure L_r04_Version_5 where
 k5_1:Nat
 z5_2:Int
 v5_4:V
 d5_3:List Put
 v5_7:V
 d5_6:List Piece
 v5_10:V
 d5_9:List Piece
 v5_13:V
 d5_12:List Piece
 v5_16:V
 d5_15:List Piece
 v5_19:V
 d5_18:List Piece
 v5_22:V
 d5_21:List Piece
 v5_25:V
 d5_24:List Piece
 v5_28:V
 d5_27:List Piece
 v5_31:V
 d5_30:List Piece
 v5_34:V
 d5_33:List Piece
def Qaj:List (Nat→Int)→Nat→Int→List Put→List Piece→List Piece→List Piece→List Piece→List Piece→List Piece→List Piece→List Piece→List Piece→List Piece→Option ((Int × List Put × List Piece × List Piece × List Piece × List Piece × List Piece × List Piece × List Piece × List Piece × List Piece × List Piece))
 | [],k5_1,z5_2,d5_3,d5_6,d5_9,d5_12,d5_15,d5_18,d5_21,d5_24,d5_27,d5_30,d5_33=>some ((z5_2,d5_3,d5_6,d5_9,d5_12,d5_15,d5_18,d5_21,d5_24,d5_27,d5_30,d5_33))
 | y5 :: ys5,k5_1,z5_2,d5_3,d5_6,d5_9,d5_12,d5_15,d5_18,d5_21,d5_24,d5_27,d5_30,d5_33=>(cond (decide ((k5_1:Int) < 14)) (((Qak (y5 0) 2).bind fun q29=>((Qak (wr (Int.tdiv (y5 0) 2)) 3).bind fun q30=>(((cond (decide (q29=0)) ((cond (decide (q30=0)) (some d5_6) ((cond (decide (q30=1)) (some d5_9) ((cond (decide (q30=2)) (some d5_12) ((cond (decide (q30=3)) (some d5_15) ((cond (decide (q30=4)) (some d5_18) (none))))))))))) ((cond (decide (q29=1)) ((cond (decide (q30=0)) (some d5_21) ((cond (decide (q30=1)) (some d5_24) ((cond (decide (q30=2)) (some d5_27) ((cond (decide (q30=3)) (some d5_30) ((cond (decide (q30=4)) (some d5_33) (none))))))))))) (none))))).bind fun d6_1=>((cond (decide ((d6_1.length:Int)=8)) (Qaj ys5 (k5_1+1) z5_2 d5_3 d5_6 d5_9 d5_12 d5_15 d5_18 d5_21 d5_24 d5_27 d5_30 d5_33) (((Qak (y5 2) 400000).bind fun q35=>((Qak (y5 3) 900).bind fun q36=>(((cond (decide ((0:Int) < (d6_1.length:Int))) (((atI d6_1 ((d6_1.length:Int) - 1)).bind fun y39=>((Qak (y5 1) 900).bind fun q40=>((((Qak (y5 4) 3).bind fun q41=>(cond (decide (q41=0)) (some (wr (y39.base+(wr ((wr (y39.rate - (wr (q36 - 300)))) * (wr ((wr (y39.fr+1))+q40))))))) (some (wr (q35 - 100000)))))).bind fun z8_1=>((cond (!(Qag z8_1 (-1000000000000) 1000000000000)) (some ((wr ((wr (y39.fr+1))+q40)),0)) (some ((wr ((wr (y39.fr+1))+q40)),z8_1)))))))) (some (0,(wr (q35 - 100000)))))).bind fun ⟨z7_1,z7_2⟩=>((ck (decide (([]:List Piece).length+d6_1.length≤1000000)) ((ck (decide (d6_1.length+1≤1000000)) ((cond (decide (q29=0)) ((cond (decide (q30=0)) (Qaj ys5 (k5_1+1) z5_2 d5_3 (d6_1 ++ [(Piece.mk z7_1 z7_2 (wr (q36 - 300)))]) d5_9 d5_12 d5_15 d5_18 d5_21 d5_24 d5_27 d5_30 d5_33) ((cond (decide (q30=1)) (Qaj ys5 (k5_1+1) z5_2 d5_3 d5_6 (d6_1 ++ [(Piece.mk z7_1 z7_2 (wr (q36 - 300)))]) d5_12 d5_15 d5_18 d5_21 d5_24 d5_27 d5_30 d5_33) ((cond (decide (q30=2)) (Qaj ys5 (k5_1+1) z5_2 d5_3 d5_6 d5_9 (d6_1 ++ [(Piece.mk z7_1 z7_2 (wr (q36 - 300)))]) d5_15 d5_18 d5_21 d5_24 d5_27 d5_30 d5_33) ((cond (decide (q30=3)) (Qaj ys5 (k5_1+1) z5_2 d5_3 d5_6 d5_9 d5_12 (d6_1 ++ [(Piece.mk z7_1 z7_2 (wr (q36 - 300)))]) d5_18 d5_21 d5_24 d5_27 d5_30 d5_33) ((cond (decide (q30=4)) (Qaj ys5 (k5_1+1) z5_2 d5_3 d5_6 d5_9 d5_12 d5_15 (d6_1 ++ [(Piece.mk z7_1 z7_2 (wr (q36 - 300)))]) d5_21 d5_24 d5_27 d5_30 d5_33) (none))))))))))) ((cond (decide (q29=1)) ((cond (decide (q30=0)) (Qaj ys5 (k5_1+1) z5_2 d5_3 d5_6 d5_9 d5_12 d5_15 d5_18 (d6_1 ++ [(Piece.mk z7_1 z7_2 (wr (q36 - 300)))]) d5_24 d5_27 d5_30 d5_33) ((cond (decide (q30=1)) (Qaj ys5 (k5_1+1) z5_2 d5_3 d5_6 d5_9 d5_12 d5_15 d5_18 d5_21 (d6_1 ++ [(Piece.mk z7_1 z7_2 (wr (q36 - 300)))]) d5_27 d5_30 d5_33) ((cond (decide (q30=2)) (Qaj ys5 (k5_1+1) z5_2 d5_3 d5_6 d5_9 d5_12 d5_15 d5_18 d5_21 d5_24 (d6_1 ++ [(Piece.mk z7_1 z7_2 (wr (q36 - 300)))]) d5_30 d5_33) ((cond (decide (q30=3)) (Qaj ys5 (k5_1+1) z5_2 d5_3 d5_6 d5_9 d5_12 d5_15 d5_18 d5_21 d5_24 d5_27 (d6_1 ++ [(Piece.mk z7_1 z7_2 (wr (q36 - 300)))]) d5_33) ((cond (decide (q30=4)) (Qaj ys5 (k5_1+1) z5_2 d5_3 d5_6 d5_9 d5_12 d5_15 d5_18 d5_21 d5_24 d5_27 d5_30 (d6_1 ++ [(Piece.mk z7_1 z7_2 (wr (q36 - 300)))])) (none))))))))))) (none))))))))))))))))))) (some ((z5_2,d5_3,d5_6,d5_9,d5_12,d5_15,d5_18,d5_21,d5_24,d5_27,d5_30,d5_33))))
structure J_r04_Version_4 where
 z4_1:Int
 v4_3:V
 d4_2:List Put
 v4_6:V
 d4_5:List Piece
 v4_9:V
 d4_8:List Piece
 v4_12:V
 d4_11:List Piece
 v4_15:V
 d4_14:List Piece
 v4_18:V
 d4_17:List Piece
 v4_21:V
 d4_20:List Piece
 v4_24:V
 d4_23:List Piece
 v4_27:V
 d4_26:List Piece
 v4_30:V
 d4_29:List Piece
 v4_33:V
 d4_32:List Piece
def Qca (p0:T_Raw) (p1:Int):Option (Version):=((Qak p0.From 300).bind fun q3=>((((Qbs p0.Puts 0 (wr ((wr (p1+1))+q3)) []).bind fun ⟨o2_0_1,o2_0_2,o2_0_3,o2_0_4,o2_0_5,o2_0_6,o2_0_7,o2_0_8,o2_0_9,o2_0_10,o2_0_11,o2_0_12⟩=>some (o2_0_1,o2_0_2,o2_0_3,o2_0_4,o2_0_5,o2_0_6,o2_0_7,o2_0_8,o2_0_9,o2_0_10,o2_0_11,o2_0_12))).bind fun ⟨z1_1,d1_2,d1_5,d1_8,d1_11,d1_14,d1_17,d1_20,d1_23,d1_26,d1_29,d1_32⟩=>(((((Qaj p0.Pieces 0 z1_1 d1_2 d1_5 d1_8 d1_11 d1_14 d1_17 d1_20 d1_23 d1_26 d1_29 d1_32).bind fun ⟨o5_0_1,o5_0_2,o5_0_3,o5_0_4,o5_0_5,o5_0_6,o5_0_7,o5_0_8,o5_0_9,o5_0_10,o5_0_11,o5_0_12⟩=>some (o5_0_1,o5_0_2,o5_0_3,o5_0_4,o5_0_5,o5_0_6,o5_0_7,o5_0_8,o5_0_9,o5_0_10,o5_0_11,o5_0_12))).bind fun ⟨z4_1,d4_2,d4_5,d4_8,d4_11,d4_14,d4_17,d4_20,d4_23,d4_26,d4_29,d4_32⟩=>(some (Version.mk z4_1 d4_2 (arr [d4_5,d4_8,d4_11,d4_14,d4_17,d4_20,d4_23,d4_26,d4_29,d4_32] d4_5)))))))
set_option maxHeartbeats 1000000 in
theorem Qde (p0:T_Raw) (p1:Int) (cs0:List V) (g:G) (h0:R_Raw g cs0 p0) (r:Version) (hF:Qca p0 p1=some r):Fw Tryz.prog natS (.f 60 [] []) [.agg cs0,.i .i64 p1] g [] fun g' ml' q=>ml'=[]∧∃ (ds0:List V),q=(.agg ds0)∧VersionR g' ds0 r:=by
 refine Fw.drop ?_
 unfold Qca at hF
 obtain ⟨v1_q0,v2_q0,rfl,h1_q0,h2_q0⟩:=h0
 have lh0_1:=h1_q0.1
 have lh0_2:=h2_q0.1
 refine Fw.enter (N:=180) (al:=[(1,_),(0,_)]) Tryz.func60 (by kernel_rfl) (by kernel_rfl) rfl rfl rfl rfl ?_
 intro B
 refine .seq<|.region rfl<|.box .no rfl rfl rfl rfl fun b1=>.alloc .no rfl z_97 fun b2=>.nil<|sq_n<|.seq<|.region rfl<|.m rfl rfl<|.b rfl rfl rfl rfl<|.q (.fa rfl f_105_0)<|.w (.s rfl (.tl .hd) a_3 rfl) ?_
 obtain ⟨q3,hq3,hF⟩:=bS hF
 refine .callV .no rfl rfl rfl (Qai p0.From 300 _ _ hq3)<|.b rfl rfl rfl rfl<|.q (.build (qs:=[(0,_)]) (cs:=[_,_,_,_,_,_,_,_,_,_,_,_]) rfl b_97 rfl)<|.alloc .no rfl z_97 fun b4=>.st (cs':=[_,_,_,_,_,_,_,_,_,_,_,_]) .no rfl rfl rfl rfl s_97 rfl rfl .hd rfl rfl<|.nil<|sq_n ?_
 obtain ⟨o1,hE1,hG1⟩:=bS hF
 refine .joinx (α:=J_r04_Version_1) [(2,_),(4,_),(5,_)] [_,_] (fun fx x=>fx) (fun mx x=>[.blk b4 (.cells [.i .i64 x.z1_1,x.v1_3,x.v1_6,x.v1_9,x.v1_12,x.v1_15,x.v1_18,x.v1_21,x.v1_24,x.v1_27,x.v1_30,x.v1_33] 97),rg mx 0,rg mx 1]) (fun x g'=>RS PutR 2 g' x.v1_3 x.d1_2∧RS PieceR 3 g' x.v1_6 x.d1_5∧RS PieceR 3 g' x.v1_9 x.d1_8∧RS PieceR 3 g' x.v1_12 x.d1_11∧RS PieceR 3 g' x.v1_15 x.d1_14∧RS PieceR 3 g' x.v1_18 x.d1_17∧RS PieceR 3 g' x.v1_21 x.d1_20∧RS PieceR 3 g' x.v1_24 x.d1_23∧RS PieceR 3 g' x.v1_27 x.d1_26∧RS PieceR 3 g' x.v1_30 x.d1_29∧RS PieceR 3 g' x.v1_33 x.d1_32∧(x.z1_1,x.d1_2,x.d1_5,x.d1_8,x.d1_11,x.d1_14,x.d1_17,x.d1_20,x.d1_23,x.d1_26,x.d1_29,x.d1_32)=o1) ⟨rfl,rfl,rfl,trivial⟩ (.cons _ (List.Sublist.refl _)) ?_ ?_
 ·have hF:=hE1
  refine .seq<|.region rfl<|.z rfl rfl<|.nil<|sq_n<|.block<|.acc 2 170 ?_
  obtain ⟨o2,hF,hG2⟩:=bS hF
  refine .loopx (α:=L_r04_Version_2) [(2,_),(4,_),(5,_)] [_,_] (fun fx x=>(6,.i .i64 (x.k2_1:Int)) :: fx) (fun mx x=>[.acc x.v2_4 2 x.cs2_5 170,.blk b4 (.cells [.i .i64 x.z2_2,x.v2_4,.sn,.sn,.sn,.sn,.sn,.sn,.sn,.sn,.sn,.sn] 97),rg mx 0,rg mx 1]) (fun x g'=>AccR PutR 2 g' x.v2_4 x.cs2_5 x.d2_3∧x.k2_1≤p0.Puts.length∧Qbs (p0.Puts.drop x.k2_1) x.k2_1 x.z2_2 x.d2_3=some o2) (fun x=>p0.Puts.length - x.k2_1) (L_r04_Version_2.mk 0 (wr ((wr (p1+1))+q3)) _ _ []) ⟨rfl,rfl,rfl,rfl,trivial⟩ (List.Sublist.refl _) ⟨AccR.nil,(by first | omega | (dsimp only;omega)),hF⟩ ?_
  intro x2 gl2 hlo2 hJ2
  obtain ⟨k2_1,z2_2,v2_4,cs2_5,d2_3⟩:=x2
  try dsimp only at hJ2
  obtain ⟨ha2_6,hk2,hF⟩:=hJ2
  refine .al0 [(6,.i .i64 (k2_1:Int)),(2,_),(4,_),(5,_)] ?_
  replace h1_q0:=h1_q0.mono Arr4R.mono hlo2
  replace h2_q0:=h2_q0.mono Arr5R.mono hlo2
  have lha2_6:=ha2_6.le
  refine .seq<|.seq<|.region rfl<|.m rfl rfl<|.q (.fa rfl f_105_1)<|.w (.s rfl (.tl (.tl (.tl .hd))) a_103 rfl)<|.q (.lenR rfl rfl rfl e_103 h1_q0)<|.b rfl rfl rfl rfl<|.m rfl rfl<|.split (t:=28) rfl (fun h6=>?_) (fun h6=>?_)
  ·have kh6:=dT h6
   obtain ⟨y2,hy2⟩:=getK (l:=p0.Puts) (k:=k2_1) kh6
   rw [dc hy2,Qbs] at hF
   refine .py h6 (.move rfl)<|.py h6 (.bin rfl rfl rfl)<|.q (.pickT rfl h6 rfl)<|.nil<|sq_n<|.cond rfl (fun h7=>?_) (fun h7=>?_)
   ·have kh7:=dT h7
    have hF:=cT h7 hF
    refine .skip<|sq_n<|.seq<|.block<|.seq<|.region rfl<|.q (.fa rfl f_105_1)<|.w (.s rfl (.tl (.tl (.tl .hd))) a_103 rfl)<|.m rfl rfl<|.ixk (j:=k2_1) .no rfl rfl h1_q0 rfl e_103 hy2 ?_
    rintro b8 o8 _ hq8 rfl
    refine .w (.pa 0 (vs:=[_,_,_,_]) rfl hq8 rfl a_167 s_167 rfl rfl)<|.alloc .no rfl z_167 fun b9=>.st (cs':=[_,_,_,_]) .no rfl rfl rfl rfl s_167 rfl rfl .hd rfl rfl<|.nil<|sq_n<|.seq<|.region rfl<|.q (.ixa (j:=0) rfl rfl ae_167 (by decide))<|.w (.s rfl .hd a_3 rfl) ?_
    obtain ⟨q10,hq10,hF⟩:=bS hF
    refine .callV .no rfl rfl rfl (Qai (y2 0) 4 _ _ hq10)<|.q (.build (qs:=[(0,_)]) (cs:=[_,_]) rfl b_170 rfl)<|.alloc .no rfl z_170 fun b11=>.st (cs':=[_,_]) .no rfl rfl rfl rfl s_170 rfl rfl .hd rfl rfl<|.nil<|sq_n<|.seq<|.seq<|.region rfl<|.z rfl rfl<|.nil<|sq_n<|.block<|.acc 3 172 ?_
    obtain ⟨o3,hF,hG3⟩:=bS hF
    refine .loopx (α:=L_r04_Version_3) [(2,_),(4,_),(5,_),(6,_),(7,_),(8,_)] [_,_,_,_,_] (fun fx x=>(9,.i .i64 x.z3_1) :: fx) (fun mx x=>[.acc x.v3_4 3 x.cs3_5 172,.blk b11 (.cells [.i .i64 x.z3_2,x.v3_4] 170),rg mx 0,rg mx 1,rg mx 2,rg mx 3,rg mx 4]) (fun x g'=>AccR TestR 3 g' x.v3_4 x.cs3_5 x.d3_3∧Qbt y2 x.m3 x.z3_1 x.z3_2 x.d3_3=some o3) (fun x=>x.m3) (L_r04_Version_3.mk 0 q10 _ _ [] 5) ⟨rfl,rfl,rfl,rfl,rfl,rfl,rfl,trivial⟩ (List.Sublist.refl _) ⟨AccR.nil,hF⟩ ?_
    intro x3 gl3 hlo3 hJ3
    obtain ⟨z3_1,z3_2,v3_4,cs3_5,d3_3,m3⟩:=x3
    try dsimp only at hJ3
    obtain ⟨ha3_6,hF⟩:=hJ3
    refine .al0 [(9,.i .i64 z3_1),(2,_),(4,_),(5,_),(6,_),(7,_),(8,_)] ?_
    replace h2_q0:=h2_q0.mono Arr5R.mono hlo3
    replace ha2_6:=ha2_6.mono PutR.mono hlo3
    obtain ⟨mm3,rfl⟩:∃ q,m3=q+1:=by
     cases m3 with
     | zero=>rw [Qbt] at hF;cases hF
     | succ q=>exact ⟨q,rfl⟩
    rw [Qbt] at hF
    have lha3_6:=ha3_6.le
    refine .seq<|.seq<|.region rfl<|.m rfl rfl<|.q (.ixa (j:=1) rfl rfl ae_167 (by decide))<|.w (.s rfl (.tl (.tl .hd)) a_3 rfl) ?_
    obtain ⟨q13,hq13,hF⟩:=bS hF
    refine .callV .no rfl rfl rfl (Qai (y2 1) 3 _ _ hq13)<|.b rfl rfl rfl rfl<|.nil<|sq_n<|.cond rfl (fun h14=>?_) (fun h14=>?_)
    ·have kh14:=dT h14
     have hF:=cT h14 hF
     refine .skip<|sq_n<|.seq<|.block<|.draw (tb:=[r0 0 0,r0 1 0,r0 0 0,r0 4 0,r0 0 0,r0 28 0,r0 60 0,r0 124 1,r0 0 0,r0 256 0,r0 768 0,r0 0 0,r0 3840 0,r0 8060 1,r0 16252 2,r0 0 0,r0 32768 0,r0 0 0,r0 229376 0,r0 507772 2,r0 1048572 3,r0 2097148 3,r1 4194303 3,r1 8388607 4,r1 16777215 4]) rfl (by kernel_rfl) (by kernel_rfl) ?_
     refine .q (.fa rfl f_170_1)<|.y rfl rfl rfl (.s rfl (.tl .hd) a_168 rfl)<|.q (.ixa (j:=2) rfl rfl ae_167 (by decide))<|.y rfl rfl rfl (.s rfl (.tl (.tl .hd)) a_3 rfl)<|.m rfl rfl<|.b rfl rfl rfl rfl ?_
     obtain ⟨q15,hq15,hF⟩:=bS hF
     refine .callV .no rfl rfl rfl rfl rfl (Qai (wr ((y2 2)+z3_1)) 3 _ _ hq15)<|.b rfl rfl rfl rfl<|.q (.ixa (j:=2) rfl rfl ae_167 (by decide))<|.ld (k:=1) .no rfl rfl rfl trivial (.s rfl (.tl (.tl .hd)) a_3 rfl)<|.b rfl rfl rfl rfl<|.m rfl rfl<|.b rfl rfl rfl rfl ?_
     obtain ⟨q16,hq16,hF⟩:=bS hF
     refine .callV .no rfl rfl rfl rfl rfl (Qai (wr ((wr (Int.tdiv (y2 2) 3))+z3_1)) 6 _ _ hq16)<|.b rfl rfl rfl rfl<|.q (.ixa (j:=3) rfl rfl ae_167 (by decide))<|.ld (k:=2) .no rfl rfl rfl trivial (.s rfl (.tl (.tl .hd)) a_3 rfl)<|.m rfl rfl<|.b rfl rfl rfl rfl ?_
     obtain ⟨q17,hq17,hF⟩:=bS hF
     refine .callV .no rfl rfl rfl rfl rfl (Qai (wr ((y2 3)+z3_1)) 8 _ _ hq17)<|.q (.build (qs:=[(0,_),(1,_),(2,_)]) (cs:=[_,_,_]) rfl b_172 rfl)<|.f .no rfl (.bs (qs:=[(0,_)]) (c:=[_,_,_]) rfl sl_168 el_172 (by decide) rfl) fun b18=>?_
     obtain ⟨hl19,hF⟩:=ckS hF
     have hl19:=of_decide_eq_true hl19
     refine .ne .hd (.tl .hd) fun hn19_b9=>.ne .hd .hd fun hn19_b11=>.x .no rfl rfl (Qch rfl Qci) (Qbp rfl Qbo) (Qcq rfl) (fun _ _=>.all (Qaa rfl (Qaa rfl (Qaa rfl (Qaa rfl rfl))))) (.appA (m:=1) (new:=[_,_,_]) rfl rfl rfl (.tl .hd) sl_168 el_172 (.of rfl .sl sl_168 .hd (Nat.le_of_ble_eq_true rfl) rfl) (by decide) rfl (AccR.room (R:=TestR) (ys:=[(Test.mk (wr ((1:Int)+q15)) (wr ((1:Int)+q16)) q17)]) ha3_6 (Ls.cons (c:=[_,_,_]) rfl rfl .nil) hl19) rfl) fun v19=>.as (.tl .hd) fun av19=>?_
     have ha19:=AccR.app (R:=TestR) (g:=gl3) (ys:=[(Test.mk (wr ((1:Int)+q15)) (wr ((1:Int)+q16)) q17)]) ha3_6 (Ls.cons (c:=[_,_,_]) rfl rfl .nil) hl19 av19
     have lha19:=ha19.le
     refine .q (.fa rfl f_170_1)<|.st (cs':=[_,_]) .no rfl rfl rfl rfl ha19.any ha19.cells s_168 rfl rfl (.tl (.tl .hd)) rfl (Qa ha19.one rfl) (.all (Qaa rfl (Qaa rfl (Qaa rfl (Qaa rfl rfl)))))<|.nil<|bq_n<|sq_n<|.region rfl<|.m rfl rfl<|.b rfl rfl rfl rfl<|.z rfl rfl<|.nil<|Qac (L_r04_Version_3.mk (wr (z3_1+1)) z3_2 _ _ (d3_3 ++ [(Test.mk (wr ((1:Int)+q15)) (wr ((1:Int)+q16)) q17)]) mm3) ⟨rfl,rfl,rfl,rfl,rfl,rfl,rfl,trivial⟩ (.cons _ (List.Sublist.refl _)) (Le.refl _) ?_ ?_
     ·exact ⟨ha19,hF⟩
     ·simp only;omega
    have kh14:=dF h14
    have hF:=cF h14 hF
    obtain rfl:=sI hF
    have hF:=hG3
    refine .exit<|sq_e<|lq_e<|bq_x rfl<|sq_n<|.region rfl<|.q (.fa rfl f_97_1)<|.w (.s rfl (.tl (.tl (.tl (.tl .hd)))) a_92 rfl)<|.w (.a (vs:=[_,_]) rfl (.tl .hd) a_170 s_170 rfl rfl)<|.bs .no rfl (qs:=[(0,_)]) (c:=[_,_]) rfl sl_92 el_170 (by decide) rfl fun b20=>.see (Qbe TestR.mono (.tl .hd) (by decide) ha3_6) ?_
    rintro gz21 ⟨hle21,hz21⟩
    replace h2_q0:=h2_q0.mono Arr5R.mono hle21
    replace ha2_6:=ha2_6.mono PutR.mono hle21
    obtain ⟨hl22,hF⟩:=ckS hF
    have hl22:=of_decide_eq_true hl22
    refine .x .no rfl (.appA (m:=1) (new:=[_,_]) rfl rfl rfl (.tl (.tl (.tl .hd))) sl_92 el_170 (.of rfl .sl sl_92 .hd (Nat.le_of_ble_eq_true rfl) rfl) (by decide) rfl (AccR.room (R:=PutR) (ys:=[(Put.mk z3_2 d3_3)]) ha2_6 (Ls.cons (c:=[_,_]) rfl ⟨_,rfl,hz21⟩ .nil) hl22) (Qa rfl (Qa hz21.one rfl))) fun v22=>.as (.tl (.tl (.tl .hd))) fun av22=>?_
    have ha22:=AccR.app (R:=PutR) (g:=gz21) (ys:=[(Put.mk z3_2 d3_3)]) ha2_6 (Ls.cons (c:=[_,_]) rfl ⟨_,rfl,hz21⟩ .nil) hl22 av22
    have lha22:=ha22.le
    refine .q (.fa rfl f_97_1)<|.st (cs':=[_,_,_,_,_,_,_,_,_,_,_,_]) .no rfl rfl ha22.any ha22.cells s_92 rfl rfl (.tl (.tl (.tl (.tl .hd)))) rfl (Qa ha22.one rfl)<|.nil<|bq_n<|sq_n<|.region rfl<|.m rfl rfl<|.q (.inc1 rfl rfl (by omega))<|.z rfl rfl<|.nil<|Qac (L_r04_Version_2.mk (k2_1+1) z2_2 _ _ (d2_3 ++ [(Put.mk z3_2 d3_3)])) ⟨rfl,rfl,rfl,rfl,trivial⟩ (.cons _ (.cons _ (.cons _ (List.Sublist.refl _)))) (hlo3.trans hle21) ?_ ?_
    ·exact ⟨ha22,(Qam hy2),hF⟩
    ·simp only;omega
   have hF:=cF h7 hF
   obtain rfl:=sI hF
   have hF:=hG2
   refine .exit<|sq_e<|lq_e<|bq_x rfl<|JQ.see (Qbe PutR.mono .hd (by decide) ha2_6) ?_
   rintro gz23 ⟨hle23,hz23⟩
   replace h2_q0:=h2_q0.mono Arr5R.mono hle23
   replace ha2_6:=ha2_6.mono PutR.mono hle23
   obtain rfl:=sI hF
   exact Qcl (J_r04_Version_1.mk z2_2 _ d2_3 _ [] _ [] _ [] _ [] _ [] _ [] _ [] _ [] _ [] _ []) ⟨rfl,rfl,rfl,trivial⟩ (List.Sublist.refl _) (hlo2.trans hle23) ⟨hz23,RS.nil,RS.nil,RS.nil,RS.nil,RS.nil,RS.nil,RS.nil,RS.nil,RS.nil,RS.nil,rfl⟩
  have kh6:=dF h6
  rw [dn (by omega),Qbs] at hF
  refine .k h6<|.k h6<|.q (.pickF rfl h6 rfl)<|.nil<|sq_n<|.condF rfl rfl ?_
  obtain rfl:=sI hF
  have hF:=hG2
  refine .exit<|sq_e<|lq_e<|bq_x rfl<|JQ.see (Qbe PutR.mono .hd (by decide) ha2_6) ?_
  rintro gz24 ⟨hle24,hz24⟩
  replace h2_q0:=h2_q0.mono Arr5R.mono hle24
  obtain rfl:=sI hF
  exact Qcl (J_r04_Version_1.mk z2_2 _ d2_3 _ [] _ [] _ [] _ [] _ [] _ [] _ [] _ [] _ [] _ []) ⟨rfl,rfl,rfl,trivial⟩ (List.Sublist.refl _) (hlo2.trans hle24) ⟨hz24,RS.nil,RS.nil,RS.nil,RS.nil,RS.nil,RS.nil,RS.nil,RS.nil,RS.nil,RS.nil,rfl⟩
 intro x1 gj1 hlj1 hJ1
 obtain ⟨z1_1,v1_3,d1_2,v1_6,d1_5,v1_9,d1_8,v1_12,d1_11,v1_15,d1_14,v1_18,d1_17,v1_21,d1_20,v1_24,d1_23,v1_27,d1_26,v1_30,d1_29,v1_33,d1_32⟩:=x1
 try dsimp only at hJ1
 obtain ⟨hr1_4,hr1_7,hr1_10,hr1_13,hr1_16,hr1_19,hr1_22,hr1_25,hr1_28,hr1_31,hr1_34,rfl⟩:=hJ1
 have hF:=hG1
 replace h2_q0:=h2_q0.mono Arr5R.mono hlj1
 have lhr1_4:=hr1_4.1
 have lhr1_7:=hr1_7.1
 have lhr1_10:=hr1_10.1
 have lhr1_13:=hr1_13.1
 have lhr1_16:=hr1_16.1
 have lhr1_19:=hr1_19.1
 have lhr1_22:=hr1_22.1
 have lhr1_25:=hr1_25.1
 have lhr1_28:=hr1_28.1
 have lhr1_31:=hr1_31.1
 have lhr1_34:=hr1_34.1
 obtain ⟨o4,hE4,hG4⟩:=bS hF
 refine .joinx (α:=J_r04_Version_4) [(4,_),(5,_)] [_,_] (fun fx x=>fx) (fun mx x=>[.blk b4 (.cells [.i .i64 x.z4_1,x.v4_3,x.v4_6,x.v4_9,x.v4_12,x.v4_15,x.v4_18,x.v4_21,x.v4_24,x.v4_27,x.v4_30,x.v4_33] 97),rg mx 0,rg mx 1]) (fun x g'=>RS PutR 2 g' x.v4_3 x.d4_2∧RS PieceR 3 g' x.v4_6 x.d4_5∧RS PieceR 3 g' x.v4_9 x.d4_8∧RS PieceR 3 g' x.v4_12 x.d4_11∧RS PieceR 3 g' x.v4_15 x.d4_14∧RS PieceR 3 g' x.v4_18 x.d4_17∧RS PieceR 3 g' x.v4_21 x.d4_20∧RS PieceR 3 g' x.v4_24 x.d4_23∧RS PieceR 3 g' x.v4_27 x.d4_26∧RS PieceR 3 g' x.v4_30 x.d4_29∧RS PieceR 3 g' x.v4_33 x.d4_32∧(x.z4_1,x.d4_2,x.d4_5,x.d4_8,x.d4_11,x.d4_14,x.d4_17,x.d4_20,x.d4_23,x.d4_26,x.d4_29,x.d4_32)=o4) ⟨rfl,rfl,trivial⟩ (.cons _ (List.Sublist.refl _)) ?_ ?_
 ·have hF:=hE4
  refine .seq<|.region rfl<|.z rfl rfl<|.nil<|sq_n<|.block ?_
  obtain ⟨o5,hF,hG5⟩:=bS hF
  refine .loopx (α:=L_r04_Version_5) [(2,_),(4,_),(5,_)] [_,_] (fun fx x=>(10,.i .i64 (x.k5_1:Int)) :: fx) (fun mx x=>[.blk b4 (.cells [.i .i64 x.z5_2,x.v5_4,x.v5_7,x.v5_10,x.v5_13,x.v5_16,x.v5_19,x.v5_22,x.v5_25,x.v5_28,x.v5_31,x.v5_34] 97),rg mx 0,rg mx 1]) (fun x g'=>RS PutR 2 g' x.v5_4 x.d5_3∧RS PieceR 3 g' x.v5_7 x.d5_6∧RS PieceR 3 g' x.v5_10 x.d5_9∧RS PieceR 3 g' x.v5_13 x.d5_12∧RS PieceR 3 g' x.v5_16 x.d5_15∧RS PieceR 3 g' x.v5_19 x.d5_18∧RS PieceR 3 g' x.v5_22 x.d5_21∧RS PieceR 3 g' x.v5_25 x.d5_24∧RS PieceR 3 g' x.v5_28 x.d5_27∧RS PieceR 3 g' x.v5_31 x.d5_30∧RS PieceR 3 g' x.v5_34 x.d5_33∧x.k5_1≤p0.Pieces.length∧Qaj (p0.Pieces.drop x.k5_1) x.k5_1 x.z5_2 x.d5_3 x.d5_6 x.d5_9 x.d5_12 x.d5_15 x.d5_18 x.d5_21 x.d5_24 x.d5_27 x.d5_30 x.d5_33=some o5) (fun x=>p0.Pieces.length - x.k5_1) (L_r04_Version_5.mk 0 z1_1 _ d1_2 _ d1_5 _ d1_8 _ d1_11 _ d1_14 _ d1_17 _ d1_20 _ d1_23 _ d1_26 _ d1_29 _ d1_32) ⟨rfl,rfl,rfl,rfl,trivial⟩ (List.Sublist.refl _) ⟨hr1_4,hr1_7,hr1_10,hr1_13,hr1_16,hr1_19,hr1_22,hr1_25,hr1_28,hr1_31,hr1_34,(by first | omega | (dsimp only;omega)),hF⟩ ?_
  intro x5 gl5 hlo5 hJ5
  obtain ⟨k5_1,z5_2,v5_4,d5_3,v5_7,d5_6,v5_10,d5_9,v5_13,d5_12,v5_16,d5_15,v5_19,d5_18,v5_22,d5_21,v5_25,d5_24,v5_28,d5_27,v5_31,d5_30,v5_34,d5_33⟩:=x5
  try dsimp only at hJ5
  obtain ⟨hr5_5,hr5_8,hr5_11,hr5_14,hr5_17,hr5_20,hr5_23,hr5_26,hr5_29,hr5_32,hr5_35,hk5,hF⟩:=hJ5
  refine .al0 [(10,.i .i64 (k5_1:Int)),(2,_),(4,_),(5,_)] ?_
  replace h2_q0:=h2_q0.mono Arr5R.mono hlo5
  have lhr5_5:=hr5_5.1
  have lhr5_8:=hr5_8.1
  have lhr5_11:=hr5_11.1
  have lhr5_14:=hr5_14.1
  have lhr5_17:=hr5_17.1
  have lhr5_20:=hr5_20.1
  have lhr5_23:=hr5_23.1
  have lhr5_26:=hr5_26.1
  have lhr5_29:=hr5_29.1
  have lhr5_32:=hr5_32.1
  have lhr5_35:=hr5_35.1
  refine .seq<|.seq<|.region rfl<|.m rfl rfl<|.q (.fa rfl f_105_2)<|.w (.s rfl (.tl (.tl .hd)) a_73 rfl)<|.q (.lenR rfl rfl rfl e_73 h2_q0)<|.b rfl rfl rfl rfl<|.m rfl rfl<|.split (t:=85) rfl (fun h25=>?_) (fun h25=>?_)
  ·have kh25:=dT h25
   obtain ⟨y5,hy5⟩:=getK (l:=p0.Pieces) (k:=k5_1) kh25
   rw [dc hy5,Qaj] at hF
   refine .py h25 (.move rfl)<|.py h25 (.bin rfl rfl rfl)<|.q (.pickT rfl h25 rfl)<|.nil<|sq_n<|.cond rfl (fun h26=>?_) (fun h26=>?_)
   ·have kh26:=dT h26
    have hF:=cT h26 hF
    refine .skip<|sq_n<|.seq<|.block<|.seq<|.region rfl<|.q (.fa rfl f_105_2)<|.w (.s rfl (.tl (.tl .hd)) a_73 rfl)<|.m rfl rfl<|.ixk (j:=k5_1) .no rfl rfl h2_q0 rfl e_73 hy5 ?_
    rintro b27 o27 _ hq27 rfl
    refine .w (.pa 0 (vs:=[_,_,_,_,_]) rfl hq27 rfl a_38 s_38 rfl rfl)<|.alloc .no rfl z_38 fun b28=>.st (cs':=[_,_,_,_,_]) .no rfl rfl rfl rfl s_38 rfl rfl .hd rfl rfl<|.nil<|sq_n<|.seq<|.region rfl<|.q (.ixa (j:=0) rfl rfl ae_38 (by decide))<|.w (.s rfl .hd a_3 rfl) ?_
    obtain ⟨q29,hq29,hF⟩:=bS hF
    refine .callV .no rfl rfl rfl (Qai (y5 0) 2 _ _ hq29)<|.z rfl rfl<|.nil<|sq_n<|.seq<|.region rfl<|.q (.ixa (j:=0) rfl rfl ae_38 (by decide))<|.w (.s rfl .hd a_3 rfl)<|.b rfl rfl rfl rfl ?_
    obtain ⟨q30,hq30,hF⟩:=bS hF
    refine .callV .no rfl rfl rfl (Qai (wr (Int.tdiv (y5 0) 2)) 3 _ _ hq30)<|.z rfl rfl<|.nil<|sq_n ?_
    obtain ⟨o6,hE6,hG6⟩:=bS hF
    refine .joinx (α:=J_r04_Version_6) [(2,_),(4,_),(5,_),(10,_),(11,_),(12,_),(13,_)] _ (fun fx x=>(14,x.v6_2) :: fx) (fun mx _=>mx) (fun x g'=>RS PieceR 3 g' x.v6_2 x.d6_1∧x.d6_1=o6) ⟨rfl,rfl,rfl,rfl,rfl,rfl,rfl,trivial⟩ (List.Sublist.refl _) ?_ ?_
    ·have hF:=hE6
     refine .region rfl<|.m rfl rfl<|.m rfl rfl<|.q (.fa rfl Qbn) ?_
     by_cases e31_0:(q29:Int)=0
     ·have hF:=cT (decide_eq_true e31_0) hF
      refine .q (.ixae (q:=0) rfl rfl e31_0 ae_95 (by decide)) ?_
      by_cases e32_0:(q30:Int)=0
      ·have hF:=cT (decide_eq_true e32_0) hF
       refine .q (.ixae (q:=0) rfl rfl e32_0 ae_94 (by decide))<|.w (.s rfl (.tl .hd) a_93 rfl)<|.z rfl rfl<|.nil ?_
       obtain rfl:=sI hF
       exact Qcl (J_r04_Version_6.mk _ d5_6) ⟨rfl,rfl,rfl,rfl,rfl,rfl,rfl,rfl,trivial⟩ (List.Sublist.refl _) (Le.refl _) ⟨hr5_8,rfl⟩
      have hF:=cF (decide_eq_false e32_0) hF
      by_cases e32_1:(q30:Int)=1
      ·have hF:=cT (decide_eq_true e32_1) hF
       refine .q (.ixae (q:=1) rfl rfl e32_1 ae_94 (by decide))<|.w (.s rfl (.tl .hd) a_93 rfl)<|.z rfl rfl<|.nil ?_
       obtain rfl:=sI hF
       exact Qcl (J_r04_Version_6.mk _ d5_9) ⟨rfl,rfl,rfl,rfl,rfl,rfl,rfl,rfl,trivial⟩ (List.Sublist.refl _) (Le.refl _) ⟨hr5_11,rfl⟩
      have hF:=cF (decide_eq_false e32_1) hF
      by_cases e32_2:(q30:Int)=2
      ·have hF:=cT (decide_eq_true e32_2) hF
       refine .q (.ixae (q:=2) rfl rfl e32_2 ae_94 (by decide))<|.w (.s rfl (.tl .hd) a_93 rfl)<|.z rfl rfl<|.nil ?_
       obtain rfl:=sI hF
       exact Qcl (J_r04_Version_6.mk _ d5_12) ⟨rfl,rfl,rfl,rfl,rfl,rfl,rfl,rfl,trivial⟩ (List.Sublist.refl _) (Le.refl _) ⟨hr5_14,rfl⟩
      have hF:=cF (decide_eq_false e32_2) hF
      by_cases e32_3:(q30:Int)=3
      ·have hF:=cT (decide_eq_true e32_3) hF
       refine .q (.ixae (q:=3) rfl rfl e32_3 ae_94 (by decide))<|.w (.s rfl (.tl .hd) a_93 rfl)<|.z rfl rfl<|.nil ?_
       obtain rfl:=sI hF
       exact Qcl (J_r04_Version_6.mk _ d5_15) ⟨rfl,rfl,rfl,rfl,rfl,rfl,rfl,rfl,trivial⟩ (List.Sublist.refl _) (Le.refl _) ⟨hr5_17,rfl⟩
      have hF:=cF (decide_eq_false e32_3) hF
      by_cases e32_4:(q30:Int)=4
      ·have hF:=cT (decide_eq_true e32_4) hF
       refine .q (.ixae (q:=4) rfl rfl e32_4 ae_94 (by decide))<|.w (.s rfl (.tl .hd) a_93 rfl)<|.z rfl rfl<|.nil ?_
       obtain rfl:=sI hF
       exact Qcl (J_r04_Version_6.mk _ d5_18) ⟨rfl,rfl,rfl,rfl,rfl,rfl,rfl,rfl,trivial⟩ (List.Sublist.refl _) (Le.refl _) ⟨hr5_20,rfl⟩
      have hF:=cF (decide_eq_false e32_4) hF
      cases hF
     have hF:=cF (decide_eq_false e31_0) hF
     by_cases e31_1:(q29:Int)=1
     ·have hF:=cT (decide_eq_true e31_1) hF
      refine .q (.ixae (q:=1) rfl rfl e31_1 ae_95 (by decide)) ?_
      by_cases e33_0:(q30:Int)=0
      ·have hF:=cT (decide_eq_true e33_0) hF
       refine .q (.ixae (q:=0) rfl rfl e33_0 ae_94 (by decide))<|.w (.s rfl (.tl .hd) a_93 rfl)<|.z rfl rfl<|.nil ?_
       obtain rfl:=sI hF
       exact Qcl (J_r04_Version_6.mk _ d5_21) ⟨rfl,rfl,rfl,rfl,rfl,rfl,rfl,rfl,trivial⟩ (List.Sublist.refl _) (Le.refl _) ⟨hr5_23,rfl⟩
      have hF:=cF (decide_eq_false e33_0) hF
      by_cases e33_1:(q30:Int)=1
      ·have hF:=cT (decide_eq_true e33_1) hF
       refine .q (.ixae (q:=1) rfl rfl e33_1 ae_94 (by decide))<|.w (.s rfl (.tl .hd) a_93 rfl)<|.z rfl rfl<|.nil ?_
       obtain rfl:=sI hF
       exact Qcl (J_r04_Version_6.mk _ d5_24) ⟨rfl,rfl,rfl,rfl,rfl,rfl,rfl,rfl,trivial⟩ (List.Sublist.refl _) (Le.refl _) ⟨hr5_26,rfl⟩
      have hF:=cF (decide_eq_false e33_1) hF
      by_cases e33_2:(q30:Int)=2
      ·have hF:=cT (decide_eq_true e33_2) hF
       refine .q (.ixae (q:=2) rfl rfl e33_2 ae_94 (by decide))<|.w (.s rfl (.tl .hd) a_93 rfl)<|.z rfl rfl<|.nil ?_
       obtain rfl:=sI hF
       exact Qcl (J_r04_Version_6.mk _ d5_27) ⟨rfl,rfl,rfl,rfl,rfl,rfl,rfl,rfl,trivial⟩ (List.Sublist.refl _) (Le.refl _) ⟨hr5_29,rfl⟩
      have hF:=cF (decide_eq_false e33_2) hF
      by_cases e33_3:(q30:Int)=3
      ·have hF:=cT (decide_eq_true e33_3) hF
       refine .q (.ixae (q:=3) rfl rfl e33_3 ae_94 (by decide))<|.w (.s rfl (.tl .hd) a_93 rfl)<|.z rfl rfl<|.nil ?_
       obtain rfl:=sI hF
       exact Qcl (J_r04_Version_6.mk _ d5_30) ⟨rfl,rfl,rfl,rfl,rfl,rfl,rfl,rfl,trivial⟩ (List.Sublist.refl _) (Le.refl _) ⟨hr5_32,rfl⟩
      have hF:=cF (decide_eq_false e33_3) hF
      by_cases e33_4:(q30:Int)=4
      ·have hF:=cT (decide_eq_true e33_4) hF
       refine .q (.ixae (q:=4) rfl rfl e33_4 ae_94 (by decide))<|.w (.s rfl (.tl .hd) a_93 rfl)<|.z rfl rfl<|.nil ?_
       obtain rfl:=sI hF
       exact Qcl (J_r04_Version_6.mk _ d5_33) ⟨rfl,rfl,rfl,rfl,rfl,rfl,rfl,rfl,trivial⟩ (List.Sublist.refl _) (Le.refl _) ⟨hr5_35,rfl⟩
      have hF:=cF (decide_eq_false e33_4) hF
      cases hF
     have hF:=cF (decide_eq_false e31_1) hF
     cases hF
    intro x6 gj6 hlj6 hJ6
    obtain ⟨v6_2,d6_1⟩:=x6
    try dsimp only at hJ6
    obtain ⟨hr6_3,rfl⟩:=hJ6
    have hF:=hG6
    refine .al0 [(14,v6_2),(2,_),(4,_),(5,_),(10,_),(11,_),(12,_),(13,_)] ?_
    replace hr5_5:=hr5_5.mono PutR.mono hlj6
    replace hr5_8:=hr5_8.mono PieceR.mono hlj6
    replace hr5_11:=hr5_11.mono PieceR.mono hlj6
    replace hr5_14:=hr5_14.mono PieceR.mono hlj6
    replace hr5_17:=hr5_17.mono PieceR.mono hlj6
    replace hr5_20:=hr5_20.mono PieceR.mono hlj6
    replace hr5_23:=hr5_23.mono PieceR.mono hlj6
    replace hr5_26:=hr5_26.mono PieceR.mono hlj6
    replace hr5_29:=hr5_29.mono PieceR.mono hlj6
    replace hr5_32:=hr5_32.mono PieceR.mono hlj6
    replace hr5_35:=hr5_35.mono PieceR.mono hlj6
    have lhr6_3:=hr6_3.1
    refine .seq<|.seq<|.region rfl<|.m rfl rfl<|.q (.lenR rfl rfl rfl e_93 hr6_3)<|.b rfl rfl rfl rfl<|.nil<|sq_n<|.cond rfl (fun h34=>?_) (fun h34=>?_)
    ·have kh34:=dT h34
     have hF:=cT h34 hF
     refine .exit<|sq_e<|bq_x rfl<|sq_n<|.region rfl<|.m rfl rfl<|.q (.inc1 rfl rfl (by omega))<|.z rfl rfl<|.nil<|Qac (L_r04_Version_5.mk (k5_1+1) z5_2 _ d5_3 _ d5_6 _ d5_9 _ d5_12 _ d5_15 _ d5_18 _ d5_21 _ d5_24 _ d5_27 _ d5_30 _ d5_33) ⟨rfl,rfl,rfl,rfl,trivial⟩ (.cons _ (List.Sublist.refl _)) hlj6 ?_ ?_
     ·exact ⟨hr5_5,hr5_8,hr5_11,hr5_14,hr5_17,hr5_20,hr5_23,hr5_26,hr5_29,hr5_32,hr5_35,(Qam hy5),hF⟩
     ·simp only;omega
    have kh34:=dF h34
    have hF:=cF h34 hF
    refine .skip<|sq_n<|.seq<|.draw (tb:=[r0 0 0,r0 1 0,r0 3 0,r0 7 1,r0 0 0,r0 16 0,r1 55 1,r1 119 2,r1 255 2,r0 0 0,r1 1023 2]) rfl (by kernel_rfl) (by kernel_rfl) ?_
    refine .q (.ixa (j:=2) rfl rfl ae_38 (by decide))<|.y rfl rfl rfl (.s rfl .hd a_3 rfl) ?_
    obtain ⟨q35,hq35,hF⟩:=bS hF
    refine .callV .no rfl rfl rfl rfl rfl (Qai (y5 2) 400000 _ _ hq35)<|.b rfl rfl rfl rfl<|.q (.ixa (j:=3) rfl rfl ae_38 (by decide))<|.ld (k:=1) .no rfl rfl rfl trivial (.s rfl .hd a_3 rfl) ?_
    obtain ⟨q36,hq36,hF⟩:=bS hF
    refine .callV .no rfl rfl rfl rfl rfl (Qai (y5 3) 900 _ _ hq36)<|.b rfl rfl rfl rfl<|.q (.build (qs:=[(1,_),(2,_)]) (cs:=[_,_,_]) rfl b_157 rfl)<|.f .no rfl (.alloc z_157) fun b37=>.st (cs':=[_,_,_]) .no (Qch rfl Qci) (Qbp rfl Qbo) rfl rfl rfl rfl s_157 rfl rfl .hd rfl rfl (.all (Qaa rfl (Qaa rfl rfl)))<|.nil<|sq_n ?_
    obtain ⟨o7,hE7,hG7⟩:=bS hF
    refine .joinx (α:=J_r04_Version_7) [(2,_),(4,_),(5,_),(10,_),(12,_),(13,_),(14,_),(15,_)] [_,_,_,_] (fun fx x=>fx) (fun mx x=>[.blk b37 (.cells [.i .i64 x.z7_1,.i .i64 x.z7_2,(.i .i64 (wr (q36 - 300)))] 157),rg mx 0,rg mx 1,rg mx 2,rg mx 3]) (fun x g'=>(x.z7_1,x.z7_2)=o7) ⟨rfl,rfl,rfl,rfl,rfl,rfl,rfl,rfl,trivial⟩ (.cons _ (List.Sublist.refl _)) ?_ ?_
    ·have hF:=hE7
     refine .seq<|.region rfl<|.m rfl rfl<|.q (.lenR rfl rfl rfl e_93 hr6_3)<|.b rfl rfl rfl rfl<|.nil<|sq_n<|.cond rfl (fun h38=>?_) (fun h38=>?_)
     ·have kh38:=dT h38
      have hF:=cT h38 hF
      refine .seq<|.draw (tb:=[r0 0 0,r0 0 0,r0 2 0,r0 6 0,r0 15 0,r0 31 0,r0 63 0,r0 127 0,r0 0 0,r0 256 0,r0 768 0,r1 2047 1,r1 4095 1,r1 8191 1]) rfl (by kernel_rfl) (by kernel_rfl) ?_
      refine .m rfl rfl<|.m rfl rfl<|.q (.lenR rfl rfl rfl e_93 hr6_3)<|.q (.sub rfl rfl (by omega)) ?_
      obtain ⟨y39,hy39,hF⟩:=bS hF
      have hj39:=atI_lt hy39
      refine .ixl .no rfl rfl hr6_3 rfl e_93 hy39 ?_
      rintro b39 o39 _ hq39 rfl
      refine .q (.fa rfl Qbj)<|.y rfl rfl rfl (.ps 0 rfl hq39 rfl a_3 rfl)<|.b rfl rfl rfl rfl<|.q (.ixa (j:=1) rfl rfl ae_38 (by decide))<|.y rfl rfl rfl (.s rfl (.tl .hd) a_3 rfl) ?_
      obtain ⟨q40,hq40,hF⟩:=bS hF
      refine .callV .no rfl rfl rfl rfl rfl (Qai (y5 1) 900 _ _ hq40)<|.b rfl rfl rfl rfl<|.q (.fa rfl Qbj)<|.st (cs':=[_,_,_]) .no rfl rfl rfl rfl rfl rfl s_3 rfl rfl .hd rfl rfl (.all (Qaa rfl (Qaa rfl rfl)))<|.nil<|sq_n ?_
      obtain ⟨o8,hE8,hG8⟩:=bS hF
      refine .joinx (α:=J_r04_Version_8) [(2,_),(4,_),(5,_),(10,_),(12,_),(13,_),(14,_),(15,_)] [_,_,_,_] (fun fx x=>fx) (fun mx x=>[.blk b37 (.cells [(.i .i64 (wr ((wr (y39.fr+1))+q40))),.i .i64 x.z8_1,(.i .i64 (wr (q36 - 300)))] 157),rg mx 0,rg mx 1,rg mx 2,rg mx 3]) (fun x g'=>x.z8_1=o8) ⟨rfl,rfl,rfl,rfl,rfl,rfl,rfl,rfl,trivial⟩ (.cons _ (List.Sublist.refl _)) ?_ ?_
      ·have hF:=hE8
       refine .seq<|.region rfl<|.q (.ixa (j:=4) rfl rfl ae_38 (by decide))<|.w (.s rfl (.tl .hd) a_3 rfl) ?_
       obtain ⟨q41,hq41,hF⟩:=bS hF
       refine .callV .no rfl rfl rfl (Qai (y5 4) 3 _ _ hq41)<|.b rfl rfl rfl rfl<|.nil<|sq_n<|.cond rfl (fun h42=>?_) (fun h42=>?_)
       ·have kh42:=dT h42
        have hF:=cT h42 hF
        refine .draw (tb:=[r0 0 0,r0 0 0,r0 2 0,r0 6 0,r0 15 0,r0 31 0,r0 63 0,r0 0 0,r0 0 0,r0 256 0,r0 768 0,r0 1920 0,r0 3968 0,r0 8064 0,r0 0 0,r0 16384 0,r0 65408 0,r0 0 0,r0 131072 0,r0 524160 0,r1 1048575 0,r1 2097151 0,r1 4194303 0]) rfl (by kernel_rfl) (by kernel_rfl) ?_
        refine .m rfl rfl<|.m rfl rfl<|.q (.lenR rfl rfl rfl e_93 hr6_3)<|.q (.sub rfl rfl (by omega))<|.ixl .no rfl rfl hr6_3 rfl e_93 hy39 ?_
        rintro b43 o43 _ hq43 rfl
        refine .q (.fa rfl f_157_1)<|.y rfl rfl rfl (.ps 1 rfl hq43 rfl a_3 rfl)<|.m rfl rfl<|.m rfl rfl<|.q (.lenR rfl rfl rfl e_93 hr6_3)<|.q (.sub rfl rfl (by omega))<|.ixl .no rfl rfl hr6_3 rfl e_93 hy39 ?_
        rintro b44 o44 _ hq44 rfl
        refine .q (.fa rfl f_157_2)<|.y rfl rfl rfl (.ps 2 rfl hq44 rfl a_3 rfl)<|.q (.fa rfl f_157_2)<|.y rfl rfl rfl (.s rfl .hd a_3 rfl)<|.b rfl rfl rfl rfl<|.q (.fa rfl Qbj)<|.y rfl rfl rfl (.s rfl .hd a_3 rfl)<|.b rfl rfl rfl rfl<|.b rfl rfl rfl rfl<|.q (.fa rfl f_157_1)<|.st (cs':=[_,_,_]) .no rfl rfl rfl rfl rfl rfl s_3 rfl rfl .hd rfl rfl (.all (Qaa rfl (Qaa rfl (Qaa rfl (Qaa rfl rfl)))))<|.nil ?_
        obtain rfl:=sI hF
        exact Qcl (J_r04_Version_8.mk (wr (y39.base+(wr ((wr (y39.rate - (wr (q36 - 300)))) * (wr ((wr (y39.fr+1))+q40))))))) ⟨rfl,rfl,rfl,rfl,rfl,rfl,rfl,rfl,trivial⟩ (List.Sublist.refl _) (Le.refl _) rfl
       have hF:=cF h42 hF
       refine .skip ?_
       obtain rfl:=sI hF
       exact Qcl (J_r04_Version_8.mk (wr (q35 - 100000))) ⟨rfl,rfl,rfl,rfl,rfl,rfl,rfl,rfl,trivial⟩ (List.Sublist.refl _) (Le.refl _) rfl
      intro x8 gj8 hlj8 hJ8
      obtain ⟨z8_1⟩:=x8
      try dsimp only at hJ8
      obtain rfl:=hJ8
      have hF:=hG8
      replace hr5_5:=hr5_5.mono PutR.mono hlj8
      replace hr5_8:=hr5_8.mono PieceR.mono hlj8
      replace hr5_11:=hr5_11.mono PieceR.mono hlj8
      replace hr5_14:=hr5_14.mono PieceR.mono hlj8
      replace hr5_17:=hr5_17.mono PieceR.mono hlj8
      replace hr5_20:=hr5_20.mono PieceR.mono hlj8
      replace hr5_23:=hr5_23.mono PieceR.mono hlj8
      replace hr5_26:=hr5_26.mono PieceR.mono hlj8
      replace hr5_29:=hr5_29.mono PieceR.mono hlj8
      replace hr5_32:=hr5_32.mono PieceR.mono hlj8
      replace hr5_35:=hr5_35.mono PieceR.mono hlj8
      replace hr6_3:=hr6_3.mono PieceR.mono hlj8
      refine .seq<|.region rfl<|.q (.fa rfl f_157_1)<|.w (.s rfl .hd a_3 rfl)<|.callV .no rfl rfl rfl (in_ok _ _ _ _)<|.q (.not rfl)<|.nil<|sq_n<|.cond rfl (fun h46=>?_) (fun h46=>?_)
      ·have hF:=cT h46 hF
       refine .region rfl<|.q (.fa rfl f_157_1)<|.st (cs':=[_,_,_]) .no rfl rfl rfl rfl s_3 rfl rfl .hd rfl rfl<|.nil ?_
       obtain rfl:=sI hF
       exact Qcl (J_r04_Version_7.mk (wr ((wr (y39.fr+1))+q40)) 0) ⟨rfl,rfl,rfl,rfl,rfl,rfl,rfl,rfl,trivial⟩ (List.Sublist.refl _) hlj8 rfl
      have hF:=cF h46 hF
      refine .skip ?_
      obtain rfl:=sI hF
      exact Qcl (J_r04_Version_7.mk (wr ((wr (y39.fr+1))+q40)) z8_1) ⟨rfl,rfl,rfl,rfl,rfl,rfl,rfl,rfl,trivial⟩ (List.Sublist.refl _) hlj8 rfl
     have hF:=cF h38 hF
     refine .skip ?_
     obtain rfl:=sI hF
     exact Qcl (J_r04_Version_7.mk 0 (wr (q35 - 100000))) ⟨rfl,rfl,rfl,rfl,rfl,rfl,rfl,rfl,trivial⟩ (List.Sublist.refl _) (Le.refl _) rfl
    intro x7 gj7 hlj7 hJ7
    obtain ⟨z7_1,z7_2⟩:=x7
    try dsimp only at hJ7
    obtain rfl:=hJ7
    have hF:=hG7
    replace hr5_5:=hr5_5.mono PutR.mono hlj7
    replace hr5_8:=hr5_8.mono PieceR.mono hlj7
    replace hr5_11:=hr5_11.mono PieceR.mono hlj7
    replace hr5_14:=hr5_14.mono PieceR.mono hlj7
    replace hr5_17:=hr5_17.mono PieceR.mono hlj7
    replace hr5_20:=hr5_20.mono PieceR.mono hlj7
    replace hr5_23:=hr5_23.mono PieceR.mono hlj7
    replace hr5_26:=hr5_26.mono PieceR.mono hlj7
    replace hr5_29:=hr5_29.mono PieceR.mono hlj7
    replace hr5_32:=hr5_32.mono PieceR.mono hlj7
    replace hr5_35:=hr5_35.mono PieceR.mono hlj7
    replace hr6_3:=hr6_3.mono PieceR.mono hlj7
    refine .draw (tb:=[r0 0 0,r0 0 0,r0 0 0,r0 0 0,r0 12 0,r1 0 0,r1 32 0,r1 124 1,r0 0 0,r0 257 0,r1 1023 2,r1 2047 2]) rfl (by kernel_rfl) (by kernel_rfl) ?_
    refine .m rfl rfl<|.m rfl rfl<|.f .no rfl (.bs (qs:=[]) (c:=[]) rfl sl_93 el_157 (by decide) rfl) fun b47=>.m rfl rfl<|.see0 (seeEm0 3 157 (show Em (.sl b47 0 0 0) from .inr (.inr ⟨_,_,rfl⟩))) ?_
    obtain ⟨hl49,hF⟩:=ckS hF
    have hl49:=of_decide_eq_true hl49
    refine .ne .hd .hd fun hn49_b37=>.appR .no rfl (Qch rfl Qci) (Qbp rfl Qbo) (fun _ _=>.all rfl) rfl rfl rfl (fun _=>(.tl .hd)) sl_93 sl_93 el_157 (AccR.em (R:=PieceR) (s:=3) (g:=gj7) (show Em (.sl b47 0 0 0) from .inr (.inr ⟨_,_,rfl⟩))) hr6_3 (fun _ _ h=>PieceR.one h) hl49 fun new49 v49 hn49=>.as (.tl .hd) fun av49=>?_
    have ha49:=AccR.app (R:=PieceR) (g:=gj7) (ys:=d6_1) (AccR.em (R:=PieceR) (s:=3) (g:=gj7) (show Em (.sl b47 0 0 0) from .inr (.inr ⟨_,_,rfl⟩))) hn49 hl49 av49
    have lha49:=ha49.le
    refine .ld (k:=1) .no rfl rfl rfl (FrS.cons hn49_b37 trivial) (.a (vs:=[_,_,_]) rfl (.tl .hd) a_157 s_157 rfl rfl)<|.f .no rfl (.bs (qs:=[(0,_)]) (c:=[_,_,_]) rfl sl_93 el_157 (by decide) rfl) fun b50=>?_
    obtain ⟨hl51,hF⟩:=ckS hF
    have hl51:=of_decide_eq_true hl51
    refine .ne (.tl .hd) (.tl .hd) fun hn51_b37=>.x .no rfl rfl (Qch rfl Qci) (Qbp rfl Qbo) (Qcq rfl) (fun _ _=>.all (Qaa rfl rfl)) (.appA (m:=1) (new:=[_,_,_]) rfl rfl rfl (.tl (.tl .hd)) sl_93 el_157 (.of rfl .sl sl_93 .hd (Nat.le_of_ble_eq_true rfl) rfl) (by decide) rfl (AccR.room (R:=PieceR) (ys:=[(Piece.mk z7_1 z7_2 (wr (q36 - 300)))]) ha49 (Ls.cons (c:=[_,_,_]) rfl rfl .nil) hl51) rfl) fun v51=>.as (.tl (.tl .hd)) fun av51=>?_
    have ha51:=AccR.app (R:=PieceR) (g:=gj7) (ys:=[(Piece.mk z7_1 z7_2 (wr (q36 - 300)))]) ha49 (Ls.cons (c:=[_,_,_]) rfl rfl .nil) hl51 av51
    have lha51:=ha51.le
    refine .q (.fa rfl Qbn) ?_
    by_cases e52_0:(q29:Int)=0
    ·have hF:=cT (decide_eq_true e52_0) hF
     refine .q (.ixae (q:=0) rfl rfl e52_0 ae_95 (by decide)) ?_
     by_cases e53_0:(q30:Int)=0
     ·have hF:=cT (decide_eq_true e53_0) hF
      refine .q (.ixae (q:=0) rfl rfl e53_0 ae_94 (by decide))<|.see (Qbe PieceR.mono (.tl (.tl .hd)) (by decide) ha51) ?_
      rintro gz54 ⟨hle54,hz54⟩
      replace hr5_5:=hr5_5.mono PutR.mono hle54
      replace hr5_8:=hr5_8.mono PieceR.mono hle54
      replace hr5_11:=hr5_11.mono PieceR.mono hle54
      replace hr5_14:=hr5_14.mono PieceR.mono hle54
      replace hr5_17:=hr5_17.mono PieceR.mono hle54
      replace hr5_20:=hr5_20.mono PieceR.mono hle54
      replace hr5_23:=hr5_23.mono PieceR.mono hle54
      replace hr5_26:=hr5_26.mono PieceR.mono hle54
      replace hr5_29:=hr5_29.mono PieceR.mono hle54
      replace hr5_32:=hr5_32.mono PieceR.mono hle54
      replace hr5_35:=hr5_35.mono PieceR.mono hle54
      replace ha51:=ha51.mono PieceR.mono hle54
      refine .st (cs':=[_,_,_,_,_,_,_,_,_,_,_,_]) .no rfl rfl rfl rfl hz54.any hz54.cells s_93 rfl rfl (.tl (.tl (.tl (.tl .hd)))) rfl (Qa hz54.one rfl) (.all (Qaa rfl rfl))<|.nil<|bq_n<|sq_n<|.region rfl<|.m rfl rfl<|.q (.inc1 rfl rfl (by omega))<|.z rfl rfl<|.nil<|Qac (L_r04_Version_5.mk (k5_1+1) z5_2 _ d5_3 _ (d6_1 ++ [(Piece.mk z7_1 z7_2 (wr (q36 - 300)))]) _ d5_9 _ d5_12 _ d5_15 _ d5_18 _ d5_21 _ d5_24 _ d5_27 _ d5_30 _ d5_33) ⟨rfl,rfl,rfl,rfl,trivial⟩ (.cons _ (.cons _ (.cons _ (.cons _ (List.Sublist.refl _))))) ((hlj6.trans hlj7).trans hle54) ?_ ?_
      ·exact ⟨hr5_5,hz54,hr5_11,hr5_14,hr5_17,hr5_20,hr5_23,hr5_26,hr5_29,hr5_32,hr5_35,(Qam hy5),hF⟩
      ·simp only;omega
     have hF:=cF (decide_eq_false e53_0) hF
     by_cases e53_1:(q30:Int)=1
     ·have hF:=cT (decide_eq_true e53_1) hF
      refine .q (.ixae (q:=1) rfl rfl e53_1 ae_94 (by decide))<|.see (Qbe PieceR.mono (.tl (.tl .hd)) (by decide) ha51) ?_
      rintro gz55 ⟨hle55,hz55⟩
      replace hr5_5:=hr5_5.mono PutR.mono hle55
      replace hr5_8:=hr5_8.mono PieceR.mono hle55
      replace hr5_11:=hr5_11.mono PieceR.mono hle55
      replace hr5_14:=hr5_14.mono PieceR.mono hle55
      replace hr5_17:=hr5_17.mono PieceR.mono hle55
      replace hr5_20:=hr5_20.mono PieceR.mono hle55
      replace hr5_23:=hr5_23.mono PieceR.mono hle55
      replace hr5_26:=hr5_26.mono PieceR.mono hle55
      replace hr5_29:=hr5_29.mono PieceR.mono hle55
      replace hr5_32:=hr5_32.mono PieceR.mono hle55
      replace hr5_35:=hr5_35.mono PieceR.mono hle55
      replace ha51:=ha51.mono PieceR.mono hle55
      refine .st (cs':=[_,_,_,_,_,_,_,_,_,_,_,_]) .no rfl rfl rfl rfl hz55.any hz55.cells s_93 rfl rfl (.tl (.tl (.tl (.tl .hd)))) rfl (Qa hz55.one rfl) (.all (Qaa rfl rfl))<|.nil<|bq_n<|sq_n<|.region rfl<|.m rfl rfl<|.q (.inc1 rfl rfl (by omega))<|.z rfl rfl<|.nil<|Qac (L_r04_Version_5.mk (k5_1+1) z5_2 _ d5_3 _ d5_6 _ (d6_1 ++ [(Piece.mk z7_1 z7_2 (wr (q36 - 300)))]) _ d5_12 _ d5_15 _ d5_18 _ d5_21 _ d5_24 _ d5_27 _ d5_30 _ d5_33) ⟨rfl,rfl,rfl,rfl,trivial⟩ (.cons _ (.cons _ (.cons _ (.cons _ (List.Sublist.refl _))))) ((hlj6.trans hlj7).trans hle55) ?_ ?_
      ·exact ⟨hr5_5,hr5_8,hz55,hr5_14,hr5_17,hr5_20,hr5_23,hr5_26,hr5_29,hr5_32,hr5_35,(Qam hy5),hF⟩
      ·simp only;omega
     have hF:=cF (decide_eq_false e53_1) hF
     by_cases e53_2:(q30:Int)=2
     ·have hF:=cT (decide_eq_true e53_2) hF
      refine .q (.ixae (q:=2) rfl rfl e53_2 ae_94 (by decide))<|.see (Qbe PieceR.mono (.tl (.tl .hd)) (by decide) ha51) ?_
      rintro gz56 ⟨hle56,hz56⟩
      replace hr5_5:=hr5_5.mono PutR.mono hle56
      replace hr5_8:=hr5_8.mono PieceR.mono hle56
      replace hr5_11:=hr5_11.mono PieceR.mono hle56
      replace hr5_14:=hr5_14.mono PieceR.mono hle56
      replace hr5_17:=hr5_17.mono PieceR.mono hle56
      replace hr5_20:=hr5_20.mono PieceR.mono hle56
      replace hr5_23:=hr5_23.mono PieceR.mono hle56
      replace hr5_26:=hr5_26.mono PieceR.mono hle56
      replace hr5_29:=hr5_29.mono PieceR.mono hle56
      replace hr5_32:=hr5_32.mono PieceR.mono hle56
      replace hr5_35:=hr5_35.mono PieceR.mono hle56
      replace ha51:=ha51.mono PieceR.mono hle56
      refine .st (cs':=[_,_,_,_,_,_,_,_,_,_,_,_]) .no rfl rfl rfl rfl hz56.any hz56.cells s_93 rfl rfl (.tl (.tl (.tl (.tl .hd)))) rfl (Qa hz56.one rfl) (.all (Qaa rfl rfl))<|.nil<|bq_n<|sq_n<|.region rfl<|.m rfl rfl<|.q (.inc1 rfl rfl (by omega))<|.z rfl rfl<|.nil<|Qac (L_r04_Version_5.mk (k5_1+1) z5_2 _ d5_3 _ d5_6 _ d5_9 _ (d6_1 ++ [(Piece.mk z7_1 z7_2 (wr (q36 - 300)))]) _ d5_15 _ d5_18 _ d5_21 _ d5_24 _ d5_27 _ d5_30 _ d5_33) ⟨rfl,rfl,rfl,rfl,trivial⟩ (.cons _ (.cons _ (.cons _ (.cons _ (List.Sublist.refl _))))) ((hlj6.trans hlj7).trans hle56) ?_ ?_
      ·exact ⟨hr5_5,hr5_8,hr5_11,hz56,hr5_17,hr5_20,hr5_23,hr5_26,hr5_29,hr5_32,hr5_35,(Qam hy5),hF⟩
      ·simp only;omega
     have hF:=cF (decide_eq_false e53_2) hF
     by_cases e53_3:(q30:Int)=3
     ·have hF:=cT (decide_eq_true e53_3) hF
      refine .q (.ixae (q:=3) rfl rfl e53_3 ae_94 (by decide))<|.see (Qbe PieceR.mono (.tl (.tl .hd)) (by decide) ha51) ?_
      rintro gz57 ⟨hle57,hz57⟩
      replace hr5_5:=hr5_5.mono PutR.mono hle57
      replace hr5_8:=hr5_8.mono PieceR.mono hle57
      replace hr5_11:=hr5_11.mono PieceR.mono hle57
      replace hr5_14:=hr5_14.mono PieceR.mono hle57
      replace hr5_17:=hr5_17.mono PieceR.mono hle57
      replace hr5_20:=hr5_20.mono PieceR.mono hle57
      replace hr5_23:=hr5_23.mono PieceR.mono hle57
      replace hr5_26:=hr5_26.mono PieceR.mono hle57
      replace hr5_29:=hr5_29.mono PieceR.mono hle57
      replace hr5_32:=hr5_32.mono PieceR.mono hle57
      replace hr5_35:=hr5_35.mono PieceR.mono hle57
      replace ha51:=ha51.mono PieceR.mono hle57
      refine .st (cs':=[_,_,_,_,_,_,_,_,_,_,_,_]) .no rfl rfl rfl rfl hz57.any hz57.cells s_93 rfl rfl (.tl (.tl (.tl (.tl .hd)))) rfl (Qa hz57.one rfl) (.all (Qaa rfl rfl))<|.nil<|bq_n<|sq_n<|.region rfl<|.m rfl rfl<|.q (.inc1 rfl rfl (by omega))<|.z rfl rfl<|.nil<|Qac (L_r04_Version_5.mk (k5_1+1) z5_2 _ d5_3 _ d5_6 _ d5_9 _ d5_12 _ (d6_1 ++ [(Piece.mk z7_1 z7_2 (wr (q36 - 300)))]) _ d5_18 _ d5_21 _ d5_24 _ d5_27 _ d5_30 _ d5_33) ⟨rfl,rfl,rfl,rfl,trivial⟩ (.cons _ (.cons _ (.cons _ (.cons _ (List.Sublist.refl _))))) ((hlj6.trans hlj7).trans hle57) ?_ ?_
      ·exact ⟨hr5_5,hr5_8,hr5_11,hr5_14,hz57,hr5_20,hr5_23,hr5_26,hr5_29,hr5_32,hr5_35,(Qam hy5),hF⟩
      ·simp only;omega
     have hF:=cF (decide_eq_false e53_3) hF
     by_cases e53_4:(q30:Int)=4
     ·have hF:=cT (decide_eq_true e53_4) hF
      refine .q (.ixae (q:=4) rfl rfl e53_4 ae_94 (by decide))<|.see (Qbe PieceR.mono (.tl (.tl .hd)) (by decide) ha51) ?_
      rintro gz58 ⟨hle58,hz58⟩
      replace hr5_5:=hr5_5.mono PutR.mono hle58
      replace hr5_8:=hr5_8.mono PieceR.mono hle58
      replace hr5_11:=hr5_11.mono PieceR.mono hle58
      replace hr5_14:=hr5_14.mono PieceR.mono hle58
      replace hr5_17:=hr5_17.mono PieceR.mono hle58
      replace hr5_20:=hr5_20.mono PieceR.mono hle58
      replace hr5_23:=hr5_23.mono PieceR.mono hle58
      replace hr5_26:=hr5_26.mono PieceR.mono hle58
      replace hr5_29:=hr5_29.mono PieceR.mono hle58
      replace hr5_32:=hr5_32.mono PieceR.mono hle58
      replace hr5_35:=hr5_35.mono PieceR.mono hle58
      replace ha51:=ha51.mono PieceR.mono hle58
      refine .st (cs':=[_,_,_,_,_,_,_,_,_,_,_,_]) .no rfl rfl rfl rfl hz58.any hz58.cells s_93 rfl rfl (.tl (.tl (.tl (.tl .hd)))) rfl (Qa hz58.one rfl) (.all (Qaa rfl rfl))<|.nil<|bq_n<|sq_n<|.region rfl<|.m rfl rfl<|.q (.inc1 rfl rfl (by omega))<|.z rfl rfl<|.nil<|Qac (L_r04_Version_5.mk (k5_1+1) z5_2 _ d5_3 _ d5_6 _ d5_9 _ d5_12 _ d5_15 _ (d6_1 ++ [(Piece.mk z7_1 z7_2 (wr (q36 - 300)))]) _ d5_21 _ d5_24 _ d5_27 _ d5_30 _ d5_33) ⟨rfl,rfl,rfl,rfl,trivial⟩ (.cons _ (.cons _ (.cons _ (.cons _ (List.Sublist.refl _))))) ((hlj6.trans hlj7).trans hle58) ?_ ?_
      ·exact ⟨hr5_5,hr5_8,hr5_11,hr5_14,hr5_17,hz58,hr5_23,hr5_26,hr5_29,hr5_32,hr5_35,(Qam hy5),hF⟩
      ·simp only;omega
     have hF:=cF (decide_eq_false e53_4) hF
     cases hF
    have hF:=cF (decide_eq_false e52_0) hF
    by_cases e52_1:(q29:Int)=1
    ·have hF:=cT (decide_eq_true e52_1) hF
     refine .q (.ixae (q:=1) rfl rfl e52_1 ae_95 (by decide)) ?_
     by_cases e59_0:(q30:Int)=0
     ·have hF:=cT (decide_eq_true e59_0) hF
      refine .q (.ixae (q:=0) rfl rfl e59_0 ae_94 (by decide))<|.see (Qbe PieceR.mono (.tl (.tl .hd)) (by decide) ha51) ?_
      rintro gz60 ⟨hle60,hz60⟩
      replace hr5_5:=hr5_5.mono PutR.mono hle60
      replace hr5_8:=hr5_8.mono PieceR.mono hle60
      replace hr5_11:=hr5_11.mono PieceR.mono hle60
      replace hr5_14:=hr5_14.mono PieceR.mono hle60
      replace hr5_17:=hr5_17.mono PieceR.mono hle60
      replace hr5_20:=hr5_20.mono PieceR.mono hle60
      replace hr5_23:=hr5_23.mono PieceR.mono hle60
      replace hr5_26:=hr5_26.mono PieceR.mono hle60
      replace hr5_29:=hr5_29.mono PieceR.mono hle60
      replace hr5_32:=hr5_32.mono PieceR.mono hle60
      replace hr5_35:=hr5_35.mono PieceR.mono hle60
      replace ha51:=ha51.mono PieceR.mono hle60
      refine .st (cs':=[_,_,_,_,_,_,_,_,_,_,_,_]) .no rfl rfl rfl rfl hz60.any hz60.cells s_93 rfl rfl (.tl (.tl (.tl (.tl .hd)))) rfl (Qa hz60.one rfl) (.all (Qaa rfl rfl))<|.nil<|bq_n<|sq_n<|.region rfl<|.m rfl rfl<|.q (.inc1 rfl rfl (by omega))<|.z rfl rfl<|.nil<|Qac (L_r04_Version_5.mk (k5_1+1) z5_2 _ d5_3 _ d5_6 _ d5_9 _ d5_12 _ d5_15 _ d5_18 _ (d6_1 ++ [(Piece.mk z7_1 z7_2 (wr (q36 - 300)))]) _ d5_24 _ d5_27 _ d5_30 _ d5_33) ⟨rfl,rfl,rfl,rfl,trivial⟩ (.cons _ (.cons _ (.cons _ (.cons _ (List.Sublist.refl _))))) ((hlj6.trans hlj7).trans hle60) ?_ ?_
      ·exact ⟨hr5_5,hr5_8,hr5_11,hr5_14,hr5_17,hr5_20,hz60,hr5_26,hr5_29,hr5_32,hr5_35,(Qam hy5),hF⟩
      ·simp only;omega
     have hF:=cF (decide_eq_false e59_0) hF
     by_cases e59_1:(q30:Int)=1
     ·have hF:=cT (decide_eq_true e59_1) hF
      refine .q (.ixae (q:=1) rfl rfl e59_1 ae_94 (by decide))<|.see (Qbe PieceR.mono (.tl (.tl .hd)) (by decide) ha51) ?_
      rintro gz61 ⟨hle61,hz61⟩
      replace hr5_5:=hr5_5.mono PutR.mono hle61
      replace hr5_8:=hr5_8.mono PieceR.mono hle61
      replace hr5_11:=hr5_11.mono PieceR.mono hle61
      replace hr5_14:=hr5_14.mono PieceR.mono hle61
      replace hr5_17:=hr5_17.mono PieceR.mono hle61
      replace hr5_20:=hr5_20.mono PieceR.mono hle61
      replace hr5_23:=hr5_23.mono PieceR.mono hle61
      replace hr5_26:=hr5_26.mono PieceR.mono hle61
      replace hr5_29:=hr5_29.mono PieceR.mono hle61
      replace hr5_32:=hr5_32.mono PieceR.mono hle61
      replace hr5_35:=hr5_35.mono PieceR.mono hle61
      replace ha51:=ha51.mono PieceR.mono hle61
      refine .st (cs':=[_,_,_,_,_,_,_,_,_,_,_,_]) .no rfl rfl rfl rfl hz61.any hz61.cells s_93 rfl rfl (.tl (.tl (.tl (.tl .hd)))) rfl (Qa hz61.one rfl) (.all (Qaa rfl rfl))<|.nil<|bq_n<|sq_n<|.region rfl<|.m rfl rfl<|.q (.inc1 rfl rfl (by omega))<|.z rfl rfl<|.nil<|Qac (L_r04_Version_5.mk (k5_1+1) z5_2 _ d5_3 _ d5_6 _ d5_9 _ d5_12 _ d5_15 _ d5_18 _ d5_21 _ (d6_1 ++ [(Piece.mk z7_1 z7_2 (wr (q36 - 300)))]) _ d5_27 _ d5_30 _ d5_33) ⟨rfl,rfl,rfl,rfl,trivial⟩ (.cons _ (.cons _ (.cons _ (.cons _ (List.Sublist.refl _))))) ((hlj6.trans hlj7).trans hle61) ?_ ?_
      ·exact ⟨hr5_5,hr5_8,hr5_11,hr5_14,hr5_17,hr5_20,hr5_23,hz61,hr5_29,hr5_32,hr5_35,(Qam hy5),hF⟩
      ·simp only;omega
     have hF:=cF (decide_eq_false e59_1) hF
     by_cases e59_2:(q30:Int)=2
     ·have hF:=cT (decide_eq_true e59_2) hF
      refine .q (.ixae (q:=2) rfl rfl e59_2 ae_94 (by decide))<|.see (Qbe PieceR.mono (.tl (.tl .hd)) (by decide) ha51) ?_
      rintro gz62 ⟨hle62,hz62⟩
      replace hr5_5:=hr5_5.mono PutR.mono hle62
      replace hr5_8:=hr5_8.mono PieceR.mono hle62
      replace hr5_11:=hr5_11.mono PieceR.mono hle62
      replace hr5_14:=hr5_14.mono PieceR.mono hle62
      replace hr5_17:=hr5_17.mono PieceR.mono hle62
      replace hr5_20:=hr5_20.mono PieceR.mono hle62
      replace hr5_23:=hr5_23.mono PieceR.mono hle62
      replace hr5_26:=hr5_26.mono PieceR.mono hle62
      replace hr5_29:=hr5_29.mono PieceR.mono hle62
      replace hr5_32:=hr5_32.mono PieceR.mono hle62
      replace hr5_35:=hr5_35.mono PieceR.mono hle62
      replace ha51:=ha51.mono PieceR.mono hle62
      refine .st (cs':=[_,_,_,_,_,_,_,_,_,_,_,_]) .no rfl rfl rfl rfl hz62.any hz62.cells s_93 rfl rfl (.tl (.tl (.tl (.tl .hd)))) rfl (Qa hz62.one rfl) (.all (Qaa rfl rfl))<|.nil<|bq_n<|sq_n<|.region rfl<|.m rfl rfl<|.q (.inc1 rfl rfl (by omega))<|.z rfl rfl<|.nil<|Qac (L_r04_Version_5.mk (k5_1+1) z5_2 _ d5_3 _ d5_6 _ d5_9 _ d5_12 _ d5_15 _ d5_18 _ d5_21 _ d5_24 _ (d6_1 ++ [(Piece.mk z7_1 z7_2 (wr (q36 - 300)))]) _ d5_30 _ d5_33) ⟨rfl,rfl,rfl,rfl,trivial⟩ (.cons _ (.cons _ (.cons _ (.cons _ (List.Sublist.refl _))))) ((hlj6.trans hlj7).trans hle62) ?_ ?_
      ·exact ⟨hr5_5,hr5_8,hr5_11,hr5_14,hr5_17,hr5_20,hr5_23,hr5_26,hz62,hr5_32,hr5_35,(Qam hy5),hF⟩
      ·simp only;omega
     have hF:=cF (decide_eq_false e59_2) hF
     by_cases e59_3:(q30:Int)=3
     ·have hF:=cT (decide_eq_true e59_3) hF
      refine .q (.ixae (q:=3) rfl rfl e59_3 ae_94 (by decide))<|.see (Qbe PieceR.mono (.tl (.tl .hd)) (by decide) ha51) ?_
      rintro gz63 ⟨hle63,hz63⟩
      replace hr5_5:=hr5_5.mono PutR.mono hle63
      replace hr5_8:=hr5_8.mono PieceR.mono hle63
      replace hr5_11:=hr5_11.mono PieceR.mono hle63
      replace hr5_14:=hr5_14.mono PieceR.mono hle63
      replace hr5_17:=hr5_17.mono PieceR.mono hle63
      replace hr5_20:=hr5_20.mono PieceR.mono hle63
      replace hr5_23:=hr5_23.mono PieceR.mono hle63
      replace hr5_26:=hr5_26.mono PieceR.mono hle63
      replace hr5_29:=hr5_29.mono PieceR.mono hle63
      replace hr5_32:=hr5_32.mono PieceR.mono hle63
      replace hr5_35:=hr5_35.mono PieceR.mono hle63
      replace ha51:=ha51.mono PieceR.mono hle63
      refine .st (cs':=[_,_,_,_,_,_,_,_,_,_,_,_]) .no rfl rfl rfl rfl hz63.any hz63.cells s_93 rfl rfl (.tl (.tl (.tl (.tl .hd)))) rfl (Qa hz63.one rfl) (.all (Qaa rfl rfl))<|.nil<|bq_n<|sq_n<|.region rfl<|.m rfl rfl<|.q (.inc1 rfl rfl (by omega))<|.z rfl rfl<|.nil<|Qac (L_r04_Version_5.mk (k5_1+1) z5_2 _ d5_3 _ d5_6 _ d5_9 _ d5_12 _ d5_15 _ d5_18 _ d5_21 _ d5_24 _ d5_27 _ (d6_1 ++ [(Piece.mk z7_1 z7_2 (wr (q36 - 300)))]) _ d5_33) ⟨rfl,rfl,rfl,rfl,trivial⟩ (.cons _ (.cons _ (.cons _ (.cons _ (List.Sublist.refl _))))) ((hlj6.trans hlj7).trans hle63) ?_ ?_
      ·exact ⟨hr5_5,hr5_8,hr5_11,hr5_14,hr5_17,hr5_20,hr5_23,hr5_26,hr5_29,hz63,hr5_35,(Qam hy5),hF⟩
      ·simp only;omega
     have hF:=cF (decide_eq_false e59_3) hF
     by_cases e59_4:(q30:Int)=4
     ·have hF:=cT (decide_eq_true e59_4) hF
      refine .q (.ixae (q:=4) rfl rfl e59_4 ae_94 (by decide))<|.see (Qbe PieceR.mono (.tl (.tl .hd)) (by decide) ha51) ?_
      rintro gz64 ⟨hle64,hz64⟩
      replace hr5_5:=hr5_5.mono PutR.mono hle64
      replace hr5_8:=hr5_8.mono PieceR.mono hle64
      replace hr5_11:=hr5_11.mono PieceR.mono hle64
      replace hr5_14:=hr5_14.mono PieceR.mono hle64
      replace hr5_17:=hr5_17.mono PieceR.mono hle64
      replace hr5_20:=hr5_20.mono PieceR.mono hle64
      replace hr5_23:=hr5_23.mono PieceR.mono hle64
      replace hr5_26:=hr5_26.mono PieceR.mono hle64
      replace hr5_29:=hr5_29.mono PieceR.mono hle64
      replace hr5_32:=hr5_32.mono PieceR.mono hle64
      replace hr5_35:=hr5_35.mono PieceR.mono hle64
      refine .st (cs':=[_,_,_,_,_,_,_,_,_,_,_,_]) .no rfl rfl rfl rfl hz64.any hz64.cells s_93 rfl rfl (.tl (.tl (.tl (.tl .hd)))) rfl (Qa hz64.one rfl) (.all (Qaa rfl rfl))<|.nil<|bq_n<|sq_n<|.region rfl<|.m rfl rfl<|.q (.inc1 rfl rfl (by omega))<|.z rfl rfl<|.nil<|Qac (L_r04_Version_5.mk (k5_1+1) z5_2 _ d5_3 _ d5_6 _ d5_9 _ d5_12 _ d5_15 _ d5_18 _ d5_21 _ d5_24 _ d5_27 _ d5_30 _ (d6_1 ++ [(Piece.mk z7_1 z7_2 (wr (q36 - 300)))])) ⟨rfl,rfl,rfl,rfl,trivial⟩ (.cons _ (.cons _ (.cons _ (.cons _ (List.Sublist.refl _))))) ((hlj6.trans hlj7).trans hle64) ?_ ?_
      ·exact ⟨hr5_5,hr5_8,hr5_11,hr5_14,hr5_17,hr5_20,hr5_23,hr5_26,hr5_29,hr5_32,hz64,(Qam hy5),hF⟩
      ·simp only;omega
     have hF:=cF (decide_eq_false e59_4) hF
     cases hF
    have hF:=cF (decide_eq_false e52_1) hF
    cases hF
   have hF:=cF h26 hF
   obtain rfl:=sI hF
   have hF:=hG5
   refine .exit<|sq_e<|lq_e<|bq_x rfl ?_
   obtain rfl:=sI hF
   exact Qcl (J_r04_Version_4.mk z5_2 _ d5_3 _ d5_6 _ d5_9 _ d5_12 _ d5_15 _ d5_18 _ d5_21 _ d5_24 _ d5_27 _ d5_30 _ d5_33) ⟨rfl,rfl,trivial⟩ (List.Sublist.refl _) hlo5 ⟨hr5_5,hr5_8,hr5_11,hr5_14,hr5_17,hr5_20,hr5_23,hr5_26,hr5_29,hr5_32,hr5_35,rfl⟩
  have kh25:=dF h25
  rw [dn (by omega),Qaj] at hF
  refine .k h25<|.k h25<|.q (.pickF rfl h25 rfl)<|.nil<|sq_n<|.condF rfl rfl ?_
  obtain rfl:=sI hF
  have hF:=hG5
  refine .exit<|sq_e<|lq_e<|bq_x rfl ?_
  obtain rfl:=sI hF
  exact Qcl (J_r04_Version_4.mk z5_2 _ d5_3 _ d5_6 _ d5_9 _ d5_12 _ d5_15 _ d5_18 _ d5_21 _ d5_24 _ d5_27 _ d5_30 _ d5_33) ⟨rfl,rfl,trivial⟩ (List.Sublist.refl _) hlo5 ⟨hr5_5,hr5_8,hr5_11,hr5_14,hr5_17,hr5_20,hr5_23,hr5_26,hr5_29,hr5_32,hr5_35,rfl⟩
 intro x4 gj4 hlj4 hJ4
 obtain ⟨z4_1,v4_3,d4_2,v4_6,d4_5,v4_9,d4_8,v4_12,d4_11,v4_15,d4_14,v4_18,d4_17,v4_21,d4_20,v4_24,d4_23,v4_27,d4_26,v4_30,d4_29,v4_33,d4_32⟩:=x4
 try dsimp only at hJ4
 obtain ⟨hr4_4,hr4_7,hr4_10,hr4_13,hr4_16,hr4_19,hr4_22,hr4_25,hr4_28,hr4_31,hr4_34,rfl⟩:=hJ4
 have hF:=hG4
 refine .seq<|.region rfl<|.w (.a (vs:=[_,_,_,_,_,_,_,_,_,_,_,_]) rfl .hd a_97 s_97 rfl rfl)<|.st (cs':=[_,_,_,_,_,_,_,_,_,_,_,_]) .no rfl rfl rfl rfl s_97 rfl rfl (.tl .hd) rfl (Qa rfl (Qa hr4_4.one (Qa hr4_7.one (Qa hr4_10.one (Qa hr4_13.one (Qa hr4_16.one (Qa hr4_19.one (Qa hr4_22.one (Qa hr4_25.one (Qa hr4_28.one (Qa hr4_31.one (Qa hr4_34.one rfl))))))))))))<|.nil<|sq_n<|.ret ?_
 obtain rfl:=sI hF
 refine Qab (hlj1.trans hlj4) (.cell (.a (vs:=[_,_,_,_,_,_,_,_,_,_,_,_]) rfl (.tl .hd) a_97 s_97 rfl rfl) .nil) rfl ?_
 exact ⟨_,rfl,(VersionR.of hr4_4 hr4_7 hr4_10 hr4_13 hr4_16 hr4_19 hr4_22 hr4_25 hr4_28 hr4_31 hr4_34)⟩
structure L_r04_Code_1 where
 k1_1:Nat
 s1_2:List UInt8
 v1_4:V
 cs1_5:List V
 d1_3:List Version
def Qcb:List T_Raw→Nat→List UInt8→List Version→Option ((List UInt8 × List Version))
 | [],k1_1,s1_2,d1_3=>some ((s1_2,d1_3))
 | y1 :: ys1,k1_1,s1_2,d1_3=>(cond (decide ((k1_1:Int) < 5)) (((atI d1_3 ((k1_1:Int) - 1)).bind fun y15=>((Qca y1 y15.fr).bind fun q16=>(ck (decide (d1_3.length+1≤1000000)) (Qcb ys1 (k1_1+1) s1_2 (d1_3 ++ [q16])))))) (some ((s1_2,d1_3))))
structure L_r04_Code_2 where
 k2_1:Nat
 s2_2:List UInt8
 v2_4:V
 cs2_5:List V
 d2_3:List Version
def Qcd:List T_Raw→Nat→List UInt8→List Version→Option ((List UInt8 × List Version))
 | [],k2_1,s2_2,d2_3=>some ((s2_2,d2_3))
 | y2 :: ys2,k2_1,s2_2,d2_3=>(cond (decide ((k2_1:Int) < 5)) (((atI d2_3 ((k2_1:Int) - 1)).bind fun y26=>((Qca y2 y26.fr).bind fun q27=>(ck (decide (d2_3.length+1≤1000000)) (Qcd ys2 (k2_1+1) s2_2 (d2_3 ++ [q27])))))) (some ((s2_2,d2_3))))
def Qfo (p0:(List T_Raw)):Option (Code):=((Qca (T_Raw.mk 0 [] []) (-1)).bind fun q2=>(cond (decide ((0:Int) < (p0.length:Int))) (((p0[0]?).bind fun y6=>((Qca y6 (-1)).bind fun q7=>((Qak y6.From 3).bind fun q9=>((Qcb (List.drop 1 p0) 1 [114,101,100] [(Version.mk q9 q7.puts (arr [(q7.ln 0),(q7.ln 1),(q7.ln 2),(q7.ln 3),(q7.ln 4),(q7.ln 5),(q7.ln 6),(q7.ln 7),(q7.ln 8),(q7.ln 9)] (q7.ln 0)))]).bind fun ⟨o1_0_1,o1_0_2⟩=>some (Code.mk o1_0_1 o1_0_2)))))) (((Qcd (List.drop 1 p0) 1 [114,101,100] [(Version.mk 0 q2.puts (arr [(q2.ln 0),(q2.ln 1),(q2.ln 2),(q2.ln 3),(q2.ln 4),(q2.ln 5),(q2.ln 6),(q2.ln 7),(q2.ln 8),(q2.ln 9)] (q2.ln 0)))]).bind fun ⟨o2_0_1,o2_0_2⟩=>some (Code.mk o2_0_1 o2_0_2)))))
set_option maxHeartbeats 1000000 in
theorem F_r04_Code_ok (p0:(List T_Raw)) (v0_0:V) (g:G) (h0_0:RS R_Raw 3 g v0_0 p0) (r:Code) (hF:Qfo p0=some r):Fw Tryz.prog natS (.f 98 [] []) [v0_0] g [] fun g' ml' q=>ml'=[]∧∃ (ds0:List V),q=(.agg ds0)∧CodeR g' ds0 r:=by
 refine Fw.drop ?_
 unfold Qfo at hF
 have lh0_0:=h0_0.1
 refine Fw.enter (N:=60) (al:=[(0,_)]) Tryz.func98 (by kernel_rfl) (by kernel_rfl) rfl rfl rfl rfl ?_
 intro B
 refine .seq<|.region rfl<|.alloc .no rfl z_24 fun b1=>.nil<|sq_n<|.seq<|.region rfl<|.q (.build (qs:=[]) (cs:=[_,_,_]) rfl b_105 rfl) ?_
 obtain ⟨q2,hq2,hF⟩:=bS hF
 refine .call .no rfl rfl rfl (Qde (T_Raw.mk 0 [] []) (-1) _ _ ⟨_,_,rfl,RS.nil,RS.nil⟩ _ hq2) ?_
 rintro g2 ml2 r2 hle2 ⟨rfl,cs2_0,rfl,⟨p2_0,lv2_0,rfl,hp2_0,hl2_0⟩⟩
 replace h0_0:=h0_0.mono R_Raw.mono hle2
 have lh2_0_1:=hp2_0.1
 have lh2_0_2:=(hl2_0 0 (by decide)).1
 have lh2_0_3:=(hl2_0 1 (by decide)).1
 have lh2_0_4:=(hl2_0 2 (by decide)).1
 have lh2_0_5:=(hl2_0 3 (by decide)).1
 have lh2_0_6:=(hl2_0 4 (by decide)).1
 have lh2_0_7:=(hl2_0 5 (by decide)).1
 have lh2_0_8:=(hl2_0 6 (by decide)).1
 have lh2_0_9:=(hl2_0 7 (by decide)).1
 have lh2_0_10:=(hl2_0 8 (by decide)).1
 have lh2_0_11:=(hl2_0 9 (by decide)).1
 refine .bs .no rfl (qs:=[(0,_)]) (c:=[_,_,_,_,_,_,_,_,_,_,_,_]) rfl sl_22 el_97 (by decide) rfl fun b3=>.q (.build (qs:=[(0,_),(1,_)]) (cs:=[_,_]) rfl b_24 rfl)<|.alloc .no rfl z_24 fun b4=>.st (cs':=[_,_]) .no rfl rfl rfl rfl s_24 rfl rfl .hd rfl rfl<|.nil<|sq_n<|.seq<|.region rfl<|.q (.fa rfl Qdl)<|.w (.s rfl .hd a_22 rfl)<|.q (.ixn (j:=0) rfl .sl rfl e_22 (by decide))<|.q (.fa rfl f_97_0)<|.st (cs':=[_,_,_,_,_,_,_,_,_,_,_,_]) .no rfl rfl rfl rfl s_3 rfl rfl (.tl .hd) rfl rfl<|.nil<|sq_n<|.seq<|.seq<|.region rfl<|.m rfl rfl<|.q (.lenR rfl rfl rfl e_72 h0_0)<|.b rfl rfl rfl rfl<|.nil<|sq_n<|.cond rfl (fun h5=>?_) (fun h5=>?_)
 ·have kh5:=dT h5
  have hF:=cT h5 hF
  refine .seq<|.draw (tb:=[r0 0 0,r0 1 0,r0 0 0,r0 4 0,r0 12 0,r0 28 0,r1 63 1,r1 127 1]) rfl (by kernel_rfl) (by kernel_rfl) ?_
  refine .q (.fa rfl Qdl)<|.y rfl rfl rfl (.s rfl .hd a_22 rfl)<|.m rfl rfl ?_
  obtain ⟨y6,hy6,hF⟩:=bS hF
  have hj6:=Qam hy6
  refine .ixk (j:=0) .no rfl rfl h0_0 rfl e_72 hy6 ?_
  rintro b6 o6 _ hq6 ⟨v1_6,v2_6,rfl,h1_6,h2_6⟩
  have lh6_1:=h1_6.1
  have lh6_2:=h2_6.1
  refine .y rfl rfl rfl (.pa 0 (vs:=[_,_,_]) rfl hq6 rfl a_105 s_105 rfl rfl) ?_
  obtain ⟨q7,hq7,hF⟩:=bS hF
  refine .call .no rfl rfl rfl rfl rfl (Qde y6 (-1) _ _ ⟨_,_,rfl,h1_6,h2_6⟩ _ hq7) ?_
  rintro g7 ml7 r7 hle7 ⟨rfl,cs7_0,rfl,⟨p7_0,lv7_0,rfl,hp7_0,hl7_0⟩⟩
  replace h0_0:=h0_0.mono R_Raw.mono hle7
  replace hp2_0:=hp2_0.mono PutR.mono hle7
  replace hl2_0:=fun k hk=>(hl2_0 k hk).mono PieceR.mono hle7
  have lh7_0_1:=hp7_0.1
  have lh7_0_2:=(hl7_0 0 (by decide)).1
  have lh7_0_3:=(hl7_0 1 (by decide)).1
  have lh7_0_4:=(hl7_0 2 (by decide)).1
  have lh7_0_5:=(hl7_0 3 (by decide)).1
  have lh7_0_6:=(hl7_0 4 (by decide)).1
  have lh7_0_7:=(hl7_0 5 (by decide)).1
  have lh7_0_8:=(hl7_0 6 (by decide)).1
  have lh7_0_9:=(hl7_0 7 (by decide)).1
  have lh7_0_10:=(hl7_0 8 (by decide)).1
  have lh7_0_11:=(hl7_0 9 (by decide)).1
  refine .q (.ixn (j:=0) rfl .sl rfl e_22 (by decide))<|.st (cs':=[_,_,_,_,_,_,_,_,_,_,_,_]) .no rfl rfl rfl rfl rfl rfl s_97 rfl rfl (.tl .hd) rfl (Qa rfl (Qa hp7_0.one (Qa (hl7_0 0 (by decide)).one (Qa (hl7_0 1 (by decide)).one (Qa (hl7_0 2 (by decide)).one (Qa (hl7_0 3 (by decide)).one (Qa (hl7_0 4 (by decide)).one (Qa (hl7_0 5 (by decide)).one (Qa (hl7_0 6 (by decide)).one (Qa (hl7_0 7 (by decide)).one (Qa (hl7_0 8 (by decide)).one (Qa (hl7_0 9 (by decide)).one rfl)))))))))))) (.all (Qaa rfl (Qaa rfl rfl)))<|.nil<|sq_n<|.draw (tb:=[r0 0 0,r0 1 0,r0 0 0,r0 4 0,r0 12 0,r0 28 0,r0 60 0,r1 127 1,r1 255 1,r1 511 1]) rfl (by kernel_rfl) (by kernel_rfl) ?_
  refine .q (.fa rfl Qdl)<|.y rfl rfl rfl (.s rfl .hd a_22 rfl)<|.m rfl rfl<|.ixk (j:=0) .no rfl rfl h0_0 rfl e_72 hy6 ?_
  rintro b8 o8 _ hq8 ⟨v1_8,v2_8,rfl,h1_8,h2_8⟩
  have lh8_1:=h1_8.1
  have lh8_2:=h2_8.1
  refine .q (.fa rfl f_105_0)<|.y rfl rfl rfl (.ps 0 rfl hq8 rfl a_3 rfl) ?_
  obtain ⟨q9,hq9,hF⟩:=bS hF
  refine .callV .no rfl rfl rfl rfl rfl (Qai y6.From 3 _ _ hq9)<|.q (.ixn (j:=0) rfl .sl rfl e_22 (by decide))<|.q (.fa rfl f_97_0)<|.st (cs':=[_,_,_,_,_,_,_,_,_,_,_,_]) .no rfl rfl rfl rfl rfl rfl s_3 rfl rfl (.tl .hd) rfl rfl (.all (Qaa rfl (Qaa rfl rfl)))<|.nil<|sq_n<|.seq<|.seq<|.region rfl<|.z rfl rfl<|.nil<|sq_n<|.block ?_
  have ha10:AccR VersionR 12 g7 (.sl b3 0 1 1) [_,_,_,_,_,_,_,_,_,_,_,_] [(Version.mk q9 q7.puts (arr [(q7.ln 0),(q7.ln 1),(q7.ln 2),(q7.ln 3),(q7.ln 4),(q7.ln 5),(q7.ln 6),(q7.ln 7),(q7.ln 8),(q7.ln 9)] (q7.ln 0)))]:=AccR.lit (Ls.cons (c:=[_,_,_,_,_,_,_,_,_,_,_,_]) rfl (VersionR.of hp7_0 (hl7_0 0 (by decide)) (hl7_0 1 (by decide)) (hl7_0 2 (by decide)) (hl7_0 3 (by decide)) (hl7_0 4 (by decide)) (hl7_0 5 (by decide)) (hl7_0 6 (by decide)) (hl7_0 7 (by decide)) (hl7_0 8 (by decide)) (hl7_0 9 (by decide))) .nil) rfl (by decide)
  refine .see0 (seeLit0 (n:=1) (s:=12) (.tl .hd) rfl) ?_
  have lha10:=ha10.le
  obtain ⟨o1,hF,hG1⟩:=bS hF
  refine .loopx (α:=L_r04_Code_1) [(0,_),(2,_),(3,_)] [_] (fun fx x=>(4,.i .i64 (x.k1_1:Int)) :: fx) (fun mx x=>[.acc x.v1_4 12 x.cs1_5 97,.blk b4 (.cells [.s x.s1_2,x.v1_4] 24),rg mx 0]) (fun x g'=>AccR VersionR 12 g' x.v1_4 x.cs1_5 x.d1_3∧x.k1_1≤p0.length+1∧Qcb (p0.drop x.k1_1) x.k1_1 x.s1_2 x.d1_3=some o1) (fun x=>p0.length - x.k1_1) (L_r04_Code_1.mk 1 [114,101,100] _ _ [(Version.mk q9 q7.puts (arr [(q7.ln 0),(q7.ln 1),(q7.ln 2),(q7.ln 3),(q7.ln 4),(q7.ln 5),(q7.ln 6),(q7.ln 7),(q7.ln 8),(q7.ln 9)] (q7.ln 0)))]) ⟨rfl,rfl,rfl,rfl,trivial⟩ (List.Sublist.refl _) ⟨ha10,(by first | omega | (dsimp only;omega)),hF⟩ ?_
  intro x1 gl1 hlo1 hJ1
  obtain ⟨k1_1,s1_2,v1_4,cs1_5,d1_3⟩:=x1
  try dsimp only at hJ1
  obtain ⟨ha1_6,hk1,hF⟩:=hJ1
  refine .al0 [(4,.i .i64 (k1_1:Int)),(0,_),(2,_),(3,_)] ?_
  replace h0_0:=h0_0.mono R_Raw.mono hlo1
  replace hp2_0:=hp2_0.mono PutR.mono hlo1
  replace hl2_0:=fun k hk=>(hl2_0 k hk).mono PieceR.mono hlo1
  have lha1_6:=ha1_6.le
  refine .seq<|.seq<|.region rfl<|.m rfl rfl<|.m rfl rfl<|.q (.lenR rfl rfl rfl e_72 h0_0)<|.b rfl rfl rfl rfl<|.m rfl rfl<|.split (t:=36) rfl (fun h12=>?_) (fun h12=>?_)
  ·have kh12:=dT h12
   obtain ⟨y1,hy1⟩:=getK (l:=p0) (k:=k1_1) kh12
   rw [dc hy1,Qcb] at hF
   refine .py h12 (.move rfl)<|.py h12 (.bin rfl rfl rfl)<|.q (.pickT rfl h12 rfl)<|.nil<|sq_n<|.cond rfl (fun h13=>?_) (fun h13=>?_)
   ·have kh13:=dT h13
    have hF:=cT h13 hF
    refine .skip<|sq_n<|.seq<|.block<|.draw (tb:=[r0 0 0,r0 1 0,r0 0 0,r0 0 0,r0 12 0,r0 28 0,r0 0 0,r0 64 0,r0 0 0,r0 256 0,r0 960 0,r0 1984 0,r0 4032 0,r0 8188 0,r0 16380 1,r1 32767 1,r1 65535 2,r1 131071 2]) rfl (by kernel_rfl) (by kernel_rfl) ?_
    refine .q (.fa rfl Qdl)<|.y rfl rfl rfl (.s rfl (.tl .hd) a_22 rfl)<|.m rfl rfl<|.m rfl rfl<|.ixk (j:=k1_1) .no rfl rfl h0_0 rfl e_72 hy1 ?_
    rintro b14 o14 _ hq14 ⟨v1_14,v2_14,rfl,h1_14,h2_14⟩
    have lh14_1:=h1_14.1
    have lh14_2:=h2_14.1
    refine .y rfl rfl rfl (.pa 0 (vs:=[_,_,_]) rfl hq14 rfl a_105 s_105 rfl rfl)<|.q (.fa rfl Qdl)<|.y rfl rfl rfl (.s rfl (.tl .hd) a_22 rfl)<|.m rfl rfl<|.q (.sub rfl rfl (by omega)) ?_
    obtain ⟨y15,hy15,hF⟩:=bS hF
    have hj15:=atI_lt hy15
    have hy15:=atI_get hy15
    refine .ixA .no rfl rfl ha1_6 rfl e_22 (by decide) hj15.1 hy15 ?_
    intro b15 n15 cs15 hv15 hc15 hd15 hr15
    obtain ⟨p15,lv15,rfl,hp15,hl15⟩:=hr15
    have lh15_1:=hp15.1
    have lh15_2:=(hl15 0 (by decide)).1
    have lh15_3:=(hl15 1 (by decide)).1
    have lh15_4:=(hl15 2 (by decide)).1
    have lh15_5:=(hl15 3 (by decide)).1
    have lh15_6:=(hl15 4 (by decide)).1
    have lh15_7:=(hl15 5 (by decide)).1
    have lh15_8:=(hl15 6 (by decide)).1
    have lh15_9:=(hl15 7 (by decide)).1
    have lh15_10:=(hl15 8 (by decide)).1
    have lh15_11:=(hl15 9 (by decide)).1
    refine .q (.fa rfl f_97_0)<|.y rfl rfl rfl (.as 0 rfl (.acc hv15 rfl) rfl hd15 hc15 a_3 rfl) ?_
    obtain ⟨q16,hq16,hF⟩:=bS hF
    refine .call .no rfl rfl rfl rfl rfl (Qde y1 y15.fr _ _ ⟨_,_,rfl,h1_14,h2_14⟩ _ hq16) ?_
    rintro g16 ml16 r16 hle16 ⟨rfl,cs16_0,rfl,⟨p16_0,lv16_0,rfl,hp16_0,hl16_0⟩⟩
    replace h0_0:=h0_0.mono R_Raw.mono hle16
    replace hp2_0:=hp2_0.mono PutR.mono hle16
    replace hl2_0:=fun k hk=>(hl2_0 k hk).mono PieceR.mono hle16
    replace ha1_6:=ha1_6.mono VersionR.mono hle16
    have lh16_0_1:=hp16_0.1
    have lh16_0_2:=(hl16_0 0 (by decide)).1
    have lh16_0_3:=(hl16_0 1 (by decide)).1
    have lh16_0_4:=(hl16_0 2 (by decide)).1
    have lh16_0_5:=(hl16_0 3 (by decide)).1
    have lh16_0_6:=(hl16_0 4 (by decide)).1
    have lh16_0_7:=(hl16_0 5 (by decide)).1
    have lh16_0_8:=(hl16_0 6 (by decide)).1
    have lh16_0_9:=(hl16_0 7 (by decide)).1
    have lh16_0_10:=(hl16_0 8 (by decide)).1
    have lh16_0_11:=(hl16_0 9 (by decide)).1
    refine .f .no rfl (.bs (qs:=[(0,_)]) (c:=[_,_,_,_,_,_,_,_,_,_,_,_]) rfl sl_22 el_97 (by decide) rfl) fun b17=>?_
    obtain ⟨hl18,hF⟩:=ckS hF
    have hl18:=of_decide_eq_true hl18
    refine .ne .hd .hd fun hn18_b4=>.x .no rfl rfl (Qch rfl Qci) (Qbp rfl Qbo) (Qcq rfl) (fun _ _=>.all (Qaa rfl (Qaa rfl (Qaa rfl (Qaa rfl rfl))))) (.appA (m:=1) (new:=[_,_,_,_,_,_,_,_,_,_,_,_]) rfl rfl rfl (.tl .hd) sl_22 el_97 (.of rfl .sl sl_22 .hd (Nat.le_of_ble_eq_true rfl) rfl) (by decide) rfl (AccR.room (R:=VersionR) (ys:=[q16]) ha1_6 (Ls.cons (c:=[_,_,_,_,_,_,_,_,_,_,_,_]) rfl (VersionR.of hp16_0 (hl16_0 0 (by decide)) (hl16_0 1 (by decide)) (hl16_0 2 (by decide)) (hl16_0 3 (by decide)) (hl16_0 4 (by decide)) (hl16_0 5 (by decide)) (hl16_0 6 (by decide)) (hl16_0 7 (by decide)) (hl16_0 8 (by decide)) (hl16_0 9 (by decide))) .nil) hl18) (Qa rfl (Qa hp16_0.one (Qa (hl16_0 0 (by decide)).one (Qa (hl16_0 1 (by decide)).one (Qa (hl16_0 2 (by decide)).one (Qa (hl16_0 3 (by decide)).one (Qa (hl16_0 4 (by decide)).one (Qa (hl16_0 5 (by decide)).one (Qa (hl16_0 6 (by decide)).one (Qa (hl16_0 7 (by decide)).one (Qa (hl16_0 8 (by decide)).one (Qa (hl16_0 9 (by decide)).one rfl))))))))))))) fun v18=>.as (.tl .hd) fun av18=>?_
    have ha18:=AccR.app (R:=VersionR) (g:=g16) (ys:=[q16]) ha1_6 (Ls.cons (c:=[_,_,_,_,_,_,_,_,_,_,_,_]) rfl (VersionR.of hp16_0 (hl16_0 0 (by decide)) (hl16_0 1 (by decide)) (hl16_0 2 (by decide)) (hl16_0 3 (by decide)) (hl16_0 4 (by decide)) (hl16_0 5 (by decide)) (hl16_0 6 (by decide)) (hl16_0 7 (by decide)) (hl16_0 8 (by decide)) (hl16_0 9 (by decide))) .nil) hl18 av18
    have lha18:=ha18.le
    refine .q (.fa rfl Qdl)<|.st (cs':=[_,_]) .no rfl rfl rfl rfl ha18.any ha18.cells s_22 rfl rfl (.tl (.tl .hd)) rfl (Qa ha18.one rfl) (.all (Qaa rfl (Qaa rfl (Qaa rfl (Qaa rfl rfl)))))<|.nil<|bq_n<|sq_n<|.region rfl<|.m rfl rfl<|.q (.inc1 rfl rfl (by omega))<|.z rfl rfl<|.nil<|Qac (L_r04_Code_1.mk (k1_1+1) s1_2 _ _ (d1_3 ++ [q16])) ⟨rfl,rfl,rfl,rfl,trivial⟩ (.cons _ (List.Sublist.refl _)) hle16 ?_ ?_
    ·exact ⟨ha18,(Nat.le_add_right_of_le (Qam hy1)),hF⟩
    ·simp only;omega
   have hF:=cF h13 hF
   obtain rfl:=sI hF
   have hF:=hG1
   refine .exit<|sq_e<|lq_e<|bq_x rfl<|sq_n<|.seq<|.region rfl<|.w (.a (vs:=[_,_]) rfl (.tl .hd) a_24 s_24 rfl rfl)<|.st (cs':=[_,_]) .no rfl rfl rfl rfl s_24 rfl rfl (.tl (.tl .hd)) rfl (Qa rfl (Qa ha1_6.one rfl))<|.nil<|sq_n<|.see (Qbe VersionR.mono .hd (by decide) ha1_6) ?_
   rintro gz19 ⟨hle19,hz19⟩
   replace h0_0:=h0_0.mono R_Raw.mono hle19
   replace hp2_0:=hp2_0.mono PutR.mono hle19
   replace hl2_0:=fun k hk=>(hl2_0 k hk).mono PieceR.mono hle19
   replace ha1_6:=ha1_6.mono VersionR.mono hle19
   refine .ret ?_
   obtain rfl:=sI hF
   refine Qab (((hle2.trans hle7).trans hlo1).trans hle19) (.cell (.a (vs:=[_,_]) rfl (.tl .hd) a_24 s_24 rfl rfl) .nil) rfl ?_
   exact ⟨_,rfl,⟨_,rfl,hz19⟩⟩
  have kh12:=dF h12
  rw [dn (by omega),Qcb] at hF
  refine .k h12<|.k h12<|.q (.pickF rfl h12 rfl)<|.nil<|sq_n<|.condF rfl rfl ?_
  obtain rfl:=sI hF
  have hF:=hG1
  refine .exit<|sq_e<|lq_e<|bq_x rfl<|sq_n<|.seq<|.region rfl<|.w (.a (vs:=[_,_]) rfl (.tl .hd) a_24 s_24 rfl rfl)<|.st (cs':=[_,_]) .no rfl rfl rfl rfl s_24 rfl rfl (.tl (.tl .hd)) rfl (Qa rfl (Qa ha1_6.one rfl))<|.nil<|sq_n<|.see (Qbe VersionR.mono .hd (by decide) ha1_6) ?_
  rintro gz20 ⟨hle20,hz20⟩
  replace h0_0:=h0_0.mono R_Raw.mono hle20
  replace hp2_0:=hp2_0.mono PutR.mono hle20
  replace hl2_0:=fun k hk=>(hl2_0 k hk).mono PieceR.mono hle20
  refine .ret ?_
  obtain rfl:=sI hF
  refine Qab (((hle2.trans hle7).trans hlo1).trans hle20) (.cell (.a (vs:=[_,_]) rfl (.tl .hd) a_24 s_24 rfl rfl) .nil) rfl ?_
  exact ⟨_,rfl,⟨_,rfl,hz20⟩⟩
 have kh5:=dF h5
 have hF:=cF h5 hF
 refine .skip<|sq_n<|.seq<|.seq<|.region rfl<|.z rfl rfl<|.nil<|sq_n<|.block ?_
 have ha21:AccR VersionR 12 g2 (.sl b3 0 1 1) [_,_,_,_,_,_,_,_,_,_,_,_] [(Version.mk 0 q2.puts (arr [(q2.ln 0),(q2.ln 1),(q2.ln 2),(q2.ln 3),(q2.ln 4),(q2.ln 5),(q2.ln 6),(q2.ln 7),(q2.ln 8),(q2.ln 9)] (q2.ln 0)))]:=AccR.lit (Ls.cons (c:=[_,_,_,_,_,_,_,_,_,_,_,_]) rfl (VersionR.of hp2_0 (hl2_0 0 (by decide)) (hl2_0 1 (by decide)) (hl2_0 2 (by decide)) (hl2_0 3 (by decide)) (hl2_0 4 (by decide)) (hl2_0 5 (by decide)) (hl2_0 6 (by decide)) (hl2_0 7 (by decide)) (hl2_0 8 (by decide)) (hl2_0 9 (by decide))) .nil) rfl (by decide)
 refine .see0 (seeLit0 (n:=1) (s:=12) (.tl .hd) rfl) ?_
 have lha21:=ha21.le
 obtain ⟨o2,hF,hG2⟩:=bS hF
 refine .loopx (α:=L_r04_Code_2) [(0,_),(2,_),(3,_)] [_] (fun fx x=>(4,.i .i64 (x.k2_1:Int)) :: fx) (fun mx x=>[.acc x.v2_4 12 x.cs2_5 97,.blk b4 (.cells [.s x.s2_2,x.v2_4] 24),rg mx 0]) (fun x g'=>AccR VersionR 12 g' x.v2_4 x.cs2_5 x.d2_3∧x.k2_1≤p0.length+1∧Qcd (p0.drop x.k2_1) x.k2_1 x.s2_2 x.d2_3=some o2) (fun x=>p0.length - x.k2_1) (L_r04_Code_2.mk 1 [114,101,100] _ _ [(Version.mk 0 q2.puts (arr [(q2.ln 0),(q2.ln 1),(q2.ln 2),(q2.ln 3),(q2.ln 4),(q2.ln 5),(q2.ln 6),(q2.ln 7),(q2.ln 8),(q2.ln 9)] (q2.ln 0)))]) ⟨rfl,rfl,rfl,rfl,trivial⟩ (List.Sublist.refl _) ⟨ha21,(by first | omega | (dsimp only;omega)),hF⟩ ?_
 intro x2 gl2 hlo2 hJ2
 obtain ⟨k2_1,s2_2,v2_4,cs2_5,d2_3⟩:=x2
 try dsimp only at hJ2
 obtain ⟨ha2_6,hk2,hF⟩:=hJ2
 refine .al0 [(4,.i .i64 (k2_1:Int)),(0,_),(2,_),(3,_)] ?_
 replace h0_0:=h0_0.mono R_Raw.mono hlo2
 have lha2_6:=ha2_6.le
 refine .seq<|.seq<|.region rfl<|.m rfl rfl<|.m rfl rfl<|.q (.lenR rfl rfl rfl e_72 h0_0)<|.b rfl rfl rfl rfl<|.m rfl rfl<|.split (t:=36) rfl (fun h23=>?_) (fun h23=>?_)
 ·have kh23:=dT h23
  obtain ⟨y2,hy2⟩:=getK (l:=p0) (k:=k2_1) kh23
  rw [dc hy2,Qcd] at hF
  refine .py h23 (.move rfl)<|.py h23 (.bin rfl rfl rfl)<|.q (.pickT rfl h23 rfl)<|.nil<|sq_n<|.cond rfl (fun h24=>?_) (fun h24=>?_)
  ·have kh24:=dT h24
   have hF:=cT h24 hF
   refine .skip<|sq_n<|.seq<|.block<|.draw (tb:=[r0 0 0,r0 1 0,r0 0 0,r0 0 0,r0 12 0,r0 28 0,r0 0 0,r0 64 0,r0 0 0,r0 256 0,r0 960 0,r0 1984 0,r0 4032 0,r0 8188 0,r0 16380 1,r1 32767 1,r1 65535 2,r1 131071 2]) rfl (by kernel_rfl) (by kernel_rfl) ?_
   refine .q (.fa rfl Qdl)<|.y rfl rfl rfl (.s rfl (.tl .hd) a_22 rfl)<|.m rfl rfl<|.m rfl rfl<|.ixk (j:=k2_1) .no rfl rfl h0_0 rfl e_72 hy2 ?_
   rintro b25 o25 _ hq25 ⟨v1_25,v2_25,rfl,h1_25,h2_25⟩
   have lh25_1:=h1_25.1
   have lh25_2:=h2_25.1
   refine .y rfl rfl rfl (.pa 0 (vs:=[_,_,_]) rfl hq25 rfl a_105 s_105 rfl rfl)<|.q (.fa rfl Qdl)<|.y rfl rfl rfl (.s rfl (.tl .hd) a_22 rfl)<|.m rfl rfl<|.q (.sub rfl rfl (by omega)) ?_
   obtain ⟨y26,hy26,hF⟩:=bS hF
   have hj26:=atI_lt hy26
   have hy26:=atI_get hy26
   refine .ixA .no rfl rfl ha2_6 rfl e_22 (by decide) hj26.1 hy26 ?_
   intro b26 n26 cs26 hv26 hc26 hd26 hr26
   obtain ⟨p26,lv26,rfl,hp26,hl26⟩:=hr26
   have lh26_1:=hp26.1
   have lh26_2:=(hl26 0 (by decide)).1
   have lh26_3:=(hl26 1 (by decide)).1
   have lh26_4:=(hl26 2 (by decide)).1
   have lh26_5:=(hl26 3 (by decide)).1
   have lh26_6:=(hl26 4 (by decide)).1
   have lh26_7:=(hl26 5 (by decide)).1
   have lh26_8:=(hl26 6 (by decide)).1
   have lh26_9:=(hl26 7 (by decide)).1
   have lh26_10:=(hl26 8 (by decide)).1
   have lh26_11:=(hl26 9 (by decide)).1
   refine .q (.fa rfl f_97_0)<|.y rfl rfl rfl (.as 0 rfl (.acc hv26 rfl) rfl hd26 hc26 a_3 rfl) ?_
   obtain ⟨q27,hq27,hF⟩:=bS hF
   refine .call .no rfl rfl rfl rfl rfl (Qde y2 y26.fr _ _ ⟨_,_,rfl,h1_25,h2_25⟩ _ hq27) ?_
   rintro g27 ml27 r27 hle27 ⟨rfl,cs27_0,rfl,⟨p27_0,lv27_0,rfl,hp27_0,hl27_0⟩⟩
   replace ha2_6:=ha2_6.mono VersionR.mono hle27
   have lh27_0_1:=hp27_0.1
   have lh27_0_2:=(hl27_0 0 (by decide)).1
   have lh27_0_3:=(hl27_0 1 (by decide)).1
   have lh27_0_4:=(hl27_0 2 (by decide)).1
   have lh27_0_5:=(hl27_0 3 (by decide)).1
   have lh27_0_6:=(hl27_0 4 (by decide)).1
   have lh27_0_7:=(hl27_0 5 (by decide)).1
   have lh27_0_8:=(hl27_0 6 (by decide)).1
   have lh27_0_9:=(hl27_0 7 (by decide)).1
   have lh27_0_10:=(hl27_0 8 (by decide)).1
   have lh27_0_11:=(hl27_0 9 (by decide)).1
   refine .f .no rfl (.bs (qs:=[(0,_)]) (c:=[_,_,_,_,_,_,_,_,_,_,_,_]) rfl sl_22 el_97 (by decide) rfl) fun b28=>?_
   obtain ⟨hl29,hF⟩:=ckS hF
   have hl29:=of_decide_eq_true hl29
   refine .ne .hd .hd fun hn29_b4=>.x .no rfl rfl (Qch rfl Qci) (Qbp rfl Qbo) (Qcq rfl) (fun _ _=>.all (Qaa rfl (Qaa rfl (Qaa rfl (Qaa rfl rfl))))) (.appA (m:=1) (new:=[_,_,_,_,_,_,_,_,_,_,_,_]) rfl rfl rfl (.tl .hd) sl_22 el_97 (.of rfl .sl sl_22 .hd (Nat.le_of_ble_eq_true rfl) rfl) (by decide) rfl (AccR.room (R:=VersionR) (ys:=[q27]) ha2_6 (Ls.cons (c:=[_,_,_,_,_,_,_,_,_,_,_,_]) rfl (VersionR.of hp27_0 (hl27_0 0 (by decide)) (hl27_0 1 (by decide)) (hl27_0 2 (by decide)) (hl27_0 3 (by decide)) (hl27_0 4 (by decide)) (hl27_0 5 (by decide)) (hl27_0 6 (by decide)) (hl27_0 7 (by decide)) (hl27_0 8 (by decide)) (hl27_0 9 (by decide))) .nil) hl29) (Qa rfl (Qa hp27_0.one (Qa (hl27_0 0 (by decide)).one (Qa (hl27_0 1 (by decide)).one (Qa (hl27_0 2 (by decide)).one (Qa (hl27_0 3 (by decide)).one (Qa (hl27_0 4 (by decide)).one (Qa (hl27_0 5 (by decide)).one (Qa (hl27_0 6 (by decide)).one (Qa (hl27_0 7 (by decide)).one (Qa (hl27_0 8 (by decide)).one (Qa (hl27_0 9 (by decide)).one rfl))))))))))))) fun v29=>.as (.tl .hd) fun av29=>?_
   have ha29:=AccR.app (R:=VersionR) (g:=g27) (ys:=[q27]) ha2_6 (Ls.cons (c:=[_,_,_,_,_,_,_,_,_,_,_,_]) rfl (VersionR.of hp27_0 (hl27_0 0 (by decide)) (hl27_0 1 (by decide)) (hl27_0 2 (by decide)) (hl27_0 3 (by decide)) (hl27_0 4 (by decide)) (hl27_0 5 (by decide)) (hl27_0 6 (by decide)) (hl27_0 7 (by decide)) (hl27_0 8 (by decide)) (hl27_0 9 (by decide))) .nil) hl29 av29
   have lha29:=ha29.le
   refine .q (.fa rfl Qdl)<|.st (cs':=[_,_]) .no rfl rfl rfl rfl ha29.any ha29.cells s_22 rfl rfl (.tl (.tl .hd)) rfl (Qa ha29.one rfl) (.all (Qaa rfl (Qaa rfl (Qaa rfl (Qaa rfl rfl)))))<|.nil<|bq_n<|sq_n<|.region rfl<|.m rfl rfl<|.q (.inc1 rfl rfl (by omega))<|.z rfl rfl<|.nil<|Qac (L_r04_Code_2.mk (k2_1+1) s2_2 _ _ (d2_3 ++ [q27])) ⟨rfl,rfl,rfl,rfl,trivial⟩ (.cons _ (List.Sublist.refl _)) hle27 ?_ ?_
   ·exact ⟨ha29,(Nat.le_add_right_of_le (Qam hy2)),hF⟩
   ·simp only;omega
  have hF:=cF h24 hF
  obtain rfl:=sI hF
  have hF:=hG2
  refine .exit<|sq_e<|lq_e<|bq_x rfl<|sq_n<|.seq<|.region rfl<|.w (.a (vs:=[_,_]) rfl (.tl .hd) a_24 s_24 rfl rfl)<|.st (cs':=[_,_]) .no rfl rfl rfl rfl s_24 rfl rfl (.tl (.tl .hd)) rfl (Qa rfl (Qa ha2_6.one rfl))<|.nil<|sq_n<|.see (Qbe VersionR.mono .hd (by decide) ha2_6) ?_
  rintro gz30 ⟨hle30,hz30⟩
  replace ha2_6:=ha2_6.mono VersionR.mono hle30
  refine .ret ?_
  obtain rfl:=sI hF
  refine Qab ((hle2.trans hlo2).trans hle30) (.cell (.a (vs:=[_,_]) rfl (.tl .hd) a_24 s_24 rfl rfl) .nil) rfl ?_
  exact ⟨_,rfl,⟨_,rfl,hz30⟩⟩
 have kh23:=dF h23
 rw [dn (by omega),Qcd] at hF
 refine .k h23<|.k h23<|.q (.pickF rfl h23 rfl)<|.nil<|sq_n<|.condF rfl rfl ?_
 obtain rfl:=sI hF
 have hF:=hG2
 refine .exit<|sq_e<|lq_e<|bq_x rfl<|sq_n<|.seq<|.region rfl<|.w (.a (vs:=[_,_]) rfl (.tl .hd) a_24 s_24 rfl rfl)<|.st (cs':=[_,_]) .no rfl rfl rfl rfl s_24 rfl rfl (.tl (.tl .hd)) rfl (Qa rfl (Qa ha2_6.one rfl))<|.nil<|sq_n<|.see (Qbe VersionR.mono .hd (by decide) ha2_6) ?_
 rintro gz31 ⟨hle31,hz31⟩
 refine .ret ?_
 obtain rfl:=sI hF
 refine Qab ((hle2.trans hlo2).trans hle31) (.cell (.a (vs:=[_,_]) rfl (.tl .hd) a_24 s_24 rfl rfl) .nil) rfl ?_
 exact ⟨_,rfl,⟨_,rfl,hz31⟩⟩
def Qer (p0:(List T_Raw)) (p1:T_Some):Option (Code × T_Ask):=((Qfo p0).bind fun q4=>((q4.vs[0]?).bind fun y6=>((Qak p1.Day 900).bind fun q7=>((Qak p1.Formula 2).bind fun q8=>((Qen p1.Rooms).bind fun q9=>some (q4,(T_Ask.mk (wr (y6.fr+q7)) q8 q9)))))))
set_option maxHeartbeats 1000000 in
theorem F_l04_world_ok (p0:(List T_Raw)) (p1:T_Some) (v0_0:V) (cs1:List V) (g:G) (h0_0:RS R_Raw 3 g v0_0 p0) (h1:R_Some g cs1 p1) (r:Code × T_Ask) (hF:Qer p0 p1=some r):Fw Tryz.prog natS (.f 45 [] []) [v0_0,.agg cs1] g [] fun g' ml' q=>ml'=[]∧∃ (ds0 ds1:List V),q=(.tup [.agg ds0,.agg ds1])∧CodeR g' ds0 r.1∧R_Ask g' ds1 r.2:=by
 refine Fw.drop ?_
 unfold Qer at hF
 obtain ⟨v2_q1,rfl,h2_q1⟩:=h1
 refine Fw.enter (N:=28) (al:=[(1,_),(0,_)]) Tryz.func45 (by kernel_rfl) (by kernel_rfl) rfl rfl rfl rfl ?_
 intro B
 refine .seq<|.region rfl<|.box .no rfl rfl rfl rfl fun b1=>.alloc .no rfl z_24 fun b2=>.alloc .no rfl z_37 fun b3=>.nil<|sq_n<|.seq<|.region rfl<|.m rfl rfl ?_
 obtain ⟨q4,hq4,hF⟩:=bS hF
 refine .call .no rfl rfl rfl (F_r04_Code_ok p0 _ _ h0_0 _ hq4) ?_
 rintro g4 ml4 r4 hle4 ⟨rfl,cs4_0,rfl,⟨v4_0,rfl,hc4_0⟩⟩
 replace h2_q1:=h2_q1.mono Arr5R.mono hle4
 refine .alloc .no rfl z_24 fun b5=>.st (cs':=[_,_]) .no rfl rfl rfl rfl s_24 rfl rfl .hd rfl (Qa rfl (Qa hc4_0.one rfl))<|.nil<|sq_n<|.seq<|.draw (tb:=[r0 0 0,r0 1 0,r0 3 0,r0 7 0,r0 15 0,r0 0 0,r0 32 0,r0 96 0,r0 255 1,r0 0 0,r0 512 0,r0 1760 1,r0 0 0,r0 4096 0,r0 16096 2,r1 32767 3,r0 0 0,r1 131071 3]) rfl (by kernel_rfl) (by kernel_rfl) ?_
 refine .q (.fa rfl Qdl)<|.y rfl rfl rfl (.s rfl .hd a_22 rfl) ?_
 obtain ⟨y6,hy6,hF⟩:=bS hF
 have hj6:=Qam hy6
 refine .ixk (j:=0) .no rfl rfl hc4_0 rfl e_22 hy6 ?_
 rintro b6 o6 _ hq6 ⟨p6,lv6,rfl,hp6,hl6⟩
 refine .q (.fa rfl f_97_0)<|.y rfl rfl rfl (.ps 0 rfl hq6 rfl a_3 rfl)<|.q (.fa rfl f_75_0)<|.y rfl rfl rfl (.s rfl (.tl (.tl (.tl .hd))) a_3 rfl) ?_
 obtain ⟨q7,hq7,hF⟩:=bS hF
 refine .callV .no rfl rfl rfl rfl rfl (Qai p1.Day 900 _ _ hq7)<|.b rfl rfl rfl rfl<|.q (.fa rfl f_75_1)<|.ld (k:=1) .no rfl rfl rfl trivial (.s rfl (.tl (.tl (.tl .hd))) a_3 rfl) ?_
 obtain ⟨q8,hq8,hF⟩:=bS hF
 refine .callV .no rfl rfl rfl rfl rfl (Qai p1.Formula 2 _ _ hq8)<|.q (.fa rfl f_75_2)<|.ld (k:=2) .no rfl rfl rfl trivial (.s rfl (.tl (.tl (.tl .hd))) a_73 rfl) ?_
 obtain ⟨q9,hq9,hF⟩:=bS hF
 refine .call .no rfl rfl rfl rfl rfl (F_r04_Rooms_ok p1.Rooms _ _ h2_q1 _ hq9) ?_
 rintro g9 ml9 r9 hle9 ⟨rfl,w9_0_0,rfl,hw9_0_0⟩
 replace hc4_0:=hc4_0.mono VersionR.mono hle9
 refine .p .no rfl (.build (qs:=[(0,_),(1,_),(2,_)]) (cs:=[_,_,_]) rfl b_37 (fillP_c rfl rfl rfl (Nat.le_of_ble_eq_true rfl) (fillP_c rfl rfl rfl (Nat.le_of_ble_eq_true rfl) (fillP_s rfl hw9_0_0.any hw9_0_0.cells (Nat.le_of_ble_eq_true rfl) rfl)))) rfl rfl rfl<|.f .no rfl (.alloc z_37) fun b10=>.st (cs':=[_,_,_]) .no (Qch rfl Qci) (Qbp rfl Qbo) rfl rfl rfl rfl s_37 rfl rfl .hd rfl (Qa rfl (Qa rfl (Qa hw9_0_0.one rfl))) (.all (Qaa rfl (Qaa rfl (Qaa rfl (Qaa rfl (Qaa rfl rfl))))))<|.nil<|sq_n<|.seq<|.draw (tb:=[r0 0 0,r0 0 0,r0 1 0,r1 7 1]) rfl (by kernel_rfl) (by kernel_rfl) ?_
 refine .y rfl rfl rfl (.a (vs:=[_,_]) rfl (.tl .hd) a_24 s_24 rfl rfl)<|.y rfl rfl rfl (.a (vs:=[_,_,_]) rfl .hd a_37 s_37 rfl rfl)<|.st (cs':=[_,_]) .no rfl rfl rfl rfl rfl rfl s_24 rfl rfl (.tl (.tl (.tl .hd))) rfl (Qa rfl (Qa hc4_0.one rfl)) (FrL.cN (fun _ s=>s.neb (.tl (.tl (.tl .hd))) .hd) (FrL.cI rfl FrL.n))<|.st (cs':=[_,_,_]) .no rfl rfl rfl rfl rfl rfl s_37 rfl rfl (.tl (.tl .hd)) rfl (Qa rfl (Qa rfl (Qa hw9_0_0.one rfl))) (.all (Qaa rfl (Qaa rfl rfl)))<|.nil<|sq_n<|.ret ?_
 obtain rfl:=sI hF
 refine Qab (hle4.trans hle9) (.cell (.a (vs:=[_,_]) rfl (.tl (.tl (.tl .hd))) a_24 s_24 rfl rfl) (.cell (.a (vs:=[_,_,_]) rfl (.tl (.tl .hd)) a_37 s_37 rfl rfl) .nil)) rfl ?_
 exact ⟨_,_,rfl,⟨_,rfl,hc4_0⟩,⟨_,rfl,hw9_0_0⟩⟩
end Go.Proofs.YtjflgemfeofciaaGreatDoor
