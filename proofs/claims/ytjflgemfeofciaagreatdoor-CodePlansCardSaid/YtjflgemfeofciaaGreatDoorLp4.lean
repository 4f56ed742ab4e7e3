import Derived.Test.YtjflgemfeofciaaGreatDoorMY9
import Derived.Test.YtjflgemfeofciaaGreatDoorMU3
namespace Go.Proofs.YtjflgemfeofciaaGreatDoor
open Go Go.Ev
set_option linter.unusedVariables false
set_option linter.unusedSimpArgs false
set_option maxRecDepth 10000
def Qcy (p0:Code) (p1:Int) (p2:Room):Option (Int × Int × Int):=((Qcc p0).bind fun q3=>((Qah q3 p1).bind fun q4=>((Qad q4 (!(decide ((roomE p2)=0))) 40).bind fun q6=>(cond (!(decide (q6.e_=0))) (some (0,0,q6.e_)) (((Qbf q6.version_ p2).bind fun q8=>some (q8.1,q8.2,0)))))))
set_option maxHeartbeats 1000000 in
theorem F_code_Group_ok (p0:Code) (p1:Int) (p2:Room) (cs0:List V) (g:G) (h0:CodeR g cs0 p0) (r:Int × Int × Int) (hF:Qcy p0 p1 p2=some r):Fv Tryz.prog natS (.f 53 [] []) [.agg cs0,.i .i64 p1,.agg [.i .i64 p2.id,.i .i64 p2.kind,.i .i64 p2.op,.i .i64 p2.cr,.i .i64 p2.lo,.i .i64 p2.hi]] g (.tup [.i .i64 r.1,.i .i64 r.2.1,.i .i64 r.2.2]):=by
 refine Fw.fv ?_
 unfold Qcy at hF
 obtain ⟨vq0,rfl,hcq0⟩:=h0
 refine Fw.enter (N:=40) (al:=[(2,_),(1,_),(0,_)]) Tryz.func53 (by kernel_rfl) (by kernel_rfl) rfl rfl rfl rfl ?_
 intro B
 refine .seq<|.region rfl<|.box .no rfl rfl rfl rfl fun b1=>.box .no rfl rfl rfl rfl fun b2=>.z rfl rfl<|.z rfl rfl<|.z rfl rfl<|.nil<|sq_n<|.seq<|.draw (tb:=[r0 0 0,r2 1 0,r0 0 0,r2 7 1,r0 0 0,r1 31 2,r1 63 3,r1 127 3,r1 255 4]) rfl (by kernel_rfl) (by kernel_rfl) fun k0=>?_
 refine .y rfl rfl rfl (.a (vs:=[_,_]) rfl (.tl .hd) a_24 s_24 rfl rfl) ?_
 obtain ⟨q3,hq3,hF⟩:=bS hF
 refine .callK .no rfl rfl rfl rfl rfl (Qdh p0 _ _ ⟨_,rfl,hcq0⟩ _ hq3) ?_
 rintro g3 ml3 r3 hle3 ⟨b3_0,cs3_0,rfl,rfl,⟨v1_3_0,v3_3_0,v4_3_0,v5_3_0,v6_3_0,v7_3_0,v8_3_0,v9_3_0,v10_3_0,v11_3_0,v12_3_0,v13_3_0,rfl,h1_3_0,h3_3_0,h4_3_0,h5_3_0,h6_3_0,h7_3_0,h8_3_0,h9_3_0,h10_3_0,h11_3_0,h12_3_0,h13_3_0⟩⟩ hK3
 have hK3_0:=hK3 b3_0 (by simp [fps,Res.fp])
 refine .m rfl rfl ?_
 obtain ⟨q4,hq4,hF⟩:=bS hF
 refine .callH .no rfl rfl rfl rfl rfl rfl rfl .hd (hK1 hK3_0) (Qbl q3 p1 _ _ _ ⟨_,_,_,_,_,_,_,_,_,_,_,_,rfl,h1_3_0,h3_3_0,h4_3_0,h5_3_0,h6_3_0,h7_3_0,h8_3_0,h9_3_0,h10_3_0,h11_3_0,h12_3_0,h13_3_0⟩ _ hq4) ?_
 rintro g4 ml4 r4 hle4 ⟨cs4_0,rfl,rfl,⟨v1_4_0,v3_4_0,v4_4_0,v5_4_0,v6_4_0,v7_4_0,v8_4_0,v9_4_0,v10_4_0,v11_4_0,v12_4_0,v13_4_0,rfl,h1_4_0,h3_4_0,h4_4_0,h5_4_0,h6_4_0,h7_4_0,h8_4_0,h9_4_0,h10_4_0,h11_4_0,h12_4_0,h13_4_0⟩⟩
 refine .ld (k:=2) .no rfl rfl rfl trivial (.a (vs:=[_,_,_,_,_,_]) rfl .hd a_29 s_29 rfl rfl)<|.callV .no rfl rfl rfl rfl rfl (CheckRoom_ok p2 _)<|.b rfl rfl rfl rfl ?_
 obtain ⟨q6,hq6,hF⟩:=bS hF
 refine .callT .no rfl rfl rfl rfl rfl rfl .hd (Qaf q4 (!(decide ((roomE p2)=0))) 40 _ _ _ ⟨_,_,_,_,_,_,_,_,_,_,_,_,rfl,h1_4_0,h3_4_0,h4_4_0,h5_4_0,h6_4_0,h7_4_0,h8_4_0,h9_4_0,h10_4_0,h11_4_0,h12_4_0,h13_4_0⟩ _ hq6) ?_
 rintro g6 ml6 r6 hle6 ⟨cs6_0,rfl,rfl,⟨v1_6_0,v3_6_0,v4_6_0,v5_6_0,v6_6_0,v7_6_0,v8_6_0,v9_6_0,v10_6_0,v11_6_0,v12_6_0,v13_6_0,rfl,h1_6_0,h3_6_0,h4_6_0,h5_6_0,h6_6_0,h7_6_0,h8_6_0,h9_6_0,h10_6_0,h11_6_0,h12_6_0,h13_6_0⟩⟩
 refine .z rfl rfl<|.nil<|sq_n<|.seq<|.seq<|.region rfl<|.m rfl rfl<|.q (.nil rfl)<|.q (.fa rfl Qcz)<|.w (.s rfl .hd a_30 rfl)<|.b rfl rfl rfl rfl<|.nil<|sq_n<|.cond rfl (fun h7=>?_) (fun h7=>?_)
 ·have hF:=cT h7 hF
  refine .seq<|.draw (tb:=[r1 0 0,r1 1 0,r1 3 0,r1 7 0,r0 0 0,r0 16 0,r1 63 0]) rfl (by kernel_rfl) (by kernel_rfl) fun k0=>?_
  refine .m rfl rfl<|.q (.nil rfl)<|.q (.fa rfl Qcz)<|.y rfl rfl rfl (.s rfl .hd a_30 rfl)<|.z rfl rfl<|.z rfl rfl<|.z rfl rfl<|.nil<|sq_n<|.ret<|sq_r ?_
  obtain rfl:=sI hF
  refine Qaa ((hle3.trans hle4).trans hle6) (.tmp rfl (.tmp rfl (.tmp rfl .nil))) rfl ?_
  rfl
 have hF:=cF h7 hF
 refine .skip<|sq_n<|.seq<|.draw (tb:=[r0 0 0,r0 1 0,r0 3 0,r0 7 0,r0 0 0,r1 31 0,r1 63 1,r1 127 1,r1 127 1,r1 255 1,r1 1023 1]) rfl (by kernel_rfl) (by kernel_rfl) fun k0=>?_
 refine .m rfl rfl<|.q (.nil rfl)<|.q (.fa rfl f_132_1)<|.y rfl rfl rfl (.a (vs:=[_,_,_,_,_,_,_,_,_,_,_,_]) rfl .hd a_97 s_97 rfl rfl)<|.y rfl rfl rfl (.a (vs:=[_,_,_,_,_,_]) rfl (.tl .hd) a_29 s_29 rfl rfl) ?_
 obtain ⟨q8,hq8,hF⟩:=bS hF
 refine .callV .no rfl rfl rfl rfl rfl (Qdb q6.version_ p2 _ _ (VersionR.of h3_6_0 h4_6_0 h5_6_0 h6_6_0 h7_6_0 h8_6_0 h9_6_0 h10_6_0 h11_6_0 h12_6_0 h13_6_0) _ hq8)<|.m rfl rfl<|.q (.ext rfl rfl)<|.q (.ext rfl rfl)<|.z rfl rfl<|.z rfl rfl<|.nil<|sq_n<|.seq<|.region rfl<|.m rfl rfl<|.m rfl rfl<|.z rfl rfl<|.z rfl rfl<|.z rfl rfl<|.nil<|sq_n<|.ret ?_
 obtain rfl:=sI hF
 refine Qaa ((hle3.trans hle4).trans hle6) (.tmp rfl (.tmp rfl (.tmp rfl .nil))) rfl ?_
 rfl
structure L_code_Moved_1 where
 v1_2:V
 cs1_3:List V
 d1_1:List Int
 k1_5:Nat
def Qar (q5:T_question) (q7:T_question):List Room→List Int→Nat→Option ((List Int))
 | [],d1_1,k1_5=>some (d1_1)
 | y1 :: ys1,d1_1,k1_5=>((Qbf q7.version_ y1).bind fun q13=>((Qbf q5.version_ y1).bind fun q14=>(cond (!(decide (q13.1=q14.1))) ((ck (decide (d1_1.length+1≤1000000)) (Qar q5 q7 ys1 (d1_1 ++ [y1.id]) (k1_5+1)))) (Qar q5 q7 ys1 d1_1 (k1_5+1)))))
def Qcw (p0:Code) (p1:Int) (p2:Int) (p3:(List Room)):Option ((List Int) × Int):=((Qcc p0).bind fun q2=>((Qah q2 p1).bind fun q3=>((Qcc p0).bind fun q4=>((Qah q4 p2).bind fun q5=>((Qad q3 (!(decide (q5.e_=0))) q5.e_).bind fun q6=>((Qal q6 p3).bind fun q7=>(cond (!(decide (q7.e_=0))) (some ([],q7.e_)) (((Qar q5 q7 p3 [] 0).bind fun o1_0_1=>some (o1_0_1,0))))))))))
set_option maxHeartbeats 1000000 in
theorem F_code_Moved_ok (p0:Code) (p1:Int) (p2:Int) (p3:(List Room)) (v3_0:V) (cs0:List V) (g:G) (h0:CodeR g cs0 p0) (h3_0:RS RoomR 6 g v3_0 p3) (r:(List Int) × Int) (hF:Qcw p0 p1 p2 p3=some r):Fw Tryz.prog natS (.f 50 [] []) [.agg cs0,.i .i64 p1,.i .i64 p2,v3_0] g [] fun g' ml' q=>ml'=[]∧∃ (w0_0:V),q=(.tup [w0_0,.i .i64 r.2])∧RS IntR 1 g' w0_0 r.1:=by
 refine Fw.drop ?_
 unfold Qcw at hF
 obtain ⟨vq0,rfl,hcq0⟩:=h0
 have lh0_1:=hcq0.1
 have lh3_0:=h3_0.1
 refine Fw.enter (N:=84) (al:=[(3,_),(2,_),(1,_),(0,_)]) Tryz.func50 (by kernel_rfl) (by kernel_rfl) rfl rfl rfl rfl ?_
 intro B
 refine .seq<|.region rfl<|.box .no rfl rfl rfl rfl fun b1=>.z rfl rfl<|.z rfl rfl<|.nil<|sq_n<|.seq<|.region rfl<|.w (.a (vs:=[_,_]) rfl .hd a_24 s_24 rfl rfl) ?_
 obtain ⟨q2,hq2,hF⟩:=bS hF
 refine .call .no rfl rfl rfl (Qdh p0 _ _ ⟨_,rfl,hcq0⟩ _ hq2) ?_
 rintro g2 ml2 r2 hle2 ⟨b2_0,cs2_0,rfl,rfl,⟨v1_2_0,v3_2_0,v4_2_0,v5_2_0,v6_2_0,v7_2_0,v8_2_0,v9_2_0,v10_2_0,v11_2_0,v12_2_0,v13_2_0,rfl,h1_2_0,h3_2_0,h4_2_0,h5_2_0,h6_2_0,h7_2_0,h8_2_0,h9_2_0,h10_2_0,h11_2_0,h12_2_0,h13_2_0⟩⟩
 replace hcq0:=hcq0.mono VersionR.mono hle2
 replace h3_0:=h3_0.mono RoomR.mono hle2
 have lh2_0_1:=h1_2_0.1
 have lh2_0_3:=h3_2_0.1
 have lh2_0_4:=h4_2_0.1
 have lh2_0_5:=h5_2_0.1
 have lh2_0_6:=h6_2_0.1
 have lh2_0_7:=h7_2_0.1
 have lh2_0_8:=h8_2_0.1
 have lh2_0_9:=h9_2_0.1
 have lh2_0_10:=h10_2_0.1
 have lh2_0_11:=h11_2_0.1
 have lh2_0_12:=h12_2_0.1
 have lh2_0_13:=h13_2_0.1
 refine .m rfl rfl ?_
 obtain ⟨q3,hq3,hF⟩:=bS hF
 refine .callT .no rfl rfl rfl .hd (Qbl q2 p1 _ _ _ ⟨_,_,_,_,_,_,_,_,_,_,_,_,rfl,h1_2_0,h3_2_0,h4_2_0,h5_2_0,h6_2_0,h7_2_0,h8_2_0,h9_2_0,h10_2_0,h11_2_0,h12_2_0,h13_2_0⟩ _ hq3) ?_
 rintro g3 ml3 r3 hle3 ⟨cs3_0,rfl,rfl,⟨v1_3_0,v3_3_0,v4_3_0,v5_3_0,v6_3_0,v7_3_0,v8_3_0,v9_3_0,v10_3_0,v11_3_0,v12_3_0,v13_3_0,rfl,h1_3_0,h3_3_0,h4_3_0,h5_3_0,h6_3_0,h7_3_0,h8_3_0,h9_3_0,h10_3_0,h11_3_0,h12_3_0,h13_3_0⟩⟩
 replace hcq0:=hcq0.mono VersionR.mono hle3
 replace h3_0:=h3_0.mono RoomR.mono hle3
 have lh3_0_1:=h1_3_0.1
 have lh3_0_3:=h3_3_0.1
 have lh3_0_4:=h4_3_0.1
 have lh3_0_5:=h5_3_0.1
 have lh3_0_6:=h6_3_0.1
 have lh3_0_7:=h7_3_0.1
 have lh3_0_8:=h8_3_0.1
 have lh3_0_9:=h9_3_0.1
 have lh3_0_10:=h10_3_0.1
 have lh3_0_11:=h11_3_0.1
 have lh3_0_12:=h12_3_0.1
 have lh3_0_13:=h13_3_0.1
 refine .z rfl rfl<|.nil<|sq_n<|.seq<|.region rfl<|.w (.a (vs:=[_,_]) rfl (.tl .hd) a_24 s_24 rfl rfl) ?_
 obtain ⟨q4,hq4,hF⟩:=bS hF
 refine .call .no rfl rfl rfl (Qdh p0 _ _ ⟨_,rfl,hcq0⟩ _ hq4) ?_
 rintro g4 ml4 r4 hle4 ⟨b4_0,cs4_0,rfl,rfl,⟨v1_4_0,v3_4_0,v4_4_0,v5_4_0,v6_4_0,v7_4_0,v8_4_0,v9_4_0,v10_4_0,v11_4_0,v12_4_0,v13_4_0,rfl,h1_4_0,h3_4_0,h4_4_0,h5_4_0,h6_4_0,h7_4_0,h8_4_0,h9_4_0,h10_4_0,h11_4_0,h12_4_0,h13_4_0⟩⟩
 replace h3_0:=h3_0.mono RoomR.mono hle4
 replace h1_3_0:=h1_3_0.mono VersionR.mono hle4
 replace h3_3_0:=h3_3_0.mono PutR.mono hle4
 replace h4_3_0:=h4_3_0.mono PieceR.mono hle4
 replace h5_3_0:=h5_3_0.mono PieceR.mono hle4
 replace h6_3_0:=h6_3_0.mono PieceR.mono hle4
 replace h7_3_0:=h7_3_0.mono PieceR.mono hle4
 replace h8_3_0:=h8_3_0.mono PieceR.mono hle4
 replace h9_3_0:=h9_3_0.mono PieceR.mono hle4
 replace h10_3_0:=h10_3_0.mono PieceR.mono hle4
 replace h11_3_0:=h11_3_0.mono PieceR.mono hle4
 replace h12_3_0:=h12_3_0.mono PieceR.mono hle4
 replace h13_3_0:=h13_3_0.mono PieceR.mono hle4
 have lh4_0_1:=h1_4_0.1
 have lh4_0_3:=h3_4_0.1
 have lh4_0_4:=h4_4_0.1
 have lh4_0_5:=h5_4_0.1
 have lh4_0_6:=h6_4_0.1
 have lh4_0_7:=h7_4_0.1
 have lh4_0_8:=h8_4_0.1
 have lh4_0_9:=h9_4_0.1
 have lh4_0_10:=h10_4_0.1
 have lh4_0_11:=h11_4_0.1
 have lh4_0_12:=h12_4_0.1
 have lh4_0_13:=h13_4_0.1
 refine .m rfl rfl ?_
 obtain ⟨q5,hq5,hF⟩:=bS hF
 refine .callT .no rfl rfl rfl .hd (Qbl q4 p2 _ _ _ ⟨_,_,_,_,_,_,_,_,_,_,_,_,rfl,h1_4_0,h3_4_0,h4_4_0,h5_4_0,h6_4_0,h7_4_0,h8_4_0,h9_4_0,h10_4_0,h11_4_0,h12_4_0,h13_4_0⟩ _ hq5) ?_
 rintro g5 ml5 r5 hle5 ⟨cs5_0,rfl,rfl,⟨v1_5_0,v3_5_0,v4_5_0,v5_5_0,v6_5_0,v7_5_0,v8_5_0,v9_5_0,v10_5_0,v11_5_0,v12_5_0,v13_5_0,rfl,h1_5_0,h3_5_0,h4_5_0,h5_5_0,h6_5_0,h7_5_0,h8_5_0,h9_5_0,h10_5_0,h11_5_0,h12_5_0,h13_5_0⟩⟩
 replace h3_0:=h3_0.mono RoomR.mono hle5
 replace h1_3_0:=h1_3_0.mono VersionR.mono hle5
 replace h3_3_0:=h3_3_0.mono PutR.mono hle5
 replace h4_3_0:=h4_3_0.mono PieceR.mono hle5
 replace h5_3_0:=h5_3_0.mono PieceR.mono hle5
 replace h6_3_0:=h6_3_0.mono PieceR.mono hle5
 replace h7_3_0:=h7_3_0.mono PieceR.mono hle5
 replace h8_3_0:=h8_3_0.mono PieceR.mono hle5
 replace h9_3_0:=h9_3_0.mono PieceR.mono hle5
 replace h10_3_0:=h10_3_0.mono PieceR.mono hle5
 replace h11_3_0:=h11_3_0.mono PieceR.mono hle5
 replace h12_3_0:=h12_3_0.mono PieceR.mono hle5
 replace h13_3_0:=h13_3_0.mono PieceR.mono hle5
 have lh5_0_1:=h1_5_0.1
 have lh5_0_3:=h3_5_0.1
 have lh5_0_4:=h4_5_0.1
 have lh5_0_5:=h5_5_0.1
 have lh5_0_6:=h6_5_0.1
 have lh5_0_7:=h7_5_0.1
 have lh5_0_8:=h8_5_0.1
 have lh5_0_9:=h9_5_0.1
 have lh5_0_10:=h10_5_0.1
 have lh5_0_11:=h11_5_0.1
 have lh5_0_12:=h12_5_0.1
 have lh5_0_13:=h13_5_0.1
 refine .z rfl rfl<|.nil<|sq_n<|.seq<|.seq<|.draw (tb:=[r0 0 0,r0 0 0,r0 2 0,r0 6 0,r0 14 0,r0 30 0,r0 0 0,r0 64 0,r0 192 0,r0 448 0,r1 1023 0,r0 0 0,r1 4095 1,r1 8191 2]) rfl (by kernel_rfl) (by kernel_rfl) fun k0=>?_
 refine .m rfl rfl<|.m rfl rfl<|.q (.nil rfl)<|.q (.fa rfl Qcz)<|.y rfl rfl rfl (.s rfl .hd a_30 rfl)<|.b rfl rfl rfl rfl<|.m rfl rfl<|.q (.nil rfl)<|.q (.fa rfl Qcz)<|.y rfl rfl rfl (.s rfl .hd a_30 rfl) ?_
 obtain ⟨q6,hq6,hF⟩:=bS hF
 refine .callT .no rfl rfl rfl rfl rfl rfl (.tl .hd) (Qaf q3 (!(decide (q5.e_=0))) q5.e_ _ _ _ ⟨_,_,_,_,_,_,_,_,_,_,_,_,rfl,h1_3_0,h3_3_0,h4_3_0,h5_3_0,h6_3_0,h7_3_0,h8_3_0,h9_3_0,h10_3_0,h11_3_0,h12_3_0,h13_3_0⟩ _ hq6) ?_
 rintro g6 ml6 r6 hle6 ⟨cs6_0,rfl,rfl,⟨v1_6_0,v3_6_0,v4_6_0,v5_6_0,v6_6_0,v7_6_0,v8_6_0,v9_6_0,v10_6_0,v11_6_0,v12_6_0,v13_6_0,rfl,h1_6_0,h3_6_0,h4_6_0,h5_6_0,h6_6_0,h7_6_0,h8_6_0,h9_6_0,h10_6_0,h11_6_0,h12_6_0,h13_6_0⟩⟩
 replace h3_0:=h3_0.mono RoomR.mono hle6
 replace h3_5_0:=h3_5_0.mono PutR.mono hle6
 replace h4_5_0:=h4_5_0.mono PieceR.mono hle6
 replace h5_5_0:=h5_5_0.mono PieceR.mono hle6
 replace h6_5_0:=h6_5_0.mono PieceR.mono hle6
 replace h7_5_0:=h7_5_0.mono PieceR.mono hle6
 replace h8_5_0:=h8_5_0.mono PieceR.mono hle6
 replace h9_5_0:=h9_5_0.mono PieceR.mono hle6
 replace h10_5_0:=h10_5_0.mono PieceR.mono hle6
 replace h11_5_0:=h11_5_0.mono PieceR.mono hle6
 replace h12_5_0:=h12_5_0.mono PieceR.mono hle6
 replace h13_5_0:=h13_5_0.mono PieceR.mono hle6
 have lh6_0_1:=h1_6_0.1
 have lh6_0_3:=h3_6_0.1
 have lh6_0_4:=h4_6_0.1
 have lh6_0_5:=h5_6_0.1
 have lh6_0_6:=h6_6_0.1
 have lh6_0_7:=h7_6_0.1
 have lh6_0_8:=h8_6_0.1
 have lh6_0_9:=h9_6_0.1
 have lh6_0_10:=h10_6_0.1
 have lh6_0_11:=h11_6_0.1
 have lh6_0_12:=h12_6_0.1
 have lh6_0_13:=h13_6_0.1
 refine .m rfl rfl ?_
 obtain ⟨q7,hq7,hF⟩:=bS hF
 refine .callT .no rfl rfl rfl rfl rfl rfl .hd (Qcg q6 p3 _ _ _ _ ⟨_,_,_,_,_,_,_,_,_,_,_,_,rfl,h1_6_0,h3_6_0,h4_6_0,h5_6_0,h6_6_0,h7_6_0,h8_6_0,h9_6_0,h10_6_0,h11_6_0,h12_6_0,h13_6_0⟩ h3_0 _ hq7) ?_
 rintro g7 ml7 r7 hle7 ⟨cs7_0,rfl,rfl,⟨v1_7_0,v3_7_0,v4_7_0,v5_7_0,v6_7_0,v7_7_0,v8_7_0,v9_7_0,v10_7_0,v11_7_0,v12_7_0,v13_7_0,rfl,h1_7_0,h3_7_0,h4_7_0,h5_7_0,h6_7_0,h7_7_0,h8_7_0,h9_7_0,h10_7_0,h11_7_0,h12_7_0,h13_7_0⟩⟩
 replace h3_0:=h3_0.mono RoomR.mono hle7
 replace h3_5_0:=h3_5_0.mono PutR.mono hle7
 replace h4_5_0:=h4_5_0.mono PieceR.mono hle7
 replace h5_5_0:=h5_5_0.mono PieceR.mono hle7
 replace h6_5_0:=h6_5_0.mono PieceR.mono hle7
 replace h7_5_0:=h7_5_0.mono PieceR.mono hle7
 replace h8_5_0:=h8_5_0.mono PieceR.mono hle7
 replace h9_5_0:=h9_5_0.mono PieceR.mono hle7
 replace h10_5_0:=h10_5_0.mono PieceR.mono hle7
 replace h11_5_0:=h11_5_0.mono PieceR.mono hle7
 replace h12_5_0:=h12_5_0.mono PieceR.mono hle7
 replace h13_5_0:=h13_5_0.mono PieceR.mono hle7
 have lh7_0_1:=h1_7_0.1
 have lh7_0_3:=h3_7_0.1
 have lh7_0_4:=h4_7_0.1
 have lh7_0_5:=h5_7_0.1
 have lh7_0_6:=h6_7_0.1
 have lh7_0_7:=h7_7_0.1
 have lh7_0_8:=h8_7_0.1
 have lh7_0_9:=h9_7_0.1
 have lh7_0_10:=h10_7_0.1
 have lh7_0_11:=h11_7_0.1
 have lh7_0_12:=h12_7_0.1
 have lh7_0_13:=h13_7_0.1
 refine .z rfl rfl<|.nil<|sq_n<|.seq<|.region rfl<|.m rfl rfl<|.q (.nil rfl)<|.q (.fa rfl Qcz)<|.w (.s rfl .hd a_30 rfl)<|.b rfl rfl rfl rfl<|.nil<|sq_n<|.cond rfl (fun h8=>?_) (fun h8=>?_)
 ·have hF:=cT h8 hF
  refine .seq<|.draw (tb:=[r1 0 0,r1 1 0,r1 3 0,r1 7 0,r0 0 0,r1 31 0]) rfl (by kernel_rfl) (by kernel_rfl) fun k0=>?_
  refine .m rfl rfl<|.q (.nil rfl)<|.q (.fa rfl Qcz)<|.y rfl rfl rfl (.s rfl .hd a_30 rfl)<|.z rfl rfl<|.z rfl rfl<|.nil<|sq_n<|.ret<|sq_r ?_
  obtain rfl:=sI hF
  refine Qaa (((((hle2.trans hle3).trans hle4).trans hle5).trans hle6).trans hle7) (.tmp rfl (.tmp rfl .nil)) rfl ?_
  exact ⟨_,rfl,RS.nil⟩
 have kh8:=dT (nF h8)
 have hF:=cF h8 hF
 refine .skip<|sq_n<|.seq<|.region rfl<|.z rfl rfl<|.nil<|sq_n<|.seq<|.seq<|.region rfl<|.m rfl rfl<|.q (.lenR rfl rfl rfl e_25 h3_0)<|.m rfl rfl<|.nil<|sq_n<|.block<|.acc 1 3 ?_
 obtain ⟨o1,hF,hG1⟩:=bS hF
 refine .loopx (α:=L_code_Moved_1) [(10,_),(11,_),(50,_),(51,_)] [_,_,_] (fun fx x=>(13,x.v1_2) :: (52,.i .i64 (x.k1_5:Int)) :: fx) (fun mx x=>[.acc x.v1_2 1 x.cs1_3 3,rg mx 0,rg mx 1,rg mx 2]) (fun x g'=>AccR IntR 1 g' x.v1_2 x.cs1_3 x.d1_1∧x.k1_5≤p3.length∧Qar q5 q7 (p3.drop x.k1_5) x.d1_1 x.k1_5=some o1) (fun x=>p3.length - x.k1_5) (L_code_Moved_1.mk _ _ [] 0) ⟨rfl,rfl,rfl,rfl,rfl,rfl,trivial⟩ (List.Sublist.refl _) ⟨AccR.nil,(by first | omega | (dsimp only;omega)),hF⟩ ?_
 intro x1 gl1 hlo1 hJ1
 obtain ⟨v1_2,cs1_3,d1_1,k1_5⟩:=x1
 try dsimp only at hJ1
 obtain ⟨ha1_4,hk1,hF⟩:=hJ1
 refine .al0 [(13,v1_2),(52,.i .i64 (k1_5:Int)),(10,_),(11,_),(50,_),(51,_)] ?_
 replace h3_0:=h3_0.mono RoomR.mono hlo1
 replace h3_5_0:=h3_5_0.mono PutR.mono hlo1
 replace h4_5_0:=h4_5_0.mono PieceR.mono hlo1
 replace h5_5_0:=h5_5_0.mono PieceR.mono hlo1
 replace h6_5_0:=h6_5_0.mono PieceR.mono hlo1
 replace h7_5_0:=h7_5_0.mono PieceR.mono hlo1
 replace h8_5_0:=h8_5_0.mono PieceR.mono hlo1
 replace h9_5_0:=h9_5_0.mono PieceR.mono hlo1
 replace h10_5_0:=h10_5_0.mono PieceR.mono hlo1
 replace h11_5_0:=h11_5_0.mono PieceR.mono hlo1
 replace h12_5_0:=h12_5_0.mono PieceR.mono hlo1
 replace h13_5_0:=h13_5_0.mono PieceR.mono hlo1
 replace h3_7_0:=h3_7_0.mono PutR.mono hlo1
 replace h4_7_0:=h4_7_0.mono PieceR.mono hlo1
 replace h5_7_0:=h5_7_0.mono PieceR.mono hlo1
 replace h6_7_0:=h6_7_0.mono PieceR.mono hlo1
 replace h7_7_0:=h7_7_0.mono PieceR.mono hlo1
 replace h8_7_0:=h8_7_0.mono PieceR.mono hlo1
 replace h9_7_0:=h9_7_0.mono PieceR.mono hlo1
 replace h10_7_0:=h10_7_0.mono PieceR.mono hlo1
 replace h11_7_0:=h11_7_0.mono PieceR.mono hlo1
 replace h12_7_0:=h12_7_0.mono PieceR.mono hlo1
 replace h13_7_0:=h13_7_0.mono PieceR.mono hlo1
 have lha1_4:=ha1_4.le
 refine .seq<|.region rfl<|.b rfl rfl rfl rfl<|.nil<|sq_n<|.seq<|.cond rfl (fun h10=>?_) (fun h10=>?_)
 ·have kh10:=dT h10
  obtain ⟨y1,hy1⟩:=getK (l:=p3) (k:=k1_5) kh10
  rw [dc hy1,Qar] at hF
  refine .skip<|sq_n<|.seq<|.block<|.seq<|.region rfl<|.ixk (j:=k1_5) .no rfl rfl h3_0 rfl e_25 hy1 ?_
  rintro b11 o11 _ hq11 rfl
  refine .w (.pa 0 (vs:=[_,_,_,_,_,_]) rfl hq11 rfl a_29 s_29 rfl rfl)<|.alloc .no rfl z_29 fun b12=>.st (cs':=[_,_,_,_,_,_]) .no rfl rfl rfl rfl s_29 rfl rfl .hd rfl rfl<|.nil<|sq_n<|.seq<|.draw (tb:=[r0 0 0,r0 1 0,r0 3 0,r0 7 0,r0 0 0,r1 31 0,r1 63 1,r1 127 1,r1 127 1,r1 255 1,r1 1023 1]) rfl (by kernel_rfl) (by kernel_rfl) fun k0=>?_
  refine .m rfl rfl<|.q (.nil rfl)<|.q (.fa rfl f_132_1)<|.y rfl rfl rfl (.a (vs:=[_,_,_,_,_,_,_,_,_,_,_,_]) rfl (.tl (.tl .hd)) a_97 s_97 rfl rfl)<|.y rfl rfl rfl (.a (vs:=[_,_,_,_,_,_]) rfl .hd a_29 s_29 rfl rfl) ?_
  obtain ⟨q13,hq13,hF⟩:=bS hF
  refine .callV .no rfl rfl rfl rfl rfl (Qdb q7.version_ y1 _ _ (VersionR.of h3_7_0 h4_7_0 h5_7_0 h6_7_0 h7_7_0 h8_7_0 h9_7_0 h10_7_0 h11_7_0 h12_7_0 h13_7_0) _ hq13)<|.m rfl rfl<|.q (.ext rfl rfl)<|.q (.ext rfl rfl)<|.z rfl rfl<|.z rfl rfl<|.nil<|sq_n<|.seq<|.draw (tb:=[r0 0 0,r0 1 0,r0 3 0,r0 7 0,r0 0 0,r1 31 0,r1 63 1,r1 127 1,r1 127 1,r1 255 1,r1 1023 1]) rfl (by kernel_rfl) (by kernel_rfl) fun k0=>?_
  refine .m rfl rfl<|.q (.nil rfl)<|.q (.fa rfl f_132_1)<|.y rfl rfl rfl (.a (vs:=[_,_,_,_,_,_,_,_,_,_,_,_]) rfl (.tl (.tl (.tl .hd))) a_97 s_97 rfl rfl)<|.y rfl rfl rfl (.a (vs:=[_,_,_,_,_,_]) rfl .hd a_29 s_29 rfl rfl) ?_
  obtain ⟨q14,hq14,hF⟩:=bS hF
  refine .callV .no rfl rfl rfl rfl rfl (Qdb q5.version_ y1 _ _ (VersionR.of h3_5_0 h4_5_0 h5_5_0 h6_5_0 h7_5_0 h8_5_0 h9_5_0 h10_5_0 h11_5_0 h12_5_0 h13_5_0) _ hq14)<|.m rfl rfl<|.q (.ext rfl rfl)<|.q (.ext rfl rfl)<|.z rfl rfl<|.z rfl rfl<|.nil<|sq_n<|.seq<|.region rfl<|.m rfl rfl<|.m rfl rfl<|.b rfl rfl rfl rfl<|.nil<|sq_n<|.cond rfl (fun h15=>?_) (fun h15=>?_)
  ·have kh15:=dF (nT h15)
   have hF:=cT h15 hF
   refine .region rfl<|.m rfl rfl<|.q (.fa rfl Qca)<|.w (.s rfl .hd a_3 rfl)<|.bs .no rfl (qs:=[(0,_)]) (c:=[_]) rfl sl_66 el_3 (by decide) rfl fun b16=>?_
   obtain ⟨hl17,hF⟩:=ckS hF
   have hl17:=of_decide_eq_true hl17
   refine .x .no rfl (.appA (m:=1) (new:=[_]) rfl rfl rfl (.tl (.tl .hd)) sl_66 el_3 (.of rfl .sl sl_66 .hd (Nat.le_of_ble_eq_true rfl) rfl) (by decide) rfl (AccR.room (R:=IntR) (ys:=[y1.id]) ha1_4 (Ls.cons (c:=[_]) rfl rfl .nil) hl17) rfl) fun v17=>.as (.tl (.tl .hd)) fun av17=>?_
   have ha17:=AccR.app (R:=IntR) (g:=gl1) (ys:=[y1.id]) ha1_4 (Ls.cons (c:=[_]) rfl rfl .nil) hl17 av17
   have lha17:=ha17.le
   refine .z rfl rfl<|.nil<|bq_n<|sq_n<|.region rfl<|.q (.inc1 rfl rfl (by omega))<|.m rfl rfl<|.nil<|Qac (L_code_Moved_1.mk _ _ (d1_1 ++ [y1.id]) (k1_5+1)) ⟨rfl,rfl,rfl,rfl,rfl,rfl,trivial⟩ (.cons _ (.cons _ (List.Sublist.refl _))) (Le.refl _) ?_ ?_
   ·exact ⟨ha17,(atN_lt hy1),hF⟩
   ·simp only;omega
  have kh15:=dT (nF h15)
  have hF:=cF h15 hF
  refine .skip<|bq_n<|sq_n<|.region rfl<|.q (.inc1 rfl rfl (by omega))<|.m rfl rfl<|.nil<|Qac (L_code_Moved_1.mk _ _ d1_1 (k1_5+1)) ⟨rfl,rfl,rfl,rfl,rfl,rfl,trivial⟩ (.cons _ (List.Sublist.refl _)) (Le.refl _) ?_ ?_
  ·exact ⟨ha1_4,(atN_lt hy1),hF⟩
  ·simp only;omega
 have kh10:=dF h10
 rw [dn (by omega),Qar] at hF
 obtain rfl:=sI hF
 have hF:=hG1
 refine .exit<|sq_e<|lq_e<|bq_x rfl<|sq_n<|.seq<|.region rfl<|.m rfl rfl<|.z rfl rfl<|.z rfl rfl<|.nil<|sq_n<|.see (seeFreeze IntR.mono .hd (by decide) ha1_4) ?_
 rintro gz18 ⟨hle18,hz18⟩
 refine .ret ?_
 obtain rfl:=sI hF
 refine Qaa (((((((hle2.trans hle3).trans hle4).trans hle5).trans hle6).trans hle7).trans hlo1).trans hle18) (.tmp rfl (.tmp rfl .nil)) rfl ?_
 exact ⟨_,rfl,hz18⟩
def Qdc (p0:Code) (p1:Int) (p2:Room):Option (Int × Int × Int):=(cond (!(decide ((Code.err p0)=0))) (some (0,0,(Code.err p0))) ((cond (!(Qae p1 0 ((p0.vs.length:Int) - 1))) (some (0,0,42)) ((cond (!(decide ((roomE p2)=0))) (some (0,0,40)) (((atI p0.vs p1).bind fun y9=>((Qbn y9 p2).bind fun q10=>some (q10.1,q10.2,0)))))))))
set_option maxHeartbeats 1000000 in
theorem F_r04_Group_ok (p0:Code) (p1:Int) (p2:Room) (cs0:List V) (g:G) (h0:CodeR g cs0 p0) (r:Int × Int × Int) (hF:Qdc p0 p1 p2=some r):Fv Tryz.prog natS (.f 54 [] []) [.agg cs0,.i .i64 p1,.agg [.i .i64 p2.id,.i .i64 p2.kind,.i .i64 p2.op,.i .i64 p2.cr,.i .i64 p2.lo,.i .i64 p2.hi]] g (.tup [.i .i64 r.1,.i .i64 r.2.1,.i .i64 r.2.2]):=by
 refine Fw.fv ?_
 unfold Qdc at hF
 obtain ⟨vq0,rfl,hcq0⟩:=h0
 have lh0_1:=hcq0.1
 refine Fw.enter (N:=39) (al:=[(2,_),(1,_),(0,_)]) Tryz.func54 (by kernel_rfl) (by kernel_rfl) rfl rfl rfl rfl ?_
 intro B
 refine .seq<|.region rfl<|.box .no rfl rfl rfl rfl fun b1=>.box .no rfl rfl rfl rfl fun b2=>.z rfl rfl<|.z rfl rfl<|.z rfl rfl<|.nil<|sq_n<|.seq<|.region rfl<|.w (.a (vs:=[_,_]) rfl (.tl .hd) a_24 s_24 rfl rfl)<|.callV .no rfl rfl rfl (rCheck_ok _ _ _ ⟨_,rfl,hcq0⟩)<|.z rfl rfl<|.nil<|sq_n<|.seq<|.seq<|.region rfl<|.m rfl rfl<|.b rfl rfl rfl rfl<|.nil<|sq_n<|.cond rfl (fun h4=>?_) (fun h4=>?_)
 ·have hF:=cT h4 hF
  refine .seq<|.region rfl<|.m rfl rfl<|.z rfl rfl<|.z rfl rfl<|.z rfl rfl<|.nil<|sq_n<|.ret<|sq_r ?_
  obtain rfl:=sI hF
  refine Qaa (Le.refl _) (.tmp rfl (.tmp rfl (.tmp rfl .nil))) rfl ?_
  rfl
 have kh4:=dT (nF h4)
 have hF:=cF h4 hF
 refine .skip<|sq_n<|.seq<|.seq<|.region rfl<|.m rfl rfl<|.q (.fa rfl Qbu)<|.w (.s rfl (.tl .hd) a_22 rfl)<|.q (.lenR rfl rfl rfl e_22 hcq0)<|.q (.sub rfl rfl (by omega))<|.callV .no rfl rfl rfl (in_ok _ _ _ _)<|.q (.not rfl)<|.nil<|sq_n<|.cond rfl (fun h6=>?_) (fun h6=>?_)
 ·have hF:=cT h6 hF
  refine .seq<|.region rfl<|.z rfl rfl<|.z rfl rfl<|.z rfl rfl<|.nil<|sq_n<|.ret<|sq_r ?_
  obtain rfl:=sI hF
  refine Qaa (Le.refl _) (.tmp rfl (.tmp rfl (.tmp rfl .nil))) rfl ?_
  rfl
 have hF:=cF h6 hF
 refine .skip<|sq_n<|.seq<|.seq<|.region rfl<|.w (.a (vs:=[_,_,_,_,_,_]) rfl .hd a_29 s_29 rfl rfl)<|.callV .no rfl rfl rfl (rCheckRoom_ok p2 _)<|.b rfl rfl rfl rfl<|.nil<|sq_n<|.cond rfl (fun h8=>?_) (fun h8=>?_)
 ·have hF:=cT h8 hF
  refine .seq<|.region rfl<|.z rfl rfl<|.z rfl rfl<|.z rfl rfl<|.nil<|sq_n<|.ret<|sq_r ?_
  obtain rfl:=sI hF
  refine Qaa (Le.refl _) (.tmp rfl (.tmp rfl (.tmp rfl .nil))) rfl ?_
  rfl
 have hF:=cF h8 hF
 refine .skip<|sq_n<|.seq<|.draw (tb:=[r0 0 0,r0 1 0,r0 0 0,r0 7 0,r0 15 0,r0 0 0,r1 63 0,r1 127 1,r1 255 1,r1 255 1,r1 511 1,r1 2047 1]) rfl (by kernel_rfl) (by kernel_rfl) fun k0=>?_
 refine .q (.fa rfl Qbu)<|.y rfl rfl rfl (.s rfl (.tl .hd) a_22 rfl)<|.m rfl rfl ?_
 obtain ⟨y9,hy9,hF⟩:=bS hF
 have hj9:=atI_lt hy9
 refine .ixl .no rfl rfl hcq0 rfl e_22 hy9 ?_
 rintro b9 o9 _ hq9 ⟨p9,lv9,rfl,hp9,hl9⟩
 refine .y rfl rfl rfl (.pa 0 (vs:=[_,_,_,_,_,_,_,_,_,_,_,_]) rfl hq9 rfl a_97 s_97 rfl rfl)<|.y rfl rfl rfl (.a (vs:=[_,_,_,_,_,_]) rfl .hd a_29 s_29 rfl rfl) ?_
 obtain ⟨q10,hq10,hF⟩:=bS hF
 refine .callV .no rfl rfl rfl rfl rfl (Qdi y9 p2 _ _ ⟨_,_,rfl,hp9,hl9⟩ _ hq10)<|.m rfl rfl<|.q (.ext rfl rfl)<|.q (.ext rfl rfl)<|.z rfl rfl<|.z rfl rfl<|.nil<|sq_n<|.seq<|.region rfl<|.m rfl rfl<|.m rfl rfl<|.z rfl rfl<|.z rfl rfl<|.z rfl rfl<|.nil<|sq_n<|.ret ?_
 obtain rfl:=sI hF
 refine Qaa (Le.refl _) (.tmp rfl (.tmp rfl (.tmp rfl .nil))) rfl ?_
 rfl
def Qcd (p0:Code) (p1:Int) (p2:(List Room)):Option (T_Plan × Int):=(cond (!(decide ((endE p0 p1 0 p2)=0))) (some ((T_Plan.mk 0 (arr [(T_Share.mk 0 [] (0,0)),(T_Share.mk 0 [] (0,0)),(T_Share.mk 0 [] (0,0)),(T_Share.mk 0 [] (0,0)),(T_Share.mk 0 [] (0,0))] (T_Share.mk 0 [] (0,0))) []),(endE p0 p1 0 p2))) (((atI p0.vs (askI p0 p1 0 p2)).bind fun y5=>((F_r04_plan y5 (askI p0 p1 0 p2) p2).bind fun q6=>some (q6,0)))))
set_option maxHeartbeats 1000000 in
theorem F_r04_Compile_ok (p0:Code) (p1:Int) (p2:(List Room)) (v2_0:V) (cs0:List V) (g:G) (h0:CodeR g cs0 p0) (h2_0:RS RoomR 6 g v2_0 p2) (r:T_Plan × Int) (hF:Qcd p0 p1 p2=some r):Fw Tryz.prog natS (.f 49 [] []) [.agg cs0,.i .i64 p1,v2_0] g [] fun g' ml' q=>ml'=[]∧∃ (ds0:List V),q=(.tup [.agg ds0,.i .i64 r.2])∧R_Plan g' ds0 r.1:=by
 refine Fw.drop ?_
 unfold Qcd at hF
 obtain ⟨vq0,rfl,hcq0⟩:=h0
 refine Fw.enter (N:=29) (al:=[(2,_),(1,_),(0,_)]) Tryz.func49 (by kernel_rfl) (by kernel_rfl) rfl rfl rfl rfl ?_
 intro B
 refine .seq<|.region rfl<|.box .no rfl rfl rfl rfl fun b1=>.alloc .no rfl z_85 fun b2=>.z rfl rfl<|.nil<|sq_n<|.seq<|.region rfl<|.w (.a (vs:=[_,_]) rfl (.tl .hd) a_24 s_24 rfl rfl)<|.m rfl rfl<|.m rfl rfl<|.callV .no rfl rfl rfl (asked_ok _ _ _ _ _ _ _ ⟨_,rfl,hcq0⟩ h2_0)<|.m rfl rfl<|.q (.ext rfl rfl)<|.q (.ext rfl rfl)<|.z rfl rfl<|.z rfl rfl<|.nil<|sq_n<|.seq<|.seq<|.region rfl<|.m rfl rfl<|.b rfl rfl rfl rfl<|.nil<|sq_n<|.cond rfl (fun h4=>?_) (fun h4=>?_)
 ·have hF:=cT h4 hF
  refine .seq<|.region rfl<|.q (.build (qs:=[]) (cs:=[_,_,_,_,_,_,_,_,_,_,_,_,_,_,_,_,_,_,_,_,_,_]) rfl b_85 rfl)<|.m rfl rfl<|.st (cs':=[_,_,_,_,_,_,_,_,_,_,_,_,_,_,_,_,_,_,_,_,_,_]) .no rfl rfl rfl rfl s_85 rfl rfl .hd rfl rfl<|.z rfl rfl<|.nil<|sq_n<|.ret<|sq_r ?_
  obtain rfl:=sI hF
  refine Qaa (Le.refl _) (.cell (.a (vs:=[_,_,_,_,_,_,_,_,_,_,_,_,_,_,_,_,_,_,_,_,_,_]) rfl .hd a_85 s_85 rfl rfl) (.tmp rfl .nil)) rfl ?_
  exact ⟨_,rfl,⟨_,_,_,_,_,_,rfl,RS.nil,RS.nil,RS.nil,RS.nil,RS.nil,RS.nil⟩⟩
 have hF:=cF h4 hF
 refine .skip<|sq_n<|.seq<|.region rfl<|.q (.fa rfl Qbu)<|.w (.s rfl (.tl .hd) a_22 rfl)<|.m rfl rfl ?_
 obtain ⟨y5,hy5,hF⟩:=bS hF
 have hj5:=atI_lt hy5
 refine .ixl .no rfl rfl hcq0 rfl e_22 hy5 ?_
 rintro b5 o5 _ hq5 ⟨p5,lv5,rfl,hp5,hl5⟩
 refine .w (.pa 0 (vs:=[_,_,_,_,_,_,_,_,_,_,_,_]) rfl hq5 rfl a_97 s_97 rfl rfl)<|.m rfl rfl<|.m rfl rfl ?_
 obtain ⟨q6,hq6,hF⟩:=bS hF
 refine .call .no rfl rfl rfl (F_r04_plan_ok y5 (askI p0 p1 0 p2) p2 _ _ _ ⟨_,_,rfl,hp5,hl5⟩ h2_0 _ hq6) ?_
 rintro g6 ml6 r6 hle6 ⟨rfl,cs6_0,rfl,⟨v2_6_0,v6_6_0,v10_6_0,v14_6_0,v18_6_0,v21_6_0,rfl,h2_6_0,h6_6_0,h10_6_0,h14_6_0,h18_6_0,h21_6_0⟩⟩
 refine .st (cs':=[_,_,_,_,_,_,_,_,_,_,_,_,_,_,_,_,_,_,_,_,_,_]) .no rfl rfl rfl rfl s_85 rfl rfl .hd rfl (Qa rfl (Qa rfl (Qa h2_6_0.one (Qa rfl (Qa rfl (Qa rfl (Qa h6_6_0.one (Qa rfl (Qa rfl (Qa rfl (Qa h10_6_0.one (Qa rfl (Qa rfl (Qa rfl (Qa h14_6_0.one (Qa rfl (Qa rfl (Qa rfl (Qa h18_6_0.one (Qa rfl (Qa rfl (Qa h21_6_0.one rfl))))))))))))))))))))))<|.z rfl rfl<|.nil<|sq_n<|.ret ?_
 obtain rfl:=sI hF
 refine Qaa hle6 (.cell (.a (vs:=[_,_,_,_,_,_,_,_,_,_,_,_,_,_,_,_,_,_,_,_,_,_]) rfl .hd a_85 s_85 rfl rfl) (.tmp rfl .nil)) rfl ?_
 exact ⟨_,rfl,⟨_,_,_,_,_,_,rfl,h2_6_0,h6_6_0,h10_6_0,h14_6_0,h18_6_0,h21_6_0⟩⟩
structure L_r04_Moved_1 where
 v1_2:V
 cs1_3:List V
 d1_1:List Int
 k1_5:Nat
def Qaw (p0:Code) (p1:Int) (p2:Int):List Room→List Int→Nat→Option ((List Int))
 | [],d1_1,k1_5=>some (d1_1)
 | y1 :: ys1,d1_1,k1_5=>((atI p0.vs p1).bind fun y12=>((Qbn y12 y1).bind fun q14=>((atI p0.vs p2).bind fun y15=>((Qbn y15 y1).bind fun q17=>(cond (!(decide (q14.1=q17.1))) ((ck (decide (d1_1.length+1≤1000000)) (Qaw p0 p1 p2 ys1 (d1_1 ++ [y1.id]) (k1_5+1)))) (Qaw p0 p1 p2 ys1 d1_1 (k1_5+1)))))))
def Qdg (p0:Code) (p1:Int) (p2:Int) (p3:(List Room)):Option ((List Int) × Int):=(cond (!(decide ((Code.err p0)=0))) (some ([],(Code.err p0))) ((cond (!(Qae p1 0 ((p0.vs.length:Int) - 1))) (some ([],42)) ((cond (!(Qae p2 0 ((p0.vs.length:Int) - 1))) (some ([],42)) ((cond (!(decide ((Qcp p3)=0))) (some ([],40)) (((Qaw p0 p1 p2 p3 [] 0).bind fun o1_0_1=>some (o1_0_1,0))))))))))
set_option maxHeartbeats 1000000 in
theorem F_r04_Moved_ok (p0:Code) (p1:Int) (p2:Int) (p3:(List Room)) (v3_0:V) (cs0:List V) (g:G) (h0:CodeR g cs0 p0) (h3_0:RS RoomR 6 g v3_0 p3) (r:(List Int) × Int) (hF:Qdg p0 p1 p2 p3=some r):Fw Tryz.prog natS (.f 51 [] []) [.agg cs0,.i .i64 p1,.i .i64 p2,v3_0] g [] fun g' ml' q=>ml'=[]∧∃ (w0_0:V),q=(.tup [w0_0,.i .i64 r.2])∧RS IntR 1 g' w0_0 r.1:=by
 refine Fw.drop ?_
 unfold Qdg at hF
 obtain ⟨vq0,rfl,hcq0⟩:=h0
 have lh0_1:=hcq0.1
 have lh3_0:=h3_0.1
 refine Fw.enter (N:=85) (al:=[(3,_),(2,_),(1,_),(0,_)]) Tryz.func51 (by kernel_rfl) (by kernel_rfl) rfl rfl rfl rfl ?_
 intro B
 refine .seq<|.region rfl<|.box .no rfl rfl rfl rfl fun b1=>.z rfl rfl<|.z rfl rfl<|.nil<|sq_n<|.seq<|.region rfl<|.w (.a (vs:=[_,_]) rfl .hd a_24 s_24 rfl rfl)<|.callV .no rfl rfl rfl (rCheck_ok _ _ _ ⟨_,rfl,hcq0⟩)<|.z rfl rfl<|.nil<|sq_n<|.seq<|.seq<|.region rfl<|.m rfl rfl<|.b rfl rfl rfl rfl<|.nil<|sq_n<|.cond rfl (fun h3=>?_) (fun h3=>?_)
 ·have hF:=cT h3 hF
  refine .seq<|.region rfl<|.m rfl rfl<|.z rfl rfl<|.z rfl rfl<|.nil<|sq_n<|.ret<|sq_r ?_
  obtain rfl:=sI hF
  refine Qaa (Le.refl _) (.tmp rfl (.tmp rfl .nil)) rfl ?_
  exact ⟨_,rfl,RS.nil⟩
 have kh3:=dT (nF h3)
 have hF:=cF h3 hF
 refine .skip<|sq_n<|.seq<|.seq<|.region rfl<|.m rfl rfl<|.q (.fa rfl Qbu)<|.w (.s rfl .hd a_22 rfl)<|.q (.lenR rfl rfl rfl e_22 hcq0)<|.q (.sub rfl rfl (by omega))<|.callV .no rfl rfl rfl (in_ok _ _ _ _)<|.q (.not rfl)<|.m rfl rfl<|.split (t:=29) rfl (fun h5=>?_) (fun h5=>?_)
 ·have hF:=cT h5 hF
  refine .k h5<|.k h5<|.k h5<|.k h5<|.k h5<|.k h5<|.k h5<|.q (.pickT rfl h5 rfl)<|.nil<|sq_n<|.condT rfl rfl<|.seq<|.region rfl<|.z rfl rfl<|.z rfl rfl<|.nil<|sq_n<|.ret<|sq_r ?_
  obtain rfl:=sI hF
  refine Qaa (Le.refl _) (.tmp rfl (.tmp rfl .nil)) rfl ?_
  exact ⟨_,rfl,RS.nil⟩
 have kh5:=(nF h5)
 have hF:=cF h5 hF
 refine .py h5 (.move rfl)<|.py h5 (.fa rfl Qbu)<|.wy h5 (.s rfl .hd a_22 rfl)<|.py h5 (.lenR rfl rfl rfl e_22 hcq0)<|.py h5 (.sub rfl rfl (by omega))<|.callV (.yes rfl rfl h5) rfl rfl rfl (in_ok _ _ _ _)<|.py h5 (.not rfl)<|.q (.pickF rfl h5 rfl)<|.nil<|sq_n<|.cond rfl (fun h7=>?_) (fun h7=>?_)
 ·have hF:=cT h7 hF
  refine .seq<|.region rfl<|.z rfl rfl<|.z rfl rfl<|.nil<|sq_n<|.ret<|sq_r ?_
  obtain rfl:=sI hF
  refine Qaa (Le.refl _) (.tmp rfl (.tmp rfl .nil)) rfl ?_
  exact ⟨_,rfl,RS.nil⟩
 have kh7:=(nF h7)
 have hF:=cF h7 hF
 refine .skip<|sq_n<|.seq<|.seq<|.region rfl<|.m rfl rfl<|.callV .no rfl rfl rfl (rCheckRooms_ok _ _ _ h3_0)<|.b rfl rfl rfl rfl<|.nil<|sq_n<|.cond rfl (fun h9=>?_) (fun h9=>?_)
 ·have hF:=cT h9 hF
  refine .seq<|.region rfl<|.z rfl rfl<|.z rfl rfl<|.nil<|sq_n<|.ret<|sq_r ?_
  obtain rfl:=sI hF
  refine Qaa (Le.refl _) (.tmp rfl (.tmp rfl .nil)) rfl ?_
  exact ⟨_,rfl,RS.nil⟩
 have kh9:=dT (nF h9)
 have hF:=cF h9 hF
 refine .skip<|sq_n<|.seq<|.region rfl<|.z rfl rfl<|.nil<|sq_n<|.seq<|.seq<|.region rfl<|.z rfl rfl<|.nil<|sq_n<|.block<|.acc 1 3 ?_
 obtain ⟨o1,hF,hG1⟩:=bS hF
 refine .loopx (α:=L_r04_Moved_1) [(1,_),(2,_),(3,_),(4,_)] [_] (fun fx x=>(11,x.v1_2) :: (12,.i .i64 (x.k1_5:Int)) :: fx) (fun mx x=>[.acc x.v1_2 1 x.cs1_3 3,rg mx 0]) (fun x g'=>AccR IntR 1 g' x.v1_2 x.cs1_3 x.d1_1∧x.k1_5≤p3.length∧Qaw p0 p1 p2 (p3.drop x.k1_5) x.d1_1 x.k1_5=some o1) (fun x=>p3.length - x.k1_5) (L_r04_Moved_1.mk _ _ [] 0) ⟨rfl,rfl,rfl,rfl,rfl,rfl,trivial⟩ (List.Sublist.refl _) ⟨AccR.nil,(by first | omega | (dsimp only;omega)),hF⟩ ?_
 intro x1 gl1 hlo1 hJ1
 obtain ⟨v1_2,cs1_3,d1_1,k1_5⟩:=x1
 try dsimp only at hJ1
 obtain ⟨ha1_4,hk1,hF⟩:=hJ1
 refine .al0 [(11,v1_2),(12,.i .i64 (k1_5:Int)),(1,_),(2,_),(3,_),(4,_)] ?_
 replace hcq0:=hcq0.mono VersionR.mono hlo1
 replace h3_0:=h3_0.mono RoomR.mono hlo1
 have lha1_4:=ha1_4.le
 refine .seq<|.seq<|.region rfl<|.m rfl rfl<|.m rfl rfl<|.q (.lenR rfl rfl rfl e_25 h3_0)<|.b rfl rfl rfl rfl<|.nil<|sq_n<|.cond rfl (fun h11=>?_) (fun h11=>?_)
 ·have kh11:=dT h11
  obtain ⟨y1,hy1⟩:=getK (l:=p3) (k:=k1_5) kh11
  rw [dc hy1,Qaw] at hF
  refine .skip<|sq_n<|.seq<|.block<|.seq<|.draw (tb:=[r0 0 0,r0 1 0,r0 0 0,r0 7 0,r0 15 0,r0 0 0,r0 0 0,r0 96 0,r0 224 0,r1 511 0,r1 1023 1,r1 2047 1,r1 2047 1,r1 4095 1,r1 16383 1]) rfl (by kernel_rfl) (by kernel_rfl) fun k0=>?_
  refine .q (.fa rfl Qbu)<|.y rfl rfl rfl (.s rfl (.tl .hd) a_22 rfl)<|.m rfl rfl ?_
  obtain ⟨y12,hy12,hF⟩:=bS hF
  have hj12:=atI_lt hy12
  refine .ixl .no rfl rfl hcq0 rfl e_22 hy12 ?_
  rintro b12 o12 _ hq12 ⟨p12,lv12,rfl,hp12,hl12⟩
  have lh12_1:=hp12.1
  have lh12_2:=(hl12 0 (by decide)).1
  have lh12_3:=(hl12 1 (by decide)).1
  have lh12_4:=(hl12 2 (by decide)).1
  have lh12_5:=(hl12 3 (by decide)).1
  have lh12_6:=(hl12 4 (by decide)).1
  have lh12_7:=(hl12 5 (by decide)).1
  have lh12_8:=(hl12 6 (by decide)).1
  have lh12_9:=(hl12 7 (by decide)).1
  have lh12_10:=(hl12 8 (by decide)).1
  have lh12_11:=(hl12 9 (by decide)).1
  refine .y rfl rfl rfl (.pa 0 (vs:=[_,_,_,_,_,_,_,_,_,_,_,_]) rfl hq12 rfl a_97 s_97 rfl rfl)<|.m rfl rfl<|.m rfl rfl<|.ixk (j:=k1_5) .no rfl rfl h3_0 rfl e_25 hy1 ?_
  rintro b13 o13 _ hq13 rfl
  refine .y rfl rfl rfl (.pa 0 (vs:=[_,_,_,_,_,_]) rfl hq13 rfl a_29 s_29 rfl rfl) ?_
  obtain ⟨q14,hq14,hF⟩:=bS hF
  refine .callV .no rfl rfl rfl rfl rfl (Qdi y12 y1 _ _ ⟨_,_,rfl,hp12,hl12⟩ _ hq14)<|.m rfl rfl<|.q (.ext rfl rfl)<|.q (.ext rfl rfl)<|.z rfl rfl<|.z rfl rfl<|.nil<|sq_n<|.seq<|.draw (tb:=[r0 0 0,r0 1 0,r0 0 0,r0 7 0,r0 15 0,r0 0 0,r0 0 0,r0 96 0,r0 224 0,r1 511 0,r1 1023 1,r1 2047 1,r1 2047 1,r1 4095 1,r1 16383 1]) rfl (by kernel_rfl) (by kernel_rfl) fun k0=>?_
  refine .q (.fa rfl Qbu)<|.y rfl rfl rfl (.s rfl (.tl .hd) a_22 rfl)<|.m rfl rfl ?_
  obtain ⟨y15,hy15,hF⟩:=bS hF
  have hj15:=atI_lt hy15
  refine .ixl .no rfl rfl hcq0 rfl e_22 hy15 ?_
  rintro b15 o15 _ hq15 ⟨p15,lv15,rfl,hp15,hl15⟩
  have lh15_1:=hp15.1
  have lh15_2:=(hl15 0 (by decide)).1
  have lh15_3:=(hl15 1 (by decide)).1
  have lh15_4:=(hl15 2 (by decide)).1
  have lh15_5:=(hl15 3 (by decide)).1
  have lh15_6:=(hl15 4 (by decide)).1
  have lh15_7:=(hl15 5 (by decide)).1
  have lh15_8:=(hl15 6 (by decide)).1
  have lh15_9:=(hl15 7 (by decide)).1
  have lh15_10:=(hl15 8 (by decide)).1
  have lh15_11:=(hl15 9 (by decide)).1
  refine .y rfl rfl rfl (.pa 0 (vs:=[_,_,_,_,_,_,_,_,_,_,_,_]) rfl hq15 rfl a_97 s_97 rfl rfl)<|.m rfl rfl<|.m rfl rfl<|.ixk (j:=k1_5) .no rfl rfl h3_0 rfl e_25 hy1 ?_
  rintro b16 o16 _ hq16 rfl
  refine .y rfl rfl rfl (.pa 0 (vs:=[_,_,_,_,_,_]) rfl hq16 rfl a_29 s_29 rfl rfl) ?_
  obtain ⟨q17,hq17,hF⟩:=bS hF
  refine .callV .no rfl rfl rfl rfl rfl (Qdi y15 y1 _ _ ⟨_,_,rfl,hp15,hl15⟩ _ hq17)<|.m rfl rfl<|.q (.ext rfl rfl)<|.q (.ext rfl rfl)<|.z rfl rfl<|.z rfl rfl<|.nil<|sq_n<|.seq<|.region rfl<|.m rfl rfl<|.m rfl rfl<|.b rfl rfl rfl rfl<|.nil<|sq_n<|.cond rfl (fun h18=>?_) (fun h18=>?_)
  ·have kh18:=dF (nT h18)
   have hF:=cT h18 hF
   refine .region rfl<|.m rfl rfl<|.m rfl rfl<|.m rfl rfl<|.ixk (j:=k1_5) .no rfl rfl h3_0 rfl e_25 hy1 ?_
   rintro b19 o19 _ hq19 rfl
   refine .q (.fa rfl Qca)<|.w (.ps 0 rfl hq19 rfl a_3 rfl)<|.bs .no rfl (qs:=[(0,_)]) (c:=[_]) rfl sl_66 el_3 (by decide) rfl fun b20=>?_
   obtain ⟨hl21,hF⟩:=ckS hF
   have hl21:=of_decide_eq_true hl21
   refine .x .no rfl (.appA (m:=1) (new:=[_]) rfl rfl rfl (.tl .hd) sl_66 el_3 (.of rfl .sl sl_66 .hd (Nat.le_of_ble_eq_true rfl) rfl) (by decide) rfl (AccR.room (R:=IntR) (ys:=[y1.id]) ha1_4 (Ls.cons (c:=[_]) rfl rfl .nil) hl21) rfl) fun v21=>.as (.tl .hd) fun av21=>?_
   have ha21:=AccR.app (R:=IntR) (g:=gl1) (ys:=[y1.id]) ha1_4 (Ls.cons (c:=[_]) rfl rfl .nil) hl21 av21
   have lha21:=ha21.le
   refine .z rfl rfl<|.nil<|bq_n<|sq_n<|.region rfl<|.m rfl rfl<|.q (.inc1 rfl rfl (by omega))<|.z rfl rfl<|.nil<|Qac (L_r04_Moved_1.mk _ _ (d1_1 ++ [y1.id]) (k1_5+1)) ⟨rfl,rfl,rfl,rfl,rfl,rfl,trivial⟩ (.cons _ (List.Sublist.refl _)) (Le.refl _) ?_ ?_
   ·exact ⟨ha21,(atN_lt hy1),hF⟩
   ·simp only;omega
  have kh18:=dT (nF h18)
  have hF:=cF h18 hF
  refine .skip<|bq_n<|sq_n<|.region rfl<|.m rfl rfl<|.q (.inc1 rfl rfl (by omega))<|.z rfl rfl<|.nil<|Qac (L_r04_Moved_1.mk _ _ d1_1 (k1_5+1)) ⟨rfl,rfl,rfl,rfl,rfl,rfl,trivial⟩ (List.Sublist.refl _) (Le.refl _) ?_ ?_
  ·exact ⟨ha1_4,(atN_lt hy1),hF⟩
  ·simp only;omega
 have kh11:=dF h11
 rw [dn (by omega),Qaw] at hF
 obtain rfl:=sI hF
 have hF:=hG1
 refine .exit<|sq_e<|lq_e<|bq_x rfl<|sq_n<|.seq<|.region rfl<|.m rfl rfl<|.z rfl rfl<|.z rfl rfl<|.nil<|sq_n<|.see (seeFreeze IntR.mono .hd (by decide) ha1_4) ?_
 rintro gz22 ⟨hle22,hz22⟩
 refine .ret ?_
 obtain rfl:=sI hF
 refine Qaa (hlo1.trans hle22) (.tmp rfl (.tmp rfl .nil)) rfl ?_
 exact ⟨_,rfl,hz22⟩
def Qbt (p0:T_Plan) (p1:T_Plan):Option (Bool):=(cond (!(decide (((p0.Shares 0).Group)=((p1.Shares 0).Group)))) (some false) ((cond (!((decide (((p0.Shares 0).Litres.1)=((p1.Shares 0).Litres.1))) && ((decide (((p0.Shares 0).Litres.2)=((p1.Shares 0).Litres.2))) && true))) (some false) (((Qan ((p0.Shares 0).Rooms) ((p1.Shares 0).Rooms)).bind fun q7=>(cond (!q7) (some false) ((cond (!(decide (((p0.Shares 1).Group)=((p1.Shares 1).Group)))) (some false) ((cond (!((decide (((p0.Shares 1).Litres.1)=((p1.Shares 1).Litres.1))) && ((decide (((p0.Shares 1).Litres.2)=((p1.Shares 1).Litres.2))) && true))) (some false) (((Qan ((p0.Shares 1).Rooms) ((p1.Shares 1).Rooms)).bind fun q13=>(cond (!q13) (some false) ((cond (!(decide (((p0.Shares 2).Group)=((p1.Shares 2).Group)))) (some false) ((cond (!((decide (((p0.Shares 2).Litres.1)=((p1.Shares 2).Litres.1))) && ((decide (((p0.Shares 2).Litres.2)=((p1.Shares 2).Litres.2))) && true))) (some false) (((Qan ((p0.Shares 2).Rooms) ((p1.Shares 2).Rooms)).bind fun q19=>(cond (!q19) (some false) ((cond (!(decide (((p0.Shares 3).Group)=((p1.Shares 3).Group)))) (some false) ((cond (!((decide (((p0.Shares 3).Litres.1)=((p1.Shares 3).Litres.1))) && ((decide (((p0.Shares 3).Litres.2)=((p1.Shares 3).Litres.2))) && true))) (some false) (((Qan ((p0.Shares 3).Rooms) ((p1.Shares 3).Rooms)).bind fun q25=>(cond (!q25) (some false) ((cond (!(decide (((p0.Shares 4).Group)=((p1.Shares 4).Group)))) (some false) ((cond (!((decide (((p0.Shares 4).Litres.1)=((p1.Shares 4).Litres.1))) && ((decide (((p0.Shares 4).Litres.2)=((p1.Shares 4).Litres.2))) && true))) (some false) (((Qan ((p0.Shares 4).Rooms) ((p1.Shares 4).Rooms)).bind fun q31=>(cond (!q31) (some false) ((cond (decide (p0.Version=p1.Version)) (((Qan p0.Exempt p1.Exempt).bind fun q34=>some q34)) (some false)))))))))))))))))))))))))))))))))))))
set_option maxHeartbeats 1000000 in
theorem F_r04_SamePlan_ok (p0:T_Plan) (p1:T_Plan) (cs0 cs1:List V) (g:G) (h0:R_Plan g cs0 p0) (h1:R_Plan g cs1 p1) (r:Bool) (hF:Qbt p0 p1=some r):Fv Tryz.prog natS (.f 52 [] []) [.agg cs0,.agg cs1] g (.b r):=by
 refine Fw.fv ?_
 unfold Qbt at hF
 obtain ⟨v2_q0,v6_q0,v10_q0,v14_q0,v18_q0,v21_q0,rfl,h2_q0,h6_q0,h10_q0,h14_q0,h18_q0,h21_q0⟩:=h0
 obtain ⟨v2_q1,v6_q1,v10_q1,v14_q1,v18_q1,v21_q1,rfl,h2_q1,h6_q1,h10_q1,h14_q1,h18_q1,h21_q1⟩:=h1
 refine Fw.enter (N:=52) (al:=[(1,_),(0,_)]) Tryz.func52 (by kernel_rfl) (by kernel_rfl) rfl rfl rfl rfl ?_
 intro B
 refine .seq<|.region rfl<|.box .no rfl rfl rfl rfl fun b1=>.box .no rfl rfl rfl rfl fun b2=>.z rfl rfl<|.nil<|sq_n<|.seq<|.seq<|.region rfl<|.z rfl rfl<|.nil<|sq_n<|.block<|.unroll<|.seq<|.seq<|.region rfl<|.m rfl rfl<|.b rfl rfl rfl rfl<|.nil<|sq_n<|.condT rfl (by decide)<|.skip<|sq_n<|.seq<|.block<|.seq<|.region rfl<|.m rfl rfl<|.q (.fa rfl Qak)<|.q (.ixa (j:=0) rfl rfl ae_83 (by decide))<|.w (.a (vs:=[_,_,_,_]) rfl (.tl .hd) a_82 s_82 rfl rfl)<|.alloc .no rfl z_82 fun b3=>?_
 refine .st (cs':=[_,_,_,_]) .no rfl rfl rfl rfl s_82 rfl rfl .hd rfl (Qa rfl (Qa h2_q0.one (Qa rfl (Qa rfl rfl))))<|.nil<|sq_n<|.seq<|.region rfl<|.m rfl rfl<|.q (.fa rfl Qak)<|.q (.ixa (j:=0) rfl rfl ae_83 (by decide))<|.w (.a (vs:=[_,_,_,_]) rfl (.tl .hd) a_82 s_82 rfl rfl)<|.alloc .no rfl z_82 fun b4=>.st (cs':=[_,_,_,_]) .no rfl rfl rfl rfl s_82 rfl rfl .hd rfl (Qa rfl (Qa h2_q1.one (Qa rfl (Qa rfl rfl))))<|.nil<|sq_n<|.seq<|.region rfl<|.q (.fa rfl Qbz)<|.w (.s rfl (.tl .hd) a_3 rfl)<|.q (.fa rfl Qbz)<|.w (.s rfl .hd a_3 rfl)<|.b rfl rfl rfl rfl<|.m rfl rfl<|.split (t:=25) rfl (fun h5=>?_) (fun h5=>?_)
 ·have hF:=cT h5 hF
  refine .k h5<|.k h5<|.k h5<|.k h5<|.k h5<|.q (.pickT rfl h5 rfl)<|.m rfl rfl<|.k rfl<|.k rfl<|.k rfl<|.k rfl<|.k rfl<|.k rfl<|.q (.pickT rfl rfl rfl)<|.nil<|sq_n<|.condT rfl rfl<|.seq<|.region rfl<|.z rfl rfl<|.nil<|sq_n<|.ret<|bq_r<|sq_r<|sq_r<|bq_r<|sq_r ?_
  obtain rfl:=sI hF
  refine Qaa (Le.refl _) (.tmp rfl .nil) rfl ?_
  rfl
 have hF:=cF h5 hF
 refine .py h5 (.fa rfl Qaj)<|.wy h5 (.a (vs:=[_,_]) rfl (.tl .hd) a_27 s_27 rfl rfl)<|.py h5 (.fa rfl Qaj)<|.wy h5 (.a (vs:=[_,_]) rfl .hd a_27 s_27 rfl rfl)<|.py h5 (.binE rfl rfl (binV_neq (by kernel_rfl) (eq_27 _ _ _ _))) ?_
 refine .q (.pickF rfl h5 rfl)<|.m rfl rfl<|.split (t:=32) rfl (fun h6=>?_) (fun h6=>?_)
 ·have hF:=cT h6 hF
  refine .k h6<|.k h6<|.k h6<|.k h6<|.k h6<|.k h6<|.q (.pickT rfl h6 rfl)<|.nil<|sq_n<|.condT rfl rfl<|.seq<|.region rfl<|.z rfl rfl<|.nil<|sq_n<|.ret<|bq_r<|sq_r<|sq_r<|bq_r<|sq_r ?_
  obtain rfl:=sI hF
  refine Qaa (Le.refl _) (.tmp rfl .nil) rfl ?_
  rfl
 have hF:=cF h6 hF
 refine .py h6 (.fa rfl Qba)<|.wy h6 (.s rfl (.tl .hd) a_66 rfl)<|.py h6 (.fa rfl Qba)<|.wy h6 (.s rfl .hd a_66 rfl) ?_
 obtain ⟨q7,hq7,hF⟩:=bS hF
 refine .callV (.yes rfl rfl h6) rfl rfl rfl (Qav ((p0.Shares 0).Rooms) ((p1.Shares 0).Rooms) _ _ _ h2_q0 h2_q1 _ hq7)<|.py h6 (.not rfl)<|.q (.pickF rfl h6 rfl)<|.nil<|sq_n<|.cond rfl (fun h8=>?_) (fun h8=>?_)
 ·have hF:=cT h8 hF
  refine .seq<|.region rfl<|.z rfl rfl<|.nil<|sq_n<|.ret<|bq_r<|sq_r<|sq_r<|bq_r<|sq_r ?_
  obtain rfl:=sI hF
  refine Qaa (Le.refl _) (.tmp rfl .nil) rfl ?_
  rfl
 have hF:=cF h8 hF
 refine .skip<|bq_n<|sq_n<|.region rfl<|.m rfl rfl<|.q (.addL (c:=1) rfl rfl rfl (by decide))<|.z rfl rfl<|.nil<|sq_n<|.unroll<|.seq<|.seq<|.region rfl<|.m rfl rfl<|.b rfl rfl rfl rfl<|.nil<|sq_n<|.condT rfl (by decide)<|.skip<|sq_n<|.seq<|.block<|.seq<|.region rfl<|.m rfl rfl<|.q (.fa rfl Qak)<|.q (.ixa (j:=1) rfl rfl ae_83 (by decide))<|.w (.a (vs:=[_,_,_,_]) rfl (.tl (.tl (.tl .hd))) a_82 s_82 rfl rfl)<|.alloc .no rfl z_82 fun b9=>.st (cs':=[_,_,_,_]) .no rfl rfl rfl rfl s_82 rfl rfl .hd rfl (Qa rfl (Qa h6_q0.one (Qa rfl (Qa rfl rfl))))<|.nil<|sq_n<|.seq<|.region rfl<|.m rfl rfl<|.q (.fa rfl Qak) ?_
 refine .q (.ixa (j:=1) rfl rfl ae_83 (by decide))<|.w (.a (vs:=[_,_,_,_]) rfl (.tl (.tl (.tl .hd))) a_82 s_82 rfl rfl)<|.alloc .no rfl z_82 fun b10=>.st (cs':=[_,_,_,_]) .no rfl rfl rfl rfl s_82 rfl rfl .hd rfl (Qa rfl (Qa h6_q1.one (Qa rfl (Qa rfl rfl))))<|.nil<|sq_n<|.seq<|.region rfl<|.q (.fa rfl Qbz)<|.w (.s rfl (.tl .hd) a_3 rfl)<|.q (.fa rfl Qbz)<|.w (.s rfl .hd a_3 rfl)<|.b rfl rfl rfl rfl<|.m rfl rfl<|.split (t:=25) rfl (fun h11=>?_) (fun h11=>?_)
 ·have hF:=cT h11 hF
  refine .k h11<|.k h11<|.k h11<|.k h11<|.k h11<|.q (.pickT rfl h11 rfl)<|.m rfl rfl<|.k rfl<|.k rfl<|.k rfl<|.k rfl<|.k rfl<|.k rfl<|.q (.pickT rfl rfl rfl)<|.nil<|sq_n<|.condT rfl rfl<|.seq<|.region rfl<|.z rfl rfl<|.nil<|sq_n<|.ret<|bq_r<|sq_r<|sq_r<|bq_r<|sq_r ?_
  obtain rfl:=sI hF
  refine Qaa (Le.refl _) (.tmp rfl .nil) rfl ?_
  rfl
 have hF:=cF h11 hF
 refine .py h11 (.fa rfl Qaj)<|.wy h11 (.a (vs:=[_,_]) rfl (.tl .hd) a_27 s_27 rfl rfl)<|.py h11 (.fa rfl Qaj)<|.wy h11 (.a (vs:=[_,_]) rfl .hd a_27 s_27 rfl rfl)<|.py h11 (.binE rfl rfl (binV_neq (by kernel_rfl) (eq_27 _ _ _ _))) ?_
 refine .q (.pickF rfl h11 rfl)<|.m rfl rfl<|.split (t:=32) rfl (fun h12=>?_) (fun h12=>?_)
 ·have hF:=cT h12 hF
  refine .k h12<|.k h12<|.k h12<|.k h12<|.k h12<|.k h12<|.q (.pickT rfl h12 rfl)<|.nil<|sq_n<|.condT rfl rfl<|.seq<|.region rfl<|.z rfl rfl<|.nil<|sq_n<|.ret<|bq_r<|sq_r<|sq_r<|bq_r<|sq_r ?_
  obtain rfl:=sI hF
  refine Qaa (Le.refl _) (.tmp rfl .nil) rfl ?_
  rfl
 have hF:=cF h12 hF
 refine .py h12 (.fa rfl Qba)<|.wy h12 (.s rfl (.tl .hd) a_66 rfl)<|.py h12 (.fa rfl Qba)<|.wy h12 (.s rfl .hd a_66 rfl) ?_
 obtain ⟨q13,hq13,hF⟩:=bS hF
 refine .callV (.yes rfl rfl h12) rfl rfl rfl (Qav ((p0.Shares 1).Rooms) ((p1.Shares 1).Rooms) _ _ _ h6_q0 h6_q1 _ hq13)<|.py h12 (.not rfl)<|.q (.pickF rfl h12 rfl)<|.nil<|sq_n<|.cond rfl (fun h14=>?_) (fun h14=>?_)
 ·have hF:=cT h14 hF
  refine .seq<|.region rfl<|.z rfl rfl<|.nil<|sq_n<|.ret<|bq_r<|sq_r<|sq_r<|bq_r<|sq_r ?_
  obtain rfl:=sI hF
  refine Qaa (Le.refl _) (.tmp rfl .nil) rfl ?_
  rfl
 have hF:=cF h14 hF
 refine .skip<|bq_n<|sq_n<|.region rfl<|.m rfl rfl<|.q (.addL (c:=2) rfl rfl rfl (by decide))<|.z rfl rfl<|.nil<|sq_n<|.unroll<|.seq<|.seq<|.region rfl<|.m rfl rfl<|.b rfl rfl rfl rfl<|.nil<|sq_n<|.condT rfl (by decide)<|.skip<|sq_n<|.seq<|.block<|.seq<|.region rfl<|.m rfl rfl<|.q (.fa rfl Qak)<|.q (.ixa (j:=2) rfl rfl ae_83 (by decide))<|.w (.a (vs:=[_,_,_,_]) rfl (.tl (.tl (.tl (.tl (.tl .hd))))) a_82 s_82 rfl rfl)<|.alloc .no rfl z_82 fun b15=>.st (cs':=[_,_,_,_]) .no rfl rfl rfl rfl s_82 rfl rfl .hd rfl (Qa rfl (Qa h10_q0.one (Qa rfl (Qa rfl rfl))))<|.nil<|sq_n<|.seq<|.region rfl<|.m rfl rfl<|.q (.fa rfl Qak) ?_
 refine .q (.ixa (j:=2) rfl rfl ae_83 (by decide))<|.w (.a (vs:=[_,_,_,_]) rfl (.tl (.tl (.tl (.tl (.tl .hd))))) a_82 s_82 rfl rfl)<|.alloc .no rfl z_82 fun b16=>.st (cs':=[_,_,_,_]) .no rfl rfl rfl rfl s_82 rfl rfl .hd rfl (Qa rfl (Qa h10_q1.one (Qa rfl (Qa rfl rfl))))<|.nil<|sq_n<|.seq<|.region rfl<|.q (.fa rfl Qbz)<|.w (.s rfl (.tl .hd) a_3 rfl)<|.q (.fa rfl Qbz)<|.w (.s rfl .hd a_3 rfl)<|.b rfl rfl rfl rfl<|.m rfl rfl<|.split (t:=25) rfl (fun h17=>?_) (fun h17=>?_)
 ·have hF:=cT h17 hF
  refine .k h17<|.k h17<|.k h17<|.k h17<|.k h17<|.q (.pickT rfl h17 rfl)<|.m rfl rfl<|.k rfl<|.k rfl<|.k rfl<|.k rfl<|.k rfl<|.k rfl<|.q (.pickT rfl rfl rfl)<|.nil<|sq_n<|.condT rfl rfl<|.seq<|.region rfl<|.z rfl rfl<|.nil<|sq_n<|.ret<|bq_r<|sq_r<|sq_r<|bq_r<|sq_r ?_
  obtain rfl:=sI hF
  refine Qaa (Le.refl _) (.tmp rfl .nil) rfl ?_
  rfl
 have hF:=cF h17 hF
 refine .py h17 (.fa rfl Qaj)<|.wy h17 (.a (vs:=[_,_]) rfl (.tl .hd) a_27 s_27 rfl rfl)<|.py h17 (.fa rfl Qaj)<|.wy h17 (.a (vs:=[_,_]) rfl .hd a_27 s_27 rfl rfl)<|.py h17 (.binE rfl rfl (binV_neq (by kernel_rfl) (eq_27 _ _ _ _))) ?_
 refine .q (.pickF rfl h17 rfl)<|.m rfl rfl<|.split (t:=32) rfl (fun h18=>?_) (fun h18=>?_)
 ·have hF:=cT h18 hF
  refine .k h18<|.k h18<|.k h18<|.k h18<|.k h18<|.k h18<|.q (.pickT rfl h18 rfl)<|.nil<|sq_n<|.condT rfl rfl<|.seq<|.region rfl<|.z rfl rfl<|.nil<|sq_n<|.ret<|bq_r<|sq_r<|sq_r<|bq_r<|sq_r ?_
  obtain rfl:=sI hF
  refine Qaa (Le.refl _) (.tmp rfl .nil) rfl ?_
  rfl
 have hF:=cF h18 hF
 refine .py h18 (.fa rfl Qba)<|.wy h18 (.s rfl (.tl .hd) a_66 rfl)<|.py h18 (.fa rfl Qba)<|.wy h18 (.s rfl .hd a_66 rfl) ?_
 obtain ⟨q19,hq19,hF⟩:=bS hF
 refine .callV (.yes rfl rfl h18) rfl rfl rfl (Qav ((p0.Shares 2).Rooms) ((p1.Shares 2).Rooms) _ _ _ h10_q0 h10_q1 _ hq19)<|.py h18 (.not rfl)<|.q (.pickF rfl h18 rfl)<|.nil<|sq_n<|.cond rfl (fun h20=>?_) (fun h20=>?_)
 ·have hF:=cT h20 hF
  refine .seq<|.region rfl<|.z rfl rfl<|.nil<|sq_n<|.ret<|bq_r<|sq_r<|sq_r<|bq_r<|sq_r ?_
  obtain rfl:=sI hF
  refine Qaa (Le.refl _) (.tmp rfl .nil) rfl ?_
  rfl
 have hF:=cF h20 hF
 refine .skip<|bq_n<|sq_n<|.region rfl<|.m rfl rfl<|.q (.addL (c:=3) rfl rfl rfl (by decide))<|.z rfl rfl<|.nil<|sq_n<|.unroll<|.seq<|.seq<|.region rfl<|.m rfl rfl<|.b rfl rfl rfl rfl<|.nil<|sq_n<|.condT rfl (by decide)<|.skip<|sq_n<|.seq<|.block<|.seq<|.region rfl<|.m rfl rfl<|.q (.fa rfl Qak)<|.q (.ixa (j:=3) rfl rfl ae_83 (by decide))<|.w (.a (vs:=[_,_,_,_]) rfl (.tl (.tl (.tl (.tl (.tl (.tl (.tl .hd))))))) a_82 s_82 rfl rfl)<|.alloc .no rfl z_82 fun b21=>.st (cs':=[_,_,_,_]) .no rfl rfl rfl rfl s_82 rfl rfl .hd rfl (Qa rfl (Qa h14_q0.one (Qa rfl (Qa rfl rfl))))<|.nil<|sq_n<|.seq<|.region rfl<|.m rfl rfl<|.q (.fa rfl Qak) ?_
 refine .q (.ixa (j:=3) rfl rfl ae_83 (by decide))<|.w (.a (vs:=[_,_,_,_]) rfl (.tl (.tl (.tl (.tl (.tl (.tl (.tl .hd))))))) a_82 s_82 rfl rfl)<|.alloc .no rfl z_82 fun b22=>.st (cs':=[_,_,_,_]) .no rfl rfl rfl rfl s_82 rfl rfl .hd rfl (Qa rfl (Qa h14_q1.one (Qa rfl (Qa rfl rfl))))<|.nil<|sq_n<|.seq<|.region rfl<|.q (.fa rfl Qbz)<|.w (.s rfl (.tl .hd) a_3 rfl)<|.q (.fa rfl Qbz)<|.w (.s rfl .hd a_3 rfl)<|.b rfl rfl rfl rfl<|.m rfl rfl<|.split (t:=25) rfl (fun h23=>?_) (fun h23=>?_)
 ·have hF:=cT h23 hF
  refine .k h23<|.k h23<|.k h23<|.k h23<|.k h23<|.q (.pickT rfl h23 rfl)<|.m rfl rfl<|.k rfl<|.k rfl<|.k rfl<|.k rfl<|.k rfl<|.k rfl<|.q (.pickT rfl rfl rfl)<|.nil<|sq_n<|.condT rfl rfl<|.seq<|.region rfl<|.z rfl rfl<|.nil<|sq_n<|.ret<|bq_r<|sq_r<|sq_r<|bq_r<|sq_r ?_
  obtain rfl:=sI hF
  refine Qaa (Le.refl _) (.tmp rfl .nil) rfl ?_
  rfl
 have hF:=cF h23 hF
 refine .py h23 (.fa rfl Qaj)<|.wy h23 (.a (vs:=[_,_]) rfl (.tl .hd) a_27 s_27 rfl rfl)<|.py h23 (.fa rfl Qaj)<|.wy h23 (.a (vs:=[_,_]) rfl .hd a_27 s_27 rfl rfl)<|.py h23 (.binE rfl rfl (binV_neq (by kernel_rfl) (eq_27 _ _ _ _))) ?_
 refine .q (.pickF rfl h23 rfl)<|.m rfl rfl<|.split (t:=32) rfl (fun h24=>?_) (fun h24=>?_)
 ·have hF:=cT h24 hF
  refine .k h24<|.k h24<|.k h24<|.k h24<|.k h24<|.k h24<|.q (.pickT rfl h24 rfl)<|.nil<|sq_n<|.condT rfl rfl<|.seq<|.region rfl<|.z rfl rfl<|.nil<|sq_n<|.ret<|bq_r<|sq_r<|sq_r<|bq_r<|sq_r ?_
  obtain rfl:=sI hF
  refine Qaa (Le.refl _) (.tmp rfl .nil) rfl ?_
  rfl
 have hF:=cF h24 hF
 refine .py h24 (.fa rfl Qba)<|.wy h24 (.s rfl (.tl .hd) a_66 rfl)<|.py h24 (.fa rfl Qba)<|.wy h24 (.s rfl .hd a_66 rfl) ?_
 obtain ⟨q25,hq25,hF⟩:=bS hF
 refine .callV (.yes rfl rfl h24) rfl rfl rfl (Qav ((p0.Shares 3).Rooms) ((p1.Shares 3).Rooms) _ _ _ h14_q0 h14_q1 _ hq25)<|.py h24 (.not rfl)<|.q (.pickF rfl h24 rfl)<|.nil<|sq_n<|.cond rfl (fun h26=>?_) (fun h26=>?_)
 ·have hF:=cT h26 hF
  refine .seq<|.region rfl<|.z rfl rfl<|.nil<|sq_n<|.ret<|bq_r<|sq_r<|sq_r<|bq_r<|sq_r ?_
  obtain rfl:=sI hF
  refine Qaa (Le.refl _) (.tmp rfl .nil) rfl ?_
  rfl
 have hF:=cF h26 hF
 refine .skip<|bq_n<|sq_n<|.region rfl<|.m rfl rfl<|.q (.addL (c:=4) rfl rfl rfl (by decide))<|.z rfl rfl<|.nil<|sq_n<|.unroll<|.seq<|.seq<|.region rfl<|.m rfl rfl<|.b rfl rfl rfl rfl<|.nil<|sq_n<|.condT rfl (by decide)<|.skip<|sq_n<|.seq<|.block<|.seq<|.region rfl<|.m rfl rfl<|.q (.fa rfl Qak)<|.q (.ixa (j:=4) rfl rfl ae_83 (by decide))<|.w (.a (vs:=[_,_,_,_]) rfl (.tl (.tl (.tl (.tl (.tl (.tl (.tl (.tl (.tl .hd))))))))) a_82 s_82 rfl rfl)<|.alloc .no rfl z_82 fun b27=>.st (cs':=[_,_,_,_]) .no rfl rfl rfl rfl s_82 rfl rfl .hd rfl (Qa rfl (Qa h18_q0.one (Qa rfl (Qa rfl rfl))))<|.nil<|sq_n<|.seq<|.region rfl<|.m rfl rfl<|.q (.fa rfl Qak) ?_
 refine .q (.ixa (j:=4) rfl rfl ae_83 (by decide))<|.w (.a (vs:=[_,_,_,_]) rfl (.tl (.tl (.tl (.tl (.tl (.tl (.tl (.tl (.tl .hd))))))))) a_82 s_82 rfl rfl)<|.alloc .no rfl z_82 fun b28=>.st (cs':=[_,_,_,_]) .no rfl rfl rfl rfl s_82 rfl rfl .hd rfl (Qa rfl (Qa h18_q1.one (Qa rfl (Qa rfl rfl))))<|.nil<|sq_n<|.seq<|.region rfl<|.q (.fa rfl Qbz)<|.w (.s rfl (.tl .hd) a_3 rfl)<|.q (.fa rfl Qbz)<|.w (.s rfl .hd a_3 rfl)<|.b rfl rfl rfl rfl<|.m rfl rfl<|.split (t:=25) rfl (fun h29=>?_) (fun h29=>?_)
 ·have hF:=cT h29 hF
  refine .k h29<|.k h29<|.k h29<|.k h29<|.k h29<|.q (.pickT rfl h29 rfl)<|.m rfl rfl<|.k rfl<|.k rfl<|.k rfl<|.k rfl<|.k rfl<|.k rfl<|.q (.pickT rfl rfl rfl)<|.nil<|sq_n<|.condT rfl rfl<|.seq<|.region rfl<|.z rfl rfl<|.nil<|sq_n<|.ret<|bq_r<|sq_r<|sq_r<|bq_r<|sq_r ?_
  obtain rfl:=sI hF
  refine Qaa (Le.refl _) (.tmp rfl .nil) rfl ?_
  rfl
 have hF:=cF h29 hF
 refine .py h29 (.fa rfl Qaj)<|.wy h29 (.a (vs:=[_,_]) rfl (.tl .hd) a_27 s_27 rfl rfl)<|.py h29 (.fa rfl Qaj)<|.wy h29 (.a (vs:=[_,_]) rfl .hd a_27 s_27 rfl rfl)<|.py h29 (.binE rfl rfl (binV_neq (by kernel_rfl) (eq_27 _ _ _ _))) ?_
 refine .q (.pickF rfl h29 rfl)<|.m rfl rfl<|.split (t:=32) rfl (fun h30=>?_) (fun h30=>?_)
 ·have hF:=cT h30 hF
  refine .k h30<|.k h30<|.k h30<|.k h30<|.k h30<|.k h30<|.q (.pickT rfl h30 rfl)<|.nil<|sq_n<|.condT rfl rfl<|.seq<|.region rfl<|.z rfl rfl<|.nil<|sq_n<|.ret<|bq_r<|sq_r<|sq_r<|bq_r<|sq_r ?_
  obtain rfl:=sI hF
  refine Qaa (Le.refl _) (.tmp rfl .nil) rfl ?_
  rfl
 have hF:=cF h30 hF
 refine .py h30 (.fa rfl Qba)<|.wy h30 (.s rfl (.tl .hd) a_66 rfl)<|.py h30 (.fa rfl Qba)<|.wy h30 (.s rfl .hd a_66 rfl) ?_
 obtain ⟨q31,hq31,hF⟩:=bS hF
 refine .callV (.yes rfl rfl h30) rfl rfl rfl (Qav ((p0.Shares 4).Rooms) ((p1.Shares 4).Rooms) _ _ _ h18_q0 h18_q1 _ hq31)<|.py h30 (.not rfl)<|.q (.pickF rfl h30 rfl)<|.nil<|sq_n<|.cond rfl (fun h32=>?_) (fun h32=>?_)
 ·have hF:=cT h32 hF
  refine .seq<|.region rfl<|.z rfl rfl<|.nil<|sq_n<|.ret<|bq_r<|sq_r<|sq_r<|bq_r<|sq_r ?_
  obtain rfl:=sI hF
  refine Qaa (Le.refl _) (.tmp rfl .nil) rfl ?_
  rfl
 have hF:=cF h32 hF
 refine .skip<|bq_n<|sq_n<|.region rfl<|.m rfl rfl<|.q (.addL (c:=5) rfl rfl rfl (by decide))<|.z rfl rfl<|.nil<|sq_n<|.unroll<|.seq<|.seq<|.region rfl<|.m rfl rfl<|.b rfl rfl rfl rfl<|.nil<|sq_n<|.condF rfl (by decide)<|.exit<|sq_e<|sq_e<|bq_x rfl<|sq_n<|.seq<|.region rfl<|.q (.fa rfl f_85_0)<|.w (.s rfl (.tl (.tl (.tl (.tl (.tl (.tl (.tl (.tl (.tl (.tl (.tl .hd))))))))))) a_3 rfl)<|.q (.fa rfl f_85_0)<|.w (.s rfl (.tl (.tl (.tl (.tl (.tl (.tl (.tl (.tl (.tl (.tl .hd)))))))))) a_3 rfl)<|.b rfl rfl rfl rfl<|.m rfl rfl<|.split (t:=45) rfl (fun h33=>?_) (fun h33=>?_)
 ·have hF:=cT h33 hF
  refine .py h33 (.fa rfl f_85_2)<|.wy h33 (.s rfl (.tl (.tl (.tl (.tl (.tl (.tl (.tl (.tl (.tl (.tl (.tl .hd))))))))))) a_66 rfl)<|.py h33 (.fa rfl f_85_2)<|.wy h33 (.s rfl (.tl (.tl (.tl (.tl (.tl (.tl (.tl (.tl (.tl (.tl .hd)))))))))) a_66 rfl) ?_
  obtain ⟨q34,hq34,hF⟩:=bS hF
  refine .callV (.yes rfl rfl h33) rfl rfl rfl (Qav p0.Exempt p1.Exempt _ _ _ h21_q0 h21_q1 _ hq34)<|.q (.pickT rfl h33 rfl)<|.z rfl rfl<|.nil<|sq_n<|.ret ?_
  obtain rfl:=sI hF
  refine Qaa (Le.refl _) (.tmp rfl .nil) rfl ?_
  rfl
 have hF:=cF h33 hF
 refine .k h33<|.k h33<|.k h33<|.k h33<|.k h33<|.q (.pickF rfl h33 rfl)<|.z rfl rfl<|.nil<|sq_n<|.ret ?_
 obtain rfl:=sI hF
 refine Qaa (Le.refl _) (.tmp rfl .nil) rfl ?_
 rfl
structure L_l04_CodePlans_1 where
 k1_1:Nat
def Qaq (p0:Code) (p2:(Nat→Int)):List Room→Nat→Option ((Bool) ⊕ (Unit))
 | [],k1_1=>some ((Sum.inr ()))
 | y1 :: ys1,k1_1=>((Qcy p0 (p2 0) y1).bind fun q18=>((Qdc p0 (p2 0) y1).bind fun q20=>(cond (!(decide (q18.1=q20.1))) (some ((Sum.inl false))) ((cond (!(decide (q18.2.1=q20.2.1))) (some ((Sum.inl false))) ((cond (!(decide (q18.2.2=q20.2.2))) (some ((Sum.inl false))) (Qaq p0 p2 ys1 (k1_1+1)))))))))
def Qcb (p0:Code) (p1:T_Ask) (p2:(Nat→Int)):Option (Bool):=((Qbr p0 p1.Day p1.Rooms).bind fun q4=>((Qcd p0 p1.Day p1.Rooms).bind fun q6=>((Qcw p0 (p2 0) (p2 1) p1.Rooms).bind fun q8=>((Qdg p0 (p2 0) (p2 1) p1.Rooms).bind fun q9=>((Qbt q4.1 q6.1).bind fun q10=>(cond (!q10) (some false) ((cond (!(decide (q4.2=q6.2))) (some false) (((Qan q8.1 q9.1).bind fun q13=>(cond (!q13) (some false) ((cond (!(decide (q8.2=q9.2))) (some false) (((Qaq p0 p2 p1.Rooms 0).bind fun o=>match o with | (Sum.inl q)=>(some q) | (Sum.inr _)=>(some true))))))))))))))))
set_option maxHeartbeats 1000000 in
theorem F_l04_CodePlans_ok (p0:Code) (p1:T_Ask) (p2:(Nat→Int)) (cs0 cs1:List V) (g:G) (h0:CodeR g cs0 p0) (h1:R_Ask g cs1 p1) (r:Bool) (hF:Qcb p0 p1 p2=some r):Fv Tryz.prog natS (.f 9 [] []) [.agg cs0,.agg cs1,.agg [.i .i64 (p2 0),.i .i64 (p2 1)]] g (.b r):=by
 refine Fw.fv ?_
 unfold Qcb at hF
 obtain ⟨vq0,rfl,hcq0⟩:=h0
 have lh0_1:=hcq0.1
 obtain ⟨v2_q1,rfl,h2_q1⟩:=h1
 have lh1_2:=h2_q1.1
 refine Fw.enter (N:=129) (al:=[(2,_),(1,_),(0,_)]) Tryz.func9 (by kernel_rfl) (by kernel_rfl) rfl rfl rfl rfl ?_
 intro B
 refine .seq<|.region rfl<|.box .no rfl rfl rfl rfl fun b1=>.box .no rfl rfl rfl rfl fun b2=>.box .no rfl rfl rfl rfl fun b3=>.z rfl rfl<|.nil<|sq_n<|.seq<|.region rfl<|.w (.a (vs:=[_,_]) rfl (.tl (.tl .hd)) a_24 s_24 rfl rfl)<|.q (.fa rfl f_37_0)<|.w (.s rfl (.tl .hd) a_3 rfl)<|.q (.fa rfl f_37_2)<|.w (.s rfl (.tl .hd) a_25 rfl) ?_
 obtain ⟨q4,hq4,hF⟩:=bS hF
 refine .call .no rfl rfl rfl (F_code_Compile_ok p0 p1.Day p1.Rooms _ _ _ ⟨_,rfl,hcq0⟩ h2_q1 _ hq4) ?_
 rintro g4 ml4 r4 hle4 ⟨rfl,cs4_0,rfl,⟨v2_4_0,v6_4_0,v10_4_0,v14_4_0,v18_4_0,v21_4_0,rfl,h2_4_0,h6_4_0,h10_4_0,h14_4_0,h18_4_0,h21_4_0⟩⟩
 replace hcq0:=hcq0.mono VersionR.mono hle4
 replace h2_q1:=h2_q1.mono RoomR.mono hle4
 have lh4_0_2:=h2_4_0.1
 have lh4_0_6:=h6_4_0.1
 have lh4_0_10:=h10_4_0.1
 have lh4_0_14:=h14_4_0.1
 have lh4_0_18:=h18_4_0.1
 have lh4_0_21:=h21_4_0.1
 refine .m rfl rfl<|.q (.ext rfl rfl)<|.q (.ext rfl rfl)<|.alloc .no rfl z_85 fun b5=>.st (cs':=[_,_,_,_,_,_,_,_,_,_,_,_,_,_,_,_,_,_,_,_,_,_]) .no rfl rfl rfl rfl s_85 rfl rfl .hd rfl (Qa rfl (Qa rfl (Qa h2_4_0.one (Qa rfl (Qa rfl (Qa rfl (Qa h6_4_0.one (Qa rfl (Qa rfl (Qa rfl (Qa h10_4_0.one (Qa rfl (Qa rfl (Qa rfl (Qa h14_4_0.one (Qa rfl (Qa rfl (Qa rfl (Qa h18_4_0.one (Qa rfl (Qa rfl (Qa h21_4_0.one rfl))))))))))))))))))))))<|.z rfl rfl<|.nil<|sq_n<|.seq<|.region rfl<|.w (.a (vs:=[_,_]) rfl (.tl (.tl (.tl .hd))) a_24 s_24 rfl rfl)<|.q (.fa rfl f_37_0)<|.w (.s rfl (.tl (.tl .hd)) a_3 rfl)<|.q (.fa rfl f_37_2)<|.w (.s rfl (.tl (.tl .hd)) a_25 rfl) ?_
 obtain ⟨q6,hq6,hF⟩:=bS hF
 refine .call .no rfl rfl rfl (F_r04_Compile_ok p0 p1.Day p1.Rooms _ _ _ ⟨_,rfl,hcq0⟩ h2_q1 _ hq6) ?_
 rintro g6 ml6 r6 hle6 ⟨rfl,cs6_0,rfl,⟨v2_6_0,v6_6_0,v10_6_0,v14_6_0,v18_6_0,v21_6_0,rfl,h2_6_0,h6_6_0,h10_6_0,h14_6_0,h18_6_0,h21_6_0⟩⟩
 replace hcq0:=hcq0.mono VersionR.mono hle6
 replace h2_q1:=h2_q1.mono RoomR.mono hle6
 replace h2_4_0:=h2_4_0.mono IntR.mono hle6
 replace h6_4_0:=h6_4_0.mono IntR.mono hle6
 replace h10_4_0:=h10_4_0.mono IntR.mono hle6
 replace h14_4_0:=h14_4_0.mono IntR.mono hle6
 replace h18_4_0:=h18_4_0.mono IntR.mono hle6
 replace h21_4_0:=h21_4_0.mono IntR.mono hle6
 have lh6_0_2:=h2_6_0.1
 have lh6_0_6:=h6_6_0.1
 have lh6_0_10:=h10_6_0.1
 have lh6_0_14:=h14_6_0.1
 have lh6_0_18:=h18_6_0.1
 have lh6_0_21:=h21_6_0.1
 refine .m rfl rfl<|.q (.ext rfl rfl)<|.q (.ext rfl rfl)<|.alloc .no rfl z_85 fun b7=>.st (cs':=[_,_,_,_,_,_,_,_,_,_,_,_,_,_,_,_,_,_,_,_,_,_]) .no rfl rfl rfl rfl s_85 rfl rfl .hd rfl (Qa rfl (Qa rfl (Qa h2_6_0.one (Qa rfl (Qa rfl (Qa rfl (Qa h6_6_0.one (Qa rfl (Qa rfl (Qa rfl (Qa h10_6_0.one (Qa rfl (Qa rfl (Qa rfl (Qa h14_6_0.one (Qa rfl (Qa rfl (Qa rfl (Qa h18_6_0.one (Qa rfl (Qa rfl (Qa h21_6_0.one rfl))))))))))))))))))))))<|.z rfl rfl<|.nil<|sq_n<|.seq<|.region rfl<|.w (.a (vs:=[_,_]) rfl (.tl (.tl (.tl (.tl .hd)))) a_24 s_24 rfl rfl)<|.q (.ixa (j:=0) rfl rfl ae_53 (by decide))<|.w (.s rfl (.tl (.tl .hd)) a_3 rfl)<|.q (.ixa (j:=1) rfl rfl ae_53 (by decide))<|.w (.s rfl (.tl (.tl .hd)) a_3 rfl)<|.q (.fa rfl f_37_2)<|.w (.s rfl (.tl (.tl (.tl .hd))) a_25 rfl) ?_
 obtain ⟨q8,hq8,hF⟩:=bS hF
 refine .call .no rfl rfl rfl (F_code_Moved_ok p0 (p2 0) (p2 1) p1.Rooms _ _ _ ⟨_,rfl,hcq0⟩ h2_q1 _ hq8) ?_
 rintro g8 ml8 r8 hle8 ⟨rfl,w8_0_0,rfl,hw8_0_0⟩
 replace hcq0:=hcq0.mono VersionR.mono hle8
 replace h2_q1:=h2_q1.mono RoomR.mono hle8
 replace h2_4_0:=h2_4_0.mono IntR.mono hle8
 replace h6_4_0:=h6_4_0.mono IntR.mono hle8
 replace h10_4_0:=h10_4_0.mono IntR.mono hle8
 replace h14_4_0:=h14_4_0.mono IntR.mono hle8
 replace h18_4_0:=h18_4_0.mono IntR.mono hle8
 replace h21_4_0:=h21_4_0.mono IntR.mono hle8
 replace h2_6_0:=h2_6_0.mono IntR.mono hle8
 replace h6_6_0:=h6_6_0.mono IntR.mono hle8
 replace h10_6_0:=h10_6_0.mono IntR.mono hle8
 replace h14_6_0:=h14_6_0.mono IntR.mono hle8
 replace h18_6_0:=h18_6_0.mono IntR.mono hle8
 replace h21_6_0:=h21_6_0.mono IntR.mono hle8
 have lhw8_0_0:=hw8_0_0.1
 refine .m rfl rfl<|.q (.ext rfl rfl)<|.q (.ext rfl rfl)<|.z rfl rfl<|.z rfl rfl<|.nil<|sq_n<|.seq<|.region rfl<|.w (.a (vs:=[_,_]) rfl (.tl (.tl (.tl (.tl .hd)))) a_24 s_24 rfl rfl)<|.q (.ixa (j:=0) rfl rfl ae_53 (by decide))<|.w (.s rfl (.tl (.tl .hd)) a_3 rfl)<|.q (.ixa (j:=1) rfl rfl ae_53 (by decide))<|.w (.s rfl (.tl (.tl .hd)) a_3 rfl)<|.q (.fa rfl f_37_2)<|.w (.s rfl (.tl (.tl (.tl .hd))) a_25 rfl) ?_
 obtain ⟨q9,hq9,hF⟩:=bS hF
 refine .call .no rfl rfl rfl (F_r04_Moved_ok p0 (p2 0) (p2 1) p1.Rooms _ _ _ ⟨_,rfl,hcq0⟩ h2_q1 _ hq9) ?_
 rintro g9 ml9 r9 hle9 ⟨rfl,w9_0_0,rfl,hw9_0_0⟩
 replace hcq0:=hcq0.mono VersionR.mono hle9
 replace h2_q1:=h2_q1.mono RoomR.mono hle9
 replace h2_4_0:=h2_4_0.mono IntR.mono hle9
 replace h6_4_0:=h6_4_0.mono IntR.mono hle9
 replace h10_4_0:=h10_4_0.mono IntR.mono hle9
 replace h14_4_0:=h14_4_0.mono IntR.mono hle9
 replace h18_4_0:=h18_4_0.mono IntR.mono hle9
 replace h21_4_0:=h21_4_0.mono IntR.mono hle9
 replace h2_6_0:=h2_6_0.mono IntR.mono hle9
 replace h6_6_0:=h6_6_0.mono IntR.mono hle9
 replace h10_6_0:=h10_6_0.mono IntR.mono hle9
 replace h14_6_0:=h14_6_0.mono IntR.mono hle9
 replace h18_6_0:=h18_6_0.mono IntR.mono hle9
 replace h21_6_0:=h21_6_0.mono IntR.mono hle9
 replace hw8_0_0:=hw8_0_0.mono IntR.mono hle9
 have lhw9_0_0:=hw9_0_0.1
 refine .m rfl rfl<|.q (.ext rfl rfl)<|.q (.ext rfl rfl)<|.z rfl rfl<|.z rfl rfl<|.nil<|sq_n<|.seq<|.seq<|.region rfl<|.w (.a (vs:=[_,_,_,_,_,_,_,_,_,_,_,_,_,_,_,_,_,_,_,_,_,_]) rfl (.tl .hd) a_85 s_85 rfl rfl)<|.w (.a (vs:=[_,_,_,_,_,_,_,_,_,_,_,_,_,_,_,_,_,_,_,_,_,_]) rfl .hd a_85 s_85 rfl rfl) ?_
 obtain ⟨q10,hq10,hF⟩:=bS hF
 refine .callV .no rfl rfl rfl (F_r04_SamePlan_ok q4.1 q6.1 _ _ _ ⟨_,_,_,_,_,_,rfl,h2_4_0,h6_4_0,h10_4_0,h14_4_0,h18_4_0,h21_4_0⟩ ⟨_,_,_,_,_,_,rfl,h2_6_0,h6_6_0,h10_6_0,h14_6_0,h18_6_0,h21_6_0⟩ _ hq10)<|.q (.not rfl)<|.m rfl rfl<|.split (t:=66) rfl (fun h11=>?_) (fun h11=>?_)
 ·have hF:=cT h11 hF
  refine .k h11<|.k h11<|.k h11<|.q (.pickT rfl h11 rfl)<|.m rfl rfl<|.k rfl<|.k rfl<|.k rfl<|.k rfl<|.q (.pickT rfl rfl rfl)<|.m rfl rfl<|.k rfl<|.k rfl<|.k rfl<|.q (.pickT rfl rfl rfl)<|.nil<|sq_n<|.condT rfl rfl<|.seq<|.region rfl<|.z rfl rfl<|.nil<|sq_n<|.ret<|sq_r ?_
  obtain rfl:=sI hF
  refine Qaa (((hle4.trans hle6).trans hle8).trans hle9) (.tmp rfl .nil) rfl ?_
  rfl
 have kh11:=h11
 have hF:=cF h11 hF
 refine .py h11 (.move rfl)<|.py h11 (.move rfl)<|.py h11 (.bin rfl rfl rfl)<|.q (.pickF rfl h11 rfl)<|.m rfl rfl<|.split (t:=71) rfl (fun h12=>?_) (fun h12=>?_)
 ·have hF:=cT h12 hF
  refine .k h12<|.k h12<|.k h12<|.k h12<|.q (.pickT rfl h12 rfl)<|.m rfl rfl<|.k rfl<|.k rfl<|.k rfl<|.q (.pickT rfl rfl rfl)<|.nil<|sq_n<|.condT rfl rfl<|.seq<|.region rfl<|.z rfl rfl<|.nil<|sq_n<|.ret<|sq_r ?_
  obtain rfl:=sI hF
  refine Qaa (((hle4.trans hle6).trans hle8).trans hle9) (.tmp rfl .nil) rfl ?_
  rfl
 have kh12:=dT (nF h12)
 have hF:=cF h12 hF
 refine .py h12 (.move rfl)<|.py h12 (.move rfl) ?_
 obtain ⟨q13,hq13,hF⟩:=bS hF
 refine .callV (.yes rfl rfl h12) rfl rfl rfl (Qav q8.1 q9.1 _ _ _ hw8_0_0 hw9_0_0 _ hq13)<|.py h12 (.not rfl)<|.q (.pickF rfl h12 rfl)<|.m rfl rfl<|.split (t:=77) rfl (fun h14=>?_) (fun h14=>?_)
 ·have hF:=cT h14 hF
  refine .k h14<|.k h14<|.k h14<|.q (.pickT rfl h14 rfl)<|.nil<|sq_n<|.condT rfl rfl<|.seq<|.region rfl<|.z rfl rfl<|.nil<|sq_n<|.ret<|sq_r ?_
  obtain rfl:=sI hF
  refine Qaa (((hle4.trans hle6).trans hle8).trans hle9) (.tmp rfl .nil) rfl ?_
  rfl
 have kh14:=h14
 have hF:=cF h14 hF
 refine .py h14 (.move rfl)<|.py h14 (.move rfl)<|.py h14 (.bin rfl rfl rfl)<|.q (.pickF rfl h14 rfl)<|.nil<|sq_n<|.cond rfl (fun h15=>?_) (fun h15=>?_)
 ·have hF:=cT h15 hF
  refine .seq<|.region rfl<|.z rfl rfl<|.nil<|sq_n<|.ret<|sq_r ?_
  obtain rfl:=sI hF
  refine Qaa (((hle4.trans hle6).trans hle8).trans hle9) (.tmp rfl .nil) rfl ?_
  rfl
 have kh15:=dT (nF h15)
 have hF:=cF h15 hF
 refine .skip<|sq_n<|.seq<|.seq<|.region rfl<|.z rfl rfl<|.nil<|sq_n<|.block ?_
 obtain ⟨o1,hF,hG1⟩:=bS hF
 refine .loopx (α:=L_l04_CodePlans_1) [(3,_),(4,_),(5,_)] _ (fun fx x=>(15,.i .i64 (x.k1_1:Int)) :: fx) (fun mx _=>mx) (fun x g'=>x.k1_1≤p1.Rooms.length∧Qaq p0 p2 (p1.Rooms.drop x.k1_1) x.k1_1=some o1) (fun x=>p1.Rooms.length - x.k1_1) (L_l04_CodePlans_1.mk 0) ⟨rfl,rfl,rfl,rfl,trivial⟩ (List.Sublist.refl _) ⟨(by first | omega | (dsimp only;omega)),hF⟩ ?_
 intro x1 gl1 hlo1 hJ1
 obtain ⟨k1_1⟩:=x1
 try dsimp only at hJ1
 obtain ⟨hk1,hF⟩:=hJ1
 refine .al0 [(15,.i .i64 (k1_1:Int)),(3,_),(4,_),(5,_)] ?_
 replace hcq0:=hcq0.mono VersionR.mono hlo1
 replace h2_q1:=h2_q1.mono RoomR.mono hlo1
 refine .seq<|.seq<|.region rfl<|.m rfl rfl<|.q (.fa rfl f_37_2)<|.w (.s rfl (.tl (.tl (.tl .hd))) a_25 rfl)<|.q (.lenR rfl rfl rfl e_25 h2_q1)<|.b rfl rfl rfl rfl<|.nil<|sq_n<|.cond rfl (fun h16=>?_) (fun h16=>?_)
 ·have kh16:=dT h16
  obtain ⟨y1,hy1⟩:=getK (l:=p1.Rooms) (k:=k1_1) kh16
  rw [dc hy1,Qaq] at hF
  refine .skip<|sq_n<|.seq<|.block<|.seq<|.draw (tb:=[r0 0 0,r0 0 0,r0 2 0,r0 0 0,r0 8 0,r0 0 0,r0 56 0,r0 120 0,r1 255 0,r1 511 1,r1 1023 1,r1 1023 1,r1 1023 1,r1 2047 1,r1 12287 1,r1 32767 1]) rfl (by kernel_rfl) (by kernel_rfl) fun k0=>?_
  refine .y rfl rfl rfl (.a (vs:=[_,_]) rfl (.tl (.tl (.tl (.tl .hd)))) a_24 s_24 rfl rfl)<|.q (.ixa (j:=0) rfl rfl ae_53 (by decide))<|.y rfl rfl rfl (.s rfl (.tl (.tl .hd)) a_3 rfl)<|.q (.fa rfl f_37_2)<|.y rfl rfl rfl (.s rfl (.tl (.tl (.tl .hd))) a_25 rfl)<|.m rfl rfl<|.ixk (j:=k1_1) .no rfl rfl h2_q1 rfl e_25 hy1 ?_
  rintro b17 o17 _ hq17 rfl
  refine .y rfl rfl rfl (.pa 0 (vs:=[_,_,_,_,_,_]) rfl hq17 rfl a_29 s_29 rfl rfl) ?_
  obtain ⟨q18,hq18,hF⟩:=bS hF
  refine .callV .no rfl rfl rfl rfl rfl (F_code_Group_ok p0 (p2 0) y1 _ _ ⟨_,rfl,hcq0⟩ _ hq18)<|.m rfl rfl<|.q (.ext rfl rfl)<|.q (.ext rfl rfl)<|.q (.ext rfl rfl)<|.z rfl rfl<|.z rfl rfl<|.z rfl rfl<|.nil<|sq_n<|.seq<|.draw (tb:=[r0 0 0,r0 0 0,r0 2 0,r0 0 0,r0 8 0,r0 0 0,r0 56 0,r0 120 0,r1 255 0,r1 511 1,r1 1023 1,r1 1023 1,r1 1023 1,r1 2047 1,r1 12287 1,r1 32767 1]) rfl (by kernel_rfl) (by kernel_rfl) fun k0=>?_
  refine .y rfl rfl rfl (.a (vs:=[_,_]) rfl (.tl (.tl (.tl (.tl .hd)))) a_24 s_24 rfl rfl)<|.q (.ixa (j:=0) rfl rfl ae_53 (by decide))<|.y rfl rfl rfl (.s rfl (.tl (.tl .hd)) a_3 rfl)<|.q (.fa rfl f_37_2)<|.y rfl rfl rfl (.s rfl (.tl (.tl (.tl .hd))) a_25 rfl)<|.m rfl rfl<|.ixk (j:=k1_1) .no rfl rfl h2_q1 rfl e_25 hy1 ?_
  rintro b19 o19 _ hq19 rfl
  refine .y rfl rfl rfl (.pa 0 (vs:=[_,_,_,_,_,_]) rfl hq19 rfl a_29 s_29 rfl rfl) ?_
  obtain ⟨q20,hq20,hF⟩:=bS hF
  refine .callV .no rfl rfl rfl rfl rfl (F_r04_Group_ok p0 (p2 0) y1 _ _ ⟨_,rfl,hcq0⟩ _ hq20)<|.m rfl rfl<|.q (.ext rfl rfl)<|.q (.ext rfl rfl)<|.q (.ext rfl rfl)<|.z rfl rfl<|.z rfl rfl<|.z rfl rfl<|.nil<|sq_n<|.seq<|.region rfl<|.m rfl rfl<|.m rfl rfl<|.b rfl rfl rfl rfl<|.m rfl rfl<|.split (t:=118) rfl (fun h21=>?_) (fun h21=>?_)
  ·have hF:=cT h21 hF
   refine .k h21<|.k h21<|.k h21<|.q (.pickT rfl h21 rfl)<|.m rfl rfl<|.k rfl<|.k rfl<|.k rfl<|.q (.pickT rfl rfl rfl)<|.nil<|sq_n<|.condT rfl rfl<|.seq<|.region rfl<|.z rfl rfl<|.nil<|sq_n<|.ret<|bq_r<|sq_r<|lq_r<|bq_r<|sq_r ?_
   obtain rfl:=sI hF
   have hF:=hG1
   obtain rfl:=sI hF
   refine Qaa ((((hle4.trans hle6).trans hle8).trans hle9).trans hlo1) (.tmp rfl .nil) rfl ?_
   rfl
  have kh21:=dT (nF h21)
  have hF:=cF h21 hF
  refine .py h21 (.move rfl)<|.py h21 (.move rfl)<|.py h21 (.bin rfl rfl rfl)<|.q (.pickF rfl h21 rfl)<|.m rfl rfl<|.split (t:=123) rfl (fun h22=>?_) (fun h22=>?_)
  ·have hF:=cT h22 hF
   refine .k h22<|.k h22<|.k h22<|.q (.pickT rfl h22 rfl)<|.nil<|sq_n<|.condT rfl rfl<|.seq<|.region rfl<|.z rfl rfl<|.nil<|sq_n<|.ret<|bq_r<|sq_r<|lq_r<|bq_r<|sq_r ?_
   obtain rfl:=sI hF
   have hF:=hG1
   obtain rfl:=sI hF
   refine Qaa ((((hle4.trans hle6).trans hle8).trans hle9).trans hlo1) (.tmp rfl .nil) rfl ?_
   rfl
  have kh22:=dT (nF h22)
  have hF:=cF h22 hF
  refine .py h22 (.move rfl)<|.py h22 (.move rfl)<|.py h22 (.bin rfl rfl rfl)<|.q (.pickF rfl h22 rfl)<|.nil<|sq_n<|.cond rfl (fun h23=>?_) (fun h23=>?_)
  ·have hF:=cT h23 hF
   refine .seq<|.region rfl<|.z rfl rfl<|.nil<|sq_n<|.ret<|bq_r<|sq_r<|lq_r<|bq_r<|sq_r ?_
   obtain rfl:=sI hF
   have hF:=hG1
   obtain rfl:=sI hF
   refine Qaa ((((hle4.trans hle6).trans hle8).trans hle9).trans hlo1) (.tmp rfl .nil) rfl ?_
   rfl
  have kh23:=dT (nF h23)
  have hF:=cF h23 hF
  refine .skip<|bq_n<|sq_n<|.region rfl<|.m rfl rfl<|.q (.inc1 rfl rfl (by omega))<|.z rfl rfl<|.nil<|Qac (L_l04_CodePlans_1.mk (k1_1+1)) ⟨rfl,rfl,rfl,rfl,trivial⟩ (List.Sublist.refl _) (Le.refl _) ?_ ?_
  ·exact ⟨(atN_lt hy1),hF⟩
  ·simp only;omega
 have kh16:=dF h16
 rw [dn (by omega),Qaq] at hF
 obtain rfl:=sI hF
 have hF:=hG1
 refine .exit<|sq_e<|lq_e<|bq_x rfl<|sq_n<|.seq<|.region rfl<|.callV .no rfl rfl rfl (sane_ok _)<|.z rfl rfl<|.nil<|sq_n<|.ret ?_
 obtain rfl:=sI hF
 refine Qaa ((((hle4.trans hle6).trans hle8).trans hle9).trans hlo1) (.tmp rfl .nil) rfl ?_
 rfl
end Go.Proofs.YtjflgemfeofciaaGreatDoor
