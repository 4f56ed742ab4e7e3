import Derived.Test.YtjflgemfeofciaaGreatDoorQa4
namespace Go.Proofs.YtjflgemfeofciaaGreatDoor
open Go Go.Ev
set_option linter.unusedVariables false
set_option linter.unusedSimpArgs false
set_option maxRecDepth 10000
def Qbr (p0:Code) (p1:Int) (p2:(List Room)):Option (T_Plan × Int):=((Qcc p0).bind fun q3=>((Qbc q3 p1 0).bind fun q4=>((Qal q4 p2).bind fun q5=>(cond (!(decide (q5.e_=0))) (some ((T_Plan.mk 0 (arr [(T_Share.mk 0 [] (0,0)),(T_Share.mk 0 [] (0,0)),(T_Share.mk 0 [] (0,0)),(T_Share.mk 0 [] (0,0)),(T_Share.mk 0 [] (0,0))] (T_Share.mk 0 [] (0,0))) []),q5.e_)) (((Qbq q5 p2).bind fun q7=>some (q7,0)))))))
set_option maxHeartbeats 1000000 in
theorem F_code_Compile_ok (p0:Code) (p1:Int) (p2:(List Room)) (v2_0:V) (cs0:List V) (g:G) (h0:CodeR g cs0 p0) (h2_0:RS RoomR 6 g v2_0 p2) (r:T_Plan × Int) (hF:Qbr p0 p1 p2=some r):Fw Tryz.prog natS (.f 48 [] []) [.agg cs0,.i .i64 p1,v2_0] g [] fun g' ml' q=>ml'=[]∧∃ (ds0:List V),q=(.tup [.agg ds0,.i .i64 r.2])∧R_Plan g' ds0 r.1:=by
 refine Fw.drop ?_
 unfold Qbr at hF
 obtain ⟨vq0,rfl,hcq0⟩:=h0
 refine Fw.enter (N:=28) (al:=[(2,_),(1,_),(0,_)]) Tryz.func48 (by kernel_rfl) (by kernel_rfl) rfl rfl rfl rfl ?_
 intro B
 refine .seq<|.region rfl<|.box .no rfl rfl rfl rfl fun b1=>.alloc .no rfl z_85 fun b2=>.z rfl rfl<|.nil<|sq_n<|.seq<|.region rfl<|.w (.a (vs:=[_,_]) rfl (.tl .hd) a_24 s_24 rfl rfl) ?_
 obtain ⟨q3,hq3,hF⟩:=bS hF
 refine .call .no rfl rfl rfl (Qdh p0 _ _ ⟨_,rfl,hcq0⟩ _ hq3) ?_
 rintro g3 ml3 r3 hle3 ⟨b3_0,cs3_0,rfl,rfl,⟨v1_3_0,v3_3_0,v4_3_0,v5_3_0,v6_3_0,v7_3_0,v8_3_0,v9_3_0,v10_3_0,v11_3_0,v12_3_0,v13_3_0,rfl,h1_3_0,h3_3_0,h4_3_0,h5_3_0,h6_3_0,h7_3_0,h8_3_0,h9_3_0,h10_3_0,h11_3_0,h12_3_0,h13_3_0⟩⟩
 replace h2_0:=h2_0.mono RoomR.mono hle3
 refine .m rfl rfl ?_
 obtain ⟨q4,hq4,hF⟩:=bS hF
 refine .callT .no rfl rfl rfl .hd (F_code_question_on_ok q3 p1 0 _ _ _ ⟨_,_,_,_,_,_,_,_,_,_,_,_,rfl,h1_3_0,h3_3_0,h4_3_0,h5_3_0,h6_3_0,h7_3_0,h8_3_0,h9_3_0,h10_3_0,h11_3_0,h12_3_0,h13_3_0⟩ _ hq4) ?_
 rintro g4 ml4 r4 hle4 ⟨cs4_0,rfl,rfl,⟨v1_4_0,v3_4_0,v4_4_0,v5_4_0,v6_4_0,v7_4_0,v8_4_0,v9_4_0,v10_4_0,v11_4_0,v12_4_0,v13_4_0,rfl,h1_4_0,h3_4_0,h4_4_0,h5_4_0,h6_4_0,h7_4_0,h8_4_0,h9_4_0,h10_4_0,h11_4_0,h12_4_0,h13_4_0⟩⟩
 replace h2_0:=h2_0.mono RoomR.mono hle4
 refine .m rfl rfl ?_
 obtain ⟨q5,hq5,hF⟩:=bS hF
 refine .callT .no rfl rfl rfl .hd (Qcg q4 p2 _ _ _ _ ⟨_,_,_,_,_,_,_,_,_,_,_,_,rfl,h1_4_0,h3_4_0,h4_4_0,h5_4_0,h6_4_0,h7_4_0,h8_4_0,h9_4_0,h10_4_0,h11_4_0,h12_4_0,h13_4_0⟩ h2_0 _ hq5) ?_
 rintro g5 ml5 r5 hle5 ⟨cs5_0,rfl,rfl,⟨v1_5_0,v3_5_0,v4_5_0,v5_5_0,v6_5_0,v7_5_0,v8_5_0,v9_5_0,v10_5_0,v11_5_0,v12_5_0,v13_5_0,rfl,h1_5_0,h3_5_0,h4_5_0,h5_5_0,h6_5_0,h7_5_0,h8_5_0,h9_5_0,h10_5_0,h11_5_0,h12_5_0,h13_5_0⟩⟩
 replace h2_0:=h2_0.mono RoomR.mono hle5
 refine .z rfl rfl<|.nil<|sq_n<|.seq<|.seq<|.region rfl<|.m rfl rfl<|.q (.nil rfl)<|.q (.fa rfl Qcz)<|.w (.s rfl .hd a_30 rfl)<|.b rfl rfl rfl rfl<|.nil<|sq_n<|.cond rfl (fun h6=>?_) (fun h6=>?_)
 ·have hF:=cT h6 hF
  refine .seq<|.draw (tb:=[r0 0 0,r1 0 0,r1 2 0,r1 6 0,r1 14 0,r0 1 0,r1 63 1]) rfl (by kernel_rfl) (by kernel_rfl) fun k0=>?_
  refine .q (.build (qs:=[]) (cs:=[_,_,_,_,_,_,_,_,_,_,_,_,_,_,_,_,_,_,_,_,_,_]) rfl b_85 rfl)<|.m rfl rfl<|.q (.nil rfl)<|.q (.fa rfl Qcz)<|.y rfl rfl rfl (.s rfl .hd a_30 rfl)<|.st (cs':=[_,_,_,_,_,_,_,_,_,_,_,_,_,_,_,_,_,_,_,_,_,_]) .no rfl rfl rfl rfl rfl rfl s_85 rfl rfl (.tl .hd) rfl rfl (FrL.cN (fun _ s=>s.neb (.tl .hd) .hd) FrL.n)<|.z rfl rfl<|.nil<|sq_n<|.ret<|sq_r ?_
  obtain rfl:=sI hF
  refine Qaa ((hle3.trans hle4).trans hle5) (.cell (.a (vs:=[_,_,_,_,_,_,_,_,_,_,_,_,_,_,_,_,_,_,_,_,_,_]) rfl (.tl .hd) a_85 s_85 rfl rfl) (.tmp rfl .nil)) rfl ?_
  exact ⟨_,rfl,⟨_,_,_,_,_,_,rfl,RS.nil,RS.nil,RS.nil,RS.nil,RS.nil,RS.nil⟩⟩
 have hF:=cF h6 hF
 refine .skip<|sq_n<|.seq<|.region rfl<|.m rfl rfl<|.m rfl rfl ?_
 obtain ⟨q7,hq7,hF⟩:=bS hF
 refine .callT .no rfl rfl rfl .hd (Qdr q5 p2 _ _ _ _ ⟨_,_,_,_,_,_,_,_,_,_,_,_,rfl,h1_5_0,h3_5_0,h4_5_0,h5_5_0,h6_5_0,h7_5_0,h8_5_0,h9_5_0,h10_5_0,h11_5_0,h12_5_0,h13_5_0⟩ h2_0 _ hq7) ?_
 rintro g7 ml7 r7 hle7 ⟨cs7_0,rfl,rfl,⟨v2_7_0,v6_7_0,v10_7_0,v14_7_0,v18_7_0,v21_7_0,rfl,h2_7_0,h6_7_0,h10_7_0,h14_7_0,h18_7_0,h21_7_0⟩⟩
 refine .st (cs':=[_,_,_,_,_,_,_,_,_,_,_,_,_,_,_,_,_,_,_,_,_,_]) .no rfl rfl rfl rfl s_85 rfl rfl (.tl .hd) rfl (Qa rfl (Qa rfl (Qa h2_7_0.one (Qa rfl (Qa rfl (Qa rfl (Qa h6_7_0.one (Qa rfl (Qa rfl (Qa rfl (Qa h10_7_0.one (Qa rfl (Qa rfl (Qa rfl (Qa h14_7_0.one (Qa rfl (Qa rfl (Qa rfl (Qa h18_7_0.one (Qa rfl (Qa rfl (Qa h21_7_0.one rfl))))))))))))))))))))))<|.z rfl rfl<|.nil<|sq_n<|.ret ?_
 obtain rfl:=sI hF
 refine Qaa (((hle3.trans hle4).trans hle5).trans hle7) (.cell (.a (vs:=[_,_,_,_,_,_,_,_,_,_,_,_,_,_,_,_,_,_,_,_,_,_]) rfl (.tl .hd) a_85 s_85 rfl rfl) (.tmp rfl .nil)) rfl ?_
 exact ⟨_,rfl,⟨_,_,_,_,_,_,rfl,h2_7_0,h6_7_0,h10_7_0,h14_7_0,h18_7_0,h21_7_0⟩⟩
end Go.Proofs.YtjflgemfeofciaaGreatDoor
