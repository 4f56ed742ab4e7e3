import Derived.Test.YtjflgemfeofciaaGreatDoorMZ1
import Derived.Test.YtjflgemfeofciaaGreatDoorWm4
import Derived.Test.YtjflgemfeofciaaGreatDoorMZ2
import Derived.Test.YtjflgemfeofciaaGreatDoorMY8
import Derived.Test.YtjflgemfeofciaaGreatDoorMY9
namespace Go.Proofs.YtjflgemfeofciaaGreatDoor
open Go Go.Ev
set_option linter.unusedVariables false
set_option linter.unusedSimpArgs false
set_option maxRecDepth 10000
structure L_l04_CodeParted_1 where
 z1_1:Int
 k1_2:Nat
def Qae (q2:Code × T_Ask) (q5:Int × Int) (q25:(Nat→Int)):List T_Case→Int→Nat→Option ((Bool) ⊕ (Int))
 | [],z1_1,k1_2=>some ((Sum.inr z1_1))
 | y1 :: ys1,z1_1,k1_2=>(cond (decide (((y1.Litres 0).1)≤(q25 0))) ((cond (decide ((q25 0)≤((y1.Litres 0).2))) ((cond (decide (((y1.Litres 1).1)≤(q25 1))) ((cond (decide ((q25 1)≤((y1.Litres 1).2))) ((cond (decide (((y1.Litres 2).1)≤(q25 2))) ((cond (decide ((q25 2)≤((y1.Litres 2).2))) ((cond (decide (((y1.Litres 3).1)≤(q25 3))) ((cond (decide ((q25 3)≤((y1.Litres 3).2))) ((cond (decide (((y1.Litres 4).1)≤(q25 4))) ((cond (decide ((q25 4)≤((y1.Litres 4).2))) ((cond (decide ((tonR closV q2.1 q5.1 q2.2.Formula (q25 0) (q25 1) (q25 2) (q25 3) (q25 4)) < y1.Tonnages.1)) (some ((Sum.inl false))) ((cond (decide (y1.Tonnages.2 < (tonR closV q2.1 q5.1 q2.2.Formula (q25 0) (q25 1) (q25 2) (q25 3) (q25 4)))) (some ((Sum.inl false))) (Qae q2 q5 q25 ys1 (wr (z1_1+1)) (k1_2+1)))))) (Qae q2 q5 q25 ys1 z1_1 (k1_2+1)))) (Qae q2 q5 q25 ys1 z1_1 (k1_2+1)))) (Qae q2 q5 q25 ys1 z1_1 (k1_2+1)))) (Qae q2 q5 q25 ys1 z1_1 (k1_2+1)))) (Qae q2 q5 q25 ys1 z1_1 (k1_2+1)))) (Qae q2 q5 q25 ys1 z1_1 (k1_2+1)))) (Qae q2 q5 q25 ys1 z1_1 (k1_2+1)))) (Qae q2 q5 q25 ys1 z1_1 (k1_2+1)))) (Qae q2 q5 q25 ys1 z1_1 (k1_2+1)))) (Qae q2 q5 q25 ys1 z1_1 (k1_2+1)))
def Qdf (p0:(List T_Raw)) (p1:T_Some) (p2:(List Int)):Option (Bool):=((Qer p0 p1).bind fun q2=>((Qco q2.1 q2.2.Day).bind fun q5=>((F_code_Judge q2.1 q2.2.Day q2.2.Formula q2.2.Rooms).bind fun q6=>((Qdj q2.1 q2.2.Day q2.2.Formula q2.2.Rooms).bind fun q8=>((Qdz q2.1 q2.2.Day q2.2.Formula q2.2.Rooms).bind fun q9=>(cond (!(decide (q5.2=0))) (some false) ((cond (!(decide (q6.2=0))) (some false) ((cond (!(decide (q9.2=0))) (some false) ((cond (decide (q5.1 < 0)) (some false) ((cond (decide ((q2.1.vs.length:Int)≤q5.1)) (some false) ((cond (!(decide (q8.2=0))) ((cond (decide (q8.2=2)) ((cond (decide ((0:Int) < (q9.1.length:Int))) (some true) (some false))) (some false))) (((Qcj q2.1 q2.2.Day q2.2.Formula q2.2.Rooms q8.1).bind fun q19=>(cond (!(decide (q19.2=0))) (some false) ((cond (!((decide (q19.1.1=q6.1.1)) && ((decide (q19.1.2=q6.1.2)) && true))) (some false) ((cond (!(decide ((decide ((q8.1.length:Int)=1))=(decide ((q9.1.length:Int)=0))))) (some false) (((atI q2.1.vs q5.1).bind fun y24=>((Qfj y24 q2.2.Rooms p2).bind fun q25=>(cond (!(decide ((tonE q2.1 q5.1 q2.2.Formula (q25 0) (q25 1) (q25 2) (q25 3) (q25 4))=0))) (some false) (((Qae q2 q5 q25 q8.1 0 0).bind fun o=>match o with | (Sum.inl q)=>(some q) | (Sum.inr o1_1_1)=>((cond (decide (o1_1_1=1)) (some true) (some false))))))))))))))))))))))))))))))))
set_option maxHeartbeats 1000000 in
theorem F_l04_CodeParted_ok (p0:(List T_Raw)) (p1:T_Some) (p2:(List Int)) (v0_0 v2_0:V) (cs1:List V) (g:G) (h0_0:RS R_Raw 3 g v0_0 p0) (h1:R_Some g cs1 p1) (h2_0:RS IntR 1 g v2_0 p2) (r:Bool) (hF:Qdf p0 p1 p2=some r):Fv Tryz.prog natS (.f 12 [] []) [v0_0,.agg cs1,v2_0] g (.b r):=by
 refine Fw.fv ?_
 unfold Qdf at hF
 have lh0_0:=h0_0.1
 obtain ⟨v2_q1,rfl,h2_q1⟩:=h1
 have lh1_2:=h2_q1.1
 have lh2_0:=h2_0.1
 refine Fw.enter (N:=218) (al:=[(2,_),(1,_),(0,_)]) Tryz.func12 (by kernel_rfl) (by kernel_rfl) rfl rfl rfl rfl ?_
 intro B
 refine .seq<|.region rfl<|.box .no rfl rfl rfl rfl fun b1=>.z rfl rfl<|.nil<|sq_n<|.seq<|.region rfl<|.m rfl rfl<|.w (.a (vs:=[_,_,_]) rfl .hd a_75 s_75 rfl rfl) ?_
 obtain ⟨q2,hq2,hF⟩:=bS hF
 refine .call .no rfl rfl rfl (F_l04_world_ok p0 p1 _ _ _ h0_0 ⟨_,rfl,h2_q1⟩ _ hq2) ?_
 rintro g2 ml2 r2 hle2 ⟨rfl,cs2_0,cs2_1,rfl,⟨v2_0,rfl,hc2_0⟩,⟨v2_2_1,rfl,h2_2_1⟩⟩
 replace h2_0:=h2_0.mono IntR.mono hle2
 have lh2_0_1:=hc2_0.1
 have lh2_1_2:=h2_2_1.1
 refine .m rfl rfl<|.q (.ext rfl rfl)<|.q (.ext rfl rfl)<|.alloc .no rfl z_24 fun b3=>.alloc .no rfl z_37 fun b4=>.st (cs':=[_,_]) .no rfl rfl rfl rfl s_24 rfl rfl (.tl .hd) rfl (Qa rfl (Qa hc2_0.one rfl))<|.st (cs':=[_,_,_]) .no rfl rfl rfl rfl s_37 rfl rfl .hd rfl (Qa rfl (Qa rfl (Qa h2_2_1.one rfl)))<|.nil<|sq_n<|.seq<|.region rfl<|.w (.a (vs:=[_,_]) rfl (.tl .hd) a_24 s_24 rfl rfl)<|.q (.fa rfl f_37_0)<|.w (.s rfl .hd a_3 rfl) ?_
 obtain ⟨q5,hq5,hF⟩:=bS hF
 refine .callV .no rfl rfl rfl (F_code_InForce_ok q2.1 q2.2.Day _ _ ⟨_,rfl,hc2_0⟩ _ hq5)<|.m rfl rfl<|.q (.ext rfl rfl)<|.q (.ext rfl rfl)<|.z rfl rfl<|.z rfl rfl<|.nil<|sq_n<|.seq<|.region rfl<|.w (.a (vs:=[_,_]) rfl (.tl .hd) a_24 s_24 rfl rfl)<|.q (.fa rfl f_37_0)<|.w (.s rfl .hd a_3 rfl)<|.q (.fa rfl f_37_1)<|.w (.s rfl .hd a_3 rfl)<|.q (.fa rfl f_37_2)<|.w (.s rfl .hd a_25 rfl) ?_
 obtain ⟨q6,hq6,hF⟩:=bS hF
 refine .callV .no rfl rfl rfl (F_code_Judge_ok q2.1 q2.2.Day q2.2.Formula q2.2.Rooms _ _ _ ⟨_,rfl,hc2_0⟩ h2_2_1 _ hq6)<|.m rfl rfl<|.q (.ext rfl rfl)<|.q (.ext rfl rfl)<|.alloc .no rfl z_27 fun b7=>.st (cs':=[_,_]) .no rfl rfl rfl rfl s_27 rfl rfl .hd rfl rfl<|.z rfl rfl<|.nil<|sq_n<|.seq<|.region rfl<|.w (.a (vs:=[_,_]) rfl (.tl (.tl .hd)) a_24 s_24 rfl rfl)<|.q (.fa rfl f_37_0)<|.w (.s rfl (.tl .hd) a_3 rfl)<|.q (.fa rfl f_37_1)<|.w (.s rfl (.tl .hd) a_3 rfl)<|.q (.fa rfl f_37_2)<|.w (.s rfl (.tl .hd) a_25 rfl) ?_
 obtain ⟨q8,hq8,hF⟩:=bS hF
 refine .call .no rfl rfl rfl (F_code_Cases_ok q2.1 q2.2.Day q2.2.Formula q2.2.Rooms _ _ _ ⟨_,rfl,hc2_0⟩ h2_2_1 _ hq8) ?_
 rintro g8 ml8 r8 hle8 ⟨rfl,w8_0_0,rfl,hw8_0_0⟩
 replace h2_0:=h2_0.mono IntR.mono hle8
 replace hc2_0:=hc2_0.mono VersionR.mono hle8
 replace h2_2_1:=h2_2_1.mono RoomR.mono hle8
 have lhw8_0_0:=hw8_0_0.1
 refine .m rfl rfl<|.q (.ext rfl rfl)<|.q (.ext rfl rfl)<|.z rfl rfl<|.z rfl rfl<|.nil<|sq_n<|.seq<|.region rfl<|.w (.a (vs:=[_,_]) rfl (.tl (.tl .hd)) a_24 s_24 rfl rfl)<|.q (.fa rfl f_37_0)<|.w (.s rfl (.tl .hd) a_3 rfl)<|.q (.fa rfl f_37_1)<|.w (.s rfl (.tl .hd) a_3 rfl)<|.q (.fa rfl f_37_2)<|.w (.s rfl (.tl .hd) a_25 rfl) ?_
 obtain ⟨q9,hq9,hF⟩:=bS hF
 refine .call .no rfl rfl rfl (F_code_Opens_ok q2.1 q2.2.Day q2.2.Formula q2.2.Rooms _ _ _ ⟨_,rfl,hc2_0⟩ h2_2_1 _ hq9) ?_
 rintro g9 ml9 r9 hle9 ⟨rfl,w9_0_0,rfl,hw9_0_0⟩
 replace h2_0:=h2_0.mono IntR.mono hle9
 replace hc2_0:=hc2_0.mono VersionR.mono hle9
 replace h2_2_1:=h2_2_1.mono RoomR.mono hle9
 replace hw8_0_0:=hw8_0_0.mono R_Case.mono hle9
 have lhw9_0_0:=hw9_0_0.1
 refine .m rfl rfl<|.q (.ext rfl rfl)<|.q (.ext rfl rfl)<|.z rfl rfl<|.z rfl rfl<|.nil<|sq_n<|.seq<|.seq<|.region rfl<|.m rfl rfl<|.b rfl rfl rfl rfl<|.m rfl rfl<|.split (t:=74) rfl (fun h10=>?_) (fun h10=>?_)
 ·have hF:=cT h10 hF
  refine .k h10<|.k h10<|.q (.pickT rfl h10 rfl)<|.m rfl rfl<|.k rfl<|.k rfl<|.q (.pickT rfl rfl rfl)<|.m rfl rfl<|.k rfl<|.k rfl<|.q (.pickT rfl rfl rfl)<|.m rfl rfl<|.k rfl<|.k rfl<|.k rfl<|.k rfl<|.k rfl<|.q (.pickT rfl rfl rfl)<|.nil<|sq_n<|.condT rfl rfl<|.seq<|.region rfl<|.z rfl rfl<|.nil<|sq_n<|.ret<|sq_r ?_
  obtain rfl:=sI hF
  refine Qab ((hle2.trans hle8).trans hle9) (.tmp rfl .nil) rfl ?_
  rfl
 have kh10:=dT (nF h10)
 have hF:=cF h10 hF
 refine .py h10 (.move rfl)<|.py h10 (.bin rfl rfl rfl)<|.q (.pickF rfl h10 rfl)<|.m rfl rfl<|.split (t:=78) rfl (fun h11=>?_) (fun h11=>?_)
 ·have hF:=cT h11 hF
  refine .k h11<|.k h11<|.q (.pickT rfl h11 rfl)<|.m rfl rfl<|.k rfl<|.k rfl<|.q (.pickT rfl rfl rfl)<|.m rfl rfl<|.k rfl<|.k rfl<|.k rfl<|.k rfl<|.k rfl<|.q (.pickT rfl rfl rfl)<|.nil<|sq_n<|.condT rfl rfl<|.seq<|.region rfl<|.z rfl rfl<|.nil<|sq_n<|.ret<|sq_r ?_
  obtain rfl:=sI hF
  refine Qab ((hle2.trans hle8).trans hle9) (.tmp rfl .nil) rfl ?_
  rfl
 have kh11:=dT (nF h11)
 have hF:=cF h11 hF
 refine .py h11 (.move rfl)<|.py h11 (.bin rfl rfl rfl)<|.q (.pickF rfl h11 rfl)<|.m rfl rfl<|.split (t:=82) rfl (fun h12=>?_) (fun h12=>?_)
 ·have hF:=cT h12 hF
  refine .k h12<|.k h12<|.q (.pickT rfl h12 rfl)<|.m rfl rfl<|.k rfl<|.k rfl<|.k rfl<|.k rfl<|.k rfl<|.q (.pickT rfl rfl rfl)<|.nil<|sq_n<|.condT rfl rfl<|.seq<|.region rfl<|.z rfl rfl<|.nil<|sq_n<|.ret<|sq_r ?_
  obtain rfl:=sI hF
  refine Qab ((hle2.trans hle8).trans hle9) (.tmp rfl .nil) rfl ?_
  rfl
 have kh12:=dT (nF h12)
 have hF:=cF h12 hF
 refine .py h12 (.move rfl)<|.py h12 (.bin rfl rfl rfl)<|.q (.pickF rfl h12 rfl)<|.m rfl rfl<|.split (t:=86) rfl (fun h13=>?_) (fun h13=>?_)
 ·have hF:=cT h13 hF
  refine .k h13<|.k h13<|.k h13<|.k h13<|.k h13<|.q (.pickT rfl h13 rfl)<|.nil<|sq_n<|.condT rfl rfl<|.seq<|.region rfl<|.z rfl rfl<|.nil<|sq_n<|.ret<|sq_r ?_
  obtain rfl:=sI hF
  refine Qab ((hle2.trans hle8).trans hle9) (.tmp rfl .nil) rfl ?_
  rfl
 have kh13:=dF h13
 have hF:=cF h13 hF
 refine .py h13 (.move rfl)<|.py h13 (.fa rfl Qdl)<|.wy h13 (.s rfl (.tl (.tl .hd)) a_22 rfl)<|.py h13 (.lenR rfl rfl rfl e_22 hc2_0)<|.py h13 (.bin rfl rfl rfl)<|.q (.pickF rfl h13 rfl)<|.nil<|sq_n<|.cond rfl (fun h14=>?_) (fun h14=>?_)
 ·have hF:=cT h14 hF
  refine .seq<|.region rfl<|.z rfl rfl<|.nil<|sq_n<|.ret<|sq_r ?_
  obtain rfl:=sI hF
  refine Qab ((hle2.trans hle8).trans hle9) (.tmp rfl .nil) rfl ?_
  rfl
 have kh14:=dF h14
 have hF:=cF h14 hF
 refine .skip<|sq_n<|.seq<|.seq<|.region rfl<|.m rfl rfl<|.b rfl rfl rfl rfl<|.nil<|sq_n<|.cond rfl (fun h15=>?_) (fun h15=>?_)
 ·have hF:=cT h15 hF
  refine .seq<|.region rfl<|.m rfl rfl<|.b rfl rfl rfl rfl<|.m rfl rfl<|.split (t:=97) rfl (fun h16=>?_) (fun h16=>?_)
  ·have hF:=cT h16 hF
   refine .py h16 (.move rfl)<|.py h16 (.lenR rfl rfl rfl e_60 hw9_0_0)<|.py h16 (.bin rfl rfl rfl)<|.q (.pickT rfl h16 rfl)<|.m rfl rfl<|.split (t:=102) rfl (fun h17=>?_) (fun h17=>?_)
   ·have hF:=cT h17 hF
    refine .callV (.yes rfl rfl h17) rfl rfl rfl (sane_ok _)<|.q (.pickT rfl h17 rfl)<|.z rfl rfl<|.nil<|sq_n<|.ret<|sq_r ?_
    obtain rfl:=sI hF
    refine Qab ((hle2.trans hle8).trans hle9) (.tmp rfl .nil) rfl ?_
    rfl
   have hF:=cF h17 hF
   refine .k h17<|.q (.pickF rfl h17 rfl)<|.z rfl rfl<|.nil<|sq_n<|.ret<|sq_r ?_
   obtain rfl:=sI hF
   refine Qab ((hle2.trans hle8).trans hle9) (.tmp rfl .nil) rfl ?_
   rfl
  have hF:=cF h16 hF
  refine .k h16<|.k h16<|.k h16<|.q (.pickF rfl h16 rfl)<|.m rfl rfl<|.k rfl<|.q (.pickF rfl rfl rfl)<|.z rfl rfl<|.nil<|sq_n<|.ret<|sq_r ?_
  obtain rfl:=sI hF
  refine Qab ((hle2.trans hle8).trans hle9) (.tmp rfl .nil) rfl ?_
  rfl
 have kh15:=dT (nF h15)
 have hF:=cF h15 hF
 refine .skip<|sq_n<|.seq<|.region rfl<|.w (.a (vs:=[_,_]) rfl (.tl (.tl .hd)) a_24 s_24 rfl rfl)<|.q (.fa rfl f_37_0)<|.w (.s rfl (.tl .hd) a_3 rfl)<|.q (.fa rfl f_37_1)<|.w (.s rfl (.tl .hd) a_3 rfl)<|.q (.fa rfl f_37_2)<|.w (.s rfl (.tl .hd) a_25 rfl)<|.m rfl rfl ?_
 obtain ⟨q19,hq19,hF⟩:=bS hF
 refine .callV .no rfl rfl rfl (F_code_CheckCases_ok q2.1 q2.2.Day q2.2.Formula q2.2.Rooms q8.1 _ _ _ _ ⟨_,rfl,hc2_0⟩ h2_2_1 hw8_0_0 _ hq19)<|.m rfl rfl<|.q (.ext rfl rfl)<|.q (.ext rfl rfl)<|.alloc .no rfl z_27 fun b20=>.st (cs':=[_,_]) .no rfl rfl rfl rfl s_27 rfl rfl .hd rfl rfl<|.z rfl rfl<|.nil<|sq_n<|.seq<|.seq<|.region rfl<|.m rfl rfl<|.b rfl rfl rfl rfl<|.m rfl rfl<|.split (t:=119) rfl (fun h21=>?_) (fun h21=>?_)
 ·have hF:=cT h21 hF
  refine .k h21<|.k h21<|.k h21<|.q (.pickT rfl h21 rfl)<|.m rfl rfl<|.k rfl<|.k rfl<|.k rfl<|.k rfl<|.k rfl<|.k rfl<|.k rfl<|.q (.pickT rfl rfl rfl)<|.nil<|sq_n<|.condT rfl rfl<|.seq<|.region rfl<|.z rfl rfl<|.nil<|sq_n<|.ret<|sq_r ?_
  obtain rfl:=sI hF
  refine Qab ((hle2.trans hle8).trans hle9) (.tmp rfl .nil) rfl ?_
  rfl
 have kh21:=dT (nF h21)
 have hF:=cF h21 hF
 refine .wy h21 (.a (vs:=[_,_]) rfl .hd a_27 s_27 rfl rfl)<|.wy h21 (.a (vs:=[_,_]) rfl (.tl .hd) a_27 s_27 rfl rfl)<|.py h21 (.binE rfl rfl (binV_neq (by kernel_rfl) (eq_27 _ _ _ _))) ?_
 refine .q (.pickF rfl h21 rfl)<|.m rfl rfl<|.split (t:=124) rfl (fun h22=>?_) (fun h22=>?_)
 ·have hF:=cT h22 hF
  refine .k h22<|.k h22<|.k h22<|.k h22<|.k h22<|.k h22<|.k h22<|.q (.pickT rfl h22 rfl)<|.nil<|sq_n<|.condT rfl rfl<|.seq<|.region rfl<|.z rfl rfl<|.nil<|sq_n<|.ret<|sq_r ?_
  obtain rfl:=sI hF
  refine Qab ((hle2.trans hle8).trans hle9) (.tmp rfl .nil) rfl ?_
  rfl
 have kh22:=(nF h22)
 have hF:=cF h22 hF
 refine .py h22 (.move rfl)<|.py h22 (.lenR rfl rfl rfl e_56 hw8_0_0)<|.py h22 (.bin rfl rfl rfl)<|.py h22 (.move rfl)<|.py h22 (.lenR rfl rfl rfl e_60 hw9_0_0)<|.py h22 (.bin rfl rfl rfl)<|.py h22 (.binE rfl rfl rfl)<|.q (.pickF rfl h22 rfl)<|.nil<|sq_n<|.cond rfl (fun h23=>?_) (fun h23=>?_)
 ·have hF:=cT h23 hF
  refine .seq<|.region rfl<|.z rfl rfl<|.nil<|sq_n<|.ret<|sq_r ?_
  obtain rfl:=sI hF
  refine Qab ((hle2.trans hle8).trans hle9) (.tmp rfl .nil) rfl ?_
  rfl
 have kh23:=dT (nF h23)
 have hF:=cF h23 hF
 refine .skip<|sq_n<|.seq<|.draw (tb:=[r0 0 0,r0 1 0,r0 0 0,r0 7 0,r0 15 0,r0 0 0,r0 32 0,r0 0 0,r1 255 0,r0 0 0,r1 1023 1]) rfl (by kernel_rfl) (by kernel_rfl) ?_
 refine .q (.fa rfl Qdl)<|.y rfl rfl rfl (.s rfl (.tl (.tl (.tl .hd))) a_22 rfl)<|.m rfl rfl ?_
 obtain ⟨y24,hy24,hF⟩:=bS hF
 have hj24:=atI_lt hy24
 refine .ixl .no rfl rfl hc2_0 rfl e_22 hy24 ?_
 rintro b24 o24 _ hq24 ⟨p24,lv24,rfl,hp24,hl24⟩
 have lh24_1:=hp24.1
 have lh24_2:=(hl24 0 (by decide)).1
 have lh24_3:=(hl24 1 (by decide)).1
 have lh24_4:=(hl24 2 (by decide)).1
 have lh24_5:=(hl24 3 (by decide)).1
 have lh24_6:=(hl24 4 (by decide)).1
 have lh24_7:=(hl24 5 (by decide)).1
 have lh24_8:=(hl24 6 (by decide)).1
 have lh24_9:=(hl24 7 (by decide)).1
 have lh24_10:=(hl24 8 (by decide)).1
 have lh24_11:=(hl24 9 (by decide)).1
 refine .y rfl rfl rfl (.pa 0 (vs:=[_,_,_,_,_,_,_,_,_,_,_,_]) rfl hq24 rfl a_97 s_97 rfl rfl)<|.q (.fa rfl f_37_2)<|.y rfl rfl rfl (.s rfl (.tl (.tl .hd)) a_25 rfl)<|.m rfl rfl ?_
 obtain ⟨q25,hq25,hF⟩:=bS hF
 refine .callV .no rfl rfl rfl rfl rfl (F_r04_Sums_ok y24 q2.2.Rooms p2 _ _ _ _ ⟨_,_,rfl,hp24,hl24⟩ h2_2_1 h2_0 _ hq25)<|.f .no rfl (.alloc z_38) fun b26=>.st (cs':=[_,_,_,_,_]) .no (Qch rfl Qci) (Qbp rfl Qbo) rfl rfl rfl rfl s_38 rfl rfl .hd rfl rfl (.all (Qaa rfl (Qaa rfl (Qaa rfl rfl))))<|.nil<|sq_n<|.seq<|.region rfl<|.w (.a (vs:=[_,_]) rfl (.tl (.tl (.tl (.tl .hd)))) a_24 s_24 rfl rfl)<|.m rfl rfl<|.q (.fa rfl f_37_1)<|.w (.s rfl (.tl (.tl (.tl .hd))) a_3 rfl)<|.w (.a (vs:=[_,_,_,_,_]) rfl .hd a_38 s_38 rfl rfl)<|.callV .no rfl rfl rfl (Tonnage_ok _ _ _ _ _ _ _ _ _ _ ⟨_,rfl,hc2_0⟩)<|.m rfl rfl<|.q (.ext rfl rfl)<|.q (.ext rfl rfl)<|.z rfl rfl<|.z rfl rfl<|.nil<|sq_n<|.seq<|.seq<|.region rfl<|.m rfl rfl<|.b rfl rfl rfl rfl<|.nil<|sq_n<|.cond rfl (fun h28=>?_) (fun h28=>?_)
 ·have hF:=cT h28 hF
  refine .seq<|.region rfl<|.z rfl rfl<|.nil<|sq_n<|.ret<|sq_r ?_
  obtain rfl:=sI hF
  refine Qab ((hle2.trans hle8).trans hle9) (.tmp rfl .nil) rfl ?_
  rfl
 have kh28:=dT (nF h28)
 have hF:=cF h28 hF
 refine .skip<|sq_n<|.seq<|.region rfl<|.z rfl rfl<|.nil<|sq_n<|.seq<|.seq<|.region rfl<|.z rfl rfl<|.nil<|sq_n<|.block ?_
 obtain ⟨o1,hF,hG1⟩:=bS hF
 refine .loopx (α:=L_l04_CodeParted_1) [(13,_),(19,_),(20,_)] _ (fun fx x=>(22,.i .i64 x.z1_1) :: (23,.i .i64 (x.k1_2:Int)) :: fx) (fun mx _=>mx) (fun x g'=>x.k1_2≤q8.1.length∧Qae q2 q5 q25 (q8.1.drop x.k1_2) x.z1_1 x.k1_2=some o1) (fun x=>q8.1.length - x.k1_2) (L_l04_CodeParted_1.mk 0 0) ⟨rfl,rfl,rfl,rfl,rfl,trivial⟩ (List.Sublist.refl _) ⟨(by first | omega | (dsimp only;omega)),hF⟩ ?_
 intro x1 gl1 hlo1 hJ1
 obtain ⟨z1_1,k1_2⟩:=x1
 try dsimp only at hJ1
 obtain ⟨hk1,hF⟩:=hJ1
 refine .al0 [(22,.i .i64 z1_1),(23,.i .i64 (k1_2:Int)),(13,_),(19,_),(20,_)] ?_
 replace hw8_0_0:=hw8_0_0.mono R_Case.mono hlo1
 refine .seq<|.seq<|.region rfl<|.m rfl rfl<|.m rfl rfl<|.q (.lenR rfl rfl rfl e_56 hw8_0_0)<|.b rfl rfl rfl rfl<|.nil<|sq_n<|.cond rfl (fun h29=>?_) (fun h29=>?_)
 ·have kh29:=dT h29
  obtain ⟨y1,hy1⟩:=getK (l:=q8.1) (k:=k1_2) kh29
  rw [dc hy1,Qae] at hF
  refine .skip<|sq_n<|.seq<|.block<|.seq<|.region rfl<|.z rfl rfl<|.nil<|sq_n<|.seq<|.seq<|.region rfl<|.z rfl rfl<|.nil<|sq_n<|.block<|.unroll<|.seq<|.seq<|.region rfl<|.m rfl rfl<|.b rfl rfl rfl rfl<|.nil<|sq_n<|.condT rfl (by decide)<|.skip<|sq_n<|.seq<|.block<|.draw (tb:=[r1 0 0,r1 1 0,r0 3 0,r0 3 0,r0 3 0,r0 15 0,r0 47 0,r0 127 0,r0 255 0,r0 511 0,r0 3 0,r0 1027 0,r0 3075 0,r1 8191 0,r1 16383 0,r1 32767 0,r0 65535 0,r0 131071 0,r0 262143 0,r0 65535 0,r0 65535 0,r0 65535 0,r0 1638399 0,r0 5832703 0,r0 16318463 0,r0 33095679 0,r0 66650111 0,r1 134217727 0,r1 268435455 0,r1 536870911 0]) rfl (by kernel_rfl) (by kernel_rfl) ?_
  refine .m rfl rfl<|.m rfl rfl<|.py rfl (.move rfl)<|.py rfl (.move rfl)<|.py rfl (.move rfl)<|.ixk (j:=k1_2) (.yes rfl rfl rfl) rfl rfl hw8_0_0 rfl e_56 hy1 ?_
  rintro b30 o30 _ hq30 rfl
  refine .py rfl (.fa rfl Qd)<|.py rfl (.ixa (j:=0) rfl rfl Qek (by decide))<|.py rfl (.fa rfl Qao)<|.ld (k:=0) (.yes rfl rfl rfl) rfl rfl rfl trivial (.ps 5 rfl hq30 rfl a_3 rfl)<|.py rfl (.move rfl)<|.py rfl (.ixa (j:=0) rfl rfl ae_38 (by decide))<|.ld (k:=0) (.yes rfl rfl rfl) rfl rfl rfl trivial (.s rfl .hd a_3 rfl)<|.py rfl (.bin rfl rfl rfl)<|.q (.pickT rfl rfl rfl)<|.m rfl rfl<|.split (t:=178) rfl (fun h31=>?_) (fun h31=>?_)
  ·have kh31:=dT h31
   have hF:=cT h31 hF
   refine .py h31 (.move rfl)<|.py h31 (.ixa (j:=0) rfl rfl ae_38 (by decide))<|.ld (k:=0) (.yes rfl rfl h31) rfl rfl rfl trivial (.s rfl .hd a_3 rfl)<|.py h31 (.move rfl)<|.py h31 (.move rfl)<|.py h31 (.move rfl)<|.ixk (j:=k1_2) (.yes rfl rfl h31) rfl rfl hw8_0_0 rfl e_56 hy1 ?_
   rintro b32 o32 _ hq32 rfl
   refine .py h31 (.fa rfl Qd)<|.py h31 (.ixa (j:=0) rfl rfl Qek (by decide))<|.py h31 (.fa rfl Qap)<|.ld (k:=0) (.yes rfl rfl h31) rfl rfl rfl trivial (.ps 6 rfl hq32 rfl a_3 rfl)<|.py h31 (.bin rfl rfl rfl)<|.q (.pickT rfl h31 rfl)<|.z rfl rfl<|.nil<|bq_n<|sq_n<|.region rfl<|.m rfl rfl<|.q (.addL (c:=1) rfl rfl rfl (by decide))<|.z rfl rfl<|.nil<|sq_n<|.unroll<|.seq<|.seq<|.region rfl<|.m rfl rfl<|.b rfl rfl rfl rfl<|.nil<|sq_n<|.condT rfl (by decide)<|.skip<|sq_n<|.seq<|.block<|.draw (tb:=[r1 0 0,r1 1 0,r0 3 0,r0 3 0,r0 3 0,r0 15 0,r0 47 0,r0 127 0,r0 255 0,r0 511 0,r0 3 0,r0 1027 0,r0 3075 0,r1 8191 0,r1 16383 0,r1 32767 0,r0 65535 0,r0 131071 0,r0 262143 0,r0 65535 0,r0 65535 0,r0 65535 0,r0 1638399 0,r0 5832703 0,r0 16318463 0,r0 33095679 0,r0 66650111 0,r1 134217727 0,r1 268435455 0,r1 536870911 0]) rfl (by kernel_rfl) (by kernel_rfl) ?_
   refine .m rfl rfl<|.m rfl rfl<|.split (t:=164) rfl (fun h33=>?_) (fun h33=>?_)
   ·have kh33:=dT h33
    have hF:=cT h33 hF
    refine .py h33 (.move rfl)<|.py h33 (.move rfl)<|.py h33 (.move rfl)<|.ixk (j:=k1_2) (.yes rfl rfl h33) rfl rfl hw8_0_0 rfl e_56 hy1 ?_
    rintro b34 o34 _ hq34 rfl
    refine .py h33 (.fa rfl Qd)<|.py h33 (.ixa (j:=1) rfl rfl Qek (by decide))<|.py h33 (.fa rfl Qao)<|.ld (k:=0) (.yes rfl rfl h33) rfl rfl rfl trivial (.ps 7 rfl hq34 rfl a_3 rfl)<|.py h33 (.move rfl)<|.py h33 (.ixa (j:=1) rfl rfl ae_38 (by decide))<|.ld (k:=0) (.yes rfl rfl h33) rfl rfl rfl trivial (.s rfl .hd a_3 rfl)<|.py h33 (.bin rfl rfl rfl)<|.q (.pickT rfl h33 rfl)<|.m rfl rfl<|.split (t:=178) rfl (fun h35=>?_) (fun h35=>?_)
    ·have kh35:=dT h35
     have hF:=cT h35 hF
     refine .py h35 (.move rfl)<|.py h35 (.ixa (j:=1) rfl rfl ae_38 (by decide))<|.ld (k:=0) (.yes rfl rfl h35) rfl rfl rfl trivial (.s rfl .hd a_3 rfl)<|.py h35 (.move rfl)<|.py h35 (.move rfl)<|.py h35 (.move rfl)<|.ixk (j:=k1_2) (.yes rfl rfl h35) rfl rfl hw8_0_0 rfl e_56 hy1 ?_
     rintro b36 o36 _ hq36 rfl
     refine .py h35 (.fa rfl Qd)<|.py h35 (.ixa (j:=1) rfl rfl Qek (by decide))<|.py h35 (.fa rfl Qap)<|.ld (k:=0) (.yes rfl rfl h35) rfl rfl rfl trivial (.ps 8 rfl hq36 rfl a_3 rfl)<|.py h35 (.bin rfl rfl rfl)<|.q (.pickT rfl h35 rfl)<|.z rfl rfl<|.nil<|bq_n<|sq_n<|.region rfl<|.m rfl rfl<|.q (.addL (c:=2) rfl rfl rfl (by decide))<|.z rfl rfl<|.nil<|sq_n<|.unroll<|.seq<|.seq<|.region rfl<|.m rfl rfl<|.b rfl rfl rfl rfl<|.nil<|sq_n<|.condT rfl (by decide)<|.skip<|sq_n<|.seq<|.block<|.draw (tb:=[r1 0 0,r1 1 0,r0 3 0,r0 3 0,r0 3 0,r0 15 0,r0 47 0,r0 127 0,r0 255 0,r0 511 0,r0 3 0,r0 1027 0,r0 3075 0,r1 8191 0,r1 16383 0,r1 32767 0,r0 65535 0,r0 131071 0,r0 262143 0,r0 65535 0,r0 65535 0,r0 65535 0,r0 1638399 0,r0 5832703 0,r0 16318463 0,r0 33095679 0,r0 66650111 0,r1 134217727 0,r1 268435455 0,r1 536870911 0]) rfl (by kernel_rfl) (by kernel_rfl) ?_
     refine .m rfl rfl<|.m rfl rfl<|.split (t:=164) rfl (fun h37=>?_) (fun h37=>?_)
     ·have kh37:=dT h37
      have hF:=cT h37 hF
      refine .py h37 (.move rfl)<|.py h37 (.move rfl)<|.py h37 (.move rfl)<|.ixk (j:=k1_2) (.yes rfl rfl h37) rfl rfl hw8_0_0 rfl e_56 hy1 ?_
      rintro b38 o38 _ hq38 rfl
      refine .py h37 (.fa rfl Qd)<|.py h37 (.ixa (j:=2) rfl rfl Qek (by decide))<|.py h37 (.fa rfl Qao)<|.ld (k:=0) (.yes rfl rfl h37) rfl rfl rfl trivial (.ps 9 rfl hq38 rfl a_3 rfl)<|.py h37 (.move rfl)<|.py h37 (.ixa (j:=2) rfl rfl ae_38 (by decide))<|.ld (k:=0) (.yes rfl rfl h37) rfl rfl rfl trivial (.s rfl .hd a_3 rfl)<|.py h37 (.bin rfl rfl rfl)<|.q (.pickT rfl h37 rfl)<|.m rfl rfl<|.split (t:=178) rfl (fun h39=>?_) (fun h39=>?_)
      ·have kh39:=dT h39
       have hF:=cT h39 hF
       refine .py h39 (.move rfl)<|.py h39 (.ixa (j:=2) rfl rfl ae_38 (by decide))<|.ld (k:=0) (.yes rfl rfl h39) rfl rfl rfl trivial (.s rfl .hd a_3 rfl)<|.py h39 (.move rfl)<|.py h39 (.move rfl)<|.py h39 (.move rfl)<|.ixk (j:=k1_2) (.yes rfl rfl h39) rfl rfl hw8_0_0 rfl e_56 hy1 ?_
       rintro b40 o40 _ hq40 rfl
       refine .py h39 (.fa rfl Qd)<|.py h39 (.ixa (j:=2) rfl rfl Qek (by decide))<|.py h39 (.fa rfl Qap)<|.ld (k:=0) (.yes rfl rfl h39) rfl rfl rfl trivial (.ps 10 rfl hq40 rfl a_3 rfl)<|.py h39 (.bin rfl rfl rfl)<|.q (.pickT rfl h39 rfl)<|.z rfl rfl<|.nil<|bq_n<|sq_n<|.region rfl<|.m rfl rfl<|.q (.addL (c:=3) rfl rfl rfl (by decide))<|.z rfl rfl<|.nil<|sq_n<|.unroll<|.seq<|.seq<|.region rfl<|.m rfl rfl<|.b rfl rfl rfl rfl<|.nil<|sq_n<|.condT rfl (by decide)<|.skip<|sq_n<|.seq<|.block<|.draw (tb:=[r1 0 0,r1 1 0,r0 3 0,r0 3 0,r0 3 0,r0 15 0,r0 47 0,r0 127 0,r0 255 0,r0 511 0,r0 3 0,r0 1027 0,r0 3075 0,r1 8191 0,r1 16383 0,r1 32767 0,r0 65535 0,r0 131071 0,r0 262143 0,r0 65535 0,r0 65535 0,r0 65535 0,r0 1638399 0,r0 5832703 0,r0 16318463 0,r0 33095679 0,r0 66650111 0,r1 134217727 0,r1 268435455 0,r1 536870911 0]) rfl (by kernel_rfl) (by kernel_rfl) ?_
       refine .m rfl rfl<|.m rfl rfl<|.split (t:=164) rfl (fun h41=>?_) (fun h41=>?_)
       ·have kh41:=dT h41
        have hF:=cT h41 hF
        refine .py h41 (.move rfl)<|.py h41 (.move rfl)<|.py h41 (.move rfl)<|.ixk (j:=k1_2) (.yes rfl rfl h41) rfl rfl hw8_0_0 rfl e_56 hy1 ?_
        rintro b42 o42 _ hq42 rfl
        refine .py h41 (.fa rfl Qd)<|.py h41 (.ixa (j:=3) rfl rfl Qek (by decide))<|.py h41 (.fa rfl Qao)<|.ld (k:=0) (.yes rfl rfl h41) rfl rfl rfl trivial (.ps 11 rfl hq42 rfl a_3 rfl)<|.py h41 (.move rfl)<|.py h41 (.ixa (j:=3) rfl rfl ae_38 (by decide))<|.ld (k:=0) (.yes rfl rfl h41) rfl rfl rfl trivial (.s rfl .hd a_3 rfl)<|.py h41 (.bin rfl rfl rfl)<|.q (.pickT rfl h41 rfl)<|.m rfl rfl<|.split (t:=178) rfl (fun h43=>?_) (fun h43=>?_)
        ·have kh43:=dT h43
         have hF:=cT h43 hF
         refine .py h43 (.move rfl)<|.py h43 (.ixa (j:=3) rfl rfl ae_38 (by decide))<|.ld (k:=0) (.yes rfl rfl h43) rfl rfl rfl trivial (.s rfl .hd a_3 rfl)<|.py h43 (.move rfl)<|.py h43 (.move rfl)<|.py h43 (.move rfl)<|.ixk (j:=k1_2) (.yes rfl rfl h43) rfl rfl hw8_0_0 rfl e_56 hy1 ?_
         rintro b44 o44 _ hq44 rfl
         refine .py h43 (.fa rfl Qd)<|.py h43 (.ixa (j:=3) rfl rfl Qek (by decide))<|.py h43 (.fa rfl Qap)<|.ld (k:=0) (.yes rfl rfl h43) rfl rfl rfl trivial (.ps 12 rfl hq44 rfl a_3 rfl)<|.py h43 (.bin rfl rfl rfl)<|.q (.pickT rfl h43 rfl)<|.z rfl rfl<|.nil<|bq_n<|sq_n<|.region rfl<|.m rfl rfl<|.q (.addL (c:=4) rfl rfl rfl (by decide))<|.z rfl rfl<|.nil<|sq_n<|.unroll<|.seq<|.seq<|.region rfl<|.m rfl rfl<|.b rfl rfl rfl rfl<|.nil<|sq_n<|.condT rfl (by decide)<|.skip<|sq_n<|.seq<|.block<|.draw (tb:=[r1 0 0,r1 1 0,r0 3 0,r0 3 0,r0 3 0,r0 15 0,r0 47 0,r0 127 0,r0 255 0,r0 511 0,r0 3 0,r0 1027 0,r0 3075 0,r1 8191 0,r1 16383 0,r1 32767 0,r0 65535 0,r0 131071 0,r0 262143 0,r0 65535 0,r0 65535 0,r0 65535 0,r0 1638399 0,r0 5832703 0,r0 16318463 0,r0 33095679 0,r0 66650111 0,r1 134217727 0,r1 268435455 0,r1 536870911 0]) rfl (by kernel_rfl) (by kernel_rfl) ?_
         refine .m rfl rfl<|.m rfl rfl<|.split (t:=164) rfl (fun h45=>?_) (fun h45=>?_)
         ·have kh45:=dT h45
          have hF:=cT h45 hF
          refine .py h45 (.move rfl)<|.py h45 (.move rfl)<|.py h45 (.move rfl)<|.ixk (j:=k1_2) (.yes rfl rfl h45) rfl rfl hw8_0_0 rfl e_56 hy1 ?_
          rintro b46 o46 _ hq46 rfl
          refine .py h45 (.fa rfl Qd)<|.py h45 (.ixa (j:=4) rfl rfl Qek (by decide))<|.py h45 (.fa rfl Qao)<|.ld (k:=0) (.yes rfl rfl h45) rfl rfl rfl trivial (.ps 13 rfl hq46 rfl a_3 rfl)<|.py h45 (.move rfl)<|.py h45 (.ixa (j:=4) rfl rfl ae_38 (by decide))<|.ld (k:=0) (.yes rfl rfl h45) rfl rfl rfl trivial (.s rfl .hd a_3 rfl)<|.py h45 (.bin rfl rfl rfl)<|.q (.pickT rfl h45 rfl)<|.m rfl rfl<|.split (t:=178) rfl (fun h47=>?_) (fun h47=>?_)
          ·have kh47:=dT h47
           have hF:=cT h47 hF
           refine .py h47 (.move rfl)<|.py h47 (.ixa (j:=4) rfl rfl ae_38 (by decide))<|.ld (k:=0) (.yes rfl rfl h47) rfl rfl rfl trivial (.s rfl .hd a_3 rfl)<|.py h47 (.move rfl)<|.py h47 (.move rfl)<|.py h47 (.move rfl)<|.ixk (j:=k1_2) (.yes rfl rfl h47) rfl rfl hw8_0_0 rfl e_56 hy1 ?_
           rintro b48 o48 _ hq48 rfl
           refine .py h47 (.fa rfl Qd)<|.py h47 (.ixa (j:=4) rfl rfl Qek (by decide))<|.py h47 (.fa rfl Qap)<|.ld (k:=0) (.yes rfl rfl h47) rfl rfl rfl trivial (.ps 14 rfl hq48 rfl a_3 rfl)<|.py h47 (.bin rfl rfl rfl)<|.q (.pickT rfl h47 rfl)<|.z rfl rfl<|.nil<|bq_n<|sq_n<|.region rfl<|.m rfl rfl<|.q (.addL (c:=5) rfl rfl rfl (by decide))<|.z rfl rfl<|.nil<|sq_n<|.unroll<|.seq<|.seq<|.region rfl<|.m rfl rfl<|.b rfl rfl rfl rfl<|.nil<|sq_n<|.condF rfl (by decide)<|.exit<|sq_e<|sq_e<|bq_x rfl<|sq_n<|.seq<|.region rfl<|.m rfl rfl<|.nil<|sq_n<|.cond rfl (fun h49=>?_) (fun h49=>?_)
           ·have kh49:=dT h49
            have hF:=cT h49 hF
            refine .seq<|.region rfl<|.m rfl rfl<|.b rfl rfl rfl rfl<|.z rfl rfl<|.nil<|sq_n<|.seq<|.region rfl<|.m rfl rfl<|.m rfl rfl<|.m rfl rfl<|.ixk (j:=k1_2) .no rfl rfl hw8_0_0 rfl e_56 hy1 ?_
            rintro b50 o50 _ hq50 rfl
            refine .q (.fa rfl f_111_2)<|.q (.fa rfl Qao)<|.w (.ps 15 rfl hq50 rfl a_3 rfl)<|.b rfl rfl rfl rfl<|.m rfl rfl<|.split (t:=203) rfl (fun h51=>?_) (fun h51=>?_)
            ·have hF:=cT h51 hF
             refine .k h51<|.k h51<|.k h51<|.k h51<|.k h51<|.k h51<|.k h51<|.k h51<|.q (.pickT rfl h51 rfl)<|.nil<|sq_n<|.condT rfl rfl<|.seq<|.region rfl<|.z rfl rfl<|.nil<|sq_n<|.ret<|bq_r<|sq_r<|lq_r<|bq_r<|sq_r ?_
             obtain rfl:=sI hF
             have hF:=hG1
             obtain rfl:=sI hF
             refine Qab (((hle2.trans hle8).trans hle9).trans hlo1) (.tmp rfl .nil) rfl ?_
             rfl
            have kh51:=dF h51
            have hF:=cF h51 hF
            refine .py h51 (.move rfl)<|.py h51 (.move rfl)<|.py h51 (.move rfl)<|.ixk (j:=k1_2) (.yes rfl rfl h51) rfl rfl hw8_0_0 rfl e_56 hy1 ?_
            rintro b52 o52 _ hq52 rfl
            refine .py h51 (.fa rfl f_111_2)<|.py h51 (.fa rfl Qap)<|.wy h51 (.ps 16 rfl hq52 rfl a_3 rfl)<|.py h51 (.bin rfl rfl rfl)<|.q (.pickF rfl h51 rfl)<|.nil<|sq_n<|.cond rfl (fun h53=>?_) (fun h53=>?_)
            ·have hF:=cT h53 hF
             refine .seq<|.region rfl<|.z rfl rfl<|.nil<|sq_n<|.ret<|bq_r<|sq_r<|lq_r<|bq_r<|sq_r ?_
             obtain rfl:=sI hF
             have hF:=hG1
             obtain rfl:=sI hF
             refine Qab (((hle2.trans hle8).trans hle9).trans hlo1) (.tmp rfl .nil) rfl ?_
             rfl
            have kh53:=dF h53
            have hF:=cF h53 hF
            refine .skip<|bq_n<|sq_n<|.region rfl<|.m rfl rfl<|.q (.inc1 rfl rfl (by omega))<|.z rfl rfl<|.nil<|Qac (L_l04_CodeParted_1.mk (wr (z1_1+1)) (k1_2+1)) ⟨rfl,rfl,rfl,rfl,rfl,trivial⟩ (List.Sublist.refl _) (Le.refl _) ?_ ?_
            ·exact ⟨(Qam hy1),hF⟩
            ·simp only;omega
           have kh49:=dF h49
           have hF:=cF h49 hF
           refine .skip<|bq_n<|sq_n<|.region rfl<|.m rfl rfl<|.q (.inc1 rfl rfl (by omega))<|.z rfl rfl<|.nil<|Qac (L_l04_CodeParted_1.mk z1_1 (k1_2+1)) ⟨rfl,rfl,rfl,rfl,rfl,trivial⟩ (List.Sublist.refl _) (Le.refl _) ?_ ?_
           ·exact ⟨(Qam hy1),hF⟩
           ·simp only;omega
          have kh47:=dF h47
          have hF:=cF h47 hF
          refine .k h47<|.k h47<|.k h47<|.k h47<|.k h47<|.k h47<|.k h47<|.k h47<|.k h47<|.k h47<|.k h47<|.k h47<|.q (.pickF rfl h47 rfl)<|.z rfl rfl<|.nil<|bq_n<|sq_n<|.region rfl<|.m rfl rfl<|.q (.addL (c:=5) rfl rfl rfl (by decide))<|.z rfl rfl<|.nil<|sq_n<|.unroll<|.seq<|.seq<|.region rfl<|.m rfl rfl<|.b rfl rfl rfl rfl<|.nil<|sq_n<|.condF rfl (by decide)<|.exit<|sq_e<|sq_e<|bq_x rfl<|sq_n<|.seq ?_
          refine .region rfl<|.m rfl rfl<|.nil<|sq_n<|.condF rfl rfl<|.skip<|bq_n<|sq_n<|.region rfl<|.m rfl rfl<|.q (.inc1 rfl rfl (by omega))<|.z rfl rfl<|.nil<|Qac (L_l04_CodeParted_1.mk z1_1 (k1_2+1)) ⟨rfl,rfl,rfl,rfl,rfl,trivial⟩ (List.Sublist.refl _) (Le.refl _) ?_ ?_
          ·exact ⟨(Qam hy1),hF⟩
          ·simp only;omega
         have kh45:=dF h45
         have hF:=cF h45 hF
         refine .k h45<|.k h45<|.k h45<|.k h45<|.k h45<|.k h45<|.k h45<|.k h45<|.k h45<|.k h45<|.k h45<|.k h45<|.q (.pickF rfl h45 rfl)<|.m rfl rfl<|.k rfl<|.k rfl<|.k rfl<|.k rfl<|.k rfl<|.k rfl<|.k rfl<|.k rfl<|.k rfl<|.k rfl<|.k rfl<|.k rfl<|.q (.pickF rfl rfl rfl)<|.z rfl rfl<|.nil<|bq_n<|sq_n<|.region rfl ?_
         refine .m rfl rfl<|.q (.addL (c:=5) rfl rfl rfl (by decide))<|.z rfl rfl<|.nil<|sq_n<|.unroll<|.seq<|.seq<|.region rfl<|.m rfl rfl<|.b rfl rfl rfl rfl<|.nil<|sq_n<|.condF rfl (by decide)<|.exit<|sq_e<|sq_e<|bq_x rfl<|sq_n<|.seq<|.region rfl<|.m rfl rfl<|.nil<|sq_n<|.condF rfl rfl<|.skip<|bq_n<|sq_n<|.region rfl<|.m rfl rfl<|.q (.inc1 rfl rfl (by omega))<|.z rfl rfl<|.nil<|Qac (L_l04_CodeParted_1.mk z1_1 (k1_2+1)) ⟨rfl,rfl,rfl,rfl,rfl,trivial⟩ (List.Sublist.refl _) (Le.refl _) ?_ ?_
         ·exact ⟨(Qam hy1),hF⟩
         ·simp only;omega
        have kh43:=dF h43
        have hF:=cF h43 hF
        refine .k h43<|.k h43<|.k h43<|.k h43<|.k h43<|.k h43<|.k h43<|.k h43<|.k h43<|.k h43<|.k h43<|.k h43<|.q (.pickF rfl h43 rfl)<|.z rfl rfl<|.nil<|bq_n<|sq_n<|.region rfl<|.m rfl rfl<|.q (.addL (c:=4) rfl rfl rfl (by decide))<|.z rfl rfl<|.nil<|sq_n<|.unroll<|.seq<|.seq<|.region rfl<|.m rfl rfl<|.b rfl rfl rfl rfl<|.nil<|sq_n<|.condT rfl (by decide)<|.skip<|sq_n<|.seq ?_
        refine .block<|.draw (tb:=[r1 0 0,r1 1 0,r0 3 0,r0 3 0,r0 3 0,r0 15 0,r0 47 0,r0 127 0,r0 255 0,r0 511 0,r0 3 0,r0 1027 0,r0 3075 0,r1 8191 0,r1 16383 0,r1 32767 0,r0 65535 0,r0 131071 0,r0 262143 0,r0 65535 0,r0 65535 0,r0 65535 0,r0 1638399 0,r0 5832703 0,r0 16318463 0,r0 33095679 0,r0 66650111 0,r1 134217727 0,r1 268435455 0,r1 536870911 0]) rfl (by kernel_rfl) (by kernel_rfl) ?_
        refine .m rfl rfl<|.m rfl rfl<|.k rfl<|.k rfl<|.k rfl<|.k rfl<|.k rfl<|.k rfl<|.k rfl<|.k rfl<|.k rfl<|.k rfl<|.k rfl<|.k rfl<|.q (.pickF rfl rfl rfl)<|.m rfl rfl<|.k rfl<|.k rfl<|.k rfl<|.k rfl<|.k rfl<|.k rfl<|.k rfl<|.k rfl<|.k rfl<|.k rfl<|.k rfl<|.k rfl<|.q (.pickF rfl rfl rfl)<|.z rfl rfl ?_
        refine .nil<|bq_n<|sq_n<|.region rfl<|.m rfl rfl<|.q (.addL (c:=5) rfl rfl rfl (by decide))<|.z rfl rfl<|.nil<|sq_n<|.unroll<|.seq<|.seq<|.region rfl<|.m rfl rfl<|.b rfl rfl rfl rfl<|.nil<|sq_n<|.condF rfl (by decide)<|.exit<|sq_e<|sq_e<|bq_x rfl<|sq_n<|.seq<|.region rfl<|.m rfl rfl<|.nil<|sq_n<|.condF rfl rfl<|.skip<|bq_n<|sq_n<|.region rfl<|.m rfl rfl<|.q (.inc1 rfl rfl (by omega))<|.z rfl rfl<|.nil<|Qac (L_l04_CodeParted_1.mk z1_1 (k1_2+1)) ⟨rfl,rfl,rfl,rfl,rfl,trivial⟩ (List.Sublist.refl _) (Le.refl _) ?_ ?_
        ·exact ⟨(Qam hy1),hF⟩
        ·simp only;omega
       have kh41:=dF h41
       have hF:=cF h41 hF
       refine .k h41<|.k h41<|.k h41<|.k h41<|.k h41<|.k h41<|.k h41<|.k h41<|.k h41<|.k h41<|.k h41<|.k h41<|.q (.pickF rfl h41 rfl)<|.m rfl rfl<|.k rfl<|.k rfl<|.k rfl<|.k rfl<|.k rfl<|.k rfl<|.k rfl<|.k rfl<|.k rfl<|.k rfl<|.k rfl<|.k rfl<|.q (.pickF rfl rfl rfl)<|.z rfl rfl<|.nil<|bq_n<|sq_n<|.region rfl ?_
       refine .m rfl rfl<|.q (.addL (c:=4) rfl rfl rfl (by decide))<|.z rfl rfl<|.nil<|sq_n<|.unroll<|.seq<|.seq<|.region rfl<|.m rfl rfl<|.b rfl rfl rfl rfl<|.nil<|sq_n<|.condT rfl (by decide)<|.skip<|sq_n<|.seq<|.block<|.draw (tb:=[r1 0 0,r1 1 0,r0 3 0,r0 3 0,r0 3 0,r0 15 0,r0 47 0,r0 127 0,r0 255 0,r0 511 0,r0 3 0,r0 1027 0,r0 3075 0,r1 8191 0,r1 16383 0,r1 32767 0,r0 65535 0,r0 131071 0,r0 262143 0,r0 65535 0,r0 65535 0,r0 65535 0,r0 1638399 0,r0 5832703 0,r0 16318463 0,r0 33095679 0,r0 66650111 0,r1 134217727 0,r1 268435455 0,r1 536870911 0]) rfl (by kernel_rfl) (by kernel_rfl) ?_
       refine .m rfl rfl<|.m rfl rfl<|.k rfl<|.k rfl<|.k rfl<|.k rfl<|.k rfl<|.k rfl<|.k rfl<|.k rfl<|.k rfl<|.k rfl<|.k rfl<|.k rfl<|.q (.pickF rfl rfl rfl)<|.m rfl rfl<|.k rfl<|.k rfl<|.k rfl<|.k rfl<|.k rfl<|.k rfl<|.k rfl<|.k rfl<|.k rfl<|.k rfl<|.k rfl<|.k rfl<|.q (.pickF rfl rfl rfl)<|.z rfl rfl ?_
       refine .nil<|bq_n<|sq_n<|.region rfl<|.m rfl rfl<|.q (.addL (c:=5) rfl rfl rfl (by decide))<|.z rfl rfl<|.nil<|sq_n<|.unroll<|.seq<|.seq<|.region rfl<|.m rfl rfl<|.b rfl rfl rfl rfl<|.nil<|sq_n<|.condF rfl (by decide)<|.exit<|sq_e<|sq_e<|bq_x rfl<|sq_n<|.seq<|.region rfl<|.m rfl rfl<|.nil<|sq_n<|.condF rfl rfl<|.skip<|bq_n<|sq_n<|.region rfl<|.m rfl rfl<|.q (.inc1 rfl rfl (by omega))<|.z rfl rfl<|.nil<|Qac (L_l04_CodeParted_1.mk z1_1 (k1_2+1)) ⟨rfl,rfl,rfl,rfl,rfl,trivial⟩ (List.Sublist.refl _) (Le.refl _) ?_ ?_
       ·exact ⟨(Qam hy1),hF⟩
       ·simp only;omega
      have kh39:=dF h39
      have hF:=cF h39 hF
      refine .k h39<|.k h39<|.k h39<|.k h39<|.k h39<|.k h39<|.k h39<|.k h39<|.k h39<|.k h39<|.k h39<|.k h39<|.q (.pickF rfl h39 rfl)<|.z rfl rfl<|.nil<|bq_n<|sq_n<|.region rfl<|.m rfl rfl<|.q (.addL (c:=3) rfl rfl rfl (by decide))<|.z rfl rfl<|.nil<|sq_n<|.unroll<|.seq<|.seq<|.region rfl<|.m rfl rfl<|.b rfl rfl rfl rfl<|.nil<|sq_n<|.condT rfl (by decide)<|.skip<|sq_n<|.seq ?_
      refine .block<|.draw (tb:=[r1 0 0,r1 1 0,r0 3 0,r0 3 0,r0 3 0,r0 15 0,r0 47 0,r0 127 0,r0 255 0,r0 511 0,r0 3 0,r0 1027 0,r0 3075 0,r1 8191 0,r1 16383 0,r1 32767 0,r0 65535 0,r0 131071 0,r0 262143 0,r0 65535 0,r0 65535 0,r0 65535 0,r0 1638399 0,r0 5832703 0,r0 16318463 0,r0 33095679 0,r0 66650111 0,r1 134217727 0,r1 268435455 0,r1 536870911 0]) rfl (by kernel_rfl) (by kernel_rfl) ?_
      refine .m rfl rfl<|.m rfl rfl<|.k rfl<|.k rfl<|.k rfl<|.k rfl<|.k rfl<|.k rfl<|.k rfl<|.k rfl<|.k rfl<|.k rfl<|.k rfl<|.k rfl<|.q (.pickF rfl rfl rfl)<|.m rfl rfl<|.k rfl<|.k rfl<|.k rfl<|.k rfl<|.k rfl<|.k rfl<|.k rfl<|.k rfl<|.k rfl<|.k rfl<|.k rfl<|.k rfl<|.q (.pickF rfl rfl rfl)<|.z rfl rfl ?_
      refine .nil<|bq_n<|sq_n<|.region rfl<|.m rfl rfl<|.q (.addL (c:=4) rfl rfl rfl (by decide))<|.z rfl rfl<|.nil<|sq_n<|.unroll<|.seq<|.seq<|.region rfl<|.m rfl rfl<|.b rfl rfl rfl rfl<|.nil<|sq_n<|.condT rfl (by decide)<|.skip<|sq_n<|.seq<|.block<|.draw (tb:=[r1 0 0,r1 1 0,r0 3 0,r0 3 0,r0 3 0,r0 15 0,r0 47 0,r0 127 0,r0 255 0,r0 511 0,r0 3 0,r0 1027 0,r0 3075 0,r1 8191 0,r1 16383 0,r1 32767 0,r0 65535 0,r0 131071 0,r0 262143 0,r0 65535 0,r0 65535 0,r0 65535 0,r0 1638399 0,r0 5832703 0,r0 16318463 0,r0 33095679 0,r0 66650111 0,r1 134217727 0,r1 268435455 0,r1 536870911 0]) rfl (by kernel_rfl) (by kernel_rfl) ?_
      refine .m rfl rfl<|.m rfl rfl<|.k rfl<|.k rfl<|.k rfl<|.k rfl<|.k rfl<|.k rfl<|.k rfl<|.k rfl<|.k rfl<|.k rfl<|.k rfl<|.k rfl<|.q (.pickF rfl rfl rfl)<|.m rfl rfl<|.k rfl<|.k rfl<|.k rfl<|.k rfl<|.k rfl<|.k rfl<|.k rfl<|.k rfl<|.k rfl<|.k rfl<|.k rfl<|.k rfl<|.q (.pickF rfl rfl rfl)<|.z rfl rfl ?_
      refine .nil<|bq_n<|sq_n<|.region rfl<|.m rfl rfl<|.q (.addL (c:=5) rfl rfl rfl (by decide))<|.z rfl rfl<|.nil<|sq_n<|.unroll<|.seq<|.seq<|.region rfl<|.m rfl rfl<|.b rfl rfl rfl rfl<|.nil<|sq_n<|.condF rfl (by decide)<|.exit<|sq_e<|sq_e<|bq_x rfl<|sq_n<|.seq<|.region rfl<|.m rfl rfl<|.nil<|sq_n<|.condF rfl rfl<|.skip<|bq_n<|sq_n<|.region rfl<|.m rfl rfl<|.q (.inc1 rfl rfl (by omega))<|.z rfl rfl<|.nil<|Qac (L_l04_CodeParted_1.mk z1_1 (k1_2+1)) ⟨rfl,rfl,rfl,rfl,rfl,trivial⟩ (List.Sublist.refl _) (Le.refl _) ?_ ?_
      ·exact ⟨(Qam hy1),hF⟩
      ·simp only;omega
     have kh37:=dF h37
     have hF:=cF h37 hF
     refine .k h37<|.k h37<|.k h37<|.k h37<|.k h37<|.k h37<|.k h37<|.k h37<|.k h37<|.k h37<|.k h37<|.k h37<|.q (.pickF rfl h37 rfl)<|.m rfl rfl<|.k rfl<|.k rfl<|.k rfl<|.k rfl<|.k rfl<|.k rfl<|.k rfl<|.k rfl<|.k rfl<|.k rfl<|.k rfl<|.k rfl<|.q (.pickF rfl rfl rfl)<|.z rfl rfl<|.nil<|bq_n<|sq_n<|.region rfl ?_
     refine .m rfl rfl<|.q (.addL (c:=3) rfl rfl rfl (by decide))<|.z rfl rfl<|.nil<|sq_n<|.unroll<|.seq<|.seq<|.region rfl<|.m rfl rfl<|.b rfl rfl rfl rfl<|.nil<|sq_n<|.condT rfl (by decide)<|.skip<|sq_n<|.seq<|.block<|.draw (tb:=[r1 0 0,r1 1 0,r0 3 0,r0 3 0,r0 3 0,r0 15 0,r0 47 0,r0 127 0,r0 255 0,r0 511 0,r0 3 0,r0 1027 0,r0 3075 0,r1 8191 0,r1 16383 0,r1 32767 0,r0 65535 0,r0 131071 0,r0 262143 0,r0 65535 0,r0 65535 0,r0 65535 0,r0 1638399 0,r0 5832703 0,r0 16318463 0,r0 33095679 0,r0 66650111 0,r1 134217727 0,r1 268435455 0,r1 536870911 0]) rfl (by kernel_rfl) (by kernel_rfl) ?_
     refine .m rfl rfl<|.m rfl rfl<|.k rfl<|.k rfl<|.k rfl<|.k rfl<|.k rfl<|.k rfl<|.k rfl<|.k rfl<|.k rfl<|.k rfl<|.k rfl<|.k rfl<|.q (.pickF rfl rfl rfl)<|.m rfl rfl<|.k rfl<|.k rfl<|.k rfl<|.k rfl<|.k rfl<|.k rfl<|.k rfl<|.k rfl<|.k rfl<|.k rfl<|.k rfl<|.k rfl<|.q (.pickF rfl rfl rfl)<|.z rfl rfl ?_
     refine .nil<|bq_n<|sq_n<|.region rfl<|.m rfl rfl<|.q (.addL (c:=4) rfl rfl rfl (by decide))<|.z rfl rfl<|.nil<|sq_n<|.unroll<|.seq<|.seq<|.region rfl<|.m rfl rfl<|.b rfl rfl rfl rfl<|.nil<|sq_n<|.condT rfl (by decide)<|.skip<|sq_n<|.seq<|.block<|.draw (tb:=[r1 0 0,r1 1 0,r0 3 0,r0 3 0,r0 3 0,r0 15 0,r0 47 0,r0 127 0,r0 255 0,r0 511 0,r0 3 0,r0 1027 0,r0 3075 0,r1 8191 0,r1 16383 0,r1 32767 0,r0 65535 0,r0 131071 0,r0 262143 0,r0 65535 0,r0 65535 0,r0 65535 0,r0 1638399 0,r0 5832703 0,r0 16318463 0,r0 33095679 0,r0 66650111 0,r1 134217727 0,r1 268435455 0,r1 536870911 0]) rfl (by kernel_rfl) (by kernel_rfl) ?_
     refine .m rfl rfl<|.m rfl rfl<|.k rfl<|.k rfl<|.k rfl<|.k rfl<|.k rfl<|.k rfl<|.k rfl<|.k rfl<|.k rfl<|.k rfl<|.k rfl<|.k rfl<|.q (.pickF rfl rfl rfl)<|.m rfl rfl<|.k rfl<|.k rfl<|.k rfl<|.k rfl<|.k rfl<|.k rfl<|.k rfl<|.k rfl<|.k rfl<|.k rfl<|.k rfl<|.k rfl<|.q (.pickF rfl rfl rfl)<|.z rfl rfl ?_
     refine .nil<|bq_n<|sq_n<|.region rfl<|.m rfl rfl<|.q (.addL (c:=5) rfl rfl rfl (by decide))<|.z rfl rfl<|.nil<|sq_n<|.unroll<|.seq<|.seq<|.region rfl<|.m rfl rfl<|.b rfl rfl rfl rfl<|.nil<|sq_n<|.condF rfl (by decide)<|.exit<|sq_e<|sq_e<|bq_x rfl<|sq_n<|.seq<|.region rfl<|.m rfl rfl<|.nil<|sq_n<|.condF rfl rfl<|.skip<|bq_n<|sq_n<|.region rfl<|.m rfl rfl<|.q (.inc1 rfl rfl (by omega))<|.z rfl rfl<|.nil<|Qac (L_l04_CodeParted_1.mk z1_1 (k1_2+1)) ⟨rfl,rfl,rfl,rfl,rfl,trivial⟩ (List.Sublist.refl _) (Le.refl _) ?_ ?_
     ·exact ⟨(Qam hy1),hF⟩
     ·simp only;omega
    have kh35:=dF h35
    have hF:=cF h35 hF
    refine .k h35<|.k h35<|.k h35<|.k h35<|.k h35<|.k h35<|.k h35<|.k h35<|.k h35<|.k h35<|.k h35<|.k h35<|.q (.pickF rfl h35 rfl)<|.z rfl rfl<|.nil<|bq_n<|sq_n<|.region rfl<|.m rfl rfl<|.q (.addL (c:=2) rfl rfl rfl (by decide))<|.z rfl rfl<|.nil<|sq_n<|.unroll<|.seq<|.seq<|.region rfl<|.m rfl rfl<|.b rfl rfl rfl rfl<|.nil<|sq_n<|.condT rfl (by decide)<|.skip<|sq_n<|.seq ?_
    refine .block<|.draw (tb:=[r1 0 0,r1 1 0,r0 3 0,r0 3 0,r0 3 0,r0 15 0,r0 47 0,r0 127 0,r0 255 0,r0 511 0,r0 3 0,r0 1027 0,r0 3075 0,r1 8191 0,r1 16383 0,r1 32767 0,r0 65535 0,r0 131071 0,r0 262143 0,r0 65535 0,r0 65535 0,r0 65535 0,r0 1638399 0,r0 5832703 0,r0 16318463 0,r0 33095679 0,r0 66650111 0,r1 134217727 0,r1 268435455 0,r1 536870911 0]) rfl (by kernel_rfl) (by kernel_rfl) ?_
    refine .m rfl rfl<|.m rfl rfl<|.k rfl<|.k rfl<|.k rfl<|.k rfl<|.k rfl<|.k rfl<|.k rfl<|.k rfl<|.k rfl<|.k rfl<|.k rfl<|.k rfl<|.q (.pickF rfl rfl rfl)<|.m rfl rfl<|.k rfl<|.k rfl<|.k rfl<|.k rfl<|.k rfl<|.k rfl<|.k rfl<|.k rfl<|.k rfl<|.k rfl<|.k rfl<|.k rfl<|.q (.pickF rfl rfl rfl)<|.z rfl rfl ?_
    refine .nil<|bq_n<|sq_n<|.region rfl<|.m rfl rfl<|.q (.addL (c:=3) rfl rfl rfl (by decide))<|.z rfl rfl<|.nil<|sq_n<|.unroll<|.seq<|.seq<|.region rfl<|.m rfl rfl<|.b rfl rfl rfl rfl<|.nil<|sq_n<|.condT rfl (by decide)<|.skip<|sq_n<|.seq<|.block<|.draw (tb:=[r1 0 0,r1 1 0,r0 3 0,r0 3 0,r0 3 0,r0 15 0,r0 47 0,r0 127 0,r0 255 0,r0 511 0,r0 3 0,r0 1027 0,r0 3075 0,r1 8191 0,r1 16383 0,r1 32767 0,r0 65535 0,r0 131071 0,r0 262143 0,r0 65535 0,r0 65535 0,r0 65535 0,r0 1638399 0,r0 5832703 0,r0 16318463 0,r0 33095679 0,r0 66650111 0,r1 134217727 0,r1 268435455 0,r1 536870911 0]) rfl (by kernel_rfl) (by kernel_rfl) ?_
    refine .m rfl rfl<|.m rfl rfl<|.k rfl<|.k rfl<|.k rfl<|.k rfl<|.k rfl<|.k rfl<|.k rfl<|.k rfl<|.k rfl<|.k rfl<|.k rfl<|.k rfl<|.q (.pickF rfl rfl rfl)<|.m rfl rfl<|.k rfl<|.k rfl<|.k rfl<|.k rfl<|.k rfl<|.k rfl<|.k rfl<|.k rfl<|.k rfl<|.k rfl<|.k rfl<|.k rfl<|.q (.pickF rfl rfl rfl)<|.z rfl rfl ?_
    refine .nil<|bq_n<|sq_n<|.region rfl<|.m rfl rfl<|.q (.addL (c:=4) rfl rfl rfl (by decide))<|.z rfl rfl<|.nil<|sq_n<|.unroll<|.seq<|.seq<|.region rfl<|.m rfl rfl<|.b rfl rfl rfl rfl<|.nil<|sq_n<|.condT rfl (by decide)<|.skip<|sq_n<|.seq<|.block<|.draw (tb:=[r1 0 0,r1 1 0,r0 3 0,r0 3 0,r0 3 0,r0 15 0,r0 47 0,r0 127 0,r0 255 0,r0 511 0,r0 3 0,r0 1027 0,r0 3075 0,r1 8191 0,r1 16383 0,r1 32767 0,r0 65535 0,r0 131071 0,r0 262143 0,r0 65535 0,r0 65535 0,r0 65535 0,r0 1638399 0,r0 5832703 0,r0 16318463 0,r0 33095679 0,r0 66650111 0,r1 134217727 0,r1 268435455 0,r1 536870911 0]) rfl (by kernel_rfl) (by kernel_rfl) ?_
    refine .m rfl rfl<|.m rfl rfl<|.k rfl<|.k rfl<|.k rfl<|.k rfl<|.k rfl<|.k rfl<|.k rfl<|.k rfl<|.k rfl<|.k rfl<|.k rfl<|.k rfl<|.q (.pickF rfl rfl rfl)<|.m rfl rfl<|.k rfl<|.k rfl<|.k rfl<|.k rfl<|.k rfl<|.k rfl<|.k rfl<|.k rfl<|.k rfl<|.k rfl<|.k rfl<|.k rfl<|.q (.pickF rfl rfl rfl)<|.z rfl rfl ?_
    refine .nil<|bq_n<|sq_n<|.region rfl<|.m rfl rfl<|.q (.addL (c:=5) rfl rfl rfl (by decide))<|.z rfl rfl<|.nil<|sq_n<|.unroll<|.seq<|.seq<|.region rfl<|.m rfl rfl<|.b rfl rfl rfl rfl<|.nil<|sq_n<|.condF rfl (by decide)<|.exit<|sq_e<|sq_e<|bq_x rfl<|sq_n<|.seq<|.region rfl<|.m rfl rfl<|.nil<|sq_n<|.condF rfl rfl<|.skip<|bq_n<|sq_n<|.region rfl<|.m rfl rfl<|.q (.inc1 rfl rfl (by omega))<|.z rfl rfl<|.nil<|Qac (L_l04_CodeParted_1.mk z1_1 (k1_2+1)) ⟨rfl,rfl,rfl,rfl,rfl,trivial⟩ (List.Sublist.refl _) (Le.refl _) ?_ ?_
    ·exact ⟨(Qam hy1),hF⟩
    ·simp only;omega
   have kh33:=dF h33
   have hF:=cF h33 hF
   refine .k h33<|.k h33<|.k h33<|.k h33<|.k h33<|.k h33<|.k h33<|.k h33<|.k h33<|.k h33<|.k h33<|.k h33<|.q (.pickF rfl h33 rfl)<|.m rfl rfl<|.k rfl<|.k rfl<|.k rfl<|.k rfl<|.k rfl<|.k rfl<|.k rfl<|.k rfl<|.k rfl<|.k rfl<|.k rfl<|.k rfl<|.q (.pickF rfl rfl rfl)<|.z rfl rfl<|.nil<|bq_n<|sq_n<|.region rfl ?_
   refine .m rfl rfl<|.q (.addL (c:=2) rfl rfl rfl (by decide))<|.z rfl rfl<|.nil<|sq_n<|.unroll<|.seq<|.seq<|.region rfl<|.m rfl rfl<|.b rfl rfl rfl rfl<|.nil<|sq_n<|.condT rfl (by decide)<|.skip<|sq_n<|.seq<|.block<|.draw (tb:=[r1 0 0,r1 1 0,r0 3 0,r0 3 0,r0 3 0,r0 15 0,r0 47 0,r0 127 0,r0 255 0,r0 511 0,r0 3 0,r0 1027 0,r0 3075 0,r1 8191 0,r1 16383 0,r1 32767 0,r0 65535 0,r0 131071 0,r0 262143 0,r0 65535 0,r0 65535 0,r0 65535 0,r0 1638399 0,r0 5832703 0,r0 16318463 0,r0 33095679 0,r0 66650111 0,r1 134217727 0,r1 268435455 0,r1 536870911 0]) rfl (by kernel_rfl) (by kernel_rfl) ?_
   refine .m rfl rfl<|.m rfl rfl<|.k rfl<|.k rfl<|.k rfl<|.k rfl<|.k rfl<|.k rfl<|.k rfl<|.k rfl<|.k rfl<|.k rfl<|.k rfl<|.k rfl<|.q (.pickF rfl rfl rfl)<|.m rfl rfl<|.k rfl<|.k rfl<|.k rfl<|.k rfl<|.k rfl<|.k rfl<|.k rfl<|.k rfl<|.k rfl<|.k rfl<|.k rfl<|.k rfl<|.q (.pickF rfl rfl rfl)<|.z rfl rfl ?_
   refine .nil<|bq_n<|sq_n<|.region rfl<|.m rfl rfl<|.q (.addL (c:=3) rfl rfl rfl (by decide))<|.z rfl rfl<|.nil<|sq_n<|.unroll<|.seq<|.seq<|.region rfl<|.m rfl rfl<|.b rfl rfl rfl rfl<|.nil<|sq_n<|.condT rfl (by decide)<|.skip<|sq_n<|.seq<|.block<|.draw (tb:=[r1 0 0,r1 1 0,r0 3 0,r0 3 0,r0 3 0,r0 15 0,r0 47 0,r0 127 0,r0 255 0,r0 511 0,r0 3 0,r0 1027 0,r0 3075 0,r1 8191 0,r1 16383 0,r1 32767 0,r0 65535 0,r0 131071 0,r0 262143 0,r0 65535 0,r0 65535 0,r0 65535 0,r0 1638399 0,r0 5832703 0,r0 16318463 0,r0 33095679 0,r0 66650111 0,r1 134217727 0,r1 268435455 0,r1 536870911 0]) rfl (by kernel_rfl) (by kernel_rfl) ?_
   refine .m rfl rfl<|.m rfl rfl<|.k rfl<|.k rfl<|.k rfl<|.k rfl<|.k rfl<|.k rfl<|.k rfl<|.k rfl<|.k rfl<|.k rfl<|.k rfl<|.k rfl<|.q (.pickF rfl rfl rfl)<|.m rfl rfl<|.k rfl<|.k rfl<|.k rfl<|.k rfl<|.k rfl<|.k rfl<|.k rfl<|.k rfl<|.k rfl<|.k rfl<|.k rfl<|.k rfl<|.q (.pickF rfl rfl rfl)<|.z rfl rfl ?_
   refine .nil<|bq_n<|sq_n<|.region rfl<|.m rfl rfl<|.q (.addL (c:=4) rfl rfl rfl (by decide))<|.z rfl rfl<|.nil<|sq_n<|.unroll<|.seq<|.seq<|.region rfl<|.m rfl rfl<|.b rfl rfl rfl rfl<|.nil<|sq_n<|.condT rfl (by decide)<|.skip<|sq_n<|.seq<|.block<|.draw (tb:=[r1 0 0,r1 1 0,r0 3 0,r0 3 0,r0 3 0,r0 15 0,r0 47 0,r0 127 0,r0 255 0,r0 511 0,r0 3 0,r0 1027 0,r0 3075 0,r1 8191 0,r1 16383 0,r1 32767 0,r0 65535 0,r0 131071 0,r0 262143 0,r0 65535 0,r0 65535 0,r0 65535 0,r0 1638399 0,r0 5832703 0,r0 16318463 0,r0 33095679 0,r0 66650111 0,r1 134217727 0,r1 268435455 0,r1 536870911 0]) rfl (by kernel_rfl) (by kernel_rfl) ?_
   refine .m rfl rfl<|.m rfl rfl<|.k rfl<|.k rfl<|.k rfl<|.k rfl<|.k rfl<|.k rfl<|.k rfl<|.k rfl<|.k rfl<|.k rfl<|.k rfl<|.k rfl<|.q (.pickF rfl rfl rfl)<|.m rfl rfl<|.k rfl<|.k rfl<|.k rfl<|.k rfl<|.k rfl<|.k rfl<|.k rfl<|.k rfl<|.k rfl<|.k rfl<|.k rfl<|.k rfl<|.q (.pickF rfl rfl rfl)<|.z rfl rfl ?_
   refine .nil<|bq_n<|sq_n<|.region rfl<|.m rfl rfl<|.q (.addL (c:=5) rfl rfl rfl (by decide))<|.z rfl rfl<|.nil<|sq_n<|.unroll<|.seq<|.seq<|.region rfl<|.m rfl rfl<|.b rfl rfl rfl rfl<|.nil<|sq_n<|.condF rfl (by decide)<|.exit<|sq_e<|sq_e<|bq_x rfl<|sq_n<|.seq<|.region rfl<|.m rfl rfl<|.nil<|sq_n<|.condF rfl rfl<|.skip<|bq_n<|sq_n<|.region rfl<|.m rfl rfl<|.q (.inc1 rfl rfl (by omega))<|.z rfl rfl<|.nil<|Qac (L_l04_CodeParted_1.mk z1_1 (k1_2+1)) ⟨rfl,rfl,rfl,rfl,rfl,trivial⟩ (List.Sublist.refl _) (Le.refl _) ?_ ?_
   ·exact ⟨(Qam hy1),hF⟩
   ·simp only;omega
  have kh31:=dF h31
  have hF:=cF h31 hF
  refine .k h31<|.k h31<|.k h31<|.k h31<|.k h31<|.k h31<|.k h31<|.k h31<|.k h31<|.k h31<|.k h31<|.k h31<|.q (.pickF rfl h31 rfl)<|.z rfl rfl<|.nil<|bq_n<|sq_n<|.region rfl<|.m rfl rfl<|.q (.addL (c:=1) rfl rfl rfl (by decide))<|.z rfl rfl<|.nil<|sq_n<|.unroll<|.seq<|.seq<|.region rfl<|.m rfl rfl<|.b rfl rfl rfl rfl<|.nil<|sq_n<|.condT rfl (by decide)<|.skip<|sq_n<|.seq ?_
  refine .block<|.draw (tb:=[r1 0 0,r1 1 0,r0 3 0,r0 3 0,r0 3 0,r0 15 0,r0 47 0,r0 127 0,r0 255 0,r0 511 0,r0 3 0,r0 1027 0,r0 3075 0,r1 8191 0,r1 16383 0,r1 32767 0,r0 65535 0,r0 131071 0,r0 262143 0,r0 65535 0,r0 65535 0,r0 65535 0,r0 1638399 0,r0 5832703 0,r0 16318463 0,r0 33095679 0,r0 66650111 0,r1 134217727 0,r1 268435455 0,r1 536870911 0]) rfl (by kernel_rfl) (by kernel_rfl) ?_
  refine .m rfl rfl<|.m rfl rfl<|.k rfl<|.k rfl<|.k rfl<|.k rfl<|.k rfl<|.k rfl<|.k rfl<|.k rfl<|.k rfl<|.k rfl<|.k rfl<|.k rfl<|.q (.pickF rfl rfl rfl)<|.m rfl rfl<|.k rfl<|.k rfl<|.k rfl<|.k rfl<|.k rfl<|.k rfl<|.k rfl<|.k rfl<|.k rfl<|.k rfl<|.k rfl<|.k rfl<|.q (.pickF rfl rfl rfl)<|.z rfl rfl ?_
  refine .nil<|bq_n<|sq_n<|.region rfl<|.m rfl rfl<|.q (.addL (c:=2) rfl rfl rfl (by decide))<|.z rfl rfl<|.nil<|sq_n<|.unroll<|.seq<|.seq<|.region rfl<|.m rfl rfl<|.b rfl rfl rfl rfl<|.nil<|sq_n<|.condT rfl (by decide)<|.skip<|sq_n<|.seq<|.block<|.draw (tb:=[r1 0 0,r1 1 0,r0 3 0,r0 3 0,r0 3 0,r0 15 0,r0 47 0,r0 127 0,r0 255 0,r0 511 0,r0 3 0,r0 1027 0,r0 3075 0,r1 8191 0,r1 16383 0,r1 32767 0,r0 65535 0,r0 131071 0,r0 262143 0,r0 65535 0,r0 65535 0,r0 65535 0,r0 1638399 0,r0 5832703 0,r0 16318463 0,r0 33095679 0,r0 66650111 0,r1 134217727 0,r1 268435455 0,r1 536870911 0]) rfl (by kernel_rfl) (by kernel_rfl) ?_
  refine .m rfl rfl<|.m rfl rfl<|.k rfl<|.k rfl<|.k rfl<|.k rfl<|.k rfl<|.k rfl<|.k rfl<|.k rfl<|.k rfl<|.k rfl<|.k rfl<|.k rfl<|.q (.pickF rfl rfl rfl)<|.m rfl rfl<|.k rfl<|.k rfl<|.k rfl<|.k rfl<|.k rfl<|.k rfl<|.k rfl<|.k rfl<|.k rfl<|.k rfl<|.k rfl<|.k rfl<|.q (.pickF rfl rfl rfl)<|.z rfl rfl ?_
  refine .nil<|bq_n<|sq_n<|.region rfl<|.m rfl rfl<|.q (.addL (c:=3) rfl rfl rfl (by decide))<|.z rfl rfl<|.nil<|sq_n<|.unroll<|.seq<|.seq<|.region rfl<|.m rfl rfl<|.b rfl rfl rfl rfl<|.nil<|sq_n<|.condT rfl (by decide)<|.skip<|sq_n<|.seq<|.block<|.draw (tb:=[r1 0 0,r1 1 0,r0 3 0,r0 3 0,r0 3 0,r0 15 0,r0 47 0,r0 127 0,r0 255 0,r0 511 0,r0 3 0,r0 1027 0,r0 3075 0,r1 8191 0,r1 16383 0,r1 32767 0,r0 65535 0,r0 131071 0,r0 262143 0,r0 65535 0,r0 65535 0,r0 65535 0,r0 1638399 0,r0 5832703 0,r0 16318463 0,r0 33095679 0,r0 66650111 0,r1 134217727 0,r1 268435455 0,r1 536870911 0]) rfl (by kernel_rfl) (by kernel_rfl) ?_
  refine .m rfl rfl<|.m rfl rfl<|.k rfl<|.k rfl<|.k rfl<|.k rfl<|.k rfl<|.k rfl<|.k rfl<|.k rfl<|.k rfl<|.k rfl<|.k rfl<|.k rfl<|.q (.pickF rfl rfl rfl)<|.m rfl rfl<|.k rfl<|.k rfl<|.k rfl<|.k rfl<|.k rfl<|.k rfl<|.k rfl<|.k rfl<|.k rfl<|.k rfl<|.k rfl<|.k rfl<|.q (.pickF rfl rfl rfl)<|.z rfl rfl ?_
  refine .nil<|bq_n<|sq_n<|.region rfl<|.m rfl rfl<|.q (.addL (c:=4) rfl rfl rfl (by decide))<|.z rfl rfl<|.nil<|sq_n<|.unroll<|.seq<|.seq<|.region rfl<|.m rfl rfl<|.b rfl rfl rfl rfl<|.nil<|sq_n<|.condT rfl (by decide)<|.skip<|sq_n<|.seq<|.block<|.draw (tb:=[r1 0 0,r1 1 0,r0 3 0,r0 3 0,r0 3 0,r0 15 0,r0 47 0,r0 127 0,r0 255 0,r0 511 0,r0 3 0,r0 1027 0,r0 3075 0,r1 8191 0,r1 16383 0,r1 32767 0,r0 65535 0,r0 131071 0,r0 262143 0,r0 65535 0,r0 65535 0,r0 65535 0,r0 1638399 0,r0 5832703 0,r0 16318463 0,r0 33095679 0,r0 66650111 0,r1 134217727 0,r1 268435455 0,r1 536870911 0]) rfl (by kernel_rfl) (by kernel_rfl) ?_
  refine .m rfl rfl<|.m rfl rfl<|.k rfl<|.k rfl<|.k rfl<|.k rfl<|.k rfl<|.k rfl<|.k rfl<|.k rfl<|.k rfl<|.k rfl<|.k rfl<|.k rfl<|.q (.pickF rfl rfl rfl)<|.m rfl rfl<|.k rfl<|.k rfl<|.k rfl<|.k rfl<|.k rfl<|.k rfl<|.k rfl<|.k rfl<|.k rfl<|.k rfl<|.k rfl<|.k rfl<|.q (.pickF rfl rfl rfl)<|.z rfl rfl ?_
  refine .nil<|bq_n<|sq_n<|.region rfl<|.m rfl rfl<|.q (.addL (c:=5) rfl rfl rfl (by decide))<|.z rfl rfl<|.nil<|sq_n<|.unroll<|.seq<|.seq<|.region rfl<|.m rfl rfl<|.b rfl rfl rfl rfl<|.nil<|sq_n<|.condF rfl (by decide)<|.exit<|sq_e<|sq_e<|bq_x rfl<|sq_n<|.seq<|.region rfl<|.m rfl rfl<|.nil<|sq_n<|.condF rfl rfl<|.skip<|bq_n<|sq_n<|.region rfl<|.m rfl rfl<|.q (.inc1 rfl rfl (by omega))<|.z rfl rfl<|.nil<|Qac (L_l04_CodeParted_1.mk z1_1 (k1_2+1)) ⟨rfl,rfl,rfl,rfl,rfl,trivial⟩ (List.Sublist.refl _) (Le.refl _) ?_ ?_
  ·exact ⟨(Qam hy1),hF⟩
  ·simp only;omega
 have kh29:=dF h29
 rw [dn (by omega),Qae] at hF
 obtain rfl:=sI hF
 have hF:=hG1
 refine .exit<|sq_e<|lq_e<|bq_x rfl<|sq_n<|.seq<|.region rfl<|.m rfl rfl<|.b rfl rfl rfl rfl<|.m rfl rfl<|.split (t:=215) rfl (fun h54=>?_) (fun h54=>?_)
 ·have hF:=cT h54 hF
  refine .callV (.yes rfl rfl h54) rfl rfl rfl (sane_ok _)<|.q (.pickT rfl h54 rfl)<|.z rfl rfl<|.nil<|sq_n<|.ret ?_
  obtain rfl:=sI hF
  refine Qab (((hle2.trans hle8).trans hle9).trans hlo1) (.tmp rfl .nil) rfl ?_
  rfl
 have hF:=cF h54 hF
 refine .k h54<|.q (.pickF rfl h54 rfl)<|.z rfl rfl<|.nil<|sq_n<|.ret ?_
 obtain rfl:=sI hF
 refine Qab (((hle2.trans hle8).trans hle9).trans hlo1) (.tmp rfl .nil) rfl ?_
 rfl
end Go.Proofs.YtjflgemfeofciaaGreatDoor
namespace Go.Proofs.YtjflgemfeofciaaGreatDoor
open Go Go.Ev
set_option linter.unusedVariables false
set_option linter.unusedSimpArgs false
theorem cellP_snd (l:List Piece) (r:Int × Int):(cellP l r).map Prod.snd=cellL l r.1 r.2:=by
 unfold cellP cellL
 rw [List.map_map];rfl
theorem cellL_nil {lo hi:Int} (h:lo≤hi):cellL [] lo hi=[(lo,hi)]:=by
 unfold cellL cellN nCell
 have hA:cellA [] lo hi 0=(lo,hi):=rfl
 show ((List.range 1).filter (cellB [] lo hi)).map (cellA [] lo hi)=_
 have hB:cellB [] lo hi 0=true:=decide_eq_true h
 rw [show List.range 1=[0] from rfl,List.filter_cons,if_pos hB];rfl
theorem line_first {p:Piece} {r:List Piece} (h:lineB (p :: r)=true):p.fr=0:=by
 unfold lineB at h
 rw [Bool.and_eq_true] at h
 have:=Qcm h.2 (k:=0) (by simp)
 unfold pgood at this
 simp only [List.getElem?_cons_zero,Bool.and_eq_true,if_true,decide_eq_true_eq] at this
 exact this.2.2.2
def inQ (n:Int) (c:Int × Int):Bool:=decide (c.1≤n) && decide (n≤c.2)
theorem inQ_no {n:Int} {c:Int × Int} (h: ¬ (c.1≤n∧n≤c.2)):inQ n c=false:=by
 unfold inQ
 by_cases h1:c.1≤n
 ·rw [decide_eq_true h1,decide_eq_false fun h2=>h ⟨h1,h2⟩];rfl
 ·rw [decide_eq_false h1];rfl
theorem inQ_yes {n:Int} {c:Int × Int} (h:c.1≤n∧n≤c.2):inQ n c=true:=by
 unfold inQ
 rw [decide_eq_true h.1,decide_eq_true h.2];rfl
theorem clL_count {lo hi n:Int} (h:lo≤n∧n≤hi):∀ (r:List Piece) (p:Piece),riseP (p :: r)→(clL lo hi (p :: r)).countP (inQ n)=if p.fr≤n then 1 else 0
 | [],p,_=>by
  rw [clL]
  by_cases hp:p.fr≤n
  ·rw [if_pos (by omega),if_pos hp,List.countP_cons,inQ_yes (by dsimp only;omega)];rfl
  ·rw [if_neg hp]
   split
   ·rw [List.countP_cons,inQ_no (by dsimp only;omega)];rfl
   ·rfl
 | q :: r,p,hr=>by
  have hpq:=hr.1
  rw [clL,List.countP_append,clL_count h r q hr.2]
  by_cases hq:q.fr≤n
  ·rw [if_pos hq,if_pos (show p.fr≤n by omega)]
   split
   ·rw [List.countP_cons,inQ_no (by dsimp only;omega)];rfl
   ·rfl
  ·rw [if_neg hq]
   by_cases hp:p.fr≤n
   ·rw [if_pos (by omega),if_pos hp,List.countP_cons,inQ_yes (by dsimp only;omega)];rfl
   ·rw [if_neg hp]
    split
    ·rw [List.countP_cons,inQ_no (by dsimp only;omega)];rfl
    ·rfl
theorem cellL_count {l:List Piece} (hl:lineB l=true) {lo hi n:Int} (h0:0≤lo) (h:lo≤n∧n≤hi):(cellL l lo hi).countP (inQ n)=1:=by
 cases l with
 | nil=>rw [cellL_nil (by omega),List.countP_cons,inQ_yes h];rfl
 | cons p r=>rw [cellL_eq,clL_count h r p (line_rise hl),if_pos (by have:=line_first hl;omega)]
theorem clL_in {lo hi:Int}:∀ (r:List Piece) (p:Piece),∀ c∈clL lo hi (p :: r),lo≤c.1∧c.1≤c.2∧c.2≤hi
 | [],p,c,hc=>by
  rw [clL] at hc
  split at hc
  ·rw [List.mem_singleton.1 hc];dsimp only;omega
  ·cases hc
 | q :: r,p,c,hc=>by
  rw [clL] at hc
  rcases List.mem_append.1 hc with hc | hc
  ·split at hc
   ·rw [List.mem_singleton.1 hc];dsimp only;omega
   ·cases hc
  ·exact clL_in r q c hc
theorem cellL_in {l:List Piece} {lo hi:Int} (h:lo≤hi):∀ c∈cellL l lo hi,lo≤c.1∧c.1≤c.2∧c.2≤hi:=by
 cases l with
 | nil=>
  intro c hc
  rw [cellL_nil h,List.mem_singleton] at hc
  rw [hc];exact ⟨Int.le_refl _,h,Int.le_refl _⟩
 | cons p r=>
  intro c hc
  rw [cellL_eq] at hc
  exact clL_in r p c hc
def opB (lo hi:Int) (q:Piece):Bool:=decide (lo < q.fr) && decide (q.fr≤hi)
theorem opB_yes {lo hi:Int} {q:Piece} (h:lo < q.fr∧q.fr≤hi):opB lo hi q=true:=by
 unfold opB
 rw [decide_eq_true h.1,decide_eq_true h.2];rfl
theorem opB_no {lo hi:Int} {q:Piece} (h: ¬ (lo < q.fr∧q.fr≤hi)):opB lo hi q=false:=by
 unfold opB
 by_cases h1:lo < q.fr
 ·rw [decide_eq_true h1,decide_eq_false fun h2=>h ⟨h1,h2⟩];rfl
 ·rw [decide_eq_false h1];rfl
theorem clL_len {lo hi:Int} (h:lo≤hi):∀ (r:List Piece) (p:Piece),riseP (p :: r)→(clL lo hi (p :: r)).length=(if p.fr≤hi then 1 else 0)+r.countP (opB lo hi)
 | [],p,_=>by
  rw [clL]
  by_cases hp:p.fr≤hi
  ·rw [if_pos (by omega),if_pos hp];rfl
  ·rw [if_neg (by omega),if_neg hp];rfl
 | q :: r,p,hr=>by
  have hpq:=hr.1
  rw [clL,List.length_append,clL_len h r q hr.2,List.countP_cons]
  by_cases hq:q.fr≤hi
  ·rw [if_pos hq,if_pos (show p.fr≤hi by omega)]
   by_cases h2:lo < q.fr
   ·rw [if_pos (by omega),opB_yes ⟨h2,hq⟩];simp only [List.length_singleton,if_true];omega
   ·rw [if_neg (by omega),opB_no (fun k=>h2 k.1)];simp
  ·rw [if_neg hq,opB_no (fun k=>hq k.2)]
   by_cases hp:p.fr≤hi
   ·rw [if_pos (by omega),if_pos hp];simp
   ·rw [if_neg (by omega),if_neg hp];simp
theorem cellL_len {l:List Piece} (hl:lineB l=true) {lo hi:Int} (h0:0≤lo) (h:lo≤hi):(cellL l lo hi).length=1+(l.drop 1).countP (opB lo hi):=by
 cases l with
 | nil=>rw [cellL_nil h];rfl
 | cons p r=>rw [cellL_eq,clL_len h r p (line_rise hl),if_pos (by have:=line_first hl;omega)];rfl
theorem ext_cell {l:List Piece} (hl:lineB l=true) {lo hi:Int} (h0:0≤lo) (h1:lo≤hi) (h2:hi≤20000000000):(∃ c∈cellL l lo hi,closV l (extS (closV l) l c.1 c.2).1=closV l (extS (closV l) l lo hi).1)∧∃ c∈cellL l lo hi,closV l (extS (closV l) l c.1 c.2).2=closV l (extS (closV l) l lo hi).2:=by
 have key:∀ n,lo≤n∧n≤hi→∃ c∈cellL l lo hi,c.1≤n∧n≤c.2:=by
  intro n hn
  have hc:=cellL_count hl h0 hn
  have:0 < (cellL l lo hi).countP (inQ n):=by omega
  obtain ⟨c,hc1,hc2⟩:=List.countP_pos_iff.1 this
  unfold inQ at hc2
  simp only [Bool.and_eq_true,decide_eq_true_eq] at hc2
  exact ⟨c,hc1,hc2⟩
 have a1:lo≤(extS (closV l) l lo hi).1∧(extS (closV l) l lo hi).1≤hi:=ext_in hl h0 h1 false
 have a2:lo≤(extS (closV l) l lo hi).2∧(extS (closV l) l lo hi).2≤hi:=ext_in hl h0 h1 true
 constructor
 ·obtain ⟨c,k1,k2⟩:=key _ a1
  obtain ⟨b1,b2,b3⟩:=cellL_in h1 c k1
  have m:=(ext_mid hl (lo:=c.1) (hi:=c.2) (by omega) k2 (by omega)).1
  have e:=(line_le hl h0 b1 b2 b3 h2).1
  exact ⟨c,k1,by omega⟩
 ·obtain ⟨c,k1,k2⟩:=key _ a2
  obtain ⟨b1,b2,b3⟩:=cellL_in h1 c k1
  have m:=(ext_mid hl (lo:=c.1) (hi:=c.2) (by omega) k2 (by omega)).2
  have e:=(line_le hl h0 b1 b2 b3 h2).2
  exact ⟨c,k1,by omega⟩
theorem csG_mem {v:Version} {f:Int} {Lt:Nat→Int × Int} {x y:T_Case}:y∈csG v f Lt 5 x↔∃ z0 z1 z2 z3 z4,z0∈cellP (v.ln (5 * f.toNat+0)) (Lt 0)∧z1∈cellP (v.ln (5 * f.toNat+1)) (Lt 1)∧z2∈cellP (v.ln (5 * f.toNat+2)) (Lt 2)∧z3∈cellP (v.ln (5 * f.toNat+3)) (Lt 3)∧z4∈cellP (v.ln (5 * f.toNat+4)) (Lt 4)∧y=tndC v f (setC 4 (setC 3 (setC 2 (setC 1 (setC 0 x z0.1 z0.2) z1.1 z1.2) z2.1 z2.2) z3.1 z3.2) z4.1 z4.2):=by
 simp only [csG,List.mem_flatMap,List.mem_singleton]
 constructor
 ·rintro ⟨z0,h0,z1,h1,z2,h2,z3,h3,z4,h4,e⟩
  exact ⟨z0,z1,z2,z3,z4,h0,h1,h2,h3,h4,e⟩
 ·rintro ⟨z0,z1,z2,z3,z4,h0,h1,h2,h3,h4,e⟩
  exact ⟨z0,h0,z1,h1,z2,h2,z3,h3,z4,h4,e⟩
def inC (s:Nat→Int) (g:Nat) (y:T_Case):Bool:=inQ (s g) (y.Litres g)
def preC (s:Nat→Int):Nat→T_Case→Bool
 | 0,_=>true
 | g+1,y=>preC s g y && inC s g y
theorem countP_flat {α β:Type} {p:β→Bool} {g:α→List β} {q:α→Bool} (h:∀ a,(g a).countP p=if q a=true then 1 else 0):∀ l:List α,(l.flatMap g).countP p=l.countP q
 | []=>rfl
 | a :: l=>by
  rw [List.flatMap_cons,List.countP_append,h,countP_flat h l,List.countP_cons]
  omega
theorem countP_and {α:Type} {b:Bool} {q:α→Bool} {l:List α}:l.countP (fun a=>b && q a)=if b=true then l.countP q else 0:=by
 cases b with
 | true=>simp
 | false=>simp
theorem csG_step {v:Version} {f:Int} {Lt:Nat→Int × Int} {s:Nat→Int} {n:Nat} (ih:∀ x,(csG v f Lt n x).countP (preC s 5)=if preC s (4 - n+1) x=true then 1 else 0) (hpre:∀ x a r,preC s (4 - n) (setC (4 - n) x a r)=preC s (4 - n) x) (hin:∀ x a r,inC s (4 - n) (setC (4 - n) x a r)=inQ (s (4 - n)) r)
  (hl:lineB (v.ln (5 * f.toNat+(4 - n)))=true) (h0:0≤(Lt (4 - n)).1) (hs:(Lt (4 - n)).1≤s (4 - n)∧s (4 - n)≤(Lt (4 - n)).2) (x:T_Case):(csG v f Lt (n+1) x).countP (preC s 5)=if preC s (4 - n) x=true then 1 else 0:=by
 rw [csG,countP_flat (q:=fun z=>preC s (4 - n) x && inQ (s (4 - n)) z.2) (fun z=>by rw [ih,preC,hpre,hin]),countP_and]
 have e:(cellP (v.ln (5 * f.toNat+(4 - n))) (Lt (4 - n))).countP (fun z=>inQ (s (4 - n)) z.2)=1:=by
  rw [←cellL_count hl h0 hs, ←cellP_snd,List.countP_map];rfl
 rw [e]
theorem csG_count {v:Version} {f:Int} (hf:f=0∨f=1) (hl:∀ k,k < 10→lineB (v.ln k)=true) {Lt:Nat→Int × Int} {s:Nat→Int} (h0:∀ g,g < 5→0≤(Lt g).1) (hs:∀ g,g < 5→(Lt g).1≤s g∧s g≤(Lt g).2) (x:T_Case):(csG v f Lt 5 x).countP (preC s 5)=1:=by
 have hk:f.toNat < 2:=by rcases hf with rfl | rfl <;> decide
 have b0:∀ x,(csG v f Lt 0 x).countP (preC s 5)=if preC s 5 x=true then 1 else 0:=fun x=>by
  rw [csG,List.countP_cons]
  show 0+(if preC s 5 x=true then 1 else 0)=_
  omega
 have b1:=csG_step (n:=0) b0 (fun _ _ _=>rfl) (fun _ _ _=>rfl) (hl _ (by omega)) (h0 4 (by decide)) (hs 4 (by decide))
 have b2:=csG_step (n:=1) b1 (fun _ _ _=>rfl) (fun _ _ _=>rfl) (hl _ (by omega)) (h0 3 (by decide)) (hs 3 (by decide))
 have b3:=csG_step (n:=2) b2 (fun _ _ _=>rfl) (fun _ _ _=>rfl) (hl _ (by omega)) (h0 2 (by decide)) (hs 2 (by decide))
 have b4:=csG_step (n:=3) b3 (fun _ _ _=>rfl) (fun _ _ _=>rfl) (hl _ (by omega)) (h0 1 (by decide)) (hs 1 (by decide))
 have b5:=csG_step (n:=4) b4 (fun _ _ _=>rfl) (fun _ _ _=>rfl) (hl _ (by omega)) (h0 0 (by decide)) (hs 0 (by decide))
 rw [b5];rfl
end Go.Proofs.YtjflgemfeofciaaGreatDoor
namespace Go.Proofs.YtjflgemfeofciaaGreatDoor
open Go Go.Ev
set_option linter.unusedVariables false
set_option linter.unusedSimpArgs false
def ix5 (i:Nat):Nat:=if 1≤i∧i≤5 then i else 1
theorem ix5_bd (i:Nat):1≤ix5 i∧ix5 i≤5:=by unfold ix5;split <;> omega
theorem judT_ix (sel:Int × Int→Int) (v:Version) (f:Int) (lo hi:Nat→Int):judT sel v f (fun i=>lo (ix5 i)) (fun i=>hi (ix5 i))=judT sel v f lo hi:=rfl
theorem judT_le5 {v:Version} {f:Int} (hf:f=0∨f=1) (hl:∀ k,k < 10→lineB (v.ln k)=true) {lo hi lo2 hi2:Nat→Int} (h:∀ i,1≤i∧i≤5→0≤lo i∧lo i≤lo2 i∧lo2 i≤hi2 i∧hi2 i≤hi i∧hi i≤20000000000):judT Prod.fst v f lo hi≤judT Prod.fst v f lo2 hi2∧judT Prod.snd v f lo2 hi2≤judT Prod.snd v f lo hi:=by
 have:=judT_le hf hl (lo:=fun i=>lo (ix5 i)) (hi:=fun i=>hi (ix5 i)) (lo2:=fun i=>lo2 (ix5 i)) (hi2:=fun i=>hi2 (ix5 i)) (fun i=>(h _ (ix5_bd i)).1) (fun i=>(h _ (ix5_bd i)).2.1) (fun i=>(h _ (ix5_bd i)).2.2.1) (fun i=>(h _ (ix5_bd i)).2.2.2.1) (fun i=>(h _ (ix5_bd i)).2.2.2.2)
 rw [judT_ix,judT_ix,judT_ix,judT_ix] at this
 exact this
theorem judT_mid5 {v:Version} {f:Int} (hf:f=0∨f=1) (hl:∀ k,k < 10→lineB (v.ln k)=true) {lo hi x:Nat→Int} (h:∀ i,1≤i∧i≤5→0≤lo i∧hi i≤20000000000) (hx:∀ k,k < 5→lo (k+1)≤x k∧x k≤hi (k+1)):judT Prod.fst v f lo hi≤downI (tonS closV v f.toNat (x 0) (x 1) (x 2) (x 3) (x 4))∧downI (tonS closV v f.toNat (x 0) (x 1) (x 2) (x 3) (x 4))≤judT Prod.snd v f lo hi:=by
 have hxi:∀ k,k < 5→ix5 (k+1)=k+1:=fun k hk=>by unfold ix5;rw [if_pos (by omega)]
 have:=judT_mid hf hl (lo:=fun i=>lo (ix5 i)) (hi:=fun i=>hi (ix5 i)) (x:=x) (fun i=>(h _ (ix5_bd i)).1) (fun i=>(h _ (ix5_bd i)).2) (fun k hk=>by rw [hxi k hk];exact hx k hk)
 rw [judT_ix,judT_ix] at this
 exact this
theorem tonS_same {v:Version} {k:Nat} {x0 x1 x2 x3 x4 y0 y1 y2 y3 y4:Int} (h0:closV (v.ln (5 * k)) x0=closV (v.ln (5 * k)) y0) (h1:closV (v.ln (5 * k+1)) x1=closV (v.ln (5 * k+1)) y1) (h2:closV (v.ln (5 * k+2)) x2=closV (v.ln (5 * k+2)) y2) (h3:closV (v.ln (5 * k+3)) x3=closV (v.ln (5 * k+3)) y3) (h4:closV (v.ln (5 * k+4)) x4=closV (v.ln (5 * k+4)) y4):tonS closV v k x0 x1 x2 x3 x4=tonS closV v k y0 y1 y2 y3 y4:=by
 unfold tonS
 rw [h0,h1,h2,h3,h4]
theorem cellP_of {l:List Piece} {r c:Int × Int} (h:c∈cellL l r.1 r.2):∃ z∈cellP l r,z.2=c:=by
 rw [←cellP_snd] at h
 obtain ⟨z,h1,h2⟩:=List.mem_map.1 h
 exact ⟨z,h1,h2⟩
theorem cellP_in {l:List Piece} {r:Int × Int} {z:Int × (Int × Int)} (h:z∈cellP l r) (hr:r.1≤r.2):r.1≤z.2.1∧z.2.1≤z.2.2∧z.2.2≤r.2:=by
 have:z.2∈cellL l r.1 r.2:=by rw [←cellP_snd];exact List.mem_map_of_mem h
 exact cellL_in hr _ this
structure Lts (Lt:Nat→Int × Int):Prop where
 bd:∀ g,g < 5→0≤(Lt g).1∧(Lt g).1≤(Lt g).2∧(Lt g).2≤20000000000
theorem cs_lit {v:Version} {f:Int} {Lt:Nat→Int × Int} (hL:Lts Lt) {x y:T_Case} (h:y∈csG v f Lt 5 x):(∀ g,g < 5→(Lt g).1≤(y.Litres g).1∧(y.Litres g).1≤(y.Litres g).2∧(y.Litres g).2≤(Lt g).2)∧y.Tonnages=(judT Prod.fst v f (fun i=>(y.Litres (i - 1)).1) (fun i=>(y.Litres (i - 1)).2),judT Prod.snd v f (fun i=>(y.Litres (i - 1)).1) (fun i=>(y.Litres (i - 1)).2)):=by
 obtain ⟨z0,z1,z2,z3,z4,h0,h1,h2,h3,h4,rfl⟩:=csG_mem.1 h
 refine ⟨fun g hg=>?_,rfl⟩
 match g,hg with
 | 0,_=>exact cellP_in h0 (hL.bd 0 (by decide)).2.1
 | 1,_=>exact cellP_in h1 (hL.bd 1 (by decide)).2.1
 | 2,_=>exact cellP_in h2 (hL.bd 2 (by decide)).2.1
 | 3,_=>exact cellP_in h3 (hL.bd 3 (by decide)).2.1
 | 4,_=>exact cellP_in h4 (hL.bd 4 (by decide)).2.1
def loL (Lt:Nat→Int × Int) (i:Nat):Int:=(Lt (i - 1)).1
def hiL (Lt:Nat→Int × Int) (i:Nat):Int:=(Lt (i - 1)).2
theorem cs_ge {v:Version} {f:Int} (hf:f=0∨f=1) (hl:∀ k,k < 10→lineB (v.ln k)=true) {Lt:Nat→Int × Int} (hL:Lts Lt) {x y:T_Case} (h:y∈csG v f Lt 5 x):judT Prod.fst v f (loL Lt) (hiL Lt)≤y.Tonnages.1∧y.Tonnages.2≤judT Prod.snd v f (loL Lt) (hiL Lt):=by
 obtain ⟨h1,h2⟩:=cs_lit hL h
 rw [h2]
 refine judT_le5 hf hl fun i hi=>?_
 have a:=hL.bd (i - 1) (by omega)
 have b:=h1 (i - 1) (by omega)
 unfold loL hiL
 omega
theorem cs_ends {v:Version} {f:Int} (hf:f=0∨f=1) (hl:∀ k,k < 10→lineB (v.ln k)=true) {Lt:Nat→Int × Int} (hL:Lts Lt) (x:T_Case):(∃ y∈csG v f Lt 5 x,y.Tonnages.1=judT Prod.fst v f (loL Lt) (hiL Lt))∧∃ y∈csG v f Lt 5 x,y.Tonnages.2=judT Prod.snd v f (loL Lt) (hiL Lt):=by
 have hk:f.toNat < 2:=by rcases hf with rfl | rfl <;> decide
 have ec:=fun g (hg:g < 5)=>ext_cell (hl (5 * f.toNat+g) (by omega)) (hL.bd g hg).1 (hL.bd g hg).2.1 (hL.bd g hg).2.2
 constructor
 ·have key:∀ g,g < 5→∃ z∈cellP (v.ln (5 * f.toNat+g)) (Lt g),closV (v.ln (5 * f.toNat+g)) (extS (closV (v.ln (5 * f.toNat+g))) (v.ln (5 * f.toNat+g)) z.2.1 z.2.2).1=closV (v.ln (5 * f.toNat+g)) (extS (closV (v.ln (5 * f.toNat+g))) (v.ln (5 * f.toNat+g)) (Lt g).1 (Lt g).2).1:=fun g hg=>by
   obtain ⟨c,c1,c2⟩:=(ec g hg).1
   obtain ⟨z,z1,rfl⟩:=cellP_of c1
   exact ⟨z,z1,c2⟩
  obtain ⟨z0,a0,b0⟩:=key 0 (by decide)
  obtain ⟨z1,a1,b1⟩:=key 1 (by decide)
  obtain ⟨z2,a2,b2⟩:=key 2 (by decide)
  obtain ⟨z3,a3,b3⟩:=key 3 (by decide)
  obtain ⟨z4,a4,b4⟩:=key 4 (by decide)
  exact ⟨_,csG_mem.2 ⟨z0,z1,z2,z3,z4,a0,a1,a2,a3,a4,rfl⟩,congrArg downI (tonS_same b0 b1 b2 b3 b4)⟩
 ·have key:∀ g,g < 5→∃ z∈cellP (v.ln (5 * f.toNat+g)) (Lt g),closV (v.ln (5 * f.toNat+g)) (extS (closV (v.ln (5 * f.toNat+g))) (v.ln (5 * f.toNat+g)) z.2.1 z.2.2).2=closV (v.ln (5 * f.toNat+g)) (extS (closV (v.ln (5 * f.toNat+g))) (v.ln (5 * f.toNat+g)) (Lt g).1 (Lt g).2).2:=fun g hg=>by
   obtain ⟨c,c1,c2⟩:=(ec g hg).2
   obtain ⟨z,z1,rfl⟩:=cellP_of c1
   exact ⟨z,z1,c2⟩
  obtain ⟨z0,a0,b0⟩:=key 0 (by decide)
  obtain ⟨z1,a1,b1⟩:=key 1 (by decide)
  obtain ⟨z2,a2,b2⟩:=key 2 (by decide)
  obtain ⟨z3,a3,b3⟩:=key 3 (by decide)
  obtain ⟨z4,a4,b4⟩:=key 4 (by decide)
  exact ⟨_,csG_mem.2 ⟨z0,z1,z2,z3,z4,a0,a1,a2,a3,a4,rfl⟩,congrArg downI (tonS_same b0 b1 b2 b3 b4)⟩
theorem eqCases_l1 (a:List T_Case):∀ (ys:List T_Case) (k:Nat),a.drop k=ys→Qah a ys k=some (Sum.inr ())
 | [],k,_=>rfl
 | y :: ys,k,h=>by
  obtain ⟨h1,h2⟩:=drop_get h
  rw [Qah,h1]
  simp only [Option.bind_some,decide_true,Bool.and_self,Bool.not_true,cond_false]
  exact eqCases_l1 a ys (k+1) h2
theorem eqCases (a:List T_Case):Qar a a=some true:=by
 unfold Qar
 rw [decide_eq_true rfl,eqCases_l1 a a 0 rfl];rfl
theorem ends_l1 {m M:Int}:∀ (ys:List T_Case) (k:Nat) (a b:Int),(∀ y∈ys,m≤y.Tonnages.1∧y.Tonnages.2≤M)→m≤a→b≤M→(a=m∨∃ y∈ys,y.Tonnages.1=m)→(b=M∨∃ y∈ys,y.Tonnages.2=M)→Qay ys k a b=some (m,M)
 | [],k,a,b,_,_,_,h1,h2=>by
  have e1:a=m:=h1.elim id fun ⟨_,h,_⟩=>by cases h
  have e2:b=M:=h2.elim id fun ⟨_,h,_⟩=>by cases h
  rw [Qay,e1,e2]
 | y :: ys,k,a,b,h,ha,hb,h1,h2=>by
  have hy:=h y List.mem_cons_self
  rw [Qay]
  refine ends_l1 ys (k+1) _ _ (fun z hz=>h z (List.mem_cons_of_mem _ hz)) (by omega) (by omega) ?_ ?_
  ·rcases h1 with h1 | ⟨z,hz,e⟩
   ·exact .inl (by omega)
   ·rcases List.mem_cons.1 hz with rfl | hz
    ·exact .inl (by omega)
    ·exact .inr ⟨z,hz,e⟩
  ·rcases h2 with h2 | ⟨z,hz,e⟩
   ·exact .inl (by omega)
   ·rcases List.mem_cons.1 hz with rfl | hz
    ·exact .inl (by omega)
    ·exact .inr ⟨z,hz,e⟩
theorem opE_cnt (g:Int) (r:Int × Int):∀ (l:List Piece) (k:Nat),0 < k→(opE g r l k).length=l.countP (opB r.1 r.2)
 | [],k,_=>rfl
 | y :: l,k,hk=>by
  rw [opE,List.length_append,opE_cnt g r l (k+1) (by omega),List.countP_cons]
  by_cases h:r.1 < y.fr∧y.fr≤r.2
  ·rw [if_pos ⟨by omega,h⟩,opB_yes h];simp only [List.length_singleton,if_true];omega
  ·rw [if_neg fun k=>h k.2,opB_no h];simp
theorem opE_cells {l:List Piece} (hl:lineB l=true) (g:Int) {r:Int × Int} (h0:0≤r.1) (h:r.1≤r.2):(cellP l r).length=1+(opE g r l 0).length:=by
 have e1:(cellP l r).length=(cellL l r.1 r.2).length:=by rw [←cellP_snd,List.length_map]
 rw [e1,cellL_len hl h0 h]
 cases l with
 | nil=>rfl
 | cons p l=>
  rw [opE,if_neg (fun k=>by simp at k),List.nil_append,opE_cnt _ _ _ _ (by omega)];rfl
theorem one_mul5 {a b c d e:Nat}:1 * (1+a) * (1+b) * (1+c) * (1+d) * (1+e)=1↔a+b+c+d+e=0:=by
 constructor
 ·intro h
  have h5:=Nat.eq_one_of_mul_eq_one_left h
  replace h:=Nat.eq_one_of_mul_eq_one_right h
  have h4:=Nat.eq_one_of_mul_eq_one_left h
  replace h:=Nat.eq_one_of_mul_eq_one_right h
  have h3:=Nat.eq_one_of_mul_eq_one_left h
  replace h:=Nat.eq_one_of_mul_eq_one_right h
  have h2:=Nat.eq_one_of_mul_eq_one_left h
  replace h:=Nat.eq_one_of_mul_eq_one_right h
  omega
 ·intro h
  obtain ⟨rfl,rfl,rfl,rfl,rfl⟩:a=0∧b=0∧c=0∧d=0∧e=0:=by omega
  rfl
theorem opA_cnt {v:Version} {f:Int} (hf:f=0∨f=1) (hl:∀ k,k < 10→lineB (v.ln k)=true) {l:List Room} (hL:Lts (litT v l)):cntC v f (litT v l) 5=1↔(opA v f l).length=0:=by
 have hk:f.toNat < 2:=by rcases hf with rfl | rfl <;> decide
 have e:=fun g (hg:g < 5) (i:Int)=>opE_cells (hl (5 * f.toNat+g) (by omega)) i (hL.bd g hg).1 (hL.bd g hg).2.1
 simp only [cntC]
 rw [e 0 (by decide) 1,e 1 (by decide) 2,e 2 (by decide) 3,e 3 (by decide) 4,e 4 (by decide) 5,one_mul5]
 unfold opA
 simp only [List.length_append]
theorem cnP {α:Type} {p:Prop} [Decidable p] {x y z:α} (h:p→x=z) (k: ¬ p→y=z):cond (decide p) x y=z:=by
 by_cases e:p
 ·rw [decide_eq_true e];exact h e
 ·rw [decide_eq_false e];exact k e
theorem preC_5 {s:Nat→Int} {y:T_Case}:preC s 5 y=true↔((y.Litres 0).1≤s 0∧s 0≤(y.Litres 0).2)∧((y.Litres 1).1≤s 1∧s 1≤(y.Litres 1).2)∧((y.Litres 2).1≤s 2∧s 2≤(y.Litres 2).2)∧((y.Litres 3).1≤s 3∧s 3≤(y.Litres 3).2)∧((y.Litres 4).1≤s 4∧s 4≤(y.Litres 4).2):=by
 unfold preC inC inQ preC inC inQ preC inC inQ preC inC inQ preC inC inQ preC
 simp only [Bool.and_eq_true,decide_eq_true_eq,Bool.true_and,and_assoc]
theorem par_l1 {q:Code × T_Ask} {n:Int × Int} {s:Nat→Int} {t:Int} (ht:tonR closV q.1 n.1 q.2.Formula (s 0) (s 1) (s 2) (s 3) (s 4)=t):∀ (ys:List T_Case) (z:Int) (k:Nat),(∀ y∈ys,preC s 5 y=true→y.Tonnages.1≤t∧t≤y.Tonnages.2)→0≤z→z+ys.length≤1000000→Qae q n s ys z k=some (Sum.inr (z+ys.countP (preC s 5)))
 | [],z,k,_,_,_=>by rw [Qae,List.countP_nil];simp
 | y :: ys,z,k,h,h0,hz=>by
  have hy:=h y List.mem_cons_self
  rw [List.length_cons] at hz
  have e:wr (z+1)=z+1:=wr_id (by omega)
  have i1:=par_l1 ht ys (z+1) (k+1) (fun y hy=>h y (List.mem_cons_of_mem _ hy)) (by omega) (by omega)
  have i2:=par_l1 ht ys z (k+1) (fun y hy=>h y (List.mem_cons_of_mem _ hy)) h0 (by omega)
  rw [Qae,ht,e,i1,i2,List.countP_cons]
  have no: ¬ preC s 5 y=true→some (Sum.inr (z+(ys.countP (preC s 5):Int)))=(some (Sum.inr (z+((ys.countP (preC s 5)+if preC s 5 y=true then 1 else 0:Nat):Int))):Option (Bool ⊕ Int)):=fun hn=>by rw [if_neg hn];simp
  refine cnP (fun a1=>?_) (fun a=>no fun k=>a (preC_5.1 k).1.1)
  refine cnP (fun a2=>?_) (fun a=>no fun k=>a (preC_5.1 k).1.2)
  refine cnP (fun a3=>?_) (fun a=>no fun k=>a (preC_5.1 k).2.1.1)
  refine cnP (fun a4=>?_) (fun a=>no fun k=>a (preC_5.1 k).2.1.2)
  refine cnP (fun a5=>?_) (fun a=>no fun k=>a (preC_5.1 k).2.2.1.1)
  refine cnP (fun a6=>?_) (fun a=>no fun k=>a (preC_5.1 k).2.2.1.2)
  refine cnP (fun a7=>?_) (fun a=>no fun k=>a (preC_5.1 k).2.2.2.1.1)
  refine cnP (fun a8=>?_) (fun a=>no fun k=>a (preC_5.1 k).2.2.2.1.2)
  refine cnP (fun a9=>?_) (fun a=>no fun k=>a (preC_5.1 k).2.2.2.2.1)
  refine cnP (fun a10=>?_) (fun a=>no fun k=>a (preC_5.1 k).2.2.2.2.2)
  have yes:preC s 5 y=true:=preC_5.2 ⟨⟨a1,a2⟩,⟨a3,a4⟩,⟨a5,a6⟩,⟨a7,a8⟩,a9,a10⟩
  obtain ⟨t1,t2⟩:=hy yes
  refine cnF (by omega) (cnF (by omega) ?_)
  rw [if_pos yes]
  congr 2
  omega
theorem codeParted_true (l:List T_Raw) (x:T_Some) (p:List Int) (hp:p.length≤17592186044416):Qdf l x p=some true:=by
 obtain ⟨c,q,hw,h⟩:=world_ok l x
 obtain ⟨n,y,hn,hy,hle,hin⟩:=force_in h
 have hd:=h.day
 have hvl:=h.vs.len
 have hnl:=(List.getElem?_eq_some_iff.1 hy).1
 obtain ⟨he,hv⟩:=end_at h.err h.f01 h.rooms hy (by omega) hn
 have hz:=endE_zero he
 have hyo:=err_ver h.err hy
 have hln:=ver_lines hyo
 obtain ⟨s,hs,hsb⟩:=sums_ok (ver_puts hyo) hp h.rooms
 have hlb:∀ i,0≤litI y Room.lo i q.Rooms∧litI y Room.lo i q.Rooms≤litI y Room.hi i q.Rooms∧litI y Room.hi i q.Rooms≤20000000000:=fun i=>lit_in h.rooms
 have hL:Lts (litT y q.Rooms):=⟨fun g _=>hlb (g+1)⟩
 obtain ⟨ts,tv⟩:=tonE_at h.err hy hz.f01 (x:=s) fun k hk=>by have:=hsb k hk;have:=hlb (k+1);omega
 have hca:=cCases_eq c q.Day q.Formula q.Rooms
 have hop:=cOpens_eq c q.Day q.Formula q.Rooms
 rw [if_pos he,hv] at hca hop
 have hcnt:=opA_cnt hz.f01 hln hL
 have hj:judC c q.Day q.Formula q.Rooms=(judT Prod.fst y q.Formula (loL (litT y q.Rooms)) (hiL (litT y q.Rooms)),judT Prod.snd y q.Formula (loL (litT y q.Rooms)) (hiL (litT y q.Rooms))):=by
  rw [judC_at he,hv];rfl
 unfold Qdf
 rw [hw]
 simp only [Option.bind_some,hin,judge_code,hca,hop]
 show cond (!decide ((0:Int)=0)) _ (cond (!decide (endE c q.Day q.Formula q.Rooms=0)) _ (cond (!decide ((0:Int)=0)) _ _))=_
 refine cnN rfl (cnN he (cnN rfl (cnF (by omega) (cnF (by omega) ?_))))
 unfold casE at hca ⊢
 by_cases hc:512 < cntC y q.Formula (litT y q.Rooms) 5
 ·rw [if_pos hc]
  show cond (!decide ((2:Int)=0)) (cond (decide ((2:Int)=2)) (cond (decide ((0:Int) < ((opA y q.Formula q.Rooms).length:Int))) (some true) (some false)) (some false)) _=_
  rw [decide_eq_true (p:=(0:Int) < ((opA y q.Formula q.Rooms).length:Int)) (by
   have:(opA y q.Formula q.Rooms).length≠0:=fun k=>by have:=hcnt.2 k;omega
   omega)];rfl
 ·rw [if_neg hc] at hca ⊢
  have hlen:=csG_len5 y q.Formula (litT y q.Rooms) x0C
  obtain ⟨⟨y1,m1,e1⟩,⟨y2,m2,e2⟩⟩:=cs_ends hz.f01 hln hL x0C
  have hge:=fun z (hz':z∈csG y q.Formula (litT y q.Rooms) 5 x0C)=>cs_ge hz.f01 hln hL hz'
  have hpos:0 < (csG y q.Formula (litT y q.Rooms) 5 x0C).length:=List.length_pos_of_mem m1
  have hck:Qcj c q.Day q.Formula q.Rooms (csG y q.Formula (litT y q.Rooms) 5 x0C)=some ((judT Prod.fst y q.Formula (loL (litT y q.Rooms)) (hiL (litT y q.Rooms)),judT Prod.snd y q.Formula (loL (litT y q.Rooms)) (hiL (litT y q.Rooms))),0):=by
   unfold Qcj
   rw [hca]
   simp only [Option.bind_some,eqCases,decide_true,Bool.not_true,cond_false]
   have h0:=List.getElem?_eq_getElem hpos
   have g0:=hge _ (List.getElem_mem hpos)
   rw [h0]
   simp only [Option.bind_some]
   rw [ends_l1 _ _ _ _ (fun z hz'=>hge z hz') g0.1 g0.2 (.inr ⟨y1,m1,e1⟩) (.inr ⟨y2,m2,e2⟩)]
   rfl
  have hcount:=csG_count hz.f01 hln (Lt:=litT y q.Rooms) (s:=s) (fun g hg=>(hL.bd g hg).1) (fun g hg=>hsb g hg) x0C
  have hl1:=par_l1 (q:=(c,q)) (n:=((n:Int),0)) (s:=s) (t:=downI (tonS closV y q.Formula.toNat (s 0) (s 1) (s 2) (s 3) (s 4))) tv (csG y q.Formula (litT y q.Rooms) 5 x0C) 0 0 (fun z hz' hpre=>by
   obtain ⟨k1,k2⟩:=cs_lit hL hz'
   have hpre:=preC_5.1 hpre
   rw [k2]
   refine judT_mid5 hz.f01 hln (fun i hi=>?_) (fun k hk=>?_)
   ·have a:=hL.bd (i - 1) (by omega)
    have b:=k1 (i - 1) (by omega)
    omega
   ·match k,hk with
    | 0,_=>exact hpre.1
    | 1,_=>exact hpre.2.1
    | 2,_=>exact hpre.2.2.1
    | 3,_=>exact hpre.2.2.2.1
    | 4,_=>exact hpre.2.2.2.2) (by omega) (by omega)
  rw [hcount] at hl1
  have hb:(decide (((csG y q.Formula (litT y q.Rooms) 5 x0C).length:Int)=1))=(decide (((opA y q.Formula q.Rooms).length:Int)=0)):=decide_eq_decide.2 (by rw [hlen];omega)
  simp only [hck,Option.bind_some]
  rw [hb]
  show cond (!decide ((0:Int)=0)) _ (cond (!decide ((0:Int)=0)) _ (cond (!sameC (judT Prod.fst y q.Formula (loL (litT y q.Rooms)) (hiL (litT y q.Rooms)),judT Prod.snd y q.Formula (loL (litT y q.Rooms)) (hiL (litT y q.Rooms))) (judC c q.Day q.Formula q.Rooms)) _ _))=_
  rw [hj,sameC_self]
  simp only [decide_true,Bool.not_true,cond_false,atI_nat,hy,Option.bind_some,hs,ts,hl1]
  rfl
end Go.Proofs.YtjflgemfeofciaaGreatDoor
