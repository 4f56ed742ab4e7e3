import Derived.Test.YtdlmdaononclgaaGreatDoorMG9
import Derived.Test.YtdlmdaononclgaaGreatDoorMG4
import Derived.Lib.AtoiTie
import Derived.Test.YtdlmdaononclgaaGreatDoorMG3
namespace Go.Proofs.YtdlmdaononclgaaGreatDoor
open Go Go.Ev
set_option linter.unusedVariables false
set_option linter.unusedSimpArgs false
set_option maxRecDepth 10000
structure L_r01_Lines_1 where
 v1_2:V
 cs1_3:List V
 d1_1:List (List UInt8)
 z1_5:Int
 k1_6:Nat
def Qam (p0:(List UInt8)):Nat→List (List UInt8)→Int→Nat→Option ((List (List UInt8) × Int))
 | 0,d1_1,z1_5,k1_6=>some ((d1_1,z1_5))
 | mm1+1,d1_1,z1_5,k1_6=>((p0[k1_6]?).bind fun y3=>(cond (decide ((y3.toNat:Int)=10)) ((ck (decide ((0:Int)≤z1_5) && (decide ((z1_5:Int)≤(k1_6:Int)) && decide (((k1_6:Int):Int)≤p0.length))) ((ck (decide (d1_1.length+1≤1000000)) (Qam p0 mm1 (d1_1 ++ [(cutL p0 z1_5 (k1_6:Int))]) (((k1_6+1):Nat):Int) (k1_6+1)))))) (Qam p0 mm1 d1_1 z1_5 (k1_6+1))))
def Qdj (p0:(List UInt8)):Option ((List (List UInt8))):=(ck (decide (p0.length≤1000000000000)) (((Qam p0 (((p0.length:Int) - (0:Int)).toNat) [] 0 0).bind fun ⟨o1_0_1,o1_0_2⟩=>(cond (decide (o1_0_2 < (p0.length:Int))) ((ck (decide ((0:Int)≤o1_0_2) && (decide ((o1_0_2:Int)≤(p0.length:Int)) && decide (((p0.length:Int):Int)≤p0.length))) ((ck (decide (o1_0_1.length+1≤1000000)) (some (o1_0_1 ++ [(cutL p0 o1_0_2 (p0.length:Int))])))))) (some o1_0_1)))))
set_option maxHeartbeats 1000000 in
theorem F_r01_Lines_ok (p0:(List UInt8)) (g:G) (r:(List (List UInt8))) (hF:Qdj p0=some r):Fw Tryz.prog natS (.f 15 [] []) [.s p0] g [] fun g' ml' q=>ml'=[]∧∃ (w0_0:V),q=(w0_0)∧RS StrR 1 g' w0_0 r:=by
 refine Fw.drop ?_
 unfold Qdj at hF
 refine Fw.enter (N:=36) (al:=[(0,_)]) Tryz.func15 (by kernel_rfl) (by kernel_rfl) rfl rfl rfl rfl ?_
 intro B
 obtain ⟨hsl0,hF⟩:=ckS hF
 have hsl0:=of_decide_eq_true hsl0
 refine .seq<|.region rfl<|.z rfl rfl<|.nil<|sq_n<|.seq<|.region rfl<|.z rfl rfl<|.nil<|sq_n<|.seq<|.region rfl<|.z rfl rfl<|.nil<|sq_n<|.seq<|.seq<|.region rfl<|.z rfl rfl<|.nil<|sq_n<|.block<|.acc 1 9 ?_
 obtain ⟨o1,hF,hG1⟩:=bS hF
 refine .loopx (α:=L_r01_Lines_1) [(0,_)] [] (fun fx x=>(3,x.v1_2) :: (4,.i .i64 x.z1_5) :: (5,.i .i64 (x.k1_6:Int)) :: fx) (fun mx x=>[.acc x.v1_2 1 x.cs1_3 9]) (fun x g'=>AccR StrR 1 g' x.v1_2 x.cs1_3 x.d1_1∧Qam p0 (((p0.length:Int) - (x.k1_6:Int)).toNat) x.d1_1 x.z1_5 x.k1_6=some o1) (fun x=>((p0.length:Int) - (x.k1_6:Int)).toNat) (L_r01_Lines_1.mk _ _ [] 0 0) ⟨rfl,rfl,rfl,rfl,trivial⟩ (List.Sublist.refl _) ⟨AccR.nil,hF⟩ ?_
 intro x1 gl1 hlo1 hJ1
 obtain ⟨v1_2,cs1_3,d1_1,z1_5,k1_6⟩:=x1
 try dsimp only at hJ1
 obtain ⟨ha1_4,hF⟩:=hJ1
 refine .al0 [(3,v1_2),(4,.i .i64 z1_5),(5,.i .i64 (k1_6:Int)),(0,_)] ?_
 have lha1_4:=ha1_4.le
 refine .seq<|.seq<|.region rfl<|.m rfl rfl<|.m rfl rfl<|.q (.len rfl rfl rfl (Qce str_9))<|.b rfl rfl rfl rfl<|.nil<|sq_n<|.cond rfl (fun h2=>?_) (fun h2=>?_)
 ·have kh2:=dT h2
  have em1:((p0.length:Int) - (k1_6:Int)).toNat=((p0.length:Int) - ((k1_6+1:Nat):Int)).toNat+1:=by omega
  rw [em1,Qam] at hF
  refine .skip<|sq_n<|.seq<|.block<|.seq<|.region rfl<|.m rfl rfl<|.m rfl rfl ?_
  obtain ⟨y3,hy3,hF⟩:=bS hF
  have hk3:=(List.getElem?_eq_some_iff.1 hy3).1
  refine .q (.ixsN rfl rfl str_9 hy3)<|.b rfl rfl rfl rfl<|.nil<|sq_n<|.cond rfl (fun h4=>?_) (fun h4=>?_)
  ·have kh4:=dT h4
   have hF:=cT h4 hF
   refine .seq<|.region rfl<|.m rfl rfl<|.m rfl rfl<|.m rfl rfl<|.m rfl rfl ?_
   obtain ⟨hbd5,hF⟩:=ckS hF
   have hbd5:=cut3 hbd5
   refine .q (.cutS rfl str_9 ⟨_,rfl⟩ ⟨_,rfl⟩ hbd5)<|.bs .no rfl (qs:=[(0,_)]) (c:=[_]) rfl sl_38 el_9 (by decide) rfl fun b6=>?_
   obtain ⟨hl7,hF⟩:=ckS hF
   have hl7:=of_decide_eq_true hl7
   refine .x .no rfl (.appA (m:=1) (new:=[_]) rfl rfl rfl (.tl .hd) sl_38 el_9 (.of rfl .sl sl_38 .hd (Nat.le_of_ble_eq_true rfl) rfl) (by decide) rfl (AccR.room (R:=StrR) (ys:=[(cutL p0 z1_5 (k1_6:Int))]) ha1_4 (Ls.cons (c:=[_]) rfl rfl .nil) hl7) rfl) fun v7=>.as (.tl .hd) fun av7=>?_
   have ha7:=AccR.app (R:=StrR) (g:=gl1) (ys:=[(cutL p0 z1_5 (k1_6:Int))]) ha1_4 (Ls.cons (c:=[_]) rfl rfl .nil) hl7 av7
   have lha7:=ha7.le
   refine .z rfl rfl<|.nil<|sq_n<|.region rfl<|.m rfl rfl<|.q (.inc1 rfl rfl (by omega))<|.z rfl rfl<|.nil<|bq_n<|sq_n<|.region rfl<|.m rfl rfl<|.q (.inc1 rfl rfl (by omega))<|.z rfl rfl<|.nil<|Qbp (L_r01_Lines_1.mk _ _ (d1_1 ++ [(cutL p0 z1_5 (k1_6:Int))]) (((k1_6+1):Nat):Int) (k1_6+1)) ⟨rfl,rfl,rfl,rfl,trivial⟩ (.cons _ (List.Sublist.refl _)) (Le.refl _) ?_ ?_
   ·exact ⟨ha7,hF⟩
   ·simp only;omega
  have kh4:=dF h4
  have hF:=cF h4 hF
  refine .skip<|bq_n<|sq_n<|.region rfl<|.m rfl rfl<|.q (.inc1 rfl rfl (by omega))<|.z rfl rfl<|.nil<|Qbp (L_r01_Lines_1.mk _ _ d1_1 z1_5 (k1_6+1)) ⟨rfl,rfl,rfl,rfl,trivial⟩ (List.Sublist.refl _) (Le.refl _) ?_ ?_
  ·exact ⟨ha1_4,hF⟩
  ·simp only;omega
 have kh2:=dF h2
 have em1:((p0.length:Int) - (k1_6:Int)).toNat=0:=by omega
 rw [em1,Qam] at hF
 obtain rfl:=sI hF
 have hF:=hG1
 refine .exit<|sq_e<|lq_e<|bq_x rfl<|sq_n<|.seq<|.seq<|.region rfl<|.m rfl rfl<|.m rfl rfl<|.q (.len rfl rfl rfl (Qce str_9))<|.b rfl rfl rfl rfl<|.nil<|sq_n<|.cond rfl (fun h8=>?_) (fun h8=>?_)
 ·have hF:=cT h8 hF
  refine .region rfl<|.m rfl rfl<|.m rfl rfl<|.m rfl rfl ?_
  obtain ⟨hbd9,hF⟩:=ckS hF
  have hbd9:=cut3 hbd9
  refine .q (.cutS rfl str_9 ⟨_,rfl⟩ rfl hbd9)<|.bs .no rfl (qs:=[(0,_)]) (c:=[_]) rfl sl_38 el_9 (by decide) rfl fun b10=>?_
  obtain ⟨hl11,hF⟩:=ckS hF
  have hl11:=of_decide_eq_true hl11
  refine .x .no rfl (.appA (m:=1) (new:=[_]) rfl rfl rfl (.tl .hd) sl_38 el_9 (.of rfl .sl sl_38 .hd (Nat.le_of_ble_eq_true rfl) rfl) (by decide) rfl (AccR.room (R:=StrR) (ys:=[(cutL p0 z1_5 (p0.length:Int))]) ha1_4 (Ls.cons (c:=[_]) rfl rfl .nil) hl11) rfl) fun v11=>.as (.tl .hd) fun av11=>?_
  have ha11:=AccR.app (R:=StrR) (g:=gl1) (ys:=[(cutL p0 z1_5 (p0.length:Int))]) ha1_4 (Ls.cons (c:=[_]) rfl rfl .nil) hl11 av11
  refine .z rfl rfl<|.nil<|sq_n<|.seq<|.region rfl<|.m rfl rfl<|.z rfl rfl<|.nil<|sq_n<|.see (seeFreeze StrR.mono (.tl .hd) (by decide) ha11) ?_
  rintro gz12 ⟨hle12,hz12⟩
  refine .ret ?_
  obtain rfl:=sI hF
  refine Qbm (hlo1.trans hle12) (.tmp rfl .nil) rfl ?_
  exact ⟨_,rfl,hz12⟩
 have hF:=cF h8 hF
 refine .skip<|sq_n<|.seq<|.region rfl<|.m rfl rfl<|.z rfl rfl<|.nil<|sq_n<|.see (seeFreeze StrR.mono .hd (by decide) ha1_4) ?_
 rintro gz13 ⟨hle13,hz13⟩
 refine .ret ?_
 obtain rfl:=sI hF
 refine Qbm (hlo1.trans hle13) (.tmp rfl .nil) rfl ?_
 exact ⟨_,rfl,hz13⟩
structure L_r01_Words_1 where
 v1_2:V
 cs1_3:List V
 d1_1:List (List UInt8)
 z1_5:Int
 k1_6:Nat
 m1:Nat
def Qad (p0:(List UInt8)):Nat→List (List UInt8)→Int→Nat→Option ((List (List UInt8)))
 | 0,_,_,_=>none
 | mm1+1,d1_1,z1_5,k1_6=>(cond (decide ((k1_6:Int)≤(p0.length:Int))) ((cond (decide ((k1_6:Int) < (p0.length:Int))) (((p0[k1_6]?).bind fun y7=>(cond (!(decide ((y7.toNat:Int)=32))) (Qad p0 mm1 d1_1 z1_5 (k1_6+1)) ((cond (decide (z1_5 < (k1_6:Int))) ((ck (decide ((0:Int)≤z1_5) && (decide ((z1_5:Int)≤(k1_6:Int)) && decide (((k1_6:Int):Int)≤p0.length))) ((ck (decide (d1_1.length+1≤1000000)) (Qad p0 mm1 (d1_1 ++ [(cutL p0 z1_5 (k1_6:Int))]) (((k1_6+1):Nat):Int) (k1_6+1)))))) (Qad p0 mm1 d1_1 (((k1_6+1):Nat):Int) (k1_6+1))))))) ((cond (decide (z1_5 < (k1_6:Int))) ((ck (decide ((0:Int)≤z1_5) && (decide ((z1_5:Int)≤(k1_6:Int)) && decide (((k1_6:Int):Int)≤p0.length))) ((ck (decide (d1_1.length+1≤1000000)) (Qad p0 mm1 (d1_1 ++ [(cutL p0 z1_5 (k1_6:Int))]) (((k1_6+1):Nat):Int) (k1_6+1)))))) (Qad p0 mm1 d1_1 (((k1_6+1):Nat):Int) (k1_6+1)))))) (some (d1_1)))
structure L_r01_Words_2 where
 v2_2:V
 cs2_3:List V
 d2_1:List (List UInt8)
 z2_5:Int
 k2_6:Nat
 m2:Nat
def Qae (p0:(List UInt8)):Nat→List (List UInt8)→Int→Nat→Option ((List (List UInt8)))
 | 0,_,_,_=>none
 | mm2+1,d2_1,z2_5,k2_6=>(cond (decide ((k2_6:Int)≤(p0.length:Int))) ((cond (decide ((k2_6:Int) < (p0.length:Int))) (((p0[k2_6]?).bind fun y21=>(cond (!(decide ((y21.toNat:Int)=32))) (Qae p0 mm2 d2_1 z2_5 (k2_6+1)) ((cond (decide (z2_5 < (k2_6:Int))) ((ck (decide ((0:Int)≤z2_5) && (decide ((z2_5:Int)≤(k2_6:Int)) && decide (((k2_6:Int):Int)≤p0.length))) ((ck (decide (d2_1.length+1≤1000000)) (Qae p0 mm2 (d2_1 ++ [(cutL p0 z2_5 (k2_6:Int))]) (((k2_6+1):Nat):Int) (k2_6+1)))))) (Qae p0 mm2 d2_1 (((k2_6+1):Nat):Int) (k2_6+1))))))) ((cond (decide (z2_5 < (k2_6:Int))) ((ck (decide ((0:Int)≤z2_5) && (decide ((z2_5:Int)≤(k2_6:Int)) && decide (((k2_6:Int):Int)≤p0.length))) ((ck (decide (d2_1.length+1≤1000000)) (Qae p0 mm2 (d2_1 ++ [(cutL p0 z2_5 (k2_6:Int))]) (((k2_6+1):Nat):Int) (k2_6+1)))))) (Qae p0 mm2 d2_1 (((k2_6+1):Nat):Int) (k2_6+1)))))) (some (d2_1)))
def Qdg (p0:(List UInt8)):Option ((List (List UInt8))):=(ck (decide (p0.length≤1000000000000)) ((cond (decide ((0:Int) < (p0.length:Int))) (((p0[0]?).bind fun y2=>(cond (decide ((y2.toNat:Int)=35)) (some []) (((Qad p0 (p0.length+2) [] 0 0).bind fun o1_0_1=>some o1_0_1))))) (((Qae p0 (p0.length+2) [] 0 0).bind fun o2_0_1=>some o2_0_1)))))
set_option maxHeartbeats 1000000 in
theorem F_r01_Words_ok (p0:(List UInt8)) (g:G) (r:(List (List UInt8))) (hF:Qdg p0=some r):Fw Tryz.prog natS (.f 16 [] []) [.s p0] g [] fun g' ml' q=>ml'=[]∧∃ (w0_0:V),q=(w0_0)∧RS StrR 1 g' w0_0 r:=by
 refine Fw.drop ?_
 unfold Qdg at hF
 refine Fw.enter (N:=43) (al:=[(0,_)]) Tryz.func16 (by kernel_rfl) (by kernel_rfl) rfl rfl rfl rfl ?_
 intro B
 obtain ⟨hsl0,hF⟩:=ckS hF
 have hsl0:=of_decide_eq_true hsl0
 refine .seq<|.region rfl<|.z rfl rfl<|.nil<|sq_n<|.seq<|.region rfl<|.z rfl rfl<|.nil<|sq_n<|.seq<|.seq<|.region rfl<|.m rfl rfl<|.q (.len rfl rfl rfl (Qce str_9))<|.b rfl rfl rfl rfl<|.m rfl rfl<|.split (t:=9) rfl (fun h1=>?_) (fun h1=>?_)
 ·have kh1:=dT h1
  have hF:=cT h1 hF
  refine .py h1 (.move rfl) ?_
  obtain ⟨y2,hy2,hF⟩:=bS hF
  have hk2:=(List.getElem?_eq_some_iff.1 hy2).1
  refine .py h1 (.ixsN rfl rfl str_9 hy2)<|.py h1 (.bin rfl rfl rfl)<|.q (.pickT rfl h1 rfl)<|.nil<|sq_n<|.cond rfl (fun h3=>?_) (fun h3=>?_)
  ·have hF:=cT h3 hF
   refine .seq<|.region rfl<|.z rfl rfl<|.nil<|sq_n<|.ret<|sq_r ?_
   obtain rfl:=sI hF
   refine Qbm (Le.refl _) (.tmp rfl .nil) rfl ?_
   exact ⟨_,rfl,RS.nil⟩
  have kh3:=dF h3
  have hF:=cF h3 hF
  refine .skip<|sq_n<|.seq<|.region rfl<|.z rfl rfl<|.nil<|sq_n<|.seq<|.seq<|.region rfl<|.z rfl rfl<|.nil<|sq_n<|.block<|.acc 1 9 ?_
  obtain ⟨o1,hF,hG1⟩:=bS hF
  refine .loopx (α:=L_r01_Words_1) [(0,_)] [] (fun fx x=>(3,x.v1_2) :: (4,.i .i64 x.z1_5) :: (5,.i .i64 (x.k1_6:Int)) :: fx) (fun mx x=>[.acc x.v1_2 1 x.cs1_3 9]) (fun x g'=>AccR StrR 1 g' x.v1_2 x.cs1_3 x.d1_1∧Qad p0 x.m1 x.d1_1 x.z1_5 x.k1_6=some o1) (fun x=>x.m1) (L_r01_Words_1.mk _ _ [] 0 0 (p0.length+2)) ⟨rfl,rfl,rfl,rfl,trivial⟩ (List.Sublist.refl _) ⟨AccR.nil,hF⟩ ?_
  intro x1 gl1 hlo1 hJ1
  obtain ⟨v1_2,cs1_3,d1_1,z1_5,k1_6,m1⟩:=x1
  try dsimp only at hJ1
  obtain ⟨ha1_4,hF⟩:=hJ1
  refine .al0 [(3,v1_2),(4,.i .i64 z1_5),(5,.i .i64 (k1_6:Int)),(0,_)] ?_
  obtain ⟨mm1,rfl⟩:∃ q,m1=q+1:=by
   cases m1 with
   | zero=>rw [Qad] at hF;cases hF
   | succ q=>exact ⟨q,rfl⟩
  rw [Qad] at hF
  have lha1_4:=ha1_4.le
  refine .seq<|.seq<|.region rfl<|.m rfl rfl<|.m rfl rfl<|.q (.len rfl rfl rfl (Qce str_9))<|.b rfl rfl rfl rfl<|.nil<|sq_n<|.cond rfl (fun h5=>?_) (fun h5=>?_)
  ·have kh5:=dT h5
   have hF:=cT h5 hF
   refine .skip<|sq_n<|.seq<|.block<|.seq<|.seq<|.region rfl<|.m rfl rfl<|.m rfl rfl<|.q (.len rfl rfl rfl (Qce str_9))<|.b rfl rfl rfl rfl<|.m rfl rfl<|.split (t:=24) rfl (fun h6=>?_) (fun h6=>?_)
   ·have kh6:=dT h6
    have hF:=cT h6 hF
    refine .py h6 (.move rfl)<|.py h6 (.move rfl) ?_
    obtain ⟨y7,hy7,hF⟩:=bS hF
    have hk7:=(List.getElem?_eq_some_iff.1 hy7).1
    refine .py h6 (.ixsN rfl rfl str_9 hy7)<|.py h6 (.bin rfl rfl rfl)<|.q (.pickT rfl h6 rfl)<|.nil<|sq_n<|.cond rfl (fun h8=>?_) (fun h8=>?_)
    ·have kh8:=dF (nT h8)
     have hF:=cT h8 hF
     refine .exit<|sq_e<|bq_x rfl<|sq_n<|.region rfl<|.m rfl rfl<|.q (.inc1 rfl rfl (by omega))<|.z rfl rfl<|.nil<|Qbp (L_r01_Words_1.mk _ _ d1_1 z1_5 (k1_6+1) mm1) ⟨rfl,rfl,rfl,rfl,trivial⟩ (List.Sublist.refl _) (Le.refl _) ?_ ?_
     ·exact ⟨ha1_4,hF⟩
     ·simp only;omega
    have kh8:=dT (nF h8)
    have hF:=cF h8 hF
    refine .skip<|sq_n<|.seq<|.seq<|.region rfl<|.m rfl rfl<|.m rfl rfl<|.b rfl rfl rfl rfl<|.nil<|sq_n<|.cond rfl (fun h9=>?_) (fun h9=>?_)
    ·have kh9:=dT h9
     have hF:=cT h9 hF
     refine .region rfl<|.m rfl rfl<|.m rfl rfl<|.m rfl rfl<|.m rfl rfl ?_
     obtain ⟨hbd10,hF⟩:=ckS hF
     have hbd10:=cut3 hbd10
     refine .q (.cutS rfl str_9 ⟨_,rfl⟩ ⟨_,rfl⟩ hbd10)<|.bs .no rfl (qs:=[(0,_)]) (c:=[_]) rfl sl_38 el_9 (by decide) rfl fun b11=>?_
     obtain ⟨hl12,hF⟩:=ckS hF
     have hl12:=of_decide_eq_true hl12
     refine .x .no rfl (.appA (m:=1) (new:=[_]) rfl rfl rfl (.tl .hd) sl_38 el_9 (.of rfl .sl sl_38 .hd (Nat.le_of_ble_eq_true rfl) rfl) (by decide) rfl (AccR.room (R:=StrR) (ys:=[(cutL p0 z1_5 (k1_6:Int))]) ha1_4 (Ls.cons (c:=[_]) rfl rfl .nil) hl12) rfl) fun v12=>.as (.tl .hd) fun av12=>?_
     have ha12:=AccR.app (R:=StrR) (g:=gl1) (ys:=[(cutL p0 z1_5 (k1_6:Int))]) ha1_4 (Ls.cons (c:=[_]) rfl rfl .nil) hl12 av12
     have lha12:=ha12.le
     refine .z rfl rfl<|.nil<|sq_n<|.region rfl<|.m rfl rfl<|.q (.inc1 rfl rfl (by omega))<|.z rfl rfl<|.nil<|bq_n<|sq_n<|.region rfl<|.m rfl rfl<|.q (.inc1 rfl rfl (by omega))<|.z rfl rfl<|.nil<|Qbp (L_r01_Words_1.mk _ _ (d1_1 ++ [(cutL p0 z1_5 (k1_6:Int))]) (((k1_6+1):Nat):Int) (k1_6+1) mm1) ⟨rfl,rfl,rfl,rfl,trivial⟩ (.cons _ (List.Sublist.refl _)) (Le.refl _) ?_ ?_
     ·exact ⟨ha12,hF⟩
     ·simp only;omega
    have kh9:=dF h9
    have hF:=cF h9 hF
    refine .skip<|sq_n<|.region rfl<|.m rfl rfl<|.q (.inc1 rfl rfl (by omega))<|.z rfl rfl<|.nil<|bq_n<|sq_n<|.region rfl<|.m rfl rfl<|.q (.inc1 rfl rfl (by omega))<|.z rfl rfl<|.nil<|Qbp (L_r01_Words_1.mk _ _ d1_1 (((k1_6+1):Nat):Int) (k1_6+1) mm1) ⟨rfl,rfl,rfl,rfl,trivial⟩ (List.Sublist.refl _) (Le.refl _) ?_ ?_
    ·exact ⟨ha1_4,hF⟩
    ·simp only;omega
   have kh6:=dF h6
   have hF:=cF h6 hF
   refine .k h6<|.k h6<|.k h6<|.k h6<|.q (.pickF rfl h6 rfl)<|.nil<|sq_n<|.condF rfl rfl<|.skip<|sq_n<|.seq<|.seq<|.region rfl<|.m rfl rfl<|.m rfl rfl<|.b rfl rfl rfl rfl<|.nil<|sq_n<|.cond rfl (fun h13=>?_) (fun h13=>?_)
   ·have kh13:=dT h13
    have hF:=cT h13 hF
    refine .region rfl<|.m rfl rfl<|.m rfl rfl<|.m rfl rfl<|.m rfl rfl ?_
    obtain ⟨hbd14,hF⟩:=ckS hF
    have hbd14:=cut3 hbd14
    refine .q (.cutS rfl str_9 ⟨_,rfl⟩ ⟨_,rfl⟩ hbd14)<|.bs .no rfl (qs:=[(0,_)]) (c:=[_]) rfl sl_38 el_9 (by decide) rfl fun b15=>?_
    obtain ⟨hl16,hF⟩:=ckS hF
    have hl16:=of_decide_eq_true hl16
    refine .x .no rfl (.appA (m:=1) (new:=[_]) rfl rfl rfl (.tl .hd) sl_38 el_9 (.of rfl .sl sl_38 .hd (Nat.le_of_ble_eq_true rfl) rfl) (by decide) rfl (AccR.room (R:=StrR) (ys:=[(cutL p0 z1_5 (k1_6:Int))]) ha1_4 (Ls.cons (c:=[_]) rfl rfl .nil) hl16) rfl) fun v16=>.as (.tl .hd) fun av16=>?_
    have ha16:=AccR.app (R:=StrR) (g:=gl1) (ys:=[(cutL p0 z1_5 (k1_6:Int))]) ha1_4 (Ls.cons (c:=[_]) rfl rfl .nil) hl16 av16
    have lha16:=ha16.le
    refine .z rfl rfl<|.nil<|sq_n<|.region rfl<|.m rfl rfl<|.q (.inc1 rfl rfl (by omega))<|.z rfl rfl<|.nil<|bq_n<|sq_n<|.region rfl<|.m rfl rfl<|.q (.inc1 rfl rfl (by omega))<|.z rfl rfl<|.nil<|Qbp (L_r01_Words_1.mk _ _ (d1_1 ++ [(cutL p0 z1_5 (k1_6:Int))]) (((k1_6+1):Nat):Int) (k1_6+1) mm1) ⟨rfl,rfl,rfl,rfl,trivial⟩ (.cons _ (List.Sublist.refl _)) (Le.refl _) ?_ ?_
    ·exact ⟨ha16,hF⟩
    ·simp only;omega
   have kh13:=dF h13
   have hF:=cF h13 hF
   refine .skip<|sq_n<|.region rfl<|.m rfl rfl<|.q (.inc1 rfl rfl (by omega))<|.z rfl rfl<|.nil<|bq_n<|sq_n<|.region rfl<|.m rfl rfl<|.q (.inc1 rfl rfl (by omega))<|.z rfl rfl<|.nil<|Qbp (L_r01_Words_1.mk _ _ d1_1 (((k1_6+1):Nat):Int) (k1_6+1) mm1) ⟨rfl,rfl,rfl,rfl,trivial⟩ (List.Sublist.refl _) (Le.refl _) ?_ ?_
   ·exact ⟨ha1_4,hF⟩
   ·simp only;omega
  have hF:=cF h5 hF
  obtain rfl:=sI hF
  have hF:=hG1
  refine .exit<|sq_e<|lq_e<|bq_x rfl<|sq_n<|.seq<|.region rfl<|.m rfl rfl<|.z rfl rfl<|.nil<|sq_n<|.see (seeFreeze StrR.mono .hd (by decide) ha1_4) ?_
  rintro gz17 ⟨hle17,hz17⟩
  refine .ret ?_
  obtain rfl:=sI hF
  refine Qbm (hlo1.trans hle17) (.tmp rfl .nil) rfl ?_
  exact ⟨_,rfl,hz17⟩
 have kh1:=dF h1
 have hF:=cF h1 hF
 refine .k h1<|.k h1<|.k h1<|.q (.pickF rfl h1 rfl)<|.nil<|sq_n<|.condF rfl rfl<|.skip<|sq_n<|.seq<|.region rfl<|.z rfl rfl<|.nil<|sq_n<|.seq<|.seq<|.region rfl<|.z rfl rfl<|.nil<|sq_n<|.block<|.acc 1 9 ?_
 obtain ⟨o2,hF,hG2⟩:=bS hF
 refine .loopx (α:=L_r01_Words_2) [(0,_)] [] (fun fx x=>(3,x.v2_2) :: (4,.i .i64 x.z2_5) :: (5,.i .i64 (x.k2_6:Int)) :: fx) (fun mx x=>[.acc x.v2_2 1 x.cs2_3 9]) (fun x g'=>AccR StrR 1 g' x.v2_2 x.cs2_3 x.d2_1∧Qae p0 x.m2 x.d2_1 x.z2_5 x.k2_6=some o2) (fun x=>x.m2) (L_r01_Words_2.mk _ _ [] 0 0 (p0.length+2)) ⟨rfl,rfl,rfl,rfl,trivial⟩ (List.Sublist.refl _) ⟨AccR.nil,hF⟩ ?_
 intro x2 gl2 hlo2 hJ2
 obtain ⟨v2_2,cs2_3,d2_1,z2_5,k2_6,m2⟩:=x2
 try dsimp only at hJ2
 obtain ⟨ha2_4,hF⟩:=hJ2
 refine .al0 [(3,v2_2),(4,.i .i64 z2_5),(5,.i .i64 (k2_6:Int)),(0,_)] ?_
 obtain ⟨mm2,rfl⟩:∃ q,m2=q+1:=by
  cases m2 with
  | zero=>rw [Qae] at hF;cases hF
  | succ q=>exact ⟨q,rfl⟩
 rw [Qae] at hF
 have lha2_4:=ha2_4.le
 refine .seq<|.seq<|.region rfl<|.m rfl rfl<|.m rfl rfl<|.q (.len rfl rfl rfl (Qce str_9))<|.b rfl rfl rfl rfl<|.nil<|sq_n<|.cond rfl (fun h19=>?_) (fun h19=>?_)
 ·have kh19:=dT h19
  have hF:=cT h19 hF
  refine .skip<|sq_n<|.seq<|.block<|.seq<|.seq<|.region rfl<|.m rfl rfl<|.m rfl rfl<|.q (.len rfl rfl rfl (Qce str_9))<|.b rfl rfl rfl rfl<|.m rfl rfl<|.split (t:=24) rfl (fun h20=>?_) (fun h20=>?_)
  ·have kh20:=dT h20
   have hF:=cT h20 hF
   refine .py h20 (.move rfl)<|.py h20 (.move rfl) ?_
   obtain ⟨y21,hy21,hF⟩:=bS hF
   have hk21:=(List.getElem?_eq_some_iff.1 hy21).1
   refine .py h20 (.ixsN rfl rfl str_9 hy21)<|.py h20 (.bin rfl rfl rfl)<|.q (.pickT rfl h20 rfl)<|.nil<|sq_n<|.cond rfl (fun h22=>?_) (fun h22=>?_)
   ·have kh22:=dF (nT h22)
    have hF:=cT h22 hF
    refine .exit<|sq_e<|bq_x rfl<|sq_n<|.region rfl<|.m rfl rfl<|.q (.inc1 rfl rfl (by omega))<|.z rfl rfl<|.nil<|Qbp (L_r01_Words_2.mk _ _ d2_1 z2_5 (k2_6+1) mm2) ⟨rfl,rfl,rfl,rfl,trivial⟩ (List.Sublist.refl _) (Le.refl _) ?_ ?_
    ·exact ⟨ha2_4,hF⟩
    ·simp only;omega
   have kh22:=dT (nF h22)
   have hF:=cF h22 hF
   refine .skip<|sq_n<|.seq<|.seq<|.region rfl<|.m rfl rfl<|.m rfl rfl<|.b rfl rfl rfl rfl<|.nil<|sq_n<|.cond rfl (fun h23=>?_) (fun h23=>?_)
   ·have kh23:=dT h23
    have hF:=cT h23 hF
    refine .region rfl<|.m rfl rfl<|.m rfl rfl<|.m rfl rfl<|.m rfl rfl ?_
    obtain ⟨hbd24,hF⟩:=ckS hF
    have hbd24:=cut3 hbd24
    refine .q (.cutS rfl str_9 ⟨_,rfl⟩ ⟨_,rfl⟩ hbd24)<|.bs .no rfl (qs:=[(0,_)]) (c:=[_]) rfl sl_38 el_9 (by decide) rfl fun b25=>?_
    obtain ⟨hl26,hF⟩:=ckS hF
    have hl26:=of_decide_eq_true hl26
    refine .x .no rfl (.appA (m:=1) (new:=[_]) rfl rfl rfl (.tl .hd) sl_38 el_9 (.of rfl .sl sl_38 .hd (Nat.le_of_ble_eq_true rfl) rfl) (by decide) rfl (AccR.room (R:=StrR) (ys:=[(cutL p0 z2_5 (k2_6:Int))]) ha2_4 (Ls.cons (c:=[_]) rfl rfl .nil) hl26) rfl) fun v26=>.as (.tl .hd) fun av26=>?_
    have ha26:=AccR.app (R:=StrR) (g:=gl2) (ys:=[(cutL p0 z2_5 (k2_6:Int))]) ha2_4 (Ls.cons (c:=[_]) rfl rfl .nil) hl26 av26
    have lha26:=ha26.le
    refine .z rfl rfl<|.nil<|sq_n<|.region rfl<|.m rfl rfl<|.q (.inc1 rfl rfl (by omega))<|.z rfl rfl<|.nil<|bq_n<|sq_n<|.region rfl<|.m rfl rfl<|.q (.inc1 rfl rfl (by omega))<|.z rfl rfl<|.nil<|Qbp (L_r01_Words_2.mk _ _ (d2_1 ++ [(cutL p0 z2_5 (k2_6:Int))]) (((k2_6+1):Nat):Int) (k2_6+1) mm2) ⟨rfl,rfl,rfl,rfl,trivial⟩ (.cons _ (List.Sublist.refl _)) (Le.refl _) ?_ ?_
    ·exact ⟨ha26,hF⟩
    ·simp only;omega
   have kh23:=dF h23
   have hF:=cF h23 hF
   refine .skip<|sq_n<|.region rfl<|.m rfl rfl<|.q (.inc1 rfl rfl (by omega))<|.z rfl rfl<|.nil<|bq_n<|sq_n<|.region rfl<|.m rfl rfl<|.q (.inc1 rfl rfl (by omega))<|.z rfl rfl<|.nil<|Qbp (L_r01_Words_2.mk _ _ d2_1 (((k2_6+1):Nat):Int) (k2_6+1) mm2) ⟨rfl,rfl,rfl,rfl,trivial⟩ (List.Sublist.refl _) (Le.refl _) ?_ ?_
   ·exact ⟨ha2_4,hF⟩
   ·simp only;omega
  have kh20:=dF h20
  have hF:=cF h20 hF
  refine .k h20<|.k h20<|.k h20<|.k h20<|.q (.pickF rfl h20 rfl)<|.nil<|sq_n<|.condF rfl rfl<|.skip<|sq_n<|.seq<|.seq<|.region rfl<|.m rfl rfl<|.m rfl rfl<|.b rfl rfl rfl rfl<|.nil<|sq_n<|.cond rfl (fun h27=>?_) (fun h27=>?_)
  ·have kh27:=dT h27
   have hF:=cT h27 hF
   refine .region rfl<|.m rfl rfl<|.m rfl rfl<|.m rfl rfl<|.m rfl rfl ?_
   obtain ⟨hbd28,hF⟩:=ckS hF
   have hbd28:=cut3 hbd28
   refine .q (.cutS rfl str_9 ⟨_,rfl⟩ ⟨_,rfl⟩ hbd28)<|.bs .no rfl (qs:=[(0,_)]) (c:=[_]) rfl sl_38 el_9 (by decide) rfl fun b29=>?_
   obtain ⟨hl30,hF⟩:=ckS hF
   have hl30:=of_decide_eq_true hl30
   refine .x .no rfl (.appA (m:=1) (new:=[_]) rfl rfl rfl (.tl .hd) sl_38 el_9 (.of rfl .sl sl_38 .hd (Nat.le_of_ble_eq_true rfl) rfl) (by decide) rfl (AccR.room (R:=StrR) (ys:=[(cutL p0 z2_5 (k2_6:Int))]) ha2_4 (Ls.cons (c:=[_]) rfl rfl .nil) hl30) rfl) fun v30=>.as (.tl .hd) fun av30=>?_
   have ha30:=AccR.app (R:=StrR) (g:=gl2) (ys:=[(cutL p0 z2_5 (k2_6:Int))]) ha2_4 (Ls.cons (c:=[_]) rfl rfl .nil) hl30 av30
   have lha30:=ha30.le
   refine .z rfl rfl<|.nil<|sq_n<|.region rfl<|.m rfl rfl<|.q (.inc1 rfl rfl (by omega))<|.z rfl rfl<|.nil<|bq_n<|sq_n<|.region rfl<|.m rfl rfl<|.q (.inc1 rfl rfl (by omega))<|.z rfl rfl<|.nil<|Qbp (L_r01_Words_2.mk _ _ (d2_1 ++ [(cutL p0 z2_5 (k2_6:Int))]) (((k2_6+1):Nat):Int) (k2_6+1) mm2) ⟨rfl,rfl,rfl,rfl,trivial⟩ (.cons _ (List.Sublist.refl _)) (Le.refl _) ?_ ?_
   ·exact ⟨ha30,hF⟩
   ·simp only;omega
  have kh27:=dF h27
  have hF:=cF h27 hF
  refine .skip<|sq_n<|.region rfl<|.m rfl rfl<|.q (.inc1 rfl rfl (by omega))<|.z rfl rfl<|.nil<|bq_n<|sq_n<|.region rfl<|.m rfl rfl<|.q (.inc1 rfl rfl (by omega))<|.z rfl rfl<|.nil<|Qbp (L_r01_Words_2.mk _ _ d2_1 (((k2_6+1):Nat):Int) (k2_6+1) mm2) ⟨rfl,rfl,rfl,rfl,trivial⟩ (List.Sublist.refl _) (Le.refl _) ?_ ?_
  ·exact ⟨ha2_4,hF⟩
  ·simp only;omega
 have hF:=cF h19 hF
 obtain rfl:=sI hF
 have hF:=hG2
 refine .exit<|sq_e<|lq_e<|bq_x rfl<|sq_n<|.seq<|.region rfl<|.m rfl rfl<|.z rfl rfl<|.nil<|sq_n<|.see (seeFreeze StrR.mono .hd (by decide) ha2_4) ?_
 rintro gz31 ⟨hle31,hz31⟩
 refine .ret ?_
 obtain rfl:=sI hF
 refine Qbm (hlo2.trans hle31) (.tmp rfl .nil) rfl ?_
 exact ⟨_,rfl,hz31⟩
structure J_r01_Number_1 where
 b1_1:Bool
structure J_r01_Number_2 where
 s2_1:List UInt8
structure L_r01_Number_3 where
 z3_1:Int
 k3_2:Nat
def Qar (s2_1:List UInt8):Nat→Int→Nat→Option ((Int × Bool) ⊕ (Int))
 | 0,z3_1,k3_2=>some ((Sum.inr z3_1))
 | mm3+1,z3_1,k3_2=>(ck (decide (s2_1.length≤1000000000000)) (((s2_1[k3_2]?).bind fun y13=>(cond (decide ((y13.toNat:Int) < 48)) (some ((Sum.inl (0,false)))) ((ck (decide (s2_1.length≤1000000000000)) (((s2_1[k3_2]?).bind fun y15=>(cond (decide ((57:Int) < (y15.toNat:Int))) (some ((Sum.inl (0,false)))) ((ck (decide (s2_1.length≤1000000000000)) (((s2_1[k3_2]?).bind fun y17=>Qar s2_1 mm3 (wr ((wr (z3_1 * 10))+(wr (wu8 ((y17.toNat:Int) - 48))))) (k3_2+1))))))))))))))
structure L_r01_Number_4 where
 z4_1:Int
 k4_2:Nat
def Qas (s2_1:List UInt8):Nat→Int→Nat→Option ((Int × Bool) ⊕ (Int))
 | 0,z4_1,k4_2=>some ((Sum.inr z4_1))
 | mm4+1,z4_1,k4_2=>(ck (decide (s2_1.length≤1000000000000)) (((s2_1[k4_2]?).bind fun y24=>(cond (decide ((y24.toNat:Int) < 48)) (some ((Sum.inl (0,false)))) ((ck (decide (s2_1.length≤1000000000000)) (((s2_1[k4_2]?).bind fun y26=>(cond (decide ((57:Int) < (y26.toNat:Int))) (some ((Sum.inl (0,false)))) ((ck (decide (s2_1.length≤1000000000000)) (((s2_1[k4_2]?).bind fun y28=>Qas s2_1 mm4 (wr ((wr (z4_1 * 10))+(wr (wu8 ((y28.toNat:Int) - 48))))) (k4_2+1))))))))))))))
structure L_r01_Number_5 where
 z5_1:Int
 k5_2:Nat
def Qap (s2_1:List UInt8):Nat→Int→Nat→Option ((Int × Bool) ⊕ (Int))
 | 0,z5_1,k5_2=>some ((Sum.inr z5_1))
 | mm5+1,z5_1,k5_2=>(ck (decide (s2_1.length≤1000000000000)) (((s2_1[k5_2]?).bind fun y30=>(cond (decide ((y30.toNat:Int) < 48)) (some ((Sum.inl (0,false)))) ((ck (decide (s2_1.length≤1000000000000)) (((s2_1[k5_2]?).bind fun y32=>(cond (decide ((57:Int) < (y32.toNat:Int))) (some ((Sum.inl (0,false)))) ((ck (decide (s2_1.length≤1000000000000)) (((s2_1[k5_2]?).bind fun y34=>Qap s2_1 mm5 (wr ((wr (z5_1 * 10))+(wr (wu8 ((y34.toNat:Int) - 48))))) (k5_2+1))))))))))))))
def Qcs (p0:(List UInt8)) (p1:Int) (p2:Bool):Option (Int × Bool):=(ck (decide (p0.length≤1000000000000)) ((((cond (decide ((0:Int) < (p0.length:Int))) (((p0[0]?).bind fun y2=>some (decide ((y2.toNat:Int)=45)))) (some false))).bind fun b1_1=>((((cond b1_1 ((ck (decide ((0:Int)≤1) && (decide ((1:Int)≤(p0.length:Int)) && decide (((p0.length:Int):Int)≤p0.length))) (some (cutL p0 1 (p0.length:Int))))) (some p0))).bind fun s2_1=>((cond b1_1 ((cond (!p2) (some (0,false)) ((cond (decide ((s2_1.length:Int)=0)) (some (0,false)) ((cond (decide (p1 < (s2_1.length:Int))) (some (0,false)) ((ck (decide (s2_1.length≤1000000000000)) (((s2_1[0]?).bind fun y9=>(cond (decide ((y9.toNat:Int)=48)) ((cond (decide ((1:Int) < (s2_1.length:Int))) (some (0,false)) (some (0,false)))) (((Qar s2_1 (((s2_1.length:Int) - (0:Int)).toNat) 0 0).bind fun o=>match o with | (Sum.inl q)=>(some q) | (Sum.inr o3_1_1)=>(some ((wr (0 - o3_1_1)),true))))))))))))))) ((cond (decide ((s2_1.length:Int)=0)) (some (0,false)) ((cond (decide (p1 < (s2_1.length:Int))) (some (0,false)) ((ck (decide (s2_1.length≤1000000000000)) (((s2_1[0]?).bind fun y20=>(cond (decide ((y20.toNat:Int)=48)) ((cond (decide ((1:Int) < (s2_1.length:Int))) (some (0,false)) (((Qas s2_1 (((s2_1.length:Int) - (0:Int)).toNat) 0 0).bind fun o=>match o with | (Sum.inl q)=>(some q) | (Sum.inr o4_1_1)=>(some (o4_1_1,true)))))) (((Qap s2_1 (((s2_1.length:Int) - (0:Int)).toNat) 0 0).bind fun o=>match o with | (Sum.inl q)=>(some q) | (Sum.inr o5_1_1)=>(some (o5_1_1,true))))))))))))))))))))
set_option maxHeartbeats 1000000 in
theorem F_r01_Number_ok (p0:(List UInt8)) (p1:Int) (p2:Bool) (g:G) (r:Int × Bool) (hF:Qcs p0 p1 p2=some r):Fv Tryz.prog natS (.f 45 [] []) [.s p0,.i .i64 p1,.b p2] g (.tup [.i .i64 r.1,.b r.2]):=by
 refine Fw.fv ?_
 unfold Qcs at hF
 refine Fw.enter (N:=81) (al:=[(2,_),(1,_),(0,_)]) Tryz.func45 (by kernel_rfl) (by kernel_rfl) rfl rfl rfl rfl ?_
 intro B
 obtain ⟨hsl0,hF⟩:=ckS hF
 have hsl0:=of_decide_eq_true hsl0
 refine .seq<|.region rfl<|.z rfl rfl<|.z rfl rfl<|.nil<|sq_n ?_
 obtain ⟨o1,hE1,hG1⟩:=bS hF
 refine .joinx (α:=J_r01_Number_1) [(0,_),(1,_),(2,_)] _ (fun fx x=>(8,.b x.b1_1) :: fx) (fun mx _=>mx) (fun x g'=>x.b1_1=o1) ⟨rfl,rfl,rfl,trivial⟩ (List.Sublist.refl _) ?_ ?_
 ·have hF:=hE1
  refine .region rfl<|.m rfl rfl<|.q (.len rfl rfl rfl (Qce str_9))<|.b rfl rfl rfl rfl<|.m rfl rfl<|.split (t:=15) rfl (fun h1=>?_) (fun h1=>?_)
  ·have hF:=cT h1 hF
   refine .py h1 (.move rfl) ?_
   obtain ⟨y2,hy2,hF⟩:=bS hF
   have hk2:=(List.getElem?_eq_some_iff.1 hy2).1
   refine .py h1 (.ixsN rfl rfl str_9 hy2)<|.py h1 (.bin rfl rfl rfl)<|.q (.pickT rfl h1 rfl)<|.z rfl rfl<|.nil ?_
   obtain rfl:=sI hF
   exact joinQ_n (J_r01_Number_1.mk (decide ((y2.toNat:Int)=45))) ⟨rfl,rfl,rfl,rfl,trivial⟩ (List.Sublist.refl _) (Le.refl _) rfl
  have hF:=cF h1 hF
  refine .k h1<|.k h1<|.k h1<|.q (.pickF rfl h1 rfl)<|.z rfl rfl<|.nil ?_
  obtain rfl:=sI hF
  exact joinQ_n (J_r01_Number_1.mk false) ⟨rfl,rfl,rfl,rfl,trivial⟩ (List.Sublist.refl _) (Le.refl _) rfl
 intro x1 gj1 hlj1 hJ1
 obtain ⟨b1_1⟩:=x1
 try dsimp only at hJ1
 obtain rfl:=hJ1
 have hF:=hG1
 refine .al0 [(8,.b b1_1),(0,_),(1,_),(2,_)]<|.seq<|.region rfl<|.m rfl rfl<|.z rfl rfl<|.nil<|sq_n ?_
 obtain ⟨o2,hE2,hG2⟩:=bS hF
 refine .joinx (α:=J_r01_Number_2) [(1,_),(2,_),(8,_)] _ (fun fx x=>(9,.s x.s2_1) :: fx) (fun mx _=>mx) (fun x g'=>x.s2_1=o2) ⟨rfl,rfl,rfl,trivial⟩ (List.Sublist.refl _) ?_ ?_
 ·have hF:=hE2
  refine .seq<|.region rfl<|.m rfl rfl<|.nil<|sq_n<|.cond rfl (fun h3=>?_) (fun h3=>?_)
  ·have hF:=cT h3 hF
   refine .region rfl<|.m rfl rfl ?_
   obtain ⟨hbd4,hF⟩:=ckS hF
   have hbd4:=cut3 hbd4
   refine .q (.cutS rfl str_9 ⟨_,rfl⟩ rfl hbd4)<|.z rfl rfl<|.nil ?_
   obtain rfl:=sI hF
   exact joinQ_n (J_r01_Number_2.mk (cutL p0 1 (p0.length:Int))) ⟨rfl,rfl,rfl,rfl,trivial⟩ (List.Sublist.refl _) (Le.refl _) rfl
  have hF:=cF h3 hF
  refine .skip ?_
  obtain rfl:=sI hF
  exact joinQ_n (J_r01_Number_2.mk p0) ⟨rfl,rfl,rfl,rfl,trivial⟩ (List.Sublist.refl _) (Le.refl _) rfl
 intro x2 gj2 hlj2 hJ2
 obtain ⟨s2_1⟩:=x2
 try dsimp only at hJ2
 obtain rfl:=hJ2
 have hF:=hG2
 refine .al0 [(9,.s s2_1),(1,_),(2,_),(8,_)]<|.seq<|.seq<|.region rfl<|.m rfl rfl<|.m rfl rfl<|.split (t:=25) rfl (fun h5=>?_) (fun h5=>?_)
 ·have kh5:=h5
  have hF:=cT h5 hF
  refine .py h5 (.move rfl)<|.py h5 (.not rfl)<|.q (.pickT rfl h5 rfl)<|.m rfl rfl<|.split (t:=29) rfl (fun h6=>?_) (fun h6=>?_)
  ·have hF:=cT h6 hF
   refine .k h6<|.k h6<|.k h6<|.q (.pickT rfl h6 rfl)<|.m rfl rfl<|.k rfl<|.k rfl<|.k rfl<|.k rfl<|.q (.pickT rfl rfl rfl)<|.m rfl rfl<|.k rfl<|.k rfl<|.k rfl<|.k rfl<|.ku<|.ku<|.ku<|.ku<|.ku<|.ku<|.k rfl<|.q (.pickT rfl rfl rfl)<|.nil<|sq_n<|.condT rfl rfl<|.seq<|.region rfl<|.z rfl rfl<|.z rfl rfl<|.nil<|sq_n ?_
   refine .ret<|sq_r ?_
   obtain rfl:=sI hF
   refine Qbm (hlj1.trans hlj2) (.tmp rfl (.tmp rfl .nil)) rfl ?_
   rfl
  have kh6:=h6
  have hF:=cF h6 hF
  refine .py h6 (.move rfl)<|.py h6 (.len rfl rfl rfl (Qce str_9))<|.py h6 (.bin rfl rfl rfl)<|.q (.pickF rfl h6 rfl)<|.m rfl rfl<|.split (t:=34) rfl (fun h7=>?_) (fun h7=>?_)
  ·have hF:=cT h7 hF
   refine .k h7<|.k h7<|.k h7<|.k h7<|.q (.pickT rfl h7 rfl)<|.m rfl rfl<|.k rfl<|.k rfl<|.k rfl<|.k rfl<|.ku<|.ku<|.ku<|.ku<|.ku<|.ku<|.k rfl<|.q (.pickT rfl rfl rfl)<|.nil<|sq_n<|.condT rfl rfl<|.seq<|.region rfl<|.z rfl rfl<|.z rfl rfl<|.nil<|sq_n<|.ret<|sq_r ?_
   obtain rfl:=sI hF
   refine Qbm (hlj1.trans hlj2) (.tmp rfl (.tmp rfl .nil)) rfl ?_
   rfl
  have kh7:=dF h7
  have hF:=cF h7 hF
  refine .py h7 (.move rfl)<|.py h7 (.len rfl rfl rfl (Qce str_9))<|.py h7 (.move rfl)<|.py h7 (.bin rfl rfl rfl)<|.q (.pickF rfl h7 rfl)<|.m rfl rfl<|.split (t:=40) rfl (fun h8=>?_) (fun h8=>?_)
  ·have hF:=cT h8 hF
   refine .k h8<|.k h8<|.k h8<|.k h8<|.ku<|.ku<|.ku<|.ku<|.ku<|.ku<|.k h8<|.q (.pickT rfl h8 rfl)<|.nil<|sq_n<|.condT rfl rfl<|.seq<|.region rfl<|.z rfl rfl<|.z rfl rfl<|.nil<|sq_n<|.ret<|sq_r ?_
   obtain rfl:=sI hF
   refine Qbm (hlj1.trans hlj2) (.tmp rfl (.tmp rfl .nil)) rfl ?_
   rfl
  have kh8:=dF h8
  have hF:=cF h8 hF
  refine .py h8 (.move rfl) ?_
  obtain ⟨hsl9,hF⟩:=ckS hF
  have hsl9:=of_decide_eq_true hsl9
  obtain ⟨y9,hy9,hF⟩:=bS hF
  have hk9:=(List.getElem?_eq_some_iff.1 hy9).1
  refine .py h8 (.ixsN rfl rfl str_9 hy9)<|.py h8 (.bin rfl rfl rfl)<|.py h8 (.move rfl)<|.split (t:=44) rfl (fun h10=>?_) (fun h10=>?_)
  ·have hF:=cT h10 hF
   refine .py h10 (.move rfl)<|.py h10 (.len rfl rfl rfl (Qce str_9))<|.py h10 (.bin rfl rfl rfl)<|.py h10 (.move rfl)<|.split (t:=48) rfl (fun h11=>?_) (fun h11=>?_)
   ·have hF:=cT h11 hF
    refine .k h11<|.py h10 (.pickT rfl h11 rfl)<|.py h8 (.pickT rfl h10 rfl)<|.q (.pickF rfl h8 rfl)<|.nil<|sq_n<|.condT rfl rfl<|.seq<|.region rfl<|.z rfl rfl<|.z rfl rfl<|.nil<|sq_n<|.ret<|sq_r ?_
    obtain rfl:=sI hF
    refine Qbm (hlj1.trans hlj2) (.tmp rfl (.tmp rfl .nil)) rfl ?_
    rfl
   have hF:=cF h11 hF
   refine .py h11 (.move rfl)<|.py h10 (.pickF rfl h11 rfl)<|.py h8 (.pickT rfl h10 rfl)<|.q (.pickF rfl h8 rfl)<|.nil<|sq_n<|.condT rfl h5<|.seq<|.region rfl<|.z rfl rfl<|.z rfl rfl<|.nil<|sq_n<|.ret<|sq_r ?_
   obtain rfl:=sI hF
   refine Qbm (hlj1.trans hlj2) (.tmp rfl (.tmp rfl .nil)) rfl ?_
   rfl
  have kh10:=dF h10
  have hF:=cF h10 hF
  refine .k h10<|.k h10<|.k h10<|.k h10<|.ku<|.k h10<|.py h8 (.pickF rfl h10 rfl)<|.q (.pickF rfl h8 rfl)<|.nil<|sq_n<|.condF rfl rfl<|.skip<|sq_n<|.seq<|.region rfl<|.z rfl rfl<|.nil<|sq_n<|.seq<|.seq<|.region rfl<|.z rfl rfl<|.nil<|sq_n<|.block ?_
  obtain ⟨o3,hF,hG3⟩:=bS hF
  refine .loopx (α:=L_r01_Number_3) [(8,_),(9,_)] _ (fun fx x=>(10,.i .i64 x.z3_1) :: (11,.i .i64 (x.k3_2:Int)) :: fx) (fun mx _=>mx) (fun x g'=>Qar s2_1 (((s2_1.length:Int) - (x.k3_2:Int)).toNat) x.z3_1 x.k3_2=some o3) (fun x=>((s2_1.length:Int) - (x.k3_2:Int)).toNat) (L_r01_Number_3.mk 0 0) ⟨rfl,rfl,rfl,rfl,trivial⟩ (List.Sublist.refl _) hF ?_
  intro x3 gl3 hlo3 hJ3
  obtain ⟨z3_1,k3_2⟩:=x3
  try dsimp only at hJ3
  have hF:=hJ3
  refine .al0 [(10,.i .i64 z3_1),(11,.i .i64 (k3_2:Int)),(8,_),(9,_)]<|.seq<|.seq<|.region rfl<|.m rfl rfl<|.m rfl rfl<|.q (.len rfl rfl rfl (Qce str_9))<|.b rfl rfl rfl rfl<|.nil<|sq_n<|.cond rfl (fun h12=>?_) (fun h12=>?_)
  ·have kh12:=dT h12
   have em3:((s2_1.length:Int) - (k3_2:Int)).toNat=((s2_1.length:Int) - ((k3_2+1:Nat):Int)).toNat+1:=by omega
   rw [em3,Qar] at hF
   refine .skip<|sq_n<|.seq<|.block<|.seq<|.seq<|.region rfl<|.m rfl rfl<|.m rfl rfl ?_
   obtain ⟨hsl13,hF⟩:=ckS hF
   have hsl13:=of_decide_eq_true hsl13
   obtain ⟨y13,hy13,hF⟩:=bS hF
   have hk13:=(List.getElem?_eq_some_iff.1 hy13).1
   refine .q (.ixsN rfl rfl str_9 hy13)<|.b rfl rfl rfl rfl<|.m rfl rfl<|.split (t:=63) rfl (fun h14=>?_) (fun h14=>?_)
   ·have hF:=cT h14 hF
    refine .k h14<|.k h14<|.k h14<|.k h14<|.q (.pickT rfl h14 rfl)<|.nil<|sq_n<|.condT rfl rfl<|.seq<|.region rfl<|.z rfl rfl<|.z rfl rfl<|.nil<|sq_n<|.ret<|sq_r<|bq_r<|sq_r<|lq_r<|bq_r<|sq_r ?_
    obtain rfl:=sI hF
    have hF:=hG3
    obtain rfl:=sI hF
    refine Qbm ((hlj1.trans hlj2).trans hlo3) (.tmp rfl (.tmp rfl .nil)) rfl ?_
    rfl
   have kh14:=dF h14
   have hF:=cF h14 hF
   refine .py h14 (.move rfl)<|.py h14 (.move rfl) ?_
   obtain ⟨hsl15,hF⟩:=ckS hF
   have hsl15:=of_decide_eq_true hsl15
   obtain ⟨y15,hy15,hF⟩:=bS hF
   have hk15:=(List.getElem?_eq_some_iff.1 hy15).1
   refine .py h14 (.ixsN rfl rfl str_9 hy15)<|.py h14 (.bin rfl rfl rfl)<|.q (.pickF rfl h14 rfl)<|.nil<|sq_n<|.cond rfl (fun h16=>?_) (fun h16=>?_)
   ·have hF:=cT h16 hF
    refine .seq<|.region rfl<|.z rfl rfl<|.z rfl rfl<|.nil<|sq_n<|.ret<|sq_r<|bq_r<|sq_r<|lq_r<|bq_r<|sq_r ?_
    obtain rfl:=sI hF
    have hF:=hG3
    obtain rfl:=sI hF
    refine Qbm ((hlj1.trans hlj2).trans hlo3) (.tmp rfl (.tmp rfl .nil)) rfl ?_
    rfl
   have kh16:=dF h16
   have hF:=cF h16 hF
   refine .skip<|sq_n<|.region rfl<|.m rfl rfl<|.b rfl rfl rfl rfl<|.m rfl rfl<|.m rfl rfl ?_
   obtain ⟨hsl17,hF⟩:=ckS hF
   have hsl17:=of_decide_eq_true hsl17
   obtain ⟨y17,hy17,hF⟩:=bS hF
   have hk17:=(List.getElem?_eq_some_iff.1 hy17).1
   refine .q (.ixsN rfl rfl str_9 hy17)<|.b rfl rfl rfl rfl<|.q (.conv rfl (by rfl)) ?_
   refine .b rfl rfl rfl rfl<|.z rfl rfl<|.nil<|bq_n<|sq_n<|.region rfl<|.m rfl rfl<|.q (.inc1 rfl rfl (by omega))<|.z rfl rfl<|.nil<|Qbp (L_r01_Number_3.mk (wr ((wr (z3_1 * 10))+(wr (wu8 ((y17.toNat:Int) - 48))))) (k3_2+1)) ⟨rfl,rfl,rfl,rfl,trivial⟩ (List.Sublist.refl _) (Le.refl _) ?_ ?_
   ·exact hF
   ·simp only;omega
  have kh12:=dF h12
  have em3:((s2_1.length:Int) - (k3_2:Int)).toNat=0:=by omega
  rw [em3,Qar] at hF
  obtain rfl:=sI hF
  have hF:=hG3
  refine .exit<|sq_e<|lq_e<|bq_x rfl<|sq_n<|.seq<|.seq<|.region rfl<|.m rfl rfl<|.nil<|sq_n<|.condT rfl h5<|.region rfl<|.m rfl rfl<|.q (.un rfl rfl)<|.z rfl rfl<|.nil<|sq_n<|.seq<|.region rfl<|.m rfl rfl<|.z rfl rfl<|.z rfl rfl<|.nil<|sq_n<|.ret ?_
  obtain rfl:=sI hF
  refine Qbm ((hlj1.trans hlj2).trans hlo3) (.tmp rfl (.tmp rfl .nil)) rfl ?_
  rfl
 have kh5:=h5
 have hF:=cF h5 hF
 refine .k h5<|.k h5<|.q (.pickF rfl h5 rfl)<|.m rfl rfl<|.py rfl (.move rfl)<|.py rfl (.len rfl rfl rfl (Qce str_9))<|.py rfl (.bin rfl rfl rfl)<|.q (.pickF rfl rfl rfl)<|.m rfl rfl<|.split (t:=34) rfl (fun h18=>?_) (fun h18=>?_)
 ·have hF:=cT h18 hF
  refine .k h18<|.k h18<|.k h18<|.k h18<|.q (.pickT rfl h18 rfl)<|.m rfl rfl<|.k rfl<|.k rfl<|.k rfl<|.k rfl<|.ku<|.ku<|.ku<|.ku<|.ku<|.ku<|.k rfl<|.q (.pickT rfl rfl rfl)<|.nil<|sq_n<|.condT rfl rfl<|.seq<|.region rfl<|.z rfl rfl<|.z rfl rfl<|.nil<|sq_n<|.ret<|sq_r ?_
  obtain rfl:=sI hF
  refine Qbm (hlj1.trans hlj2) (.tmp rfl (.tmp rfl .nil)) rfl ?_
  rfl
 have kh18:=dF h18
 have hF:=cF h18 hF
 refine .py h18 (.move rfl)<|.py h18 (.len rfl rfl rfl (Qce str_9))<|.py h18 (.move rfl)<|.py h18 (.bin rfl rfl rfl)<|.q (.pickF rfl h18 rfl)<|.m rfl rfl<|.split (t:=40) rfl (fun h19=>?_) (fun h19=>?_)
 ·have hF:=cT h19 hF
  refine .k h19<|.k h19<|.k h19<|.k h19<|.ku<|.ku<|.ku<|.ku<|.ku<|.ku<|.k h19<|.q (.pickT rfl h19 rfl)<|.nil<|sq_n<|.condT rfl rfl<|.seq<|.region rfl<|.z rfl rfl<|.z rfl rfl<|.nil<|sq_n<|.ret<|sq_r ?_
  obtain rfl:=sI hF
  refine Qbm (hlj1.trans hlj2) (.tmp rfl (.tmp rfl .nil)) rfl ?_
  rfl
 have kh19:=dF h19
 have hF:=cF h19 hF
 refine .py h19 (.move rfl) ?_
 obtain ⟨hsl20,hF⟩:=ckS hF
 have hsl20:=of_decide_eq_true hsl20
 obtain ⟨y20,hy20,hF⟩:=bS hF
 have hk20:=(List.getElem?_eq_some_iff.1 hy20).1
 refine .py h19 (.ixsN rfl rfl str_9 hy20)<|.py h19 (.bin rfl rfl rfl)<|.py h19 (.move rfl)<|.split (t:=44) rfl (fun h21=>?_) (fun h21=>?_)
 ·have kh21:=dT h21
  have hF:=cT h21 hF
  refine .py h21 (.move rfl)<|.py h21 (.len rfl rfl rfl (Qce str_9))<|.py h21 (.bin rfl rfl rfl)<|.py h21 (.move rfl)<|.split (t:=48) rfl (fun h22=>?_) (fun h22=>?_)
  ·have hF:=cT h22 hF
   refine .k h22<|.py h21 (.pickT rfl h22 rfl)<|.py h19 (.pickT rfl h21 rfl)<|.q (.pickF rfl h19 rfl)<|.nil<|sq_n<|.condT rfl rfl<|.seq<|.region rfl<|.z rfl rfl<|.z rfl rfl<|.nil<|sq_n<|.ret<|sq_r ?_
   obtain rfl:=sI hF
   refine Qbm (hlj1.trans hlj2) (.tmp rfl (.tmp rfl .nil)) rfl ?_
   rfl
  have kh22:=dF h22
  have hF:=cF h22 hF
  refine .py h22 (.move rfl)<|.py h21 (.pickF rfl h22 rfl)<|.py h19 (.pickT rfl h21 rfl)<|.q (.pickF rfl h19 rfl)<|.nil<|sq_n<|.condF rfl h5<|.skip<|sq_n<|.seq<|.region rfl<|.z rfl rfl<|.nil<|sq_n<|.seq<|.seq<|.region rfl<|.z rfl rfl<|.nil<|sq_n<|.block ?_
  obtain ⟨o4,hF,hG4⟩:=bS hF
  refine .loopx (α:=L_r01_Number_4) [(8,_),(9,_)] _ (fun fx x=>(10,.i .i64 x.z4_1) :: (11,.i .i64 (x.k4_2:Int)) :: fx) (fun mx _=>mx) (fun x g'=>Qas s2_1 (((s2_1.length:Int) - (x.k4_2:Int)).toNat) x.z4_1 x.k4_2=some o4) (fun x=>((s2_1.length:Int) - (x.k4_2:Int)).toNat) (L_r01_Number_4.mk 0 0) ⟨rfl,rfl,rfl,rfl,trivial⟩ (List.Sublist.refl _) hF ?_
  intro x4 gl4 hlo4 hJ4
  obtain ⟨z4_1,k4_2⟩:=x4
  try dsimp only at hJ4
  have hF:=hJ4
  refine .al0 [(10,.i .i64 z4_1),(11,.i .i64 (k4_2:Int)),(8,_),(9,_)]<|.seq<|.seq<|.region rfl<|.m rfl rfl<|.m rfl rfl<|.q (.len rfl rfl rfl (Qce str_9))<|.b rfl rfl rfl rfl<|.nil<|sq_n<|.cond rfl (fun h23=>?_) (fun h23=>?_)
  ·have kh23:=dT h23
   have em4:((s2_1.length:Int) - (k4_2:Int)).toNat=((s2_1.length:Int) - ((k4_2+1:Nat):Int)).toNat+1:=by omega
   rw [em4,Qas] at hF
   refine .skip<|sq_n<|.seq<|.block<|.seq<|.seq<|.region rfl<|.m rfl rfl<|.m rfl rfl ?_
   obtain ⟨hsl24,hF⟩:=ckS hF
   have hsl24:=of_decide_eq_true hsl24
   obtain ⟨y24,hy24,hF⟩:=bS hF
   have hk24:=(List.getElem?_eq_some_iff.1 hy24).1
   refine .q (.ixsN rfl rfl str_9 hy24)<|.b rfl rfl rfl rfl<|.m rfl rfl<|.split (t:=63) rfl (fun h25=>?_) (fun h25=>?_)
   ·have hF:=cT h25 hF
    refine .k h25<|.k h25<|.k h25<|.k h25<|.q (.pickT rfl h25 rfl)<|.nil<|sq_n<|.condT rfl rfl<|.seq<|.region rfl<|.z rfl rfl<|.z rfl rfl<|.nil<|sq_n<|.ret<|sq_r<|bq_r<|sq_r<|lq_r<|bq_r<|sq_r ?_
    obtain rfl:=sI hF
    have hF:=hG4
    obtain rfl:=sI hF
    refine Qbm ((hlj1.trans hlj2).trans hlo4) (.tmp rfl (.tmp rfl .nil)) rfl ?_
    rfl
   have kh25:=dF h25
   have hF:=cF h25 hF
   refine .py h25 (.move rfl)<|.py h25 (.move rfl) ?_
   obtain ⟨hsl26,hF⟩:=ckS hF
   have hsl26:=of_decide_eq_true hsl26
   obtain ⟨y26,hy26,hF⟩:=bS hF
   have hk26:=(List.getElem?_eq_some_iff.1 hy26).1
   refine .py h25 (.ixsN rfl rfl str_9 hy26)<|.py h25 (.bin rfl rfl rfl)<|.q (.pickF rfl h25 rfl)<|.nil<|sq_n<|.cond rfl (fun h27=>?_) (fun h27=>?_)
   ·have hF:=cT h27 hF
    refine .seq<|.region rfl<|.z rfl rfl<|.z rfl rfl<|.nil<|sq_n<|.ret<|sq_r<|bq_r<|sq_r<|lq_r<|bq_r<|sq_r ?_
    obtain rfl:=sI hF
    have hF:=hG4
    obtain rfl:=sI hF
    refine Qbm ((hlj1.trans hlj2).trans hlo4) (.tmp rfl (.tmp rfl .nil)) rfl ?_
    rfl
   have kh27:=dF h27
   have hF:=cF h27 hF
   refine .skip<|sq_n<|.region rfl<|.m rfl rfl<|.b rfl rfl rfl rfl<|.m rfl rfl<|.m rfl rfl ?_
   obtain ⟨hsl28,hF⟩:=ckS hF
   have hsl28:=of_decide_eq_true hsl28
   obtain ⟨y28,hy28,hF⟩:=bS hF
   have hk28:=(List.getElem?_eq_some_iff.1 hy28).1
   refine .q (.ixsN rfl rfl str_9 hy28)<|.b rfl rfl rfl rfl<|.q (.conv rfl (by rfl)) ?_
   refine .b rfl rfl rfl rfl<|.z rfl rfl<|.nil<|bq_n<|sq_n<|.region rfl<|.m rfl rfl<|.q (.inc1 rfl rfl (by omega))<|.z rfl rfl<|.nil<|Qbp (L_r01_Number_4.mk (wr ((wr (z4_1 * 10))+(wr (wu8 ((y28.toNat:Int) - 48))))) (k4_2+1)) ⟨rfl,rfl,rfl,rfl,trivial⟩ (List.Sublist.refl _) (Le.refl _) ?_ ?_
   ·exact hF
   ·simp only;omega
  have kh23:=dF h23
  have em4:((s2_1.length:Int) - (k4_2:Int)).toNat=0:=by omega
  rw [em4,Qas] at hF
  obtain rfl:=sI hF
  have hF:=hG4
  refine .exit<|sq_e<|lq_e<|bq_x rfl<|sq_n<|.seq<|.seq<|.region rfl<|.m rfl rfl<|.nil<|sq_n<|.condF rfl h5<|.skip<|sq_n<|.seq<|.region rfl<|.m rfl rfl<|.z rfl rfl<|.z rfl rfl<|.nil<|sq_n<|.ret ?_
  obtain rfl:=sI hF
  refine Qbm ((hlj1.trans hlj2).trans hlo4) (.tmp rfl (.tmp rfl .nil)) rfl ?_
  rfl
 have kh21:=dF h21
 have hF:=cF h21 hF
 refine .k h21<|.k h21<|.k h21<|.k h21<|.ku<|.k h21<|.py h19 (.pickF rfl h21 rfl)<|.q (.pickF rfl h19 rfl)<|.nil<|sq_n<|.condF rfl rfl<|.skip<|sq_n<|.seq<|.region rfl<|.z rfl rfl<|.nil<|sq_n<|.seq<|.seq<|.region rfl<|.z rfl rfl<|.nil<|sq_n<|.block ?_
 obtain ⟨o5,hF,hG5⟩:=bS hF
 refine .loopx (α:=L_r01_Number_5) [(8,_),(9,_)] _ (fun fx x=>(10,.i .i64 x.z5_1) :: (11,.i .i64 (x.k5_2:Int)) :: fx) (fun mx _=>mx) (fun x g'=>Qap s2_1 (((s2_1.length:Int) - (x.k5_2:Int)).toNat) x.z5_1 x.k5_2=some o5) (fun x=>((s2_1.length:Int) - (x.k5_2:Int)).toNat) (L_r01_Number_5.mk 0 0) ⟨rfl,rfl,rfl,rfl,trivial⟩ (List.Sublist.refl _) hF ?_
 intro x5 gl5 hlo5 hJ5
 obtain ⟨z5_1,k5_2⟩:=x5
 try dsimp only at hJ5
 have hF:=hJ5
 refine .al0 [(10,.i .i64 z5_1),(11,.i .i64 (k5_2:Int)),(8,_),(9,_)]<|.seq<|.seq<|.region rfl<|.m rfl rfl<|.m rfl rfl<|.q (.len rfl rfl rfl (Qce str_9))<|.b rfl rfl rfl rfl<|.nil<|sq_n<|.cond rfl (fun h29=>?_) (fun h29=>?_)
 ·have kh29:=dT h29
  have em5:((s2_1.length:Int) - (k5_2:Int)).toNat=((s2_1.length:Int) - ((k5_2+1:Nat):Int)).toNat+1:=by omega
  rw [em5,Qap] at hF
  refine .skip<|sq_n<|.seq<|.block<|.seq<|.seq<|.region rfl<|.m rfl rfl<|.m rfl rfl ?_
  obtain ⟨hsl30,hF⟩:=ckS hF
  have hsl30:=of_decide_eq_true hsl30
  obtain ⟨y30,hy30,hF⟩:=bS hF
  have hk30:=(List.getElem?_eq_some_iff.1 hy30).1
  refine .q (.ixsN rfl rfl str_9 hy30)<|.b rfl rfl rfl rfl<|.m rfl rfl<|.split (t:=63) rfl (fun h31=>?_) (fun h31=>?_)
  ·have hF:=cT h31 hF
   refine .k h31<|.k h31<|.k h31<|.k h31<|.q (.pickT rfl h31 rfl)<|.nil<|sq_n<|.condT rfl rfl<|.seq<|.region rfl<|.z rfl rfl<|.z rfl rfl<|.nil<|sq_n<|.ret<|sq_r<|bq_r<|sq_r<|lq_r<|bq_r<|sq_r ?_
   obtain rfl:=sI hF
   have hF:=hG5
   obtain rfl:=sI hF
   refine Qbm ((hlj1.trans hlj2).trans hlo5) (.tmp rfl (.tmp rfl .nil)) rfl ?_
   rfl
  have kh31:=dF h31
  have hF:=cF h31 hF
  refine .py h31 (.move rfl)<|.py h31 (.move rfl) ?_
  obtain ⟨hsl32,hF⟩:=ckS hF
  have hsl32:=of_decide_eq_true hsl32
  obtain ⟨y32,hy32,hF⟩:=bS hF
  have hk32:=(List.getElem?_eq_some_iff.1 hy32).1
  refine .py h31 (.ixsN rfl rfl str_9 hy32)<|.py h31 (.bin rfl rfl rfl)<|.q (.pickF rfl h31 rfl)<|.nil<|sq_n<|.cond rfl (fun h33=>?_) (fun h33=>?_)
  ·have hF:=cT h33 hF
   refine .seq<|.region rfl<|.z rfl rfl<|.z rfl rfl<|.nil<|sq_n<|.ret<|sq_r<|bq_r<|sq_r<|lq_r<|bq_r<|sq_r ?_
   obtain rfl:=sI hF
   have hF:=hG5
   obtain rfl:=sI hF
   refine Qbm ((hlj1.trans hlj2).trans hlo5) (.tmp rfl (.tmp rfl .nil)) rfl ?_
   rfl
  have kh33:=dF h33
  have hF:=cF h33 hF
  refine .skip<|sq_n<|.region rfl<|.m rfl rfl<|.b rfl rfl rfl rfl<|.m rfl rfl<|.m rfl rfl ?_
  obtain ⟨hsl34,hF⟩:=ckS hF
  have hsl34:=of_decide_eq_true hsl34
  obtain ⟨y34,hy34,hF⟩:=bS hF
  have hk34:=(List.getElem?_eq_some_iff.1 hy34).1
  refine .q (.ixsN rfl rfl str_9 hy34)<|.b rfl rfl rfl rfl<|.q (.conv rfl (by rfl)) ?_
  refine .b rfl rfl rfl rfl<|.z rfl rfl<|.nil<|bq_n<|sq_n<|.region rfl<|.m rfl rfl<|.q (.inc1 rfl rfl (by omega))<|.z rfl rfl<|.nil<|Qbp (L_r01_Number_5.mk (wr ((wr (z5_1 * 10))+(wr (wu8 ((y34.toNat:Int) - 48))))) (k5_2+1)) ⟨rfl,rfl,rfl,rfl,trivial⟩ (List.Sublist.refl _) (Le.refl _) ?_ ?_
  ·exact hF
  ·simp only;omega
 have kh29:=dF h29
 have em5:((s2_1.length:Int) - (k5_2:Int)).toNat=0:=by omega
 rw [em5,Qap] at hF
 obtain rfl:=sI hF
 have hF:=hG5
 refine .exit<|sq_e<|lq_e<|bq_x rfl<|sq_n<|.seq<|.seq<|.region rfl<|.m rfl rfl<|.nil<|sq_n<|.condF rfl h5<|.skip<|sq_n<|.seq<|.region rfl<|.m rfl rfl<|.z rfl rfl<|.z rfl rfl<|.nil<|sq_n<|.ret ?_
 obtain rfl:=sI hF
 refine Qbm ((hlj1.trans hlj2).trans hlo5) (.tmp rfl (.tmp rfl .nil)) rfl ?_
 rfl
end Go.Proofs.YtdlmdaononclgaaGreatDoor
namespace Go.Proofs.YtdlmdaononclgaaGreatDoor
open Go Go.Ev
set_option linter.unusedVariables false
set_option linter.unusedSimpArgs false
theorem ckY {R:Type} {b:Bool} {A:Option R} (h:b=true):ck b A=A:=by subst h;rfl
theorem seg_s {l:List UInt8} {z k:Nat} {y:UInt8} (hz:z≤k) (hy:l[k]? =some y):(l.take (k+1)).drop z=(l.take k).drop z ++ [y]:=by
 have hk:=(List.getElem?_eq_some_iff.1 hy).1
 rw [List.take_add_one,hy,List.drop_append_of_le_length (by rw [List.length_take];omega)];rfl
theorem seg_e {l:List UInt8} {z k:Nat} (hz:z≤k):l.drop z=(l.take k).drop z ++ l.drop k:=by
 conv=>lhs;rw [←List.take_append_drop k l]
 by_cases hk:k≤l.length
 ·rw [List.drop_append_of_le_length (by rw [List.length_take];omega)]
 ·have e1:l.drop k=[]:=List.drop_eq_nil_of_le (by omega)
  rw [e1,List.append_nil,List.append_nil]
theorem lines_l1 {l:List UInt8} (hl:l.length≤999999):∀ (m k z:Nat) (d:List (List UInt8)),k+m=l.length→z≤k→(∀ x∈(l.take k).drop z,x≠10)→d.length≤k→
   ∃ z':Nat,Qam l m d (z:Int) k=some (d ++ (Qai 10 (l.drop z)).dropLast,(z':Int))∧z'≤l.length∧(Qai 10 (l.drop z)).getLast? =some (l.drop z')
 | 0,k,z,d,hk,hz,hn,hd=>by
   have e:(l.take k).drop z=l.drop z:=by rw [List.take_of_length_le (by omega)]
   rw [e] at hn
   rw [Qd hn]
   exact ⟨z,by rw [Qam];simp,by omega,rfl⟩
 | m+1,k,z,d,hk,hz,hn,hd=>by
   have hlt:k < l.length:=by omega
   have hy:=List.getElem?_eq_getElem hlt
   have hs:=seg_s hz hy
   rw [Qam,hy]
   simp only [Option.bind_some]
   by_cases h10:l[k]=10
   ·have e:((l[k].toNat:Int)=10):=by rw [h10];rfl
    have hE:Qai 10 (l.drop z)=(l.take k).drop z :: Qai 10 (l.drop (k+1)):=by
     rw [seg_e hz,List.drop_eq_getElem_cons hlt,h10,Qby _ hn]
    obtain ⟨z',r1,r2,r3⟩:=lines_l1 hl m (k+1) (k+1) (d ++ [cutL l (z:Int) (k:Int)]) (by omega) (Nat.le_refl _) (fun x hx=>by
     rw [List.drop_eq_nil_of_le (by rw [List.length_take];omega)] at hx;cases hx) (by rw [List.length_append,List.length_singleton];omega)
    have hc:cutL l (z:Int) (k:Int)=(l.take k).drop z:=by simp [cutL]
    have ne:=splitL_ne 10 (l.drop (k+1))
    refine ⟨z',?_,r2,?_⟩
    ·rw [decide_eq_true e]
     simp only [cond_true]
     rw [ckY (by simp;omega),ckY (decide_eq_true (by omega)),r1,hc,hE,List.append_assoc]
     congr 2
     congr 1
     cases hq:Qai 10 (l.drop (k+1)) with
     | nil=>exact absurd hq ne
     | cons a t=>rfl
    ·rw [hE]
     cases hq:Qai 10 (l.drop (k+1)) with
     | nil=>exact absurd hq ne
     | cons a t=>rw [hq] at r3;rw [List.getLast?_cons_cons];exact r3
   ·have e: ¬ ((l[k].toNat:Int)=10):=fun e=>h10 (by
     have:l[k].toNat=10:=by omega
     exact UInt8.toNat_inj.1 this)
    obtain ⟨z',r1,r2,r3⟩:=lines_l1 hl m (k+1) z d (by omega) (by omega) (fun x hx=>by
     rw [hs] at hx
     rcases List.mem_append.1 hx with hx | hx
     · exact hn x hx
     · rw [List.mem_singleton.1 hx];exact h10) (by omega)
    refine ⟨z',?_,r2,r3⟩
    rw [decide_eq_false e]
    simp only [cond_false]
    exact r1
theorem rLines_eq {l:List UInt8} (hl:l.length≤999998):Qdj l=some (Qaj l):=by
 obtain ⟨z,r1,r2,r3⟩:=lines_l1 (l:=l) (by omega) l.length 0 0 [] (by omega) (Nat.le_refl _) (fun x hx=>by simp at hx) (Nat.zero_le _)
 have ne:=splitL_ne 10 l
 rw [List.drop_zero,List.nil_append] at r1
 rw [List.drop_zero] at r3
 have e:Qai 10 l=(Qai 10 l).dropLast ++ [l.drop z]:=by
  have h:=List.dropLast_concat_getLast ne
  rw [List.getLast?_eq_some_getLast ne] at r3
  rw [Option.some.inj r3] at h
  exact h.symm
 have hlen:(Qai 10 l).dropLast.length≤999999:=by
  have k:∀ (c:UInt8) (x:List UInt8),(Qai c x).length≤x.length+1:=by
   intro c x
   induction x with
   | nil=>simp [Qai]
   | cons a x ih=>
     unfold Qai
     split
     ·simp only [List.length_cons];omega
     ·cases hq:Qai c x with
      | nil=>simp [consH]
      | cons b t=>rw [hq] at ih;simp only [consH,List.length_cons] at ih ⊢;omega
  have:=k 10 l
  rw [List.length_dropLast];omega
 unfold Qdj Qaj dropE
 rw [ckY (decide_eq_true (by omega)),show ((l.length:Int) - 0).toNat=l.length by omega]
 have r1':Qam l l.length [] 0 0=some ((Qai 10 l).dropLast,(z:Int)):=r1
 rw [r1']
 simp only [Option.bind_some]
 by_cases hz:z < l.length
 ·rw [decide_eq_true (by omega)]
  simp only [cond_true]
  have hd:l.drop z≠[]:=fun h=>by have:=congrArg List.length h;rw [List.length_drop,List.length_nil] at this;omega
  rw [ckY (by simp;omega),ckY (decide_eq_true (by omega)),r3,if_neg (fun h=>hd (Option.some.inj h))]
  have hc:cutL l (z:Int) (l.length:Int)=l.drop z:=by simp [cutL]
  rw [hc, ←e]
 ·rw [decide_eq_false (by omega),r3,if_pos (by rw [List.drop_eq_nil_of_le (by omega)])]
  rfl
def neB (x:List UInt8):Bool:= !x.isEmpty
theorem words_l1 {l:List UInt8} (hl:l.length≤999998):∀ (m k z:Nat) (d:List (List UInt8)),k+m=l.length→z≤k→(∀ x∈(l.take k).drop z,x≠32)→d.length≤k→
   Qad l (m+2) d (z:Int) k=some (d ++ (Qai 32 (l.drop z)).filter neB)
 | 0,k,z,d,hk,hz,hn,hd=>by
   have e:(l.take k).drop z=l.drop z:=by rw [List.take_of_length_le (by omega)]
   rw [e] at hn
   have hc:cutL l (z:Int) (k:Int)=l.drop z:=by
    rw [←e];simp [cutL]
   have fin:∀ (d:List (List UInt8)) (z:Int),Qad l 1 d z (k+1)=some d:=fun d z=>by
    rw [Qad,decide_eq_false (by omega)];rfl
   rw [Qd hn,Qad,decide_eq_true (p:=(k:Int)≤(l.length:Int)) (by omega),decide_eq_false (p:=(k:Int) < (l.length:Int)) (by omega)]
   simp only [cond_true,cond_false]
   by_cases h:z < k
   ·rw [decide_eq_true (by omega)]
    simp only [cond_true]
    rw [ckY (by simp;omega),ckY (decide_eq_true (by omega)),fin,hc]
    have hne:neB (l.drop z)=true:=by
     cases hq:l.drop z with
     | nil=>have:=congrArg List.length hq;rw [List.length_drop,List.length_nil] at this;omega
     | cons a t=>rfl
    rw [List.filter_cons_of_pos hne];rfl
   ·rw [decide_eq_false (by omega)]
    simp only [cond_false]
    rw [fin]
    have hne: ¬ neB (l.drop z)=true:=by rw [List.drop_eq_nil_of_le (by omega)];simp [neB]
    rw [List.filter_cons_of_neg hne,List.filter_nil,List.append_nil]
 | m+1,k,z,d,hk,hz,hn,hd=>by
   have hlt:k < l.length:=by omega
   have hy:=List.getElem?_eq_getElem hlt
   have hs:=seg_s hz hy
   rw [show m+1+2=(m+2)+1 by omega,Qad,decide_eq_true (p:=(k:Int)≤(l.length:Int)) (by omega),decide_eq_true (p:=(k:Int) < (l.length:Int)) (by omega),hy]
   simp only [cond_true,Option.bind_some]
   by_cases h32:l[k]=32
   ·have e:((l[k].toNat:Int)=32):=by rw [h32];rfl
    have hE:Qai 32 (l.drop z)=(l.take k).drop z :: Qai 32 (l.drop (k+1)):=by
     rw [seg_e hz,List.drop_eq_getElem_cons hlt,h32,Qby _ hn]
    have hc:cutL l (z:Int) (k:Int)=(l.take k).drop z:=by simp [cutL]
    have nx:∀ d:List (List UInt8),d.length≤k+1→Qad l (m+2) d (((k+1:Nat):Nat):Int) (k+1)=some (d ++ (Qai 32 (l.drop (k+1))).filter neB):=fun d hd=>words_l1 hl m (k+1) (k+1) d (by omega) (Nat.le_refl _) (fun x hx=>by
     rw [List.drop_eq_nil_of_le (by rw [List.length_take];omega)] at hx;cases hx) hd
    rw [decide_eq_true e,hE]
    simp only [Bool.not_true,cond_false]
    by_cases h:z < k
    ·rw [decide_eq_true (by omega)]
     simp only [cond_true]
     have hne:neB ((l.take k).drop z)=true:=by
       cases hq:(l.take k).drop z with
       | nil=>have:=congrArg List.length hq;rw [List.length_drop,List.length_take,List.length_nil] at this;omega
       | cons a t=>rfl
     rw [ckY (by simp;omega),ckY (decide_eq_true (by omega)),nx _ (by rw [List.length_append,List.length_singleton];omega),hc,List.filter_cons_of_pos hne,List.append_assoc];rfl
    ·rw [decide_eq_false (by omega)]
     simp only [cond_false]
     have hne: ¬ neB ((l.take k).drop z)=true:=by rw [List.drop_eq_nil_of_le (by rw [List.length_take];omega)];simp [neB]
     rw [nx _ (by omega),List.filter_cons_of_neg hne]
   ·have e: ¬ ((l[k].toNat:Int)=32):=fun e=>h32 (by
     have:l[k].toNat=32:=by omega
     exact UInt8.toNat_inj.1 this)
    rw [decide_eq_false e]
    simp only [Bool.not_false,cond_true]
    exact words_l1 hl m (k+1) z d (by omega) (by omega) (fun x hx=>by
     rw [hs] at hx
     rcases List.mem_append.1 hx with hx | hx
     · exact hn x hx
     · rw [List.mem_singleton.1 hx];exact h32) (by omega)
theorem words_l2 {l:List UInt8} (hl:l.length≤999998):∀ (m k z:Nat) (d:List (List UInt8)),k+m=l.length→z≤k→(∀ x∈(l.take k).drop z,x≠32)→d.length≤k→
   Qae l (m+2) d (z:Int) k=some (d ++ (Qai 32 (l.drop z)).filter neB)
 | 0,k,z,d,hk,hz,hn,hd=>by
   have e:(l.take k).drop z=l.drop z:=by rw [List.take_of_length_le (by omega)]
   rw [e] at hn
   have hc:cutL l (z:Int) (k:Int)=l.drop z:=by
    rw [←e];simp [cutL]
   have fin:∀ (d:List (List UInt8)) (z:Int),Qae l 1 d z (k+1)=some d:=fun d z=>by
    rw [Qae,decide_eq_false (by omega)];rfl
   rw [Qd hn,Qae,decide_eq_true (p:=(k:Int)≤(l.length:Int)) (by omega),decide_eq_false (p:=(k:Int) < (l.length:Int)) (by omega)]
   simp only [cond_true,cond_false]
   by_cases h:z < k
   ·rw [decide_eq_true (by omega)]
    simp only [cond_true]
    rw [ckY (by simp;omega),ckY (decide_eq_true (by omega)),fin,hc]
    have hne:neB (l.drop z)=true:=by
     cases hq:l.drop z with
     | nil=>have:=congrArg List.length hq;rw [List.length_drop,List.length_nil] at this;omega
     | cons a t=>rfl
    rw [List.filter_cons_of_pos hne];rfl
   ·rw [decide_eq_false (by omega)]
    simp only [cond_false]
    rw [fin]
    have hne: ¬ neB (l.drop z)=true:=by rw [List.drop_eq_nil_of_le (by omega)];simp [neB]
    rw [List.filter_cons_of_neg hne,List.filter_nil,List.append_nil]
 | m+1,k,z,d,hk,hz,hn,hd=>by
   have hlt:k < l.length:=by omega
   have hy:=List.getElem?_eq_getElem hlt
   have hs:=seg_s hz hy
   rw [show m+1+2=(m+2)+1 by omega,Qae,decide_eq_true (p:=(k:Int)≤(l.length:Int)) (by omega),decide_eq_true (p:=(k:Int) < (l.length:Int)) (by omega),hy]
   simp only [cond_true,Option.bind_some]
   by_cases h32:l[k]=32
   ·have e:((l[k].toNat:Int)=32):=by rw [h32];rfl
    have hE:Qai 32 (l.drop z)=(l.take k).drop z :: Qai 32 (l.drop (k+1)):=by
     rw [seg_e hz,List.drop_eq_getElem_cons hlt,h32,Qby _ hn]
    have hc:cutL l (z:Int) (k:Int)=(l.take k).drop z:=by simp [cutL]
    have nx:∀ d:List (List UInt8),d.length≤k+1→Qae l (m+2) d (((k+1:Nat):Nat):Int) (k+1)=some (d ++ (Qai 32 (l.drop (k+1))).filter neB):=fun d hd=>words_l2 hl m (k+1) (k+1) d (by omega) (Nat.le_refl _) (fun x hx=>by
     rw [List.drop_eq_nil_of_le (by rw [List.length_take];omega)] at hx;cases hx) hd
    rw [decide_eq_true e,hE]
    simp only [Bool.not_true,cond_false]
    by_cases h:z < k
    ·rw [decide_eq_true (by omega)]
     simp only [cond_true]
     have hne:neB ((l.take k).drop z)=true:=by
       cases hq:(l.take k).drop z with
       | nil=>have:=congrArg List.length hq;rw [List.length_drop,List.length_take,List.length_nil] at this;omega
       | cons a t=>rfl
     rw [ckY (by simp;omega),ckY (decide_eq_true (by omega)),nx _ (by rw [List.length_append,List.length_singleton];omega),hc,List.filter_cons_of_pos hne,List.append_assoc];rfl
    ·rw [decide_eq_false (by omega)]
     simp only [cond_false]
     have hne: ¬ neB ((l.take k).drop z)=true:=by rw [List.drop_eq_nil_of_le (by rw [List.length_take];omega)];simp [neB]
     rw [nx _ (by omega),List.filter_cons_of_neg hne]
   ·have e: ¬ ((l[k].toNat:Int)=32):=fun e=>h32 (by
     have:l[k].toNat=32:=by omega
     exact UInt8.toNat_inj.1 this)
    rw [decide_eq_false e]
    simp only [Bool.not_false,cond_true]
    exact words_l2 hl m (k+1) z d (by omega) (by omega) (fun x hx=>by
     rw [hs] at hx
     rcases List.mem_append.1 hx with hx | hx
     · exact hn x hx
     · rw [List.mem_singleton.1 hx];exact h32) (by omega)
theorem rWords_eq {l:List UInt8} (hl:l.length≤999998):Qdg l=some (Qan l):=by
 have a1:=words_l1 hl l.length 0 0 [] (by omega) (Nat.le_refl _) (fun x hx=>by simp at hx) (Nat.zero_le _)
 have a2:=words_l2 hl l.length 0 0 [] (by omega) (Nat.le_refl _) (fun x hx=>by simp at hx) (Nat.zero_le _)
 have a1:Qad l (l.length+2) [] 0 0=some ((Qai 32 l).filter neB):=a1
 have a2:Qae l (l.length+2) [] 0 0=some ((Qai 32 l).filter neB):=a2
 unfold Qdg Qan
 rw [ckY (decide_eq_true (by omega)),a1,a2]
 cases l with
 | nil=>rfl
 | cons x t=>
   rw [decide_eq_true (p:=(0:Int) < ((x :: t).length:Int)) (by simp only [List.length_cons];omega)]
   simp only [cond_true,List.getElem?_cons_zero,Option.bind_some]
   by_cases h:x=35
   ·subst h;rfl
   ·have e: ¬ ((x.toNat:Int)=35):=fun e=>h (by
     have:x.toNat=35:=by omega
     exact UInt8.toNat_inj.1 this)
    rw [decide_eq_false e,if_neg (show ¬ (x :: t).head? =some 35 from fun h2=>h (Option.some.inj h2))]
    rfl
end Go.Proofs.YtdlmdaononclgaaGreatDoor
namespace Go.Proofs.YtdlmdaononclgaaGreatDoor
open Go Go.Ev
set_option linter.unusedVariables false
set_option linter.unusedSimpArgs false
def digC (c:UInt8):Bool:=decide (48≤c.toNat) && decide (c.toNat≤57)
def valD (l:List UInt8) (a:Nat):Nat:=l.foldl (fun a c=>a * 10+(c.toNat - 48)) a
theorem valD_snoc (l:List UInt8) (c:UInt8) (a:Nat):valD (l ++ [c]) a=valD l a * 10+(c.toNat - 48):=by simp [valD]
theorem decFrom_eq:∀ (l:List UInt8) (a:Nat),Lib.decFrom a l=if l.all digC=true then some (valD l a) else none
 | [],a=>rfl
 | c :: l,a=>by
   unfold Lib.decFrom Lib.digitVal
   by_cases h:48≤c.toNat∧c.toNat≤57
   ·have hb:digC c=true:=by unfold digC;rw [decide_eq_true h.1,decide_eq_true h.2];rfl
    rw [if_pos h]
    simp only [List.all_cons,hb,Bool.true_and]
    exact decFrom_eq l _
   ·have hb:digC c=false:=by
     unfold digC
     by_cases h1:48≤c.toNat
     ·rw [decide_eq_true h1,decide_eq_false (fun h2=>h ⟨h1,h2⟩)];rfl
     ·rw [decide_eq_false h1];rfl
    rw [if_neg h]
    simp only [List.all_cons,hb,Bool.false_and]
    rfl
theorem dig_of (i:Nat) (h:i < 10):digC (UInt8.ofNat (48+i))=true∧(UInt8.ofNat (48+i)).toNat=48+i:=by
 have e:(UInt8.ofNat (48+i)).toNat=48+i:=by
  rw [UInt8.toNat_ofNat'];omega
 exact ⟨by unfold digC;rw [e,decide_eq_true (by omega),decide_eq_true (by omega)];rfl,e⟩
def canC (d:List UInt8):Bool:=d.all digC && (!d.isEmpty && (!decide (d.head? =some 48) || decide (d.length=1)))
theorem dec_can:∀ n:Nat,canC (Lib.decDigits n)=true∧valD (Lib.decDigits n) 0=n∧(0 < n→(Lib.decDigits n).head? ≠some 48):=by
 intro n
 induction n using Nat.strongRecOn with
 | ind n ih=>
   rw [Lib.decDigits]
   by_cases h:n < 10
   ·rw [dif_pos h]
    obtain ⟨d1,d2⟩:=dig_of n h
    refine ⟨?_,?_,fun h0 he=>?_⟩
    ·unfold canC
     simp only [List.all_cons,List.all_nil,d1,List.length_singleton,decide_true,Bool.or_true,Bool.and_true];rfl
    ·simp only [valD,List.foldl_cons,List.foldl_nil,d2];omega
    ·have:=congrArg UInt8.toNat (Option.some.inj he)
     rw [d2] at this
     have:48+n=48:=this
     omega
   ·rw [dif_neg h]
    obtain ⟨i1,i2,i3⟩:=ih (n / 10) (by omega)
    obtain ⟨d1,d2⟩:=dig_of (n % 10) (by omega)
    have hne:Lib.decDigits (n / 10)≠[]:=fun e=>by rw [e] at i1;cases i1
    have hh:(Lib.decDigits (n / 10) ++ [UInt8.ofNat (48+n % 10)]).head? =(Lib.decDigits (n / 10)).head? :=by
     cases hq:Lib.decDigits (n / 10) with
     | nil=>exact absurd hq hne
     | cons a t=>rfl
    have h3:=i3 (by omega)
    have ha:(Lib.decDigits (n / 10)).all digC=true:=by
     unfold canC at i1;rw [Bool.and_eq_true] at i1;exact i1.1
    refine ⟨?_,?_,fun _=>by rw [hh];exact h3⟩
    ·unfold canC
     rw [List.all_append,ha,hh,decide_eq_false h3]
     simp only [List.all_cons,List.all_nil,d1,Bool.true_and,Bool.not_false,Bool.true_or,Bool.and_true]
     cases hq:Lib.decDigits (n / 10) with
     | nil=>exact absurd hq hne
     | cons a t=>rfl
    ·rw [valD_snoc,i2,d2];omega
theorem can_dec:∀ (k:Nat) (d:List UInt8),d.length=k→canC d=true→Lib.decDigits (valD d 0)=d∧(d.head? ≠some 48→0 < valD d 0):=by
 intro k
 induction k with
 | zero=>
   intro d hd hc
   rw [List.length_eq_zero_iff.1 hd] at hc;cases hc
 | succ k ih=>
   intro d hd hc
   have hne:d≠[]:=fun e=>by rw [e] at hd;cases hd
   obtain ⟨e,c,rfl⟩:∃ e c,d=e ++ [c]:=⟨d.dropLast,d.getLast hne,(List.dropLast_concat_getLast hne).symm⟩
   rw [List.length_append,List.length_singleton] at hd
   unfold canC at hc
   rw [Bool.and_eq_true,Bool.and_eq_true,List.all_append,Bool.and_eq_true] at hc
   obtain ⟨⟨c1,c2⟩,c3,c4⟩:=hc
   have hdc:48≤c.toNat∧c.toNat≤57:=by
     simp only [List.all_cons,List.all_nil,Bool.and_true] at c2
     unfold digC at c2
     rw [Bool.and_eq_true,decide_eq_true_eq,decide_eq_true_eq] at c2
     exact c2
   have hof:UInt8.ofNat (48+(c.toNat - 48))=c:=by
     rw [show 48+(c.toNat - 48)=c.toNat by omega];exact UInt8.ofNat_toNat
   rw [valD_snoc]
   cases e with
   | nil=>
     have hv:valD [] 0=0:=rfl
     rw [hv,Nat.zero_mul,Nat.zero_add,Lib.decDigits_one (by omega),hof]
     refine ⟨rfl,fun h=>?_⟩
     have:c≠48:=fun e=>h (by rw [e];rfl)
     have:c.toNat≠48:=fun e=>this (UInt8.toNat_inj.1 e)
     omega
   | cons a t=>
     have hh:((a :: t) ++ [c]).head? =(a :: t).head? :=rfl
     have h48:(a :: t).head? ≠some 48:=fun h=>by
      rw [hh,decide_eq_true h,decide_eq_false (by simp)] at c4;cases c4
     have hc2:canC (a :: t)=true:=by
      unfold canC
      rw [c1,decide_eq_false h48];rfl
     obtain ⟨i1,i2⟩:=ih (a :: t) (by omega) hc2
     have hp:=i2 h48
     rw [Lib.decDigits,dif_neg (by omega),show (valD (a :: t) 0 * 10+(c.toNat - 48)) / 10=valD (a :: t) 0 by omega,show (valD (a :: t) 0 * 10+(c.toNat - 48)) % 10=c.toNat - 48 by omega,i1,hof]
     exact ⟨rfl,fun _=>by omega⟩
def numS (most:Nat) (l:List UInt8) (sg:Bool):Option Int:=
 if l.head? =some 45 then (if sg=true∧canC l.tail=true∧l.tail.length≤most∧l.tail.head? ≠some 48 then some (-((valD l.tail 0:Nat):Int)) else none)
 else (if canC l=true∧l.length≤most then some ((valD l 0:Nat):Int) else none)
theorem canC_dig {c:UInt8} {t:List UInt8} (h:canC (c :: t)=true):48≤c.toNat∧c.toNat≤57:=by
 unfold canC at h
 rw [Bool.and_eq_true,List.all_cons,Bool.and_eq_true] at h
 have h1:=h.1.1
 unfold digC at h1
 rw [Bool.and_eq_true,decide_eq_true_eq,decide_eq_true_eq] at h1
 exact h1
theorem canC_ne {d:List UInt8} (h:canC d=true):d≠[]:=fun e=>by rw [e] at h;cases h
theorem canC_head {d:List UInt8} (h:canC d=true):d.head? ≠some 45:=by
 cases d with
 | nil=>exact absurd rfl (canC_ne h)
 | cons c t=>
   intro e
   have h1:=canC_dig h
   rw [Option.some.inj e] at h1
   exact absurd h1.1 (by decide)
theorem canC_all {d:List UInt8} (h:canC d=true):d.all digC=true:=by
 unfold canC at h;rw [Bool.and_eq_true] at h;exact h.1
theorem decNat_can {d:List UInt8} (h:canC d=true):Lib.decNat d=some (valD d 0):=by
 unfold Lib.decNat
 cases d with
 | nil=>exact absurd rfl (canC_ne h)
 | cons c t=>rw [decFrom_eq,canC_all h];rfl
theorem atoi_dig {d:List UInt8} (h:canC d=true):Lib.atoi d=some ((valD d 0:Nat):Int):=by
 cases d with
 | nil=>exact absurd rfl (canC_ne h)
 | cons c t=>
   have h1:=canC_dig h
   have a:(c == 45)=false:=by rw [beq_eq_false_iff_ne];intro e;rw [e] at h1;exact absurd h1.1 (by decide)
   have b:(c == 43)=false:=by rw [beq_eq_false_iff_ne];intro e;rw [e] at h1;exact absurd h1.1 (by decide)
   unfold Lib.atoi
   simp only [a,b,Bool.false_eq_true,if_false]
   rw [decNat_can h];rfl
theorem numW_eq (l:List UInt8):numW l=numS 6 l false:=by
 cases h:numS 6 l false with
 | some v=>
   unfold numS at h
   split at h
   · rw [if_neg fun k=>Bool.false_ne_true k.1] at h
     cases h
   · split at h
     ·rename_i hm hc
      have hv:=Option.some.inj h
      obtain ⟨k1,k2⟩:=can_dec _ _ rfl hc.1
      have hat:Lib.atoiAll l= .ok v:=by rw [Lib.atoiAll_short _ (by omega),atoi_dig hc.1,hv];rfl
      have hit:Lib.itoa v=l:=by rw [←hv,Lib.itoa_nonneg,k1]
      unfold numW
      rw [hat]
      exact if_pos ⟨hc.2,hit,by omega⟩
     ·cases h
 | none=>
   unfold numW
   cases ha:Lib.atoiAll l with
   | ok v=>
     refine if_neg fun ⟨h1,h2,h3⟩=>?_
     obtain ⟨n,rfl⟩:∃ n:Nat,v=n:=⟨v.toNat,by omega⟩
     rw [Lib.itoa_nonneg] at h2
     obtain ⟨d1,d2,d3⟩:=dec_can n
     rw [h2] at d1
     unfold numS at h
     rw [if_neg (canC_head d1),if_pos ⟨d1,h1⟩] at h
     cases h
   | _=>rfl
theorem wu8_id {n:Int} (h:0≤n∧n≤255):wu8 n=n:=by
 show IntKind.wrap .u8 n=n
 rw [show IntKind.wrap .u8 n=n % 256 from rfl]
 omega
theorem wr_ok {n:Int} (h: -9223372036854775808≤n∧n≤9223372036854775807):wr n=n:=by
 show IntKind.i64.wrap n=n
 rw [IntKind.wrap_i64];omega
theorem num_l3 {s:List UInt8} (hs:s.length≤13):∀ (m k z:Nat),k+m=s.length→z < 10 ^ k→Qar s m (z:Int) k=some (cond ((s.drop k).all digC) (Sum.inr ((valD (s.drop k) z:Nat):Int)) (Sum.inl (0,false)))
 | 0,k,z,hk,hz=>by
   rw [List.drop_eq_nil_of_le (by omega)];rfl
 | m+1,k,z,hk,hz=>by
   have hlt:k < s.length:=by omega
   have hy:=List.getElem?_eq_getElem hlt
   rw [Qar,List.drop_eq_getElem_cons hlt]
   rw [ckY (decide_eq_true (by omega)),hy]
   simp only [Option.bind_some,List.all_cons]
   by_cases h1:(s[k].toNat:Int) < 48
   ·have e:digC s[k]=false:=by
     unfold digC;rw [decide_eq_false (by omega)];rfl
    rw [decide_eq_true h1,e];rfl
   ·rw [decide_eq_false h1]
    simp only [cond_false]
    rw [ckY (decide_eq_true (by omega))]
    by_cases h2:(57:Int) < (s[k].toNat:Int)
    ·have e:digC s[k]=false:=by
      unfold digC;rw [decide_eq_false (p:=s[k].toNat≤57) (by omega),Bool.and_false]
     rw [decide_eq_true h2,e];rfl
    ·have e:digC s[k]=true:=by
      unfold digC;rw [decide_eq_true (by omega),decide_eq_true (by omega)];rfl
     have hp:10 ^ k≤10 ^ 12:=Nat.pow_le_pow_right (by omega) (by omega)
     have hv:(wr ((wr ((z:Int) * 10))+(wr (wu8 ((s[k].toNat:Int) - 48)))))=((z * 10+(s[k].toNat - 48):Nat):Int):=by
      rw [wu8_id (by omega),wr_ok (n:=(z:Int) * 10) (by omega),wr_ok (n:=(s[k].toNat:Int) - 48) (by omega),wr_ok (by omega)]
      omega
     rw [decide_eq_false h2,e]
     simp only [cond_false,Bool.true_and]
     rw [ckY (decide_eq_true (by omega)),hv]
     exact num_l3 hs m (k+1) (z * 10+(s[k].toNat - 48)) (by omega) (by rw [Nat.pow_succ];omega)
theorem num_l4 {s:List UInt8} (hs:s.length≤13):∀ (m k z:Nat),k+m=s.length→z < 10 ^ k→Qas s m (z:Int) k=some (cond ((s.drop k).all digC) (Sum.inr ((valD (s.drop k) z:Nat):Int)) (Sum.inl (0,false)))
 | 0,k,z,hk,hz=>by
   rw [List.drop_eq_nil_of_le (by omega)];rfl
 | m+1,k,z,hk,hz=>by
   have hlt:k < s.length:=by omega
   have hy:=List.getElem?_eq_getElem hlt
   rw [Qas,List.drop_eq_getElem_cons hlt]
   rw [ckY (decide_eq_true (by omega)),hy]
   simp only [Option.bind_some,List.all_cons]
   by_cases h1:(s[k].toNat:Int) < 48
   ·have e:digC s[k]=false:=by
     unfold digC;rw [decide_eq_false (by omega)];rfl
    rw [decide_eq_true h1,e];rfl
   ·rw [decide_eq_false h1]
    simp only [cond_false]
    rw [ckY (decide_eq_true (by omega))]
    by_cases h2:(57:Int) < (s[k].toNat:Int)
    ·have e:digC s[k]=false:=by
      unfold digC;rw [decide_eq_false (p:=s[k].toNat≤57) (by omega),Bool.and_false]
     rw [decide_eq_true h2,e];rfl
    ·have e:digC s[k]=true:=by
      unfold digC;rw [decide_eq_true (by omega),decide_eq_true (by omega)];rfl
     have hp:10 ^ k≤10 ^ 12:=Nat.pow_le_pow_right (by omega) (by omega)
     have hv:(wr ((wr ((z:Int) * 10))+(wr (wu8 ((s[k].toNat:Int) - 48)))))=((z * 10+(s[k].toNat - 48):Nat):Int):=by
      rw [wu8_id (by omega),wr_ok (n:=(z:Int) * 10) (by omega),wr_ok (n:=(s[k].toNat:Int) - 48) (by omega),wr_ok (by omega)]
      omega
     rw [decide_eq_false h2,e]
     simp only [cond_false,Bool.true_and]
     rw [ckY (decide_eq_true (by omega)),hv]
     exact num_l4 hs m (k+1) (z * 10+(s[k].toNat - 48)) (by omega) (by rw [Nat.pow_succ];omega)
theorem num_l5 {s:List UInt8} (hs:s.length≤13):∀ (m k z:Nat),k+m=s.length→z < 10 ^ k→Qap s m (z:Int) k=some (cond ((s.drop k).all digC) (Sum.inr ((valD (s.drop k) z:Nat):Int)) (Sum.inl (0,false)))
 | 0,k,z,hk,hz=>by
   rw [List.drop_eq_nil_of_le (by omega)];rfl
 | m+1,k,z,hk,hz=>by
   have hlt:k < s.length:=by omega
   have hy:=List.getElem?_eq_getElem hlt
   rw [Qap,List.drop_eq_getElem_cons hlt]
   rw [ckY (decide_eq_true (by omega)),hy]
   simp only [Option.bind_some,List.all_cons]
   by_cases h1:(s[k].toNat:Int) < 48
   ·have e:digC s[k]=false:=by
     unfold digC;rw [decide_eq_false (by omega)];rfl
    rw [decide_eq_true h1,e];rfl
   ·rw [decide_eq_false h1]
    simp only [cond_false]
    rw [ckY (decide_eq_true (by omega))]
    by_cases h2:(57:Int) < (s[k].toNat:Int)
    ·have e:digC s[k]=false:=by
      unfold digC;rw [decide_eq_false (p:=s[k].toNat≤57) (by omega),Bool.and_false]
     rw [decide_eq_true h2,e];rfl
    ·have e:digC s[k]=true:=by
      unfold digC;rw [decide_eq_true (by omega),decide_eq_true (by omega)];rfl
     have hp:10 ^ k≤10 ^ 12:=Nat.pow_le_pow_right (by omega) (by omega)
     have hv:(wr ((wr ((z:Int) * 10))+(wr (wu8 ((s[k].toNat:Int) - 48)))))=((z * 10+(s[k].toNat - 48):Nat):Int):=by
      rw [wu8_id (by omega),wr_ok (n:=(z:Int) * 10) (by omega),wr_ok (n:=(s[k].toNat:Int) - 48) (by omega),wr_ok (by omega)]
      omega
     rw [decide_eq_false h2,e]
     simp only [cond_false,Bool.true_and]
     rw [ckY (decide_eq_true (by omega)),hv]
     exact num_l5 hs m (k+1) (z * 10+(s[k].toNat - 48)) (by omega) (by rw [Nat.pow_succ];omega)
def numR (o:Option Int):Int × Bool:=match o with
 | some v=>(v,true)
 | none=>(0,false)
theorem valD_lt:∀ (l:List UInt8) (a k:Nat),l.all digC=true→a < 10 ^ k→valD l a < 10 ^ (k+l.length)
 | [],a,k,_,h=>h
 | c :: l,a,k,hd,h=>by
   rw [List.all_cons,Bool.and_eq_true] at hd
   have hc:=hd.1
   unfold digC at hc
   rw [Bool.and_eq_true,decide_eq_true_eq,decide_eq_true_eq] at hc
   have:=valD_lt l (a * 10+(c.toNat - 48)) (k+1) hd.2 (by rw [Nat.pow_succ];omega)
   rw [List.length_cons,show k+(l.length+1)=k+1+l.length by omega]
   exact this
theorem rNumber_eq {l:List UInt8} (hl:l.length≤1000000000000) (most:Nat) (hm:most≤13) (sg:Bool):Qcs l (most:Int) sg=some (numR (numS most l sg)):=by
 unfold Qcs
 rw [ckY (decide_eq_true hl)]
 cases l with
 | nil=>rfl
 | cons c t=>
   rw [decide_eq_true (p:=(0:Int) < ((c :: t).length:Int)) (by simp only [List.length_cons];omega)]
   simp only [cond_true,List.getElem?_cons_zero,Option.bind_some]
   by_cases h45:c=45
   ·subst h45
    have e45:(((45:UInt8).toNat:Int)=45):=rfl
    rw [decide_eq_true e45]
    simp only [cond_true]
    have hc:cutL ((45:UInt8) :: t) 1 (((45:UInt8) :: t).length:Int)=t:=by simp [cutL]
    rw [ckY (by simp;omega),hc]
    simp only [Option.bind_some,cond_true]
    have hS:∀ x,numS most (45 :: t) x=if x=true∧canC t=true∧t.length≤most∧t.head? ≠some 48 then some (-((valD t 0:Nat):Int)) else none:=fun x=>if_pos rfl
    rw [hS]
    cases sg with
    | false=>rw [if_neg (fun h=>by cases h.1)];rfl
    | true=>
      simp only [Bool.not_true,cond_false]
      cases t with
      | nil=>rw [if_neg (fun h=>canC_ne h.2.1 rfl)];rfl
      | cons y r=>
        rw [decide_eq_false (p:=((y :: r).length:Int)=0) (by simp only [List.length_cons];omega)]
        simp only [cond_false]
        by_cases hlen:(most:Int) < ((y :: r).length:Int)
        · rw [decide_eq_true hlen,if_neg (fun h=>by have:=h.2.2.1;omega)];rfl
        · rw [decide_eq_false hlen,ckY (decide_eq_true (by omega))]
          simp only [cond_false,List.getElem?_cons_zero,Option.bind_some]
          by_cases h48:y=48
          ·subst h48
           have e48:(((48:UInt8).toNat:Int)=48):=rfl
           rw [decide_eq_true e48,if_neg (fun h=>h.2.2.2 rfl)]
           simp only [cond_true]
           cases decide ((1:Int) < (((48:UInt8) :: r).length:Int)) <;> rfl
          ·have e48: ¬ ((y.toNat:Int)=48):=fun e=>h48 (UInt8.toNat_inj.1 (by omega:y.toNat=48))
           have hh:(y :: r).head? ≠some 48:=fun e=>h48 (Option.some.inj e)
           have hq:=num_l3 (s:=y :: r) (by omega) (y :: r).length 0 0 (by omega) (by decide)
           have hq:Qar (y :: r) (y :: r).length 0 0=_:=hq
           rw [decide_eq_false e48,show (((y :: r).length:Int) - 0).toNat=(y :: r).length by omega]
           simp only [cond_false]
           rw [hq,List.drop_zero]
           cases ha:(y :: r).all digC with
           | false=>
             rw [if_neg (fun h=>by rw [canC_all h.2.1] at ha;cases ha)];rfl
           | true=>
             have hcan:canC (y :: r)=true:=by
              unfold canC;rw [ha,decide_eq_false hh];rfl
             have hlt:=valD_lt _ 0 0 ha (by decide)
             have hp:10 ^ (0+(y :: r).length)≤10 ^ 13:=Nat.pow_le_pow_right (by omega) (by omega)
             rw [if_pos (by exact ⟨trivial,hcan,by omega,hh⟩)]
             simp only [cond_true,Option.bind_some]
             rw [wr_ok (by omega),Int.zero_sub];rfl
   ·have e45: ¬ ((c.toNat:Int)=45):=fun e=>h45 (UInt8.toNat_inj.1 (by omega:c.toNat=45))
    rw [decide_eq_false e45]
    simp only [cond_false,Option.bind_some]
    have hS:numS most (c :: t) sg=if canC (c :: t)=true∧(c :: t).length≤most then some ((valD (c :: t) 0:Nat):Int) else none:=if_neg (fun h=>h45 (Option.some.inj h))
    rw [hS,decide_eq_false (p:=((c :: t).length:Int)=0) (by simp only [List.length_cons];omega)]
    simp only [cond_false]
    by_cases hlen:(most:Int) < ((c :: t).length:Int)
    · rw [decide_eq_true hlen,if_neg (fun h=>by have:=h.2;omega)];rfl
    · rw [decide_eq_false hlen,ckY (decide_eq_true (by omega))]
      simp only [cond_false,List.getElem?_cons_zero,Option.bind_some]
      have fin:∀ (hh:(c :: t).head? ≠some 48∨(c :: t).length=1),(((some (cond ((c :: t).all digC) (Sum.inr ((valD (c :: t) 0:Nat):Int)) (Sum.inl ((0:Int),false)))).bind fun o=>match o with | (Sum.inl q)=>(some q) | (Sum.inr o4_1_1)=>(some (o4_1_1,true))):Option (Int × Bool))=some (numR (if canC (c :: t)=true∧(c :: t).length≤most then some ((valD (c :: t) 0:Nat):Int) else none)):=fun hh=>by
        cases ha:(c :: t).all digC with
        | false=>rw [if_neg (fun h=>by rw [canC_all h.1] at ha;cases ha)];rfl
        | true=>
          have hcan:canC (c :: t)=true:=by
           unfold canC
           rw [ha]
           rcases hh with hh | hh
           · rw [decide_eq_false hh];rfl
           · rw [decide_eq_true hh,Bool.or_true];rfl
          rw [if_pos ⟨hcan,by omega⟩];rfl
      have e4:=num_l4 (s:=c :: t) (by omega) (c :: t).length 0 0 (by omega) (by decide)
      have e5:=num_l5 (s:=c :: t) (by omega) (c :: t).length 0 0 (by omega) (by decide)
      have e4:Qas (c :: t) (c :: t).length 0 0=_:=e4
      have e5:Qap (c :: t) (c :: t).length 0 0=_:=e5
      rw [List.drop_zero] at e4 e5
      rw [show (((c :: t).length:Int) - 0).toNat=(c :: t).length by omega,e4,e5]
      by_cases h48:c=48
      · subst h48
        have e48:(((48:UInt8).toNat:Int)=48):=rfl
        rw [decide_eq_true e48]
        simp only [cond_true]
        by_cases h1:(1:Int) < (((48:UInt8) :: t).length:Int)
        · rw [decide_eq_true h1,if_neg]
          ·rfl
          ·intro h
           have:=h.1
           unfold canC at this
           rw [decide_eq_true (show ((48:UInt8) :: t).head? =some 48 from rfl),decide_eq_false (p:=((48:UInt8) :: t).length=1) (by omega),Bool.and_eq_true,Bool.and_eq_true] at this
           cases this.2.2
        · rw [decide_eq_false h1]
          exact fin (.inr (by simp only [List.length_cons] at h1 ⊢;omega))
      · have e48: ¬ ((c.toNat:Int)=48):=fun e=>h48 (UInt8.toNat_inj.1 (by omega:c.toNat=48))
        rw [decide_eq_false e48]
        exact fin (.inl fun e=>h48 (Option.some.inj e))
end Go.Proofs.YtdlmdaononclgaaGreatDoor
namespace Go.Ev
open Go
set_option linter.unusedVariables false
set_option linter.unusedSimpArgs false
theorem calls_of_fw {P:Program} {nat:Nats} {f:Nat} {us:List Value} {Post:G→ML→V→Prop} (w:World) (hv:Fw P nat (.f f [] []) (aVs w.heap.size us) (gW w) [] Post) (hm:P.follows .mixedOrders=true) (hnat:NatOK P w nat)
  (hf:∃ fn,P.funcs[f]? =some fn∧fn.body≠none∧numO fn=false):Calls P f ⟨us⟩ w fun e w'=>∃ u env' r h' g' ml',e= .returned u∧VR env' r u∧HR w env' h' w'∧(∀ b x,g' b=some x→h'.get b=some x)∧Post g' ml' r:=by
 obtain ⟨r,h',g',ml',⟨n,hx⟩,hs,_,hp⟩:=hv (aH w) (St.start w)
 obtain ⟨hc,hg⟩:=ev_ok (P:=P) (w0:=w) (drawOK hm) hnat n
 have hi:=hg _ _ _ _ _ hx (aEnv w) w (.func (.func f) #[] #[]) us (HR.start w) (by simp only [VR,VRs];exact ⟨[],[],rfl,rfl,rfl⟩) (aVs_ok w us)
 have e:(do let d←Deferred.ofValue (.func (.func f) #[] #[]) ⟨us⟩;invoke d.target d.args:Sem Next)=callFunc f ⟨us⟩:=by
  show callFunc f (#[] ++ ⟨us⟩ ++ #[])=_
  simp
 rw [e] at hi
 obtain ⟨fn,hP,hb,hno⟩:=hf
 have hrun:(callFunc f ⟨us⟩).run P w= .ok (.enter f ⟨us⟩) w:=by
  unfold numO at hno
  unfold callFunc
  have hb2:fn.body.isNone=false:=by cases h:fn.body with | none=>exact absurd h hb | some x=>rfl
  simp only [beq_eq_false_iff_ne] at hno
  simp [Sem.run_bind,Result.andThen,hP,hno,hb]
 rw [hrun] at hi
 refine Calls.mono (hi:Calls P f ⟨us⟩ w _) ?_
 rintro e w' ⟨u,rfl,env',h1,h2,h3,h4⟩
 exact ⟨u,env',r,h',g',ml',rfl,h1,h2,hs.sub,hp⟩
theorem str_at {w w':World} {env:Env} {h:H} {g:G} (hr:HR w env h w') (hs:∀ b x,g b=some x→h.get b=some x) {b o:Nat} {x:List UInt8} (hp:Pt g b o [.s x]) {e:Pl} (he:env b=some e):w'.cell? ⟨e.r,e.base+o,none⟩=some (.string ⟨⟨x⟩⟩):=by
 obtain ⟨full,tt,h1,h2,h3⟩:=hp
 obtain ⟨e',h4,C,fr,h5,h6,h7,_⟩:=hr.get _ _ (hs _ _ h1)
 rw [he] at h4
 cases h4
 simp only [List.length_singleton] at h2 h3
 have hx:full[o]? =some (.s x):=by
  have:=congrArg (fun l=>l[0]?) h3
  simp only [List.getElem?_cons_zero] at this
  rw [List.getElem?_take,if_pos (by omega),List.getElem?_drop] at this
  exact this
 obtain ⟨y,h8,h9⟩:=h7.get o _ hx
 simp only [VR] at h9
 subst h9
 rw [List.getElem?_take] at h8
 split at h8
 ·rw [List.getElem?_drop] at h8
  unfold World.cell?
  rw [h5]
  simpa using h8
 ·cases h8
end Go.Ev
namespace Go.Proofs.YtdlmdaononclgaaGreatDoor
open Go Go.RowKit Go.Ev
set_option linter.unusedVariables false
set_option linter.unusedSimpArgs false
def mkB (ss:List (List UInt8)):List ByteArray:=ss.map fun l=>⟨⟨l⟩⟩
theorem Qak (ss:List (List UInt8)):(mkB ss).length=ss.length:=List.length_map _
theorem by8_mk (ss:List (List UInt8)):by8 (mkB ss)=ss:=by
 unfold by8 mkB
 rw [List.map_map]
 exact List.map_id ss
def SsR (ss:List (List UInt8)) (w:World) (e:Ending) (w':World):Prop:=∃ A c,e= .returned (.slice A ss.length c)∧ss.length≤c∧RD w' w'.heap.size A (strs (mkB ss))∧Below w.heap.size w w'
theorem ss_of {w w':World} {env:Env} {h:H} {g:G} (hr:HR w env h w') (hs:∀ b x,g b=some x→h.get b=some x) {q:V} {u:Value} {ss:List (List UInt8)} (hu:VR env q u) (h:RS StrR 1 g q ss):
  ∃ A c,u= .slice A ss.length c∧ss.length≤c∧RD w' w'.heap.size A (strs (mkB ss)):=by
 obtain ⟨h0,⟨rfl,rfl⟩ | ⟨hq,rfl⟩ | ⟨b,o,h1,h2⟩⟩:=h
 ·simp only [VR] at hu
  exact ⟨none,0,hu,Nat.le_refl _,.inl rfl⟩
 ·rcases hq with rfl | rfl
  · simp only [VR] at hu
    obtain ⟨a,c,rfl⟩:=hu
    exact ⟨some a,c,rfl,Nat.zero_le _,.inl rfl⟩
  · simp only [VR] at hu
    obtain ⟨a,rfl⟩:=hu
    exact ⟨some a,0,rfl,Nat.zero_le _,.inl rfl⟩
 ·have key:∀ e:Pl,env b=some e→RD w' w'.heap.size (some ⟨e.r,e.base+o,none⟩) (strs (mkB ss)):=fun e he=>by
    refine .inr ⟨e.r,e.base+o,rfl,hr.lt _ _ he,fun j v hv=>?_⟩
    unfold strs mkB at hv
    rw [List.getElem?_map,List.getElem?_map] at hv
    cases hj:ss[j]? with
    | none=>rw [hj] at hv;cases hv
    | some x=>
      rw [hj] at hv
      cases Option.some.inj hv
      obtain ⟨cs,_,hp,rfl⟩:=h2 j x hj
      have:=str_at hr hs hp he
      rw [Nat.mul_one, ←Nat.add_assoc] at this
      exact this
  cases h1 with
  | sl hc=>
    simp only [VR] at hu
    obtain ⟨e,he,rfl⟩:=hu
    exact ⟨_,_,rfl,hc,key e he⟩
  | su=>
    simp only [VR] at hu
    obtain ⟨e,c,he,_,hc,rfl⟩:=hu
    exact ⟨_,c,rfl,hc,key e he⟩
set_option maxRecDepth 20000 in
theorem refLines_is (s:ByteArray) (hs:s.size≤999998) (w:World):Calls Tryz.prog 15 #[.string s] w (SsR (Qaj s.data.toList) w):=by
 refine (calls_of_fw (P:=Tryz.prog) (nat:=natS) (f:=15) (us:=[.string s]) w (by
  have:=F_r01_Lines_ok s.data.toList (gW w) _ (rLines_eq (by rw [Array.length_toList];exact hs))
  simpa only [aVs,aV] using this) (by kernel_rfl) (natS_ok w) ⟨_,Tryz.func15,(by
  intro h
  have h2:Tryz.f15.body.isNone=false:=by kernel_rfl
  rw [h] at h2
  cases h2),by kernel_rfl⟩).mono ?_
 rintro e w' ⟨u,env',r,h',g',ml',rfl,hu,hr,hsub,_,v,rfl,hp⟩
 obtain ⟨A,c,k2,k3,k4⟩:=ss_of hr hsub hu hp
 exact ⟨A,c,by rw [k2],k3,k4,hr.bel⟩
set_option maxRecDepth 20000 in
theorem refWords_is (s:ByteArray) (hs:s.size≤999998) (w:World):Calls Tryz.prog 16 #[.string s] w (SsR (Qan s.data.toList) w):=by
 refine (calls_of_fw (P:=Tryz.prog) (nat:=natS) (f:=16) (us:=[.string s]) w (by
  have:=F_r01_Words_ok s.data.toList (gW w) _ (rWords_eq (by rw [Array.length_toList];exact hs))
  simpa only [aVs,aV] using this) (by kernel_rfl) (natS_ok w) ⟨_,Tryz.func16,(by
  intro h
  have h2:Tryz.f16.body.isNone=false:=by kernel_rfl
  rw [h] at h2
  cases h2),by kernel_rfl⟩).mono ?_
 rintro e w' ⟨u,env',r,h',g',ml',rfl,hu,hr,hsub,_,v,rfl,hp⟩
 obtain ⟨A,c,k2,k3,k4⟩:=ss_of hr hsub hu hp
 exact ⟨A,c,by rw [k2],k3,k4,hr.bel⟩
set_option maxRecDepth 20000 in
theorem refNumber_is (s:ByteArray) (hs:s.size≤999998) (w:World):Calls Tryz.prog 45 #[.string s,.int .i64 6,.bool false] w fun e w'=>e= .returned (.tuple #[.int .i64 (numR (numW s.data.toList)).1,.bool (numR (numW s.data.toList)).2])∧Below w.heap.size w w':=by
 rw [numW_eq]
 refine (calls_of_fv (P:=Tryz.prog) (nat:=natS) (f:=45) (us:=[.string s,.int .i64 6,.bool false]) w (v:=.tup [.i .i64 (numR (numS 6 s.data.toList false)).1,.b (numR (numS 6 s.data.toList false)).2]) (by
  have:=F_r01_Number_ok s.data.toList 6 false (gW w) _ (rNumber_eq (by rw [Array.length_toList];exact Nat.le_trans hs (by omega)) 6 (by omega) false)
  simpa only [aVs,aV] using this) (by kernel_rfl) (natS_ok w) ⟨_,Tryz.func45,(by
  intro h
  have h2:Tryz.f45.body.isNone=false:=by kernel_rfl
  rw [h] at h2
  cases h2),by kernel_rfl⟩).mono ?_
 rintro e w' ⟨u,env',rfl,hu,hb⟩
 simp only [VR,VRs] at hu
 obtain ⟨xs,⟨a,b,rfl,⟨c,d,rfl,rfl,rfl⟩,rfl⟩,rfl⟩:=hu
 exact ⟨rfl,hb⟩
end Go.Proofs.YtdlmdaononclgaaGreatDoor
namespace Go.Proofs.YtdlmdaononclgaaGreatDoor
open Go.RowKit
set_option linter.unusedVariables false
set_option linter.unusedSimpArgs false
def NumsR (o:Option (List Int)) (w:World) (e:Ending) (w':World):Prop:=(match o with | some ns=>∃ v,e= .returned (.tuple #[v,.bool true])∧OwnI w' w.heap.size v ns | none=>e= .returned (.tuple #[.slice none 0 0,.bool false]))∧Below w.heap.size w w'
set_option maxHeartbeats 2000000 in
set_option maxRecDepth 10000 in
theorem refnumbers_any (ss:List ByteArray) {n:Nat} (hn:ss.length=n) (hn1:n≤100000) (hsz:∀ j,j < n→(sx ss j).size≤100000) (A:Option Addr) (c:Nat) (hc:n≤c) (w:World) (h:RD w w.heap.size A (strs ss)):
  Calls Tryz.prog 17 #[.slice A n c] w (NumsR (allW (by8 ss)) w):=by
 have HR:=Lib.hid h
 have HS:=Lib.hid hsz
 have HN:=Lib.hid hn
 clear h hsz hn
 go_enter Tryz.func17,Tryz.ntmps17
 go_wp2
 go_loopw [4,5] (fun v x wr=>∃ (k:Nat) (ns:List Int),k≤n∧x= .int .i64 k∧OwnI wr w.heap.size v ns∧ns.length=k∧(∀ j,j < k→numW (sx ss j).data.toList=some (ix ns j))∧Below w.heap.size w wr) (fun _ x _=>n - (intOf x).toNat)
 case atStart=>exact ⟨0,[],by omega,rfl,OwnI.nil _ _,rfl,fun j hj=>by omega,Below.refl _ _⟩
 case round=>
  obtain ⟨k,ns,hk,rfl,hown,hnl,hns,hB⟩:=hrel
  have HB:=Lib.hid hB
  have HO:=Lib.hid hown
  have HX:=Lib.hid hns
  have HL:=Lib.hid hnl
  clear hB hown hns hnl
  by_cases hk':k < n
  ·obtain ⟨b,off,rfl,hb,hcell⟩:=HR.out.strs (by rw [HN.out];omega)
   have y0:=cell_later HB.out (hcell k (by rw [HN.out];omega))
   have hz:=HS.out k hk'
   have NA:=refNumber_is (sx ss k) (by omega) wr
   obtain ⟨s1,hs1⟩:∃ s,sx ss k=s:=⟨_,rfl⟩
   have HS1:=Lib.hid hs1
   rw [hs1] at NA y0
   clear hs1 hz hcell
   cases hN:numW s1.data.toList with
   | none=>
     rw [hN] at NA
     have NA:Calls Tryz.prog 45 #[.string s1,.int .i64 6,.bool false] wr fun e w'=>e= .returned (.tuple #[.int .i64 0,.bool false])∧Below wr.heap.size wr w':=NA
     have HNN:=Lib.hid hN
     clear hN
     go_wp2_with (go_at_call 45;refine NA.mono ?_;rintro e W1 ⟨rfl,hb1⟩)
     go_ret2
     refine ⟨?_,Qa hb1 HB.out HB.out.size⟩
     rw [allW_none k (by unfold by8;rw [List.length_map,HN.out];exact hk') (by rw [by8_getD,HS1.out];exact HNN.out)]
     rfl
   | some z=>
     rw [hN] at NA
     have NA:Calls Tryz.prog 45 #[.string s1,.int .i64 6,.bool false] wr fun e w'=>e= .returned (.tuple #[.int .i64 z,.bool true])∧Below wr.heap.size wr w':=NA
     have HNN:=Lib.hid hN
     clear hN
     go_wp2_with (first | (go_at_call 45;refine NA.mono ?_;rintro e W1 ⟨rfl,hb1⟩) | (at_builtin;refine Qbz rfl _ _ rfl w.heap.size _ _ rfl (HO.out.kept (Qa (Below.alloc (Below.refl _ _) (Nat.le_refl _) _) hb1 hb1.size) (Nat.le_refl _)) _ 1 _ rfl (Qba _ _ _) (by have:=HL.out;omega) (by have:=HB.out.size;have:=hb1.size;simp;omega) ?_;intro v' w' hown' hgrow;have HOW:=Lib.hid hown';have HGR:=Lib.hid hgrow;clear hown' hgrow))
     go_roundw
     case rel=>
      refine ⟨k+1,ns ++ [z],by omega,by go_num,HOW.out,by rw [List.length_append,HL.out];rfl,fun j hj=>?_,?_⟩
      ·by_cases ej:j < k
       ·rw [HX.out j ej]
        have:ix (ns ++ [z]) j=ix ns j:=by simp [ix,List.getD,List.getElem?_append_left (show j < ns.length by rw [HL.out];omega)]
        rw [this]
       ·obtain rfl:j=k:=by omega
        rw [HS1.out,HNN.out]
        have:ix (ns ++ [z]) j=z:=by rw [←HL.out];simp [ix,List.getD]
        rw [this]
      ·exact Qcx (Qa hb1 HB.out HB.out.size) (HO.out.kept hb1 (Nat.le_refl _)) HGR.out
     case measure=>simp [intOf];omega
  ·obtain rfl:k=n:=by omega
   go_wp2
   go_ret2
   refine ⟨?_,HB.out⟩
   rw [allW_some (ns:=ns) (by rw [HL.out];unfold by8;rw [List.length_map,HN.out]) (fun j hj=>by
     unfold by8 at hj
     rw [List.length_map,HN.out] at hj
     rw [by8_getD]
     exact HX.out j hj)]
   exact ⟨_,rfl,HO.out⟩
end Go.Proofs.YtdlmdaononclgaaGreatDoor
namespace Go.Proofs.YtdlmdaononclgaaGreatDoor
open Go.RowKit
set_option linter.unusedVariables false
set_option linter.unusedSimpArgs false
theorem stepR {st:PSt} {x:List UInt8} {l:List (List UInt8)}:stepW st (x :: l)=match allW l with
   | none=>none
   | some n=>match st.wat with
     | none=>if x=Qaq∧n.length≠0 then some {st with wat:=some n} else none
     | some z=>if x=Qal∧n.length=1+z.length then some {st with sta:=st.sta ++ [ix n 0],hal:=st.hal ++ [n.drop 1]} else none:=by
 cases hw:st.wat with
 | none=>
   rw [step_wat (by simp) hw]
   show (match (if x=Qaq∧l≠[] then allW l else none) with | none=>none | some n=>some _)=_
   cases ha:allW l with
   | none=>
     by_cases hc:x=Qaq∧l≠[]
     · rw [if_pos hc]
     · rw [if_neg hc]
   | some n=>
     have hl:=allW_len ha
     by_cases hc:x=Qaq∧l≠[]
     · rw [if_pos hc]
       have:x=Qaq∧n.length≠0:=⟨hc.1,fun e=>hc.2 (List.eq_nil_of_length_eq_zero (by omega))⟩
       exact (if_pos this).symm
     · rw [if_neg hc]
       have: ¬ (x=Qaq∧n.length≠0):=fun k=>hc ⟨k.1,fun e=>k.2 (by rw [hl,e];rfl)⟩
       exact (if_neg this).symm
 | some z=>
   rw [step_sta (by simp) hw]
   show (match (if x=Qal∧l≠[] then allW l else none) with | none=>none | some l=>if l.length=1+z.length then some _ else none)=_
   cases ha:allW l with
   | none=>
     by_cases hc:x=Qal∧l≠[]
     · rw [if_pos hc]
     · rw [if_neg hc]
   | some n=>
     have hl:=allW_len ha
     by_cases hc:x=Qal∧l≠[]
     · rw [if_pos hc]
       show (if n.length=1+z.length then _ else none)=(if x=Qal∧n.length=1+z.length then _ else none)
       by_cases h2:n.length=1+z.length
       ·rw [if_pos h2,if_pos ⟨hc.1,h2⟩,hw]
       ·rw [if_neg h2,if_neg fun k=>h2 k.2]
     · rw [if_neg hc]
       have: ¬ (x=Qal∧n.length=1+z.length):=fun k=>hc ⟨k.1,fun e=>by rw [e] at hl;simp only [List.length_nil] at hl;omega⟩
       exact (if_neg this).symm
theorem Qdi {w W:World} {tm:Array Value} {r:PRes} {x0 x1 x2:Value} {a e:Int} (hr:ParQ r w (.returned (.tuple #[.agg #[x0,x1,x2],.int .i64 a,.int .i64 e])) W) (h2:W.heap[w.heap.size]? =some (.cells #[x0,x1,x2] 26 (0,0)))
  (t2:tm[2]?.getD undef= .pointer (some ⟨w.heap.size,0,none⟩)) (t3:tm[3]?.getD undef= .int .i64 a) (t4:tm[4]?.getD undef= .int .i64 e):
  bodyPost Tryz.prog Tryz.f5 (ParQ r w) Exit.ret {tmps:=tm,defers:=[]} W:=by
 obtain ⟨e0,e1,e2,_,_⟩:=Qay h2
 refine bodyPost_ret (v:=.tuple #[.agg #[x0,x1,x2],.int .i64 a,.int .i64 e]) ?_ rfl hr
 simp [results,Tryz.results5,go_sem,t2,t3,t4,e0,e1,e2]
structure Fin2 (w W:World) (x0 x1 x2:Value):Prop where
 c0:W.cell? ⟨w.heap.size,0,none⟩=some (.slice none 0 0)
 c1:W.cell? ⟨w.heap.size,1,none⟩=some (.slice none 0 0)
 c2:W.cell? ⟨w.heap.size,2,none⟩=some (.slice none 0 0)
 f0:W.frozen? ⟨w.heap.size,0,none⟩=false
 f1:W.frozen? ⟨w.heap.size,1,none⟩=false
 f2:W.frozen? ⟨w.heap.size,2,none⟩=false
 b2:(put3 w W x0 x1 x2).heap[w.heap.size]? =some (.cells #[x0,x1,x2] 26 (0,0))
 rest:∀ b,w.heap.size < b→(put3 w W x0 x1 x2).heap[b]? =W.heap[b]?
 size:W.heap.size≤(put3 w W x0 x1 x2).heap.size
 bel:Below w.heap.size w W→Below w.heap.size w (put3 w W x0 x1 x2)
theorem fin2 {w W:World} (x0 x1 x2:Value) (h2:W.heap[w.heap.size]? =some nil3):Fin2 w W x0 x1 x2:=by
 obtain ⟨d0,d1,d2,df,dq⟩:=Qay h2
 have h2':(put3 w W x0 x1 x2).heap[w.heap.size]? =some (.cells #[x0,x1,x2] 26 (0,0)):=by
  have:=Qcu (j:=2) (Qcu (j:=1) (Qcu (j:=0) h2 x0) x1) x2
  exact this
 refine ⟨d0,d1,d2,df 0,df 1,df 2,h2',fun b hb=>?_,by simp [World.setCell],fun hB=>?_⟩
 ·rw [Below.heap_setCell _ _ _ _ (show b≠w.heap.size by omega),Below.heap_setCell _ _ _ _ (show b≠w.heap.size by omega),Below.heap_setCell _ _ _ _ (show b≠w.heap.size by omega)]
 ·exact ((hB.setCell (Nat.le_refl _) _).setCell (Nat.le_refl _) _).setCell (Nat.le_refl _) _
set_option maxHeartbeats 4000000 in
set_option maxRecDepth 20000 in
theorem refParse_long (s:ByteArray) (h:4000 < s.size) (w:World):Calls Tryz.prog 5 #[.string s] w (ParQ ⟨[],[],[],0,2⟩ w):=by
 have hi:(4000:Int) < (s.size:Int):=by omega
 go_enter Tryz.func5,Tryz.ntmps5
 go_wp2
 exact Qdi (Qcq 0 2 ((Below.refl _ _).alloc (Nat.le_refl _) _)) (heap_alloc_new w _) rfl rfl rfl
structure RInvR (s:ByteArray) (w W1 wr:World) (A:Option Addr) (k:Nat) (vS vW vH:Value) (vs:List Value) (st:PSt):Prop where
 ps:PS W1.heap.size wr vS vW vH vs st
 rd:RD W1 W1.heap.size A (strs (mkB (Qaj s.data.toList)))
 bel:Below W1.heap.size W1 wr
 run:runW 0 ((Qaj s.data.toList).map Qan) st0=runW k (((Qaj s.data.toList).map Qan).drop k) st
 l1:st.sta.length≤k
 l2:st.hal.length≤k
 l3:∀ z,st.wat=some z→1≤z.length∧z.length≤5000
theorem RInvR.below {s:ByteArray} {w W1 wr W2:World} {A:Option Addr} {k:Nat} {vS vW vH:Value} {vs:List Value} {st:PSt} (h:RInvR s w W1 wr A k vS vW vH vs st) (hb:Below wr.heap.size wr W2):RInvR s w W1 W2 A k vS vW vH vs st:=
 ⟨h.ps.below hb,h.rd,h.bel.trans (hb.mono (by have:=h.ps.lt;omega)),h.run,h.l1,h.l2,h.l3⟩
structure StaR (w W1:World):Prop where
 b2:W1.heap[w.heap.size]? =some nil3
 bel:Below w.heap.size w W1
 lt:w.heap.size < W1.heap.size
theorem RInvR.bw {s:ByteArray} {w W1 wr:World} {A:Option Addr} {k:Nat} {vS vW vH:Value} {vs:List Value} {st:PSt} (h:RInvR s w W1 wr A k vS vW vH vs st) (h0:StaR w W1):Below w.heap.size w wr:=h0.bel.trans (h.bel.mono (by have:=h0.lt;omega))
theorem RInvR.b2 {s:ByteArray} {w W1 wr:World} {A:Option Addr} {k:Nat} {vS vW vH:Value} {vs:List Value} {st:PSt} (h:RInvR s w W1 wr A k vS vW vH vs st) (h0:StaR w W1):wr.heap[w.heap.size]? =some nil3:=by rw [h.bel.block _ h0.lt];exact h0.b2
theorem all_at' (s:ByteArray) {k:Nat} (h:k < (Qaj s.data.toList).length):((Qaj s.data.toList).map Qan).getD k []=Qan (sx (mkB (Qaj s.data.toList)) k).data.toList:=by
 simp [List.getD,List.getElem?_eq_getElem h,sx,mkB]
theorem RInvR.bad {s:ByteArray} {w W1 wr:World} {A:Option Addr} {k:Nat} {vS vW vH:Value} {vs:List Value} {st:PSt} (h:RInvR s w W1 wr A k vS vW vH vs st) (h4: ¬ 4000 < s.size) (hk:k < (Qaj s.data.toList).length) (hs:stepW st (Qan (sx (mkB (Qaj s.data.toList)) k).data.toList)=none):parW s.data.toList=⟨[],[],[],((k:Int)+1),5⟩:=by
 have:=h.run
 rw [runW_at (by rw [List.length_map];exact hk),all_at' s hk,hs] at this
 rw [par_of h4 this]
 rfl
theorem RInvR.good {s:ByteArray} {w W1 wr:World} {A:Option Addr} {k:Nat} {vS vW vH:Value} {vs:List Value} {st st':PSt} (h:RInvR s w W1 wr A k vS vW vH vs st) (hk:k < (Qaj s.data.toList).length) (hs:stepW st (Qan (sx (mkB (Qaj s.data.toList)) k).data.toList)=some st'):runW 0 ((Qaj s.data.toList).map Qan) st0=runW (k+1) (((Qaj s.data.toList).map Qan).drop (k+1)) st':=by
 have:=h.run
 rw [runW_at (by rw [List.length_map];exact hk),all_at' s hk,hs] at this
 exact this
end Go.Proofs.YtdlmdaononclgaaGreatDoor
namespace Go.Proofs.YtdlmdaononclgaaGreatDoor
open Go.RowKit
set_option linter.unusedVariables false
set_option linter.unusedSimpArgs false
theorem sx_mk (ss:List (List UInt8)) (k:Nat):(sx (mkB ss) k).data.toList=ss.getD k []:=by
 unfold sx mkB
 simp only [List.getD,List.getElem?_map]
 cases ss[k]? <;> rfl
theorem sx_len {ss:List (List UInt8)} {k B:Nat} (h:∀ x∈ss,x.length≤B):(sx (mkB ss) k).size≤B:=by
 have e:(sx (mkB ss) k).size=(sx (mkB ss) k).data.toList.length:=Array.length_toList.symm
 rw [e,sx_mk]
 simp only [List.getD]
 cases hk:ss[k]? with
 | none=>exact Nat.zero_le _
 | some x=>exact h x (List.mem_of_getElem? hk)
theorem linesS_cnt (s:ByteArray):(Qaj s.data.toList).length≤s.size+1:=by
 have:=lineB_le s
 rw [←lineB_eq]
 unfold by8
 rw [List.length_map]
 exact this
theorem wordsS_cnt (s:ByteArray):(Qan s.data.toList).length≤s.size+1:=by
 have:=wrdK_le s
 rw [←wrdK_eq]
 unfold by8
 rw [List.length_map]
 exact this
theorem rd_tail {W:World} {B b off c:Nat} {x:List UInt8} {tl:List (List UInt8)} (h:RD W B (some ⟨b,off,none⟩) (strs (mkB (x :: tl)))) (hc:tl.length+1≤c):RD W B (if c=1 then some ⟨b,off,none⟩ else some ⟨b,off+1,none⟩) (strs (mkB tl)):=by
 by_cases e:c=1
 ·have:tl=[]:=List.eq_nil_of_length_eq_zero (by omega)
  rw [this]
  exact .inl rfl
 ·rw [if_neg e]
  rcases h with h | ⟨b',o',e',hlt,hcell⟩
  ·cases h
  ·cases e'
   refine .inr ⟨b,off+1,rfl,hlt,fun j v hv=>?_⟩
   have:=hcell (j+1) v hv
   rw [show off+1+j=off+(j+1) by omega]
   exact this
theorem refnumbers_bad {tl:List (List UInt8)} (hA:allW tl=none) {m:Nat} (hm:tl.length=m) (hm1:m≤100000) (hz:∀ x∈tl,x.length≤100000) (A:Option Addr) (c:Nat) (hc:m≤c) (w:World) (h:RD w w.heap.size A (strs (mkB tl))):
  Calls Tryz.prog 17 #[.slice A m c] w fun e w'=>e= .returned (.tuple #[.slice none 0 0,.bool false])∧Below w.heap.size w w':=by
 have:=refnumbers_any (mkB tl) (n:=m) (by rw [Qak,hm]) hm1 (fun j _=>sx_len hz) A c hc w h
 rw [by8_mk,hA] at this
 exact this
theorem Qbd {tl:List (List UInt8)} {l:List Int} (hA:allW tl=some l) {m:Nat} (hm:tl.length=m) (hm1:m≤100000) (hz:∀ x∈tl,x.length≤100000) (A:Option Addr) (c:Nat) (hc:m≤c) (w:World) (h:RD w w.heap.size A (strs (mkB tl))) {m3:Nat} (hl:l.length=m3):
  Calls Tryz.prog 17 #[.slice A m c] w fun e w'=>∃ A3 c3,e= .returned (.tuple #[.slice A3 m3 c3,.bool true])∧m3≤c3∧(0 < m3→∃ g,A3=some ⟨g,0,none⟩)∧OwnI w' w.heap.size (.slice A3 m3 c3) l∧Below w.heap.size w w':=by
 have:=refnumbers_any (mkB tl) (n:=m) (by rw [Qak,hm]) hm1 (fun j _=>sx_len hz) A c hc w h
 rw [by8_mk,hA] at this
 refine this.mono fun e w' ⟨⟨v,h1,h2⟩,h3⟩=>?_
 obtain ⟨A3,c3,rfl,k1,_⟩:=h2.form
 rw [hl] at h1 h2 k1
 refine ⟨A3,c3,h1,k1,fun hp=>?_,h2,h3⟩
 obtain ⟨g,cap,e'⟩:=h2.formM hl hp
 cases e'
 exact ⟨g,rfl⟩
theorem own_cap {w:World} {base:Nat} {A:Option Addr} {m c:Nat} {xs:List Int} (h:OwnI w base (.slice A m c) xs):c≤9223372036854775807:=by
 obtain ⟨_,_,e',_,k2,_⟩:=h.form
 simp only [Value.slice.injEq] at e'
 obtain ⟨_,_,rfl⟩:=e'
 exact k2
set_option maxHeartbeats 8000000 in
set_option maxRecDepth 20000 in
theorem refParse_any (s:ByteArray) (h: ¬ 4000 < s.size) (w:World):Calls Tryz.prog 5 #[.string s] w (ParQ (parW s.data.toList) w):=by
 have hi: ¬ (4000:Int) < (s.size:Int):=by omega
 go_enter Tryz.func5,Tryz.ntmps5
 go_wp2_with fail
 refine (refLines_is s (by omega) _).mono ?_
 rintro e W1 ⟨A,c,rfl,hc,hr,hb1⟩
 have h0:StaR w W1:=⟨by rw [hb1.block _ (by simp)];exact heap_alloc_new w _,Qa hb1 ((Below.refl _ _).alloc (Nat.le_refl _) _) (by simp),by have:=hb1.size;simp only [World.size_alloc] at this;omega⟩
 have hin:RInvR s w W1 (W1.alloc nil3) A 0 (.slice none 0 0) (.slice none 0 0) (.slice none 0 0) [] st0:=⟨⟨heap_alloc_new W1 _,OwnI.nil _ _,OwnR.nil _ _,rfl,fun i hi=>(by cases hi),rfl⟩,hr,(Below.refl _ _).alloc (Nat.le_refl _) _,rfl,Nat.le_refl _,Nat.le_refl _,fun z hz=>(by cases hz)⟩
 have hln:=linesS_cnt s
 obtain ⟨n,hn⟩:∃ n,(Qaj s.data.toList).length=n:=⟨_,rfl⟩
 rw [hn] at hc hln ⊢
 have HN:=Lib.hid hn
 have H0:=Lib.hid h0
 have HIN:=Lib.hid hin
 clear hn h0 hin hr hb1
 go_wp2
 go_loopw [7,8] (fun f x wr=>∃ (k:Nat) (vS vW vH:Value) (vs:List Value) (st:PSt),k≤n∧x= .int .i64 k∧f= .bool st.wat.isSome∧RInvR s w W1 wr A k vS vW vH vs st) (fun _ x _=>n - (intOf x).toNat)
 case atStart=>exact ⟨0,_,_,_,_,_,by omega,rfl,rfl,HIN.out⟩
 case round=>
  obtain ⟨k,vS,vW,vH,vs,st,hk,rfl,rfl,hinv⟩:=hrel
  have HI:=Lib.hid hinv
  clear hinv HIN
  by_cases hk':k < n
  ·obtain ⟨b,off,rfl,hlt,hcell⟩:=(HI.out.rd.keep HI.out.bel (Nat.le_refl _)).strs (by rw [Qak,HN.out];omega)
   have y0:=hcell k (by rw [Qak,HN.out];omega)
   have hsz:(sx (mkB (Qaj s.data.toList)) k).size≤s.size:=sx_len fun x hx=>linesS_len hx
   clear hcell
   obtain ⟨sk,hsk⟩:∃ x,sx (mkB (Qaj s.data.toList)) k=x:=⟨_,rfl⟩
   have HSK:=Lib.hid hsk
   rw [hsk] at y0 hsz
   have W:=refWords_is sk (by omega) wr
   have hwl:=wordsS_cnt sk
   have HWZ:Hid (∀ x∈Qan sk.data.toList,x.length≤100000):=Lib.hid (fun x hx=>by have h1:=wordsS_len hx;have e:sk.data.toList.length=sk.size:=Array.length_toList;omega)
   have HBAD:Hid (stepW st (Qan sk.data.toList)=none→parW s.data.toList=⟨[],[],[],((k:Int)+1),5⟩):=Lib.hid (fun e=>HI.out.bad h (by rw [HN.out];exact hk') (by rw [HSK.out];exact e))
   have HGOOD:Hid (∀ st',stepW st (Qan sk.data.toList)=some st'→runW 0 ((Qaj s.data.toList).map Qan) st0=runW (k+1) (((Qaj s.data.toList).map Qan).drop (k+1)) st'):=Lib.hid (fun st' e=>HI.out.good (by rw [HN.out];exact hk') (by rw [HSK.out];exact e))
   obtain ⟨ws,hws⟩:∃ x,Qan sk.data.toList=x:=⟨_,rfl⟩
   rw [hws] at W hwl HWZ HBAD HGOOD
   clear hsk hws
   unfold SsR at W
   cases ws with
   | nil=>
     simp only [List.length_nil] at W
     go_wp2_with (go_at_call 16;refine W.mono ?_;rintro e W2 ⟨A2,c2,rfl,hc2,hr2,hb2⟩;have HI2:=Lib.hid (HI.out.below hb2);clear hr2 hb2)
     go_roundw
     case rel=>exact ⟨k+1,_,_,_,_,_,by omega,by go_num,rfl,{HI2.out with run:=HGOOD.out st rfl,l1:=Nat.le_succ_of_le HI2.out.l1,l2:=Nat.le_succ_of_le HI2.out.l2}⟩
     case measure=>simp [intOf];omega
   | cons x tl=>
     rw [List.length_cons] at W hwl
     obtain ⟨m,hm⟩:∃ m,tl.length=m:=⟨_,rfl⟩
     rw [hm] at W hwl
     have HM:=Lib.hid hm
     clear hm
     have hmb: ¬ ((m:Int)+1=0):=by omega
     have HTZ:Hid (∀ x∈tl,x.length≤100000):=Lib.hid (fun y hy=>HWZ.out y (List.mem_cons_of_mem _ hy))
     cases hA:allW tl with
     | none=>
       have hb:=HBAD.out (by rw [stepR,hA])
       have HAA:=Lib.hid hA
       have HBB:=Lib.hid hb
       clear hb hA
       go_wp2_with (first | (go_at_call 16;refine W.mono ?_;rintro e W2 ⟨A2,c2,rfl,hc2,hr2,hb2⟩;obtain ⟨b2,o2,rfl,_,hcw⟩:=hr2.strs (by rw [Qak,List.length_cons];omega);have z0:=hcw 0 (by rw [Qak,List.length_cons];omega);rw [Nat.add_zero] at z0;have HI2:=Lib.hid (HI.out.below hb2);have HR2:=Lib.hid (rd_tail hr2 (by rw [HM.out];exact hc2));clear hr2 hb2 hcw) | (go_at_call 17;refine (refnumbers_bad HAA.out HM.out (by omega) HTZ.out _ _ (by omega) W2 HR2.out).mono ?_;rintro e W3 ⟨rfl,hb3⟩;have HI3:=Lib.hid (HI2.out.below hb3);have HF:=fin2 (w:=w) (W:=W3) (.slice none 0 0) (.slice none 0 0) (.slice none 0 0) (HI3.out.b2 H0.out);have m0:=HF.c0;have m1:=HF.c1;have m2:=HF.c2;have n0:=HF.f0;have n1:=HF.f1;have n2:=HF.f2;have HFF:=Lib.hid HF;clear HF hb3))
       all_goals
         exact Qdi (by rw [HBB.out];exact Qcq _ 5 (HFF.out.bel (HI3.out.bw H0.out))) HFF.out.b2 rfl rfl rfl
     | some l=>
       have HAA:=Lib.hid hA
       obtain ⟨m3,hm3⟩:∃ m3,l.length=m3:=⟨_,rfl⟩
       have HM3:=Lib.hid hm3
       cases hw:st.wat with
       | none=>
         by_cases hx:x=Qaq
         ·subst hx
          have HXS:Hid (sx (mkB (Qaq :: tl)) 0=⟨⟨Qaq⟩⟩):=Lib.hid rfl
          by_cases h30:m3=0
          ·have hb:=HBAD.out (by rw [stepR,hA,hw];exact if_neg fun k=>k.2 (by rw [hm3];exact h30))
           have HBB:=Lib.hid hb
           clear hb hA hm3 hw
           subst h30
           go_wp2_with (first | (go_at_call 16;refine W.mono ?_;rintro e W2 ⟨A2,c2,rfl,hc2,hr2,hb2⟩;obtain ⟨b2,o2,rfl,_,hcw⟩:=hr2.strs (by rw [Qak,List.length_cons];omega);have z0:=hcw 0 (by rw [Qak,List.length_cons];omega);rw [Nat.add_zero] at z0;have HI2:=Lib.hid (HI.out.below hb2);have HR2:=Lib.hid (rd_tail hr2 (by rw [HM.out];exact hc2));clear hr2 hb2 hcw) | (go_at_call 17;refine (Qbd HAA.out HM.out (by omega) HTZ.out _ _ (by omega) W2 HR2.out HM3.out).mono ?_;rintro e W3 ⟨A3,c3,rfl,hc3,hg3,ho3,hb3⟩;have HI3:=Lib.hid (HI2.out.below hb3);have z3:=cell_later hb3 z0;rw [HXS.out] at z3;obtain ⟨i0,i1,i2,jf,jq⟩:=Qay HI3.out.ps.box;have HF:=fin2 (w:=w) (W:=W3) (.slice none 0 0) (.slice none 0 0) (.slice none 0 0) (HI3.out.b2 H0.out);have m0:=HF.c0;have m1:=HF.c1;have m2:=HF.c2;have n0:=HF.f0;have n1:=HF.f1;have n2:=HF.f2;have HFF:=Lib.hid HF;clear HF hb3 i0 i2 jf))
           all_goals
            exact Qdi (by rw [HBB.out];exact Qcq _ 5 (HFF.out.bel (HI3.out.bw H0.out))) HFF.out.b2 rfl rfl rfl
          ·have hg:=HGOOD.out {st with wat:=some l} (by rw [stepR,hA,hw];exact if_pos ⟨rfl,by rw [hm3];exact h30⟩)
           have HG:=Lib.hid hg
           have h30b: ¬ ((m3:Int)=0):=by omega
           have HLL:Hid (1≤m3∧m3≤5000):=Lib.hid ⟨by omega,by have:=allW_len hA;have:=HM.out;omega⟩
           clear hg hA hm3 hw
           go_wp2_with (first | (go_at_call 16;refine W.mono ?_;rintro e W2 ⟨A2,c2,rfl,hc2,hr2,hb2⟩;obtain ⟨b2,o2,rfl,_,hcw⟩:=hr2.strs (by rw [Qak,List.length_cons];omega);have z0:=hcw 0 (by rw [Qak,List.length_cons];omega);rw [Nat.add_zero] at z0;have HI2:=Lib.hid (HI.out.below hb2);have HR2:=Lib.hid (rd_tail hr2 (by rw [HM.out];exact hc2));clear hr2 hb2 hcw) | (go_at_call 17;refine (Qbd HAA.out HM.out (by omega) HTZ.out _ _ (by omega) W2 HR2.out HM3.out).mono ?_;rintro e W3 ⟨A3,c3,rfl,hc3,hg3,ho3,hb3⟩;obtain ⟨g3,rfl⟩:=hg3 (by omega);have HS3:=Lib.hid (HI2.out.ps.fresh hb3 ho3);have HI3:=Lib.hid (HI2.out.below hb3);have z3:=cell_later hb3 z0;rw [HXS.out] at z3;obtain ⟨i0,i1,i2,jf,jq⟩:=Qay HI3.out.ps.box;have j1:=jf 1;clear hb3 ho3 i0 i2 jf))
           all_goals
            go_roundw
            case rel=>
             obtain ⟨p1,p2⟩:=HI3.out.ps.put HS3.out
             exact ⟨k+1,_,_,_,_,_,by omega,by go_num,rfl,⟨p1,HI3.out.rd,HI3.out.bel.setCell (Nat.le_refl _) _,HG.out,Nat.le_succ_of_le HI3.out.l1,Nat.le_succ_of_le HI3.out.l2,fun z hz=>by cases hz;rw [HM3.out];exact HLL.out⟩⟩
            case measure=>simp [intOf];omega
         ·have hb:=HBAD.out (by rw [stepR,hA,hw];exact if_neg fun k=>hx k.1)
          have HBB:=Lib.hid hb
          obtain ⟨sw,hsw⟩:∃ s,sx (mkB (x :: tl)) 0=s:=⟨_,rfl⟩
          have hne: ¬ sw.toList=[119,97,116,101,114,115]:=fun e=>hx (by have:=sx_mk (x :: tl) 0;rw [hsw, ←ByteArray.toList_eq,e] at this;exact this.symm)
          have HXS:=Lib.hid hsw
          clear hb hA hm3 hw hx hsw
          go_wp2_with (first | (go_at_call 16;refine W.mono ?_;rintro e W2 ⟨A2,c2,rfl,hc2,hr2,hb2⟩;obtain ⟨b2,o2,rfl,_,hcw⟩:=hr2.strs (by rw [Qak,List.length_cons];omega);have z0:=hcw 0 (by rw [Qak,List.length_cons];omega);rw [Nat.add_zero] at z0;have HI2:=Lib.hid (HI.out.below hb2);have HR2:=Lib.hid (rd_tail hr2 (by rw [HM.out];exact hc2));clear hr2 hb2 hcw) | (go_at_call 17;refine (Qbd HAA.out HM.out (by omega) HTZ.out _ _ (by omega) W2 HR2.out HM3.out).mono ?_;rintro e W3 ⟨A3,c3,rfl,hc3,hg3,ho3,hb3⟩;have HI3:=Lib.hid (HI2.out.below hb3);have z3:=cell_later hb3 z0;rw [HXS.out] at z3;obtain ⟨i0,i1,i2,jf,jq⟩:=Qay HI3.out.ps.box;have HF:=fin2 (w:=w) (W:=W3) (.slice none 0 0) (.slice none 0 0) (.slice none 0 0) (HI3.out.b2 H0.out);have m0:=HF.c0;have m1:=HF.c1;have m2:=HF.c2;have n0:=HF.f0;have n1:=HF.f1;have n2:=HF.f2;have HFF:=Lib.hid HF;clear HF hb3 i0 i2 jf))
          all_goals
           exact Qdi (by rw [HBB.out];exact Qcq _ 5 (HFF.out.bel (HI3.out.bw H0.out))) HFF.out.b2 rfl rfl rfl
       | some z1=>
         have hvW:=HI.out.ps.wat
         rw [hw] at hvW
         obtain ⟨aw,nw,cw,rfl,AW,cW,eW,hcW,_,_⟩:=hvW
         simp only [Value.slice.injEq] at eW
         obtain ⟨rfl,hnw,rfl⟩:=eW
         obtain ⟨m4,hm4⟩:∃ m4,z1.length=m4:=⟨_,rfl⟩
         rw [hm4] at hnw hcW
         subst hnw
         have m4b:1≤nw∧nw≤5000:=by have:=HI.out.l3 z1 hw;omega
         obtain ⟨m4a,m4b⟩:=m4b
         by_cases hx:x=Qal
         ·subst hx
          have HXS:Hid (sx (mkB (Qal :: tl)) 0=⟨⟨Qal⟩⟩):=Lib.hid rfl
          by_cases hl:m3=1+nw
          ·have hg:=HGOOD.out {st with sta:=st.sta ++ [ix l 0],hal:=st.hal ++ [l.drop 1]} (by rw [stepR,hA,hw];exact if_pos ⟨rfl,by rw [hm3,hm4];exact hl⟩)
           have HG:=Lib.hid hg
           have HL:=Lib.hid hl
           have hml:1≤m3:=by omega
           have hne:((m3:Int) != 1+(nw:Int))=false:=by rw [hl];simp
           have HL3:Hid (∀ z,st.wat=some z→1≤z.length∧z.length≤5000):=Lib.hid HI.out.l3
           have hl1:=HI.out.l1
           have hl2:=HI.out.l2
           have HW:=Lib.hid hw
           clear hg hw hA hm3 hl
           go_wp2_with (first | (go_at_call 16;refine W.mono ?_;rintro e W2 ⟨A2,c2,rfl,hc2,hr2,hb2⟩;obtain ⟨b2,o2,rfl,_,hcw⟩:=hr2.strs (by rw [Qak,List.length_cons];omega);have z0:=hcw 0 (by rw [Qak,List.length_cons];omega);rw [Nat.add_zero] at z0;have HI2:=Lib.hid (HI.out.below hb2);have HR2:=Lib.hid (rd_tail hr2 (by rw [HM.out];exact hc2));clear hr2 hb2 hcw) | (go_at_call 17;refine (Qbd HAA.out HM.out (by omega) HTZ.out _ _ (by omega) W2 HR2.out HM3.out).mono ?_;rintro e W3 ⟨A3,c3,rfl,hc3,hg3,ho3,hb3⟩;obtain ⟨g3,rfl⟩:=hg3 (by omega);have HS3:=Lib.hid (HI2.out.ps.fresh hb3 ho3);have HI3:=Lib.hid (HI2.out.below hb3);have z3:=cell_later hb3 z0;rw [HXS.out] at z3;obtain ⟨i0,i1,i2,jf,jq⟩:=Qay HI3.out.ps.box;have j0:=jf 0;have hmx3:=own_cap ho3;have x3:W3.cell? ⟨g3,0,none⟩=some (.int .i64 (ix l 0)):=(by obtain ⟨b',o',e',_,hh⟩:=ho3.rd1.ints (by rw [HM3.out];omega);cases e';exact hh 0 (by rw [HM3.out];omega));clear hb3 ho3 i2 jf))
           all_goals
            have hlen:st.sta.length≤1000000:=by have:=HI3.out.l1;omega
            have hlen2:vs.length≤1000000:=by have:=HI3.out.l2;have:=HI3.out.ps.len;omega
            have hqs:some (W1.heap.size)≠vS.ownBlock:=fun e=>by have:=(HI3.out.ps.own.at_block e.symm).1;omega
            have hg3:some g3≠vS.ownBlock:=fun e=>by obtain ⟨_,_,e1,_,_,_,hx⟩:=HS3.out;cases e1;exact (hx _ rfl).2.2.1 e.symm
            have HQS:=Lib.hid hqs
            have HG3:=Lib.hid hg3
            clear hqs hg3
            have hb0:0 < m3:=by omega
            refine Qbs (fun w'=>w'.cell? ⟨W1.heap.size,0,none⟩=some vS∧w'.cell? ⟨g3,0,none⟩=some (.int .i64 (ix l 0))) 5 (by kernel_rfl) (by kernel_rfl) ⟨i0,x3⟩ ?_
            intro K hK
            simp only [List.take_succ_cons,List.take_zero,List.drop_succ_cons,List.drop_zero]
            refine ⟨.pointer (some ⟨W1.heap.size,0,none⟩),Or.inl ⟨by rfl,fun w' hS=>?_⟩,?_⟩;(· obtain ⟨s1,s2⟩:=hS;go_simp);try simp only [Act.put,List.setIfInBounds_toArray,List.set_cons_zero,List.set_cons_succ]
            refine ⟨vS,Or.inl ⟨by rfl,fun w' hS=>?_⟩,?_⟩;(· obtain ⟨s1,s2⟩:=hS;go_simp);try simp only [Act.put,List.setIfInBounds_toArray,List.set_cons_zero,List.set_cons_succ]
            refine ⟨.slice (some ⟨g3,0,none⟩) m3 c3,Or.inl ⟨by rfl,fun w' hS=>?_⟩,?_⟩;(· obtain ⟨s1,s2⟩:=hS;go_simp);try simp only [Act.put,List.setIfInBounds_toArray,List.set_cons_zero,List.set_cons_succ]
            refine ⟨.pointer (some ⟨g3,0,none⟩),Or.inl ⟨by rfl,fun w' hS=>?_⟩,?_⟩;(· obtain ⟨s1,s2⟩:=hS;go_simp);try simp only [Act.put,List.setIfInBounds_toArray,List.set_cons_zero,List.set_cons_succ]
            refine ⟨.int .i64 (ix l 0),Or.inl ⟨by rfl,fun w' hS=>?_⟩,?_⟩;(· obtain ⟨s1,s2⟩:=hS;go_simp);try simp only [Act.put,List.setIfInBounds_toArray,List.set_cons_zero,List.set_cons_succ]
            refine Qag (fun K1 hK1=>?_)
            go_simp
            refine hK1.out _ _ (fun _=>⟨cell_later (by repeat' (first | (with_reducible exact Below.refl _ _) | (with_reducible assumption) | (refine Qa (by assumption) ?_ ?_) | (with_reducible refine Qaa ?_ _) | (with_reducible refine Below.drew ?_) | (with_reducible refine Below.alloc ?_ ?_ _) | (with_reducible refine Below.setCell ?_ ?_ _) | go_size)) i0,cell_later (by repeat' (first | (with_reducible exact Below.refl _ _) | (with_reducible assumption) | (refine Qa (by assumption) ?_ ?_) | (with_reducible refine Qaa ?_ _) | (with_reducible refine Below.drew ?_) | (with_reducible refine Below.alloc ?_ ?_ _) | (with_reducible refine Below.setCell ?_ ?_ _) | go_size)) x3⟩) ?_
            clear hK1 K1
            refine Qag (fun K2 hK2=>?_)
            refine op_app2 rfl (.tmp 77) (.tmp 81) rfl (W1.heap.size+1) vS st.sta rfl (HI3.out.ps.own.kept (by repeat' (first | (with_reducible exact Below.refl _ _) | (with_reducible assumption) | (refine Qa (by assumption) ?_ ?_) | (with_reducible refine Qaa ?_ _) | (with_reducible refine Below.drew ?_) | (with_reducible refine Below.alloc ?_ ?_ _) | (with_reducible refine Below.setCell ?_ ?_ _) | go_size)) (Nat.le_refl _)) _ 1 _ rfl (Qba _ _ _) hlen (by simp [Qac];omega) ?_
            intro v4 W4 hown4 hg4 hb4
            obtain ⟨gs4,cs4,rfl⟩:=hown4.formM (n:=st.sta.length+1) (by simp) (by omega)
            have k1:W4.cell? ⟨W1.heap.size,0,none⟩=some vS:=hg4.cell (cell_later (by repeat' (first | (with_reducible exact Below.refl _ _) | (with_reducible assumption) | (refine Qa (by assumption) ?_ ?_) | (with_reducible refine Qaa ?_ _) | (with_reducible refine Below.drew ?_) | (with_reducible refine Below.alloc ?_ ?_ _) | (with_reducible refine Below.setCell ?_ ?_ _) | go_size)) i0) HQS.out
            have k2:W4.cell? ⟨g3,0,none⟩=some (.int .i64 (ix l 0)):=hg4.cell (cell_later (by repeat' (first | (with_reducible exact Below.refl _ _) | (with_reducible assumption) | (refine Qa (by assumption) ?_ ?_) | (with_reducible refine Qaa ?_ _) | (with_reducible refine Below.drew ?_) | (with_reducible refine Below.alloc ?_ ?_ _) | (with_reducible refine Below.setCell ?_ ?_ _) | go_size)) x3) HG3.out
            have k3:W4.frozen? ⟨W1.heap.size,0,none⟩=false:=(World.frozen?_of_block (a:=⟨W1.heap.size,0,none⟩) (hg4.block (W1.heap.size) (by simp [Qac];omega) HQS.out)).trans ((World.frozen?_of_block (a:=⟨W1.heap.size,0,none⟩) (Below.block (B:=W3.heap.size) (w:=W3) (by repeat' (first | (with_reducible exact Below.refl _ _) | (with_reducible assumption) | (refine Qa (by assumption) ?_ ?_) | (with_reducible refine Qaa ?_ _) | (with_reducible refine Below.drew ?_) | (with_reducible refine Below.alloc ?_ ?_ _) | (with_reducible refine Below.setCell ?_ ?_ _) | go_size)) (W1.heap.size) jq)).trans j0)
            obtain ⟨p4,u4⟩:=(HI3.out.ps.below (Qbb W3)).sta hg4 hown4 hb4
            have hS4:=(HS3.out.up (Up.of_below (Qbb W3))).up u4
            have hB4:Below (W1.heap.size) W1 (W4.setCell ⟨W1.heap.size,0,none⟩ (.slice (some ⟨gs4,0,none⟩) (st.sta.length+1) cs4)):=(((Qaa HI3.out.bel 1).alloc (by simp [Qac];omega) _).grown hg4 (by simp [Qac];omega) (fun b hb=>by have:=(HI3.out.ps.own.at_block hb).1;omega)).setCell (Nat.le_refl _) _
            have HP4:=Lib.hid p4
            have HS4:=Lib.hid hS4
            have HB4:=Lib.hid hB4
            clear hown4 hg4 hb4 p4 u4 hS4 hB4
            refine hK2.out _ _ (fun _=>⟨k1,k2⟩) ?_
            clear hK2 K2
            refine Qag (fun K3 hK3=>?_)
            go_simp
            refine hK3.out _ _ (fun _=>⟨k1,k2⟩) ?_
            clear hK3 K3
            refine Qag (fun K4 hK4=>?_)
            go_simp
            refine hK4.out _ _ (fun h=>absurd rfl h) ?_
            clear hK4 K4
            refine ⟨rfl,hK.out _ _ ?_⟩
            clear hK K
            obtain ⟨V4,hV4⟩:∃ V,W4.setCell ⟨W1.heap.size,0,none⟩ (.slice (some ⟨gs4,0,none⟩) (st.sta.length+1) cs4)=V:=⟨_,rfl⟩
            rw [hV4] at HP4 HS4 HB4 ⊢
            obtain ⟨_,_,n2,nf,nq⟩:=Qay HP4.out.box
            have nf2:=nf 2
            have hc31: ¬ c3=1:=by have:=HL.out;omega
            have hm31:(1:Int)≤(m3:Int):=by omega
            clear k1 k2 k3 hV4 i0 i1 j0 jq x3 nf HI3 HS3 HI2 HQS HG3
            go_wp2
            refine Qbs (fun w'=>w'.cell? ⟨W1.heap.size,2,none⟩=some vH) 4 (by kernel_rfl) (by kernel_rfl) n2 ?_
            intro K hK
            simp only [List.take_succ_cons,List.take_zero,List.drop_succ_cons,List.drop_zero]
            refine ⟨.pointer (some ⟨W1.heap.size,2,none⟩),Or.inl ⟨by rfl,fun w' hS=>?_⟩,?_⟩;(· go_simp);try simp only [Act.put,List.setIfInBounds_toArray,List.set_cons_zero,List.set_cons_succ]
            refine ⟨vH,Or.inl ⟨by rfl,fun w' hS=>?_⟩,?_⟩;(· go_simp);try simp only [Act.put,List.setIfInBounds_toArray,List.set_cons_zero,List.set_cons_succ]
            refine ⟨.slice (some ⟨g3,0,none⟩) m3 c3,Or.inl ⟨by rfl,fun w' hS=>?_⟩,?_⟩;(· go_simp);try simp only [Act.put,List.setIfInBounds_toArray,List.set_cons_zero,List.set_cons_succ]
            refine ⟨.slice (some ⟨g3,1,none⟩) (m3 - 1) (c3 - 1),Or.inl ⟨by rfl,fun w' hS=>?_⟩,?_⟩;(· go_simp);try simp only [Act.put,List.setIfInBounds_toArray,List.set_cons_zero,List.set_cons_succ]
            refine Qag (fun K1 hK1=>?_)
            go_simp
            refine hK1.out _ _ (fun _=>cell_later (by repeat' (first | (with_reducible exact Below.refl _ _) | (with_reducible assumption) | (refine Qa (by assumption) ?_ ?_) | (with_reducible refine Qaa ?_ _) | (with_reducible refine Below.drew ?_) | (with_reducible refine Below.alloc ?_ ?_ _) | (with_reducible refine Below.setCell ?_ ?_ _) | go_size)) n2) ?_
            clear hK1 K1
            refine Qag (fun K2 hK2=>?_)
            refine op_appR2 rfl (.tmp 85) (.tmp 88) rfl (W1.heap.size+1) vH vs rfl (HP4.out.ownH.kept (by repeat' (first | (with_reducible exact Below.refl _ _) | (with_reducible assumption) | (refine Qa (by assumption) ?_ ?_) | (with_reducible refine Qaa ?_ _) | (with_reducible refine Below.drew ?_) | (with_reducible refine Below.alloc ?_ ?_ _) | (with_reducible refine Below.setCell ?_ ?_ _) | go_size)) (Nat.le_refl _)) _ 1 _ _ _ rfl (Qba _ _ _) hlen2 (by simp [Qac];omega) ?_
            intro v5 W5 hown5 hg5 hb5
            have hqh:some (W1.heap.size)≠vH.ownBlock:=fun e=>by have:=(HP4.out.ownH.at_block e.symm).1;omega
            obtain ⟨A5,c5,rfl,_⟩:=hown5.formN (n:=vs.length+1) (by simp)
            have k1:W5.cell? ⟨W1.heap.size,2,none⟩=some vH:=hg5.cell (cell_later (by repeat' (first | (with_reducible exact Below.refl _ _) | (with_reducible assumption) | (refine Qa (by assumption) ?_ ?_) | (with_reducible refine Qaa ?_ _) | (with_reducible refine Below.drew ?_) | (with_reducible refine Below.alloc ?_ ?_ _) | (with_reducible refine Below.setCell ?_ ?_ _) | go_size)) n2) hqh
            have k3:W5.frozen? ⟨W1.heap.size,2,none⟩=false:=(World.frozen?_of_block (a:=⟨W1.heap.size,2,none⟩) (hg5.block (W1.heap.size) (by simp [Qac];omega) hqh)).trans ((World.frozen?_of_block (a:=⟨W1.heap.size,2,none⟩) (Below.block (B:=V4.heap.size) (w:=V4) (by repeat' (first | (with_reducible exact Below.refl _ _) | (with_reducible assumption) | (refine Qa (by assumption) ?_ ?_) | (with_reducible refine Qaa ?_ _) | (with_reducible refine Below.drew ?_) | (with_reducible refine Below.alloc ?_ ?_ _) | (with_reducible refine Below.setCell ?_ ?_ _) | go_size)) (W1.heap.size) nq)).trans nf2)
            obtain ⟨p5,u5⟩:=(HP4.out.below (Qbb V4)).hal ((HS4.out.drop (by omega)).up (Up.of_below (Qbb V4))) hg5 hown5 hb5
            have HP5:=Lib.hid p5
            have HB5:=Lib.hid ((((Qaa HB4.out 1).alloc (by simp [Qac];omega) (.cells #[.slice (some ⟨g3,1,none⟩) (m3 - 1) (c3 - 1)] 22)).grown hg5 (by simp [Qac];omega) (fun b hb=>by have:=(HP4.out.ownH.at_block hb).1;omega)).setCell (p:=⟨W1.heap.size,2,none⟩) (Nat.le_refl _) (.slice A5 (vs.length+1) c5))
            clear hown5 hg5 hb5 p5 u5 hqh
            refine hK2.out _ _ (fun _=>k1) ?_
            clear hK2 K2
            refine Qag (fun K3 hK3=>?_)
            go_simp
            refine hK3.out _ _ (fun _=>k1) ?_
            clear hK3 K3
            refine Qag (fun K4 hK4=>?_)
            go_simp
            refine hK4.out _ _ (fun h=>absurd rfl h) ?_
            clear hK4 K4
            refine ⟨rfl,hK.out _ _ ?_⟩
            clear hK K n2 k1 k3
            obtain ⟨V5,hV5⟩:∃ V,W5.setCell ⟨W1.heap.size,2,none⟩ (.slice A5 (vs.length+1) c5)=V:=⟨_,rfl⟩
            rw [hV5] at HP5 HB5 ⊢
            clear hV5
            go_wp2
            go_roundw
            case rel=>exact ⟨k+1,_,_,_,_,_,by omega,by go_num,by rw [HW.out];rfl,⟨HP5.out,HI.out.rd,HB5.out,HG.out,by simp only [List.length_append,List.length_singleton];omega,by simp only [List.length_append,List.length_singleton];omega,HL3.out⟩⟩
            case measure=>simp [intOf];omega
          ·have hb:=HBAD.out (by rw [stepR,hA,hw];exact if_neg fun k=>hl (by have:=k.2;rw [hm3,hm4] at this;exact this))
           have HBB:=Lib.hid hb
           have hne:((m3:Int) != 1+(nw:Int))=true:=by simp;omega
           clear hb hA hm3 hw
           go_wp2_with (first | (go_at_call 16;refine W.mono ?_;rintro e W2 ⟨A2,c2,rfl,hc2,hr2,hb2⟩;obtain ⟨b2,o2,rfl,_,hcw⟩:=hr2.strs (by rw [Qak,List.length_cons];omega);have z0:=hcw 0 (by rw [Qak,List.length_cons];omega);rw [Nat.add_zero] at z0;have HI2:=Lib.hid (HI.out.below hb2);have HR2:=Lib.hid (rd_tail hr2 (by rw [HM.out];exact hc2));clear hr2 hb2 hcw) | (go_at_call 17;refine (Qbd HAA.out HM.out (by omega) HTZ.out _ _ (by omega) W2 HR2.out HM3.out).mono ?_;rintro e W3 ⟨A3,c3,rfl,hc3,hg3,ho3,hb3⟩;have HI3:=Lib.hid (HI2.out.below hb3);have z3:=cell_later hb3 z0;rw [HXS.out] at z3;obtain ⟨i0,i1,i2,jf,jq⟩:=Qay HI3.out.ps.box;have HF:=fin2 (w:=w) (W:=W3) (.slice none 0 0) (.slice none 0 0) (.slice none 0 0) (HI3.out.b2 H0.out);have m0:=HF.c0;have m1:=HF.c1;have m2:=HF.c2;have n0:=HF.f0;have n1:=HF.f1;have n2:=HF.f2;have HFF:=Lib.hid HF;clear HF hb3 i0 i2 jf))
           all_goals
            exact Qdi (by rw [HBB.out];exact Qcq _ 5 (HFF.out.bel (HI3.out.bw H0.out))) HFF.out.b2 rfl rfl rfl
         ·have hb:=HBAD.out (by rw [stepR,hA,hw];exact if_neg fun k=>hx k.1)
          have HBB:=Lib.hid hb
          obtain ⟨sw,hsw⟩:∃ s,sx (mkB (x :: tl)) 0=s:=⟨_,rfl⟩
          have hne: ¬ sw.toList=[115,116,97,116,105,111,110]:=fun e=>hx (by have:=sx_mk (x :: tl) 0;rw [hsw, ←ByteArray.toList_eq,e] at this;exact this.symm)
          have HXS:=Lib.hid hsw
          clear hb hA hm3 hw hx hsw
          go_wp2_with (first | (go_at_call 16;refine W.mono ?_;rintro e W2 ⟨A2,c2,rfl,hc2,hr2,hb2⟩;obtain ⟨b2,o2,rfl,_,hcw⟩:=hr2.strs (by rw [Qak,List.length_cons];omega);have z0:=hcw 0 (by rw [Qak,List.length_cons];omega);rw [Nat.add_zero] at z0;have HI2:=Lib.hid (HI.out.below hb2);have HR2:=Lib.hid (rd_tail hr2 (by rw [HM.out];exact hc2));clear hr2 hb2 hcw) | (go_at_call 17;refine (Qbd HAA.out HM.out (by omega) HTZ.out _ _ (by omega) W2 HR2.out HM3.out).mono ?_;rintro e W3 ⟨A3,c3,rfl,hc3,hg3,ho3,hb3⟩;have HI3:=Lib.hid (HI2.out.below hb3);have z3:=cell_later hb3 z0;rw [HXS.out] at z3;obtain ⟨i0,i1,i2,jf,jq⟩:=Qay HI3.out.ps.box;have HF:=fin2 (w:=w) (W:=W3) (.slice none 0 0) (.slice none 0 0) (.slice none 0 0) (HI3.out.b2 H0.out);have m0:=HF.c0;have m1:=HF.c1;have m2:=HF.c2;have n0:=HF.f0;have n1:=HF.f1;have n2:=HF.f2;have HFF:=Lib.hid HF;clear HF hb3 i0 i2 jf))
          all_goals
           exact Qdi (by rw [HBB.out];exact Qcq _ 5 (HFF.out.bel (HI3.out.bw H0.out))) HFF.out.b2 rfl rfl rfl
  ·obtain rfl:k=n:=by omega
   have hrun:=HI.out.run
   rw [List.drop_eq_nil_of_le (by rw [List.length_map,HN.out];exact Nat.le_refl _)] at hrun
   have hlen:=HN.out
   obtain ⟨e0,e1,e2,ef,eq⟩:=Qay HI.out.ps.box
   cases hw:st.wat with
   | none=>
     have hb:parW s.data.toList=⟨[],[],[],((k:Int)+1),5⟩:=by
       unfold parW
       rw [if_neg (show ¬ 4000 < s.data.toList.length by rw [Array.length_toList];exact h),hrun,hlen]
       show (match st.wat with | none=>_ | some z=>_)=_
       rw [hw]
     have HBB:=Lib.hid hb
     have HF:=fin2 (w:=w) (W:=wr) (.slice none 0 0) (.slice none 0 0) (.slice none 0 0) (HI.out.b2 H0.out)
     have m0:=HF.c0
     have m1:=HF.c1
     have m2:=HF.c2
     have n0:=HF.f0
     have n1:=HF.f1
     have n2:=HF.f2
     have HFF:=Lib.hid HF
     clear hb hw hrun hlen e0 e2 ef HF
     go_wp2_with fail
     exact Qdi (by rw [HBB.out];exact Qcq _ 5 (HFF.out.bel (HI.out.bw H0.out))) HFF.out.b2 rfl rfl rfl
   | some z0=>
     have hvW:=HI.out.ps.wat
     rw [hw] at hvW
     obtain ⟨aw,nw,cw,rfl,_⟩:=hvW
     obtain ⟨A1,c1,rfl,_⟩:=HI.out.ps.own.form
     obtain ⟨A3,c3,rfl,_⟩:=HI.out.ps.ownH.form
     have HW:=Lib.hid hw
     obtain ⟨t1,t2,t3,htd⟩:=HI.out.ps.td hw (fun b _=>rfl) (Nat.le_refl _) rfl rfl rfl
     subst t2
     rw [t3] at e2
     cases hB:Qav st.sta z0 st.hal with
     | false=>
       have hb:parW s.data.toList=⟨[],[],[],0,13⟩:=by
         unfold parW
         rw [if_neg (show ¬ 4000 < s.data.toList.length by rw [Array.length_toList];exact h),hrun]
         show (match st.wat with | none=>_ | some z=>_)=_
         rw [hw]
         exact if_neg (by rw [hB];exact Bool.false_ne_true)
       have T:=Qde A1 c1 _ _ A3 c3 vs wr htd
       have te:tabE st.sta z0 st.hal=13:=by unfold tabE;rw [hB];rfl
       rw [te] at T
       have HBB:=Lib.hid hb
       clear hb hw hrun hlen hB htd ef te
       go_wp2_with (go_at_call 18;refine T.mono ?_;rintro e W5 ⟨rfl,hb5⟩;have HI5:=Lib.hid (HI.out.below hb5);have HF:=fin2 (w:=w) (W:=W5) (.slice none 0 0) (.slice none 0 0) (.slice none 0 0) (HI5.out.b2 H0.out);have m0:=HF.c0;have m1:=HF.c1;have m2:=HF.c2;have n0:=HF.f0;have n1:=HF.f1;have n2:=HF.f2;have HFF:=Lib.hid HF;clear HF hb5)
       exact Qdi (by rw [HBB.out];exact Qcq 0 13 (HFF.out.bel (HI5.out.bw H0.out))) HFF.out.b2 rfl rfl rfl
     | true=>
       have hb:parW s.data.toList=⟨st.sta,z0,st.hal,0,0⟩:=by
         unfold parW
         rw [if_neg (show ¬ 4000 < s.data.toList.length by rw [Array.length_toList];exact h),hrun]
         show (match st.wat with | none=>_ | some z=>_)=_
         rw [hw]
         exact if_pos hB
       have T:=Qde A1 c1 _ _ A3 c3 vs wr htd
       have te:tabE st.sta z0 st.hal=0:=by unfold tabE;rw [hB];rfl
       rw [te] at T
       have HBB:=Lib.hid hb
       clear hb hw hrun hlen hB htd ef te
       go_wp2_with (go_at_call 18;refine T.mono ?_;rintro e W5 ⟨rfl,hb5⟩;have HI5:=Lib.hid (HI.out.below hb5);obtain ⟨a0,a1,a2,_,_⟩:=Qay HI5.out.ps.box;rw [t3] at a2;have HF:=fin2 (w:=w) (W:=W5) (.slice A1 st.sta.length c1) (.slice (some aw) z0.length cw) (.slice A3 st.hal.length c3) (HI5.out.b2 H0.out);have m0:=HF.c0;have m1:=HF.c1;have m2:=HF.c2;have n0:=HF.f0;have n1:=HF.f1;have n2:=HF.f2;have HFF:=Lib.hid HF;clear HF hb5)
       obtain ⟨_,_,_,htd⟩:=HI5.out.ps.td HW.out (fun b hb=>HFF.out.rest b (Nat.lt_trans H0.out.lt hb)) HFF.out.size rfl rfl rfl
       exact Qdi (by rw [HBB.out];exact ⟨A1,c1,some aw,cw,A3,c3,vs,rfl,htd,HFF.out.bel (HI5.out.bw H0.out)⟩) HFF.out.b2 rfl rfl rfl
end Go.Proofs.YtdlmdaononclgaaGreatDoor
namespace Go.Proofs.YtdlmdaononclgaaGreatDoor
open Go Go.Ev
set_option linter.unusedVariables false
set_option linter.unusedSimpArgs false
theorem splitL_rows {c:UInt8}:∀ rows:List (List UInt8),(∀ r∈rows,∀ x∈r,x≠c)→Qai c (rows.flatMap fun r=>r ++ [c])=rows ++ [[]]
 | [],_=>rfl
 | r :: rows,h=>by
   rw [List.flatMap_cons,List.append_assoc,List.singleton_append,Qby _ (h r List.mem_cons_self),splitL_rows rows fun q hq=>h q (List.mem_cons_of_mem _ hq)];rfl
theorem lines_rows (rows:List (List UInt8)) (h:∀ r∈rows,∀ x∈r,x≠10):Qaj (rows.flatMap fun r=>r ++ [10])=rows:=by
 unfold Qaj dropE
 rw [splitL_rows rows h,List.getLast?_append,if_pos (by rfl),List.dropLast_concat]
theorem splitL_words {c:UInt8}:∀ (ws:List (List UInt8)) (w:List UInt8),(∀ x∈w,x≠c)→(∀ r∈ws,∀ x∈r,x≠c)→Qai c (w ++ ws.flatMap fun r=>c :: r)=w :: ws
 | [],w,h,_=>by rw [List.flatMap_nil,List.append_nil,Qd h]
 | r :: ws,w,h,h2=>by
   rw [List.flatMap_cons,List.cons_append,Qby _ h,splitL_words ws r (h2 r List.mem_cons_self) fun q hq=>h2 q (List.mem_cons_of_mem _ hq)]
theorem words_row (w:List UInt8) (ws:List (List UInt8)) (h0:w.head? ≠some 35) (h1:w≠[]) (h2:∀ x∈w,x≠32) (h3:∀ r∈ws,r≠[]∧∀ x∈r,x≠32):Qan (w ++ ws.flatMap fun r=>32 :: r)=w :: ws:=by
 unfold Qan
 have hh:(w ++ ws.flatMap fun r=>32 :: r).head? =w.head? :=by
   cases w with
   | nil=>exact absurd rfl h1
   | cons a t=>rfl
 rw [hh,if_neg h0,splitL_words ws w h2 fun r hr=>(h3 r hr).2]
 refine List.filter_eq_self.2 fun x hx=>?_
 have hne:x≠[]:=by
   rcases List.mem_cons.1 hx with rfl | hx
   · exact h1
   · exact (h3 x hx).1
 cases x with
 | nil=>exact absurd rfl hne
 | cons a t=>rfl
theorem dec_len:∀ (k n:Nat),n < 10 ^ (k+1)→(Lib.decDigits n).length≤k+1
 | 0,n,h=>by rw [Lib.decDigits_one (by simpa using h)];exact Nat.le_refl _
 | k+1,n,h=>by
   rw [Lib.decDigits]
   by_cases h1:n < 10
   ·rw [dif_pos h1,List.length_singleton];omega
   ·have h2:n / 10 < 10 ^ (k+1):=by
     rw [Nat.div_lt_iff_lt_mul (by omega)]
     rw [Nat.pow_succ] at h
     exact h
    rw [dif_neg h1,List.length_append,List.length_singleton]
    have:=dec_len k (n / 10) h2
    omega
theorem dec_dig (n:Nat):∀ x∈Lib.decDigits n,48≤x.toNat∧x.toNat≤57:=fun x hx=>by
 have h:=canC_all (dec_can n).1
 rw [List.all_eq_true] at h
 have h1:=h x hx
 unfold digC at h1
 rw [Bool.and_eq_true,decide_eq_true_eq,decide_eq_true_eq] at h1
 exact h1
theorem num_itoa {k:Nat} {v:Int} {sg:Bool} (h:v.natAbs < 10 ^ (k+1)) (hs:0≤v∨sg=true):numS (k+1) (Lib.itoa v) sg=some v:=by
 obtain ⟨d1,d2,d3⟩:=dec_can v.natAbs
 have hl:=dec_len k v.natAbs h
 by_cases h0:0≤v
 ·obtain ⟨n,rfl⟩:∃ n:Nat,v=n:=⟨v.toNat,by omega⟩
  rw [Int.natAbs_natCast] at d1 d2 hl
  unfold numS
  rw [Lib.itoa_nonneg,if_neg (canC_head d1),if_pos ⟨d1,hl⟩,d2]
 ·obtain ⟨n,rfl⟩:∃ n:Nat,v= -(n:Int):=⟨v.natAbs,by omega⟩
  rw [Int.natAbs_neg,Int.natAbs_natCast] at d1 d2 d3 hl
  have hg:sg=true:=hs.elim (fun h=>absurd h h0) id
  unfold numS
  rw [Lib.itoa_neg n (by omega),if_pos (show (45 :: Lib.decDigits n:List UInt8).head? =some 45 from rfl)]
  show (if sg=true∧canC (Lib.decDigits n)=true∧(Lib.decDigits n).length≤k+1∧(Lib.decDigits n).head? ≠some 48 then some (-((valD (Lib.decDigits n) 0:Nat):Int)) else none)=_
  rw [if_pos ⟨hg,d1,hl,d3 (by omega)⟩,d2]
theorem itoa_ch (v:Int):Lib.itoa v≠[]∧∀ x∈Lib.itoa v,x≠32∧x≠10:=by
 have hd:∀ n x,x∈Lib.decDigits n→x≠32∧x≠10:=fun n x hx=>by
  have:=dec_dig n x hx
  exact ⟨fun e=>by rw [e] at this;exact absurd this.1 (by decide),fun e=>by rw [e] at this;exact absurd this.1 (by decide)⟩
 unfold Lib.itoa
 split
 ·refine ⟨by simp,fun x hx=>?_⟩
  rcases List.mem_cons.1 hx with rfl | hx
  ·exact ⟨by decide,by decide⟩
  ·exact hd _ x hx
 ·exact ⟨canC_ne (dec_can _).1,fun x hx=>hd _ x hx⟩
end Go.Proofs.YtdlmdaononclgaaGreatDoor
namespace Go.Proofs.YtdlmdaononclgaaGreatDoor
open Go.RowKit
set_option linter.unusedVariables false
set_option linter.unusedSimpArgs false
def rowL (wd:List UInt8) (l:List Int):List UInt8:=wd ++ l.flatMap numT
theorem flat_num (l:List Int):l.flatMap numT=(l.map Lib.itoa).flatMap fun r=>32 :: r:=by
 rw [List.flatMap_map];rfl
theorem words_rowL (wd:List UInt8) (l:List Int) (h0:wd.head? ≠some 35) (h1:wd≠[]) (h2:∀ x∈wd,x≠32):Qan (rowL wd l)=wd :: l.map Lib.itoa:=by
 unfold rowL
 rw [flat_num]
 refine words_row wd _ h0 h1 h2 fun r hr=>?_
 obtain ⟨n,_,rfl⟩:=List.mem_map.1 hr
 exact ⟨(itoa_ch n).1,fun x hx=>((itoa_ch n).2 x hx).1⟩
theorem rowL_ch (wd:List UInt8) (l:List Int) (h2:∀ x∈wd,x≠10):∀ x∈rowL wd l,x≠10:=by
 intro x hx
 unfold rowL at hx
 rcases List.mem_append.1 hx with hx | hx
 ·exact h2 x hx
 ·obtain ⟨n,_,hn⟩:=List.mem_flatMap.1 hx
  unfold numT at hn
  rcases List.mem_cons.1 hn with rfl | hn
  ·decide
  ·exact ((itoa_ch n).2 x hn).2
theorem allW_itoa:∀ l:List Int,(∀ n∈l,0≤n∧n < 1000000)→allW (l.map Lib.itoa)=some l
 | [],_=>rfl
 | n :: l,h=>by
   have h0:=h n List.mem_cons_self
   have e0:numW (Lib.itoa n)=some n:=by
    rw [numW_eq]
    exact num_itoa (k:=5) (by omega) (.inl h0.1)
   rw [List.map_cons]
   unfold allW
   rw [e0,allW_itoa l fun m hm=>h m (List.mem_cons_of_mem _ hm)]
theorem run_rows {zs:List Int}:∀ (L:List (Int × List Int)) (k:Nat) (sta:List Int) (hal:List (List Int)),(∀ p∈L,p.2.length=zs.length∧(0≤p.1∧p.1 < 1000000)∧∀ n∈p.2,0≤n∧n < 1000000)→
   runW k (L.map fun p=>Qal :: (p.1 :: p.2).map Lib.itoa) ⟨sta,some zs,hal⟩= .inr ⟨sta ++ L.map Prod.fst,some zs,hal ++ L.map Prod.snd⟩
 | [],k,sta,hal,_=>by simp [runW]
 | p :: L,k,sta,hal,h=>by
   obtain ⟨h1,h2,h3⟩:=h p List.mem_cons_self
   have hs:stepW ⟨sta,some zs,hal⟩ (Qal :: (p.1 :: p.2).map Lib.itoa)=some ⟨sta ++ [p.1],some zs,hal ++ [p.2]⟩:=by
    have hA:=allW_itoa (p.1 :: p.2) fun n hn=>by
     rcases List.mem_cons.1 hn with rfl | hn
     ·exact h2
     ·exact h3 n hn
    show (match (if Qal=Qal∧(p.1 :: p.2).map Lib.itoa≠[] then allW ((p.1 :: p.2).map Lib.itoa) else none) with | none=>none | some l=>if l.length=1+zs.length then some _ else none)=_
    rw [if_pos ⟨rfl,by simp⟩,hA]
    show (if (p.1 :: p.2).length=1+zs.length then _ else none)=_
    rw [if_pos (by rw [List.length_cons,h1];omega)]
    rfl
   rw [List.map_cons]
   unfold runW
   rw [hs]
   show runW (k+1) _ _=_
   rw [run_rows L (k+1) _ _ fun q hq=>h q (List.mem_cons_of_mem _ hq)]
   simp
theorem okP_ge {many most:Int} {xs:List Int} (h:OkP many most xs):∀ n∈xs,0≤n∧n≤most:=by
 intro n hn
 obtain ⟨i,hi,rfl⟩:=List.mem_iff_getElem.1 hn
 have e:ix xs i=xs[i]:=by simp [ix,List.getD,List.getElem?_eq_getElem hi]
 have hlo:=h.lo i hi
 have hhi:=h.hi' i hi
 rw [e] at hlo hhi
 exact ⟨hlo,hhi⟩
set_option maxRecDepth 4000 in
theorem par_print {xs zs:List Int} {rs:List (List Int)} (h:Qav xs zs rs=true):parW (Qbr xs zs rs)=⟨xs,zs,rs,0,0⟩:=by
 obtain ⟨ok1,ok2,hl,hrw,hH⟩:=table_ok h
 obtain ⟨hz,hr⟩:=table_in h
 have g1:=okP_ge ok1
 have g2:=okP_ge ok2
 have m7:zs.length≤7:=by have:=ok2.many;omega
 have m9:xs.length≤9:=by have:=ok1.many;omega
 have e:Qbr xs zs rs=(rowL Qaq zs :: (List.range rs.length).map fun i=>rowL Qal (ix xs i :: rx rs i)).flatMap fun r=>r ++ [10]:=by
  rw [List.flatMap_cons,List.flatMap_map];rfl
 have hlen: ¬ 4000 < (Qbr xs zs rs).length:=by
  unfold Qbr
  have a1:=rowT_le Qaq (by decide) zs hz
  have a2:=linesT_le m7 hrw hr rs.length (Nat.le_refl _)
  rw [List.length_append]
  omega
 have hlines:Qaj (Qbr xs zs rs)=rowL Qaq zs :: (List.range rs.length).map fun i=>rowL Qal (ix xs i :: rx rs i):=by
  rw [e]
  refine lines_rows _ fun r hr=>?_
  rcases List.mem_cons.1 hr with rfl | hr
  ·exact rowL_ch _ _ (by decide)
  ·obtain ⟨i,_,rfl⟩:=List.mem_map.1 hr
   exact rowL_ch _ _ (by decide)
 have hws:(Qaj (Qbr xs zs rs)).map Qan=(Qaq :: zs.map Lib.itoa) :: ((List.range rs.length).map fun i=>(ix xs i,rx rs i)).map fun p=>Qal :: (p.1 :: p.2).map Lib.itoa:=by
  rw [hlines,List.map_cons,words_rowL _ _ (by decide) (by decide) (by decide),List.map_map,List.map_map]
  congr 1
  refine List.map_congr_left fun i _=>?_
  exact words_rowL _ _ (by decide) (by decide) (by decide)
 have hx:((List.range rs.length).map fun i=>(ix xs i,rx rs i)).map Prod.fst=xs:=by
  rw [List.map_map,hl]
  refine List.ext_getElem (by simp) fun i h1 h2=>?_
  simp [ix,List.getD,List.getElem?_eq_getElem h2]
 have hy:((List.range rs.length).map fun i=>(ix xs i,rx rs i)).map Prod.snd=rs:=by
  rw [List.map_map]
  refine List.ext_getElem (by simp) fun i h1 h2=>?_
  simp [rx,List.getD,List.getElem?_eq_getElem h2]
 have hrun:runW 0 ((Qaj (Qbr xs zs rs)).map Qan) st0= .inr ⟨xs,some zs,rs⟩:=by
  rw [hws]
  have hs:stepW st0 (Qaq :: zs.map Lib.itoa)=some ⟨[],some zs,[]⟩:=by
   have hA:=allW_itoa zs fun n hn=>by have:=g2 n hn;omega
   show (match (if Qaq=Qaq∧zs.map Lib.itoa≠[] then allW (zs.map Lib.itoa) else none) with | none=>none | some n=>some _)=_
   rw [if_pos ⟨rfl,fun k=>by have:=congrArg List.length k;rw [List.length_map,List.length_nil] at this;have:=ok2.two;omega⟩,hA]
   rfl
  unfold runW
  rw [hs]
  show runW (0+1) _ _=_
  rw [run_rows _ _ _ _ (fun p hp=>?_),hx,hy]
  ·rfl
  ·obtain ⟨i,hi,rfl⟩:=List.mem_map.1 hp
   rw [List.mem_range] at hi
   refine ⟨hrw i hi,?_,fun n hn=>?_⟩
   ·have:ix xs i∈xs:=by
     have:ix xs i=xs[i]'(by omega):=by simp [ix,List.getD,List.getElem?_eq_getElem (show i < xs.length by omega)]
     rw [this];exact List.getElem_mem _
    have:=g1 _ this
    show 0≤ix xs i∧ix xs i < 1000000
    omega
   ·obtain ⟨j,hj,rfl⟩:=List.mem_iff_getElem.1 hn
    have e:ix (rx rs i) j=(rx rs i)[j]:=by simp [ix,List.getD,List.getElem?_eq_getElem hj]
    have:=hH i j
    rw [e] at this
    show 0≤(rx rs i)[j]∧(rx rs i)[j] < 1000000
    omega
 unfold parW
 rw [if_neg hlen,hrun]
 show (if Qav xs zs rs=true then _ else _)=_
 rw [if_pos h]
end Go.Proofs.YtdlmdaononclgaaGreatDoor
