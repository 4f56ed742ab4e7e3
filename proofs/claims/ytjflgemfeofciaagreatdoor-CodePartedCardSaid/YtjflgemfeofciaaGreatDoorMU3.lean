import Derived.Test.YtjflgemfeofciaaGreatDoorMY7
import Derived.Test.YtjflgemfeofciaaGreatDoorQa4
namespace Go.Proofs.YtjflgemfeofciaaGreatDoor
open Go Go.Ev
set_option linter.unusedVariables false
set_option linter.unusedSimpArgs false
set_option maxRecDepth 10000
def Qbq (p1:(Int × Int)):List Piece→List Int→Nat→Option ((List Int))
 | [],d1_1,k1_5=>some (d1_1)
 | y1 :: ys1,d1_1,k1_5=>(cond (decide (p1.1 < y1.fr)) ((cond (decide (y1.fr≤p1.2)) (((atI d1_1 ((d1_1.length:Int) - 1)).bind fun y11=>(cond (decide (y11 < (wr (y1.fr - 1)))) ((ck (decide (d1_1.length+1≤1000000)) ((ck (decide ((d1_1 ++ [(wr (y1.fr - 1))]).length+1≤1000000)) (Qbq p1 ys1 ((d1_1 ++ [(wr (y1.fr - 1))]) ++ [y1.fr]) (k1_5+1)))))) ((ck (decide (d1_1.length+1≤1000000)) (Qbq p1 ys1 (d1_1 ++ [y1.fr]) (k1_5+1))))))) (Qbq p1 ys1 d1_1 (k1_5+1)))) (Qbq p1 ys1 d1_1 (k1_5+1)))
def F_r04_places (p0:(List Piece)) (p1:(Int × Int)):Option ((List Int)):=((Qbq p1 p0 [p1.1] 0).bind fun o1_0_1=>((atI o1_0_1 ((o1_0_1.length:Int) - 1)).bind fun y22=>(cond (decide (y22 < p1.2)) ((ck (decide (o1_0_1.length+1≤1000000)) (some (o1_0_1 ++ [p1.2])))) (some o1_0_1))))
def Qdv (p1:Int):List Piece→Int→Nat→Option ((Int))
 | [],z1_1,k1_2=>some (z1_1)
 | y1 :: ys1,z1_1,k1_2=>(cond (decide (y1.fr≤p1)) (Qdv p1 ys1 (wr (y1.base+(wr (y1.rate * p1)))) (k1_2+1)) (some (z1_1)))
def Qfr (p0:(List Piece)) (p1:Int):Option (Int):=((Qdv p1 p0 0 0).bind fun o1_0_1=>some o1_0_1)
def Qbu (p0:(List Piece)) (p2:Bool):List Int→Int→Nat→Option ((Int))
 | [],z1_1,k1_2=>some (z1_1)
 | y1 :: ys1,z1_1,k1_2=>((Qfr p0 y1).bind fun q6=>((Qfr p0 z1_1).bind fun q7=>(cond p2 ((cond (decide (q7 < q6)) (Qbu p0 p2 ys1 y1 (k1_2+1)) (Qbu p0 p2 ys1 z1_1 (k1_2+1)))) ((cond (decide (q6 < q7)) (Qbu p0 p2 ys1 y1 (k1_2+1)) (Qbu p0 p2 ys1 z1_1 (k1_2+1)))))))
def F_r04_extreme (p0:(List Piece)) (p1:(Int × Int)) (p2:Bool):Option (Int):=((F_r04_places p0 p1).bind fun q2=>((q2[0]?).bind fun y3=>((Qbu p0 p2 (List.drop 1 q2) y3 1).bind fun o1_0_1=>some o1_0_1)))
end Go.Proofs.YtjflgemfeofciaaGreatDoor
namespace Go.Proofs.YtjflgemfeofciaaGreatDoor
open Go Go.Ev
set_option linter.unusedVariables false
set_option linter.unusedSimpArgs false
set_option maxRecDepth 10000
def Qco (p0:Code) (p1:Int):Option (Int × Int):=((Qea p0).bind fun q2=>((Qbb q2 p1 0).bind fun q3=>some ((max q3.index_ 0),q3.e_)))
set_option maxHeartbeats 1000000 in
theorem F_code_InForce_ok (p0:Code) (p1:Int) (cs0:List V) (g:G) (h0:CodeR g cs0 p0) (r:Int × Int) (hF:Qco p0 p1=some r):Fv Tryz.prog natS (.f 55 [] []) [.agg cs0,.i .i64 p1] g (.tup [.i .i64 r.1,.i .i64 r.2]):=by
 refine Fw.fv ?_
 unfold Qco at hF
 obtain ⟨vq0,rfl,hcq0⟩:=h0
 refine Fw.enter (N:=20) (al:=[(1,_),(0,_)]) Tryz.func55 (by kernel_rfl) (by kernel_rfl) rfl rfl rfl rfl ?_
 intro B
 refine .seq<|.region rfl<|.box .no rfl rfl rfl rfl fun b1=>.z rfl rfl<|.z rfl rfl<|.nil<|sq_n<|.seq<|.region rfl<|.w (.a (vs:=[_,_]) rfl .hd a_24 s_24 rfl rfl) ?_
 obtain ⟨q2,hq2,hF⟩:=bS hF
 refine .call .no rfl rfl rfl (F_code_of_ok p0 _ _ ⟨_,rfl,hcq0⟩ _ hq2) ?_
 rintro g2 ml2 r2 hle2 ⟨b2_0,cs2_0,rfl,rfl,⟨v1_2_0,v3_2_0,v4_2_0,v5_2_0,v6_2_0,v7_2_0,v8_2_0,v9_2_0,v10_2_0,v11_2_0,v12_2_0,v13_2_0,rfl,h1_2_0,h3_2_0,h4_2_0,h5_2_0,h6_2_0,h7_2_0,h8_2_0,h9_2_0,h10_2_0,h11_2_0,h12_2_0,h13_2_0⟩⟩
 refine .m rfl rfl ?_
 obtain ⟨q3,hq3,hF⟩:=bS hF
 refine .callT .no rfl rfl rfl .hd (Qcs q2 p1 0 _ _ _ ⟨_,_,_,_,_,_,_,_,_,_,_,_,rfl,h1_2_0,h3_2_0,h4_2_0,h5_2_0,h6_2_0,h7_2_0,h8_2_0,h9_2_0,h10_2_0,h11_2_0,h12_2_0,h13_2_0⟩ _ hq3) ?_
 rintro g3 ml3 r3 hle3 ⟨cs3_0,rfl,rfl,⟨v1_3_0,v3_3_0,v4_3_0,v5_3_0,v6_3_0,v7_3_0,v8_3_0,v9_3_0,v10_3_0,v11_3_0,v12_3_0,v13_3_0,rfl,h1_3_0,h3_3_0,h4_3_0,h5_3_0,h6_3_0,h7_3_0,h8_3_0,h9_3_0,h10_3_0,h11_3_0,h12_3_0,h13_3_0⟩⟩
 refine .z rfl rfl<|.nil<|sq_n<|.seq<|.draw (tb:=[r0 0 0,r0 1 0,r0 3 0,r0 7 0,r0 15 0,r0 0 0,r0 32 0,r0 96 0,r0 224 0,r0 31 0,r1 1023 0]) rfl (by kernel_rfl) (by kernel_rfl) ?_
 refine .m rfl rfl<|.q (.nil rfl)<|.q (.fa rfl f_132_2)<|.y rfl rfl rfl (.s rfl .hd a_3 rfl)<|.q (.mx rfl rfl rfl rfl)<|.m rfl rfl<|.q (.nil rfl)<|.q (.fa rfl Qby)<|.y rfl rfl rfl (.s rfl .hd a_30 rfl)<|.z rfl rfl<|.z rfl rfl<|.nil<|sq_n<|.ret ?_
 obtain rfl:=sI hF
 refine Qab (hle2.trans hle3) (.tmp rfl (.tmp rfl .nil)) rfl ?_
 rfl
def Qfq (p0:Code) (p1:Int):Option (Int × Int):=(cond (!(decide ((Code.err p0)=0))) (some (0,(Code.err p0))) ((cond (!(Qag p1 0 100000)) (some (0,6)) ((cond (decide ((Qbc p0 p1) < 0)) (some (0,45)) (some ((Qbc p0 p1),0)))))))
end Go.Proofs.YtjflgemfeofciaaGreatDoor
namespace Go.Proofs.YtjflgemfeofciaaGreatDoor
open Go Go.Ev
set_option linter.unusedVariables false
set_option linter.unusedSimpArgs false
set_option maxRecDepth 10000
end Go.Proofs.YtjflgemfeofciaaGreatDoor
namespace Go.Proofs.YtjflgemfeofciaaGreatDoor
open Go Go.Ev
set_option linter.unusedVariables false
set_option linter.unusedSimpArgs false
set_option maxRecDepth 10000
end Go.Proofs.YtjflgemfeofciaaGreatDoor
