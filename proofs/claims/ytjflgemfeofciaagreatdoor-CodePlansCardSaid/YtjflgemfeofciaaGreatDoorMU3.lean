import Derived.Test.YtjflgemfeofciaaGreatDoorMY7
import Derived.Test.YtjflgemfeofciaaGreatDoorQa4
namespace Go.Proofs.YtjflgemfeofciaaGreatDoor
open Go Go.Ev
set_option linter.unusedVariables false
set_option linter.unusedSimpArgs false
set_option maxRecDepth 10000
end Go.Proofs.YtjflgemfeofciaaGreatDoor
namespace Go.Proofs.YtjflgemfeofciaaGreatDoor
open Go Go.Ev
set_option linter.unusedVariables false
set_option linter.unusedSimpArgs false
set_option maxRecDepth 10000
end Go.Proofs.YtjflgemfeofciaaGreatDoor
namespace Go.Proofs.YtjflgemfeofciaaGreatDoor
open Go Go.Ev
set_option linter.unusedVariables false
set_option linter.unusedSimpArgs false
set_option maxRecDepth 10000
structure L_r01_SameInts_1 where
 k1_1:Nat
def Qau (p1:(List Int)):List Int→Nat→Option ((Bool) ⊕ (Unit))
 | [],k1_1=>some ((Sum.inr ()))
 | y1 :: ys1,k1_1=>((p1[k1_1]?).bind fun y4=>(cond (!(decide (y1=y4))) (some ((Sum.inl false))) (Qau p1 ys1 (k1_1+1))))
def Qan (p0:(List Int)) (p1:(List Int)):Option (Bool):=(cond (!(decide ((p0.length:Int)=(p1.length:Int)))) (some false) (((Qau p1 p0 0).bind fun o=>match o with | (Sum.inl q)=>(some q) | (Sum.inr _)=>(some true))))
set_option maxHeartbeats 1000000 in
theorem Qav (p0:(List Int)) (p1:(List Int)) (v0_0 v1_0:V) (g:G) (h0_0:RS IntR 1 g v0_0 p0) (h1_0:RS IntR 1 g v1_0 p1) (r:Bool) (hF:Qan p0 p1=some r):Fv Tryz.prog natS (.f 44 [] []) [v0_0,v1_0] g (.b r):=by
 refine Fw.fv ?_
 unfold Qan at hF
 have lh0_0:=h0_0.1
 have lh1_0:=h1_0.1
 refine Fw.enter (N:=26) (al:=[(1,_),(0,_)]) Tryz.func44 (by kernel_rfl) (by kernel_rfl) rfl rfl rfl rfl ?_
 intro B
 refine .seq<|.region rfl<|.z rfl rfl<|.nil<|sq_n<|.seq<|.seq<|.region rfl<|.m rfl rfl<|.q (.lenR rfl rfl rfl e_66 h0_0)<|.m rfl rfl<|.q (.lenR rfl rfl rfl e_66 h1_0)<|.b rfl rfl rfl rfl<|.nil<|sq_n<|.cond rfl (fun h1=>?_) (fun h1=>?_)
 ·have hF:=cT h1 hF
  refine .seq<|.region rfl<|.z rfl rfl<|.nil<|sq_n<|.ret<|sq_r ?_
  obtain rfl:=sI hF
  refine Qaa (Le.refl _) (.tmp rfl .nil) rfl ?_
  rfl
 have kh1:=dT (nF h1)
 have hF:=cF h1 hF
 refine .skip<|sq_n<|.seq<|.seq<|.region rfl<|.z rfl rfl<|.nil<|sq_n<|.block ?_
 obtain ⟨o1,hF,hG1⟩:=bS hF
 refine .loopx (α:=L_r01_SameInts_1) [(0,_),(1,_)] _ (fun fx x=>(5,.i .i64 (x.k1_1:Int)) :: fx) (fun mx _=>mx) (fun x g'=>x.k1_1≤p0.length∧Qau p1 (p0.drop x.k1_1) x.k1_1=some o1) (fun x=>p0.length - x.k1_1) (L_r01_SameInts_1.mk 0) ⟨rfl,rfl,rfl,trivial⟩ (List.Sublist.refl _) ⟨(by first | omega | (dsimp only;omega)),hF⟩ ?_
 intro x1 gl1 hlo1 hJ1
 obtain ⟨k1_1⟩:=x1
 try dsimp only at hJ1
 obtain ⟨hk1,hF⟩:=hJ1
 refine .al0 [(5,.i .i64 (k1_1:Int)),(0,_),(1,_)] ?_
 replace h0_0:=h0_0.mono IntR.mono hlo1
 replace h1_0:=h1_0.mono IntR.mono hlo1
 refine .seq<|.seq<|.region rfl<|.m rfl rfl<|.m rfl rfl<|.q (.lenR rfl rfl rfl e_66 h0_0)<|.b rfl rfl rfl rfl<|.nil<|sq_n<|.cond rfl (fun h2=>?_) (fun h2=>?_)
 ·have kh2:=dT h2
  obtain ⟨y1,hy1⟩:=getK (l:=p0) (k:=k1_1) kh2
  rw [dc hy1,Qau] at hF
  refine .skip<|sq_n<|.seq<|.block<|.seq<|.draw (tb:=[r0 0 0,r0 0 0,r0 3 0,r0 7 0,r0 0 0,r0 0 0,r0 48 0,r0 112 0,r1 255 0]) rfl (by kernel_rfl) (by kernel_rfl) fun k0=>?_
  refine .m rfl rfl<|.m rfl rfl<|.ixk (j:=k1_1) .no rfl rfl h0_0 rfl e_66 hy1 ?_
  rintro b3 o3 _ hq3 rfl
  refine .y rfl rfl rfl (.ps 0 rfl hq3 rfl a_3 rfl)<|.m rfl rfl<|.m rfl rfl ?_
  obtain ⟨y4,hy4,hF⟩:=bS hF
  have hj4:=atN_lt hy4
  refine .ixk (j:=k1_1) .no rfl rfl h1_0 rfl e_66 hy4 ?_
  rintro b4 o4 _ hq4 rfl
  refine .y rfl rfl rfl (.ps 0 rfl hq4 rfl a_3 rfl)<|.b rfl rfl rfl rfl<|.nil<|sq_n<|.cond rfl (fun h5=>?_) (fun h5=>?_)
  ·have hF:=cT h5 hF
   refine .seq<|.region rfl<|.z rfl rfl<|.nil<|sq_n<|.ret<|bq_r<|sq_r<|lq_r<|bq_r<|sq_r ?_
   obtain rfl:=sI hF
   have hF:=hG1
   obtain rfl:=sI hF
   refine Qaa hlo1 (.tmp rfl .nil) rfl ?_
   rfl
  have kh5:=dT (nF h5)
  have hF:=cF h5 hF
  refine .skip<|bq_n<|sq_n<|.region rfl<|.m rfl rfl<|.q (.inc1 rfl rfl (by omega))<|.z rfl rfl<|.nil<|Qac (L_r01_SameInts_1.mk (k1_1+1)) ⟨rfl,rfl,rfl,trivial⟩ (List.Sublist.refl _) (Le.refl _) ?_ ?_
  ·exact ⟨(atN_lt hy1),hF⟩
  ·simp only;omega
 have kh2:=dF h2
 rw [dn (by omega),Qau] at hF
 obtain rfl:=sI hF
 have hF:=hG1
 refine .exit<|sq_e<|lq_e<|bq_x rfl<|sq_n<|.seq<|.region rfl<|.z rfl rfl<|.nil<|sq_n<|.ret ?_
 obtain rfl:=sI hF
 refine Qaa hlo1 (.tmp rfl .nil) rfl ?_
 rfl
end Go.Proofs.YtjflgemfeofciaaGreatDoor
