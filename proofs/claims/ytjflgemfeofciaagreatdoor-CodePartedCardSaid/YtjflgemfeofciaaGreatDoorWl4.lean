import Derived.Test.YtjflgemfeofciaaGreatDoorMU3
import Derived.Test.YtjflgemfeofciaaGreatDoorMX3
namespace Go.Proofs.YtjflgemfeofciaaGreatDoor
open Go Go.Ev
set_option linter.unusedVariables false
set_option linter.unusedSimpArgs false
set_option maxRecDepth 10000
def Arr4R (g:G) (cs:List V) (x:Nat→Int):Prop:=cs=[.i .i64 (x 0),.i .i64 (x 1),.i .i64 (x 2),.i .i64 (x 3)]
theorem Arr4R.mono:∀ g g' cs x,Le g g'→Arr4R g cs x→Arr4R g' cs x:=fun _ _ _ _ _ h=>h
theorem Arr4R.one {g:G} {cs:List V} {x:Nat→Int} (h:Arr4R g cs x):Qba cs=true:=by rw [h];rfl
def Arr5R (g:G) (cs:List V) (x:Nat→Int):Prop:=cs=[.i .i64 (x 0),.i .i64 (x 1),.i .i64 (x 2),.i .i64 (x 3),.i .i64 (x 4)]
theorem Arr5R.mono:∀ g g' cs x,Le g g'→Arr5R g cs x→Arr5R g' cs x:=fun _ _ _ _ _ h=>h
theorem Arr5R.one {g:G} {cs:List V} {x:Nat→Int} (h:Arr5R g cs x):Qba cs=true:=by rw [h];rfl
structure T_Raw where
 From:Int
 Puts:(List (Nat→Int))
 Pieces:(List (Nat→Int))
def R_Raw (g:G) (cs:List V) (x:T_Raw):Prop:=∃ v1 v2,cs=[.i .i64 (x.From),v1,v2]∧RS Arr4R 4 g v1 (x.Puts)∧RS Arr5R 5 g v2 (x.Pieces)
theorem R_Raw.one {g:G} {cs:List V} {x:T_Raw} (h:R_Raw g cs x):Qba cs=true:=by
 obtain ⟨v1,v2,rfl,h1,h2⟩:=h
 exact (Qa rfl (Qa h1.one (Qa h2.one rfl)))
theorem R_Raw.mono:∀ g g' cs x,Le g g'→R_Raw g cs x→R_Raw g' cs x:=fun _ _ _ _ hl ⟨v1,v2,h,h1,h2⟩=>⟨v1,v2,h,h1.mono Arr4R.mono hl,h2.mono Arr5R.mono hl⟩
structure T_Some where
 Day:Int
 Formula:Int
 Rooms:(List (Nat→Int))
def R_Some (g:G) (cs:List V) (x:T_Some):Prop:=∃ v2,cs=[.i .i64 (x.Day),.i .i64 (x.Formula),v2]∧RS Arr5R 5 g v2 (x.Rooms)
theorem R_Some.one {g:G} {cs:List V} {x:T_Some} (h:R_Some g cs x):Qba cs=true:=by
 obtain ⟨v2,rfl,h2⟩:=h
 exact (Qa rfl (Qa rfl (Qa h2.one rfl)))
theorem R_Some.mono:∀ g g' cs x,Le g g'→R_Some g cs x→R_Some g' cs x:=fun _ _ _ _ hl ⟨v2,h,h2⟩=>⟨v2,h,h2.mono Arr5R.mono hl⟩
def Qak (p0:Int) (p1:Int):Option (Int):=(ck (!(decide (p1=0))) ((ck (!(decide (p1=0))) (some (Int.tmod (wr ((Int.tmod p0 p1)+p1)) p1)))))
set_option maxHeartbeats 1000000 in
theorem Qai (p0:Int) (p1:Int) (g:G) (r:Int) (hF:Qak p0 p1=some r):Fv Tryz.prog natS (.f 46 [] []) [.i .i64 p0,.i .i64 p1] g (.i .i64 r):=by
 refine Fw.fv ?_
 unfold Qak at hF
 refine Fw.enter (N:=12) (al:=[(1,_),(0,_)]) Tryz.func46 (by kernel_rfl) (by kernel_rfl) rfl rfl rfl rfl ?_
 intro B
 refine .seq<|.region rfl<|.z rfl rfl<|.nil<|sq_n<|.seq<|.region rfl<|.m rfl rfl<|.m rfl rfl ?_
 obtain ⟨hd1,hF⟩:=ckS hF
 refine .q (.bin rfl rfl (iop_rem hd1))<|.m rfl rfl<|.b rfl rfl rfl rfl<|.m rfl rfl ?_
 obtain ⟨hd2,hF⟩:=ckS hF
 refine .q (.bin rfl rfl (iop_rem hd2))<|.z rfl rfl<|.nil<|sq_n<|.ret ?_
 obtain rfl:=sI hF
 refine Qab (Le.refl _) (.tmp rfl .nil) rfl ?_
 rfl
def Qei (p0:(List Int)) (p1:Int):Option (Int):=(cond (decide ((p0.length:Int)=0)) (some 0) (((Qak p1 (p0.length:Int)).bind fun q2=>((atI p0 q2).bind fun y3=>some y3))))
set_option maxHeartbeats 1000000 in
theorem Qem (p0:(List Int)) (p1:Int) (v0_0:V) (g:G) (h0_0:RS IntR 1 g v0_0 p0) (r:Int) (hF:Qei p0 p1=some r):Fv Tryz.prog natS (.f 106 [] []) [v0_0,.i .i64 p1] g (.i .i64 r):=by
 refine Fw.fv ?_
 unfold Qei at hF
 refine Fw.enter (N:=15) (al:=[(1,_),(0,_)]) Tryz.func106 (by kernel_rfl) (by kernel_rfl) rfl rfl rfl rfl ?_
 intro B
 refine .seq<|.region rfl<|.z rfl rfl<|.nil<|sq_n<|.seq<|.seq<|.region rfl<|.m rfl rfl<|.q (.lenR rfl rfl rfl e_66 h0_0)<|.b rfl rfl rfl rfl<|.nil<|sq_n<|.cond rfl (fun h1=>?_) (fun h1=>?_)
 ·have hF:=cT h1 hF
  refine .seq<|.region rfl<|.z rfl rfl<|.nil<|sq_n<|.ret<|sq_r ?_
  obtain rfl:=sI hF
  refine Qab (Le.refl _) (.tmp rfl .nil) rfl ?_
  rfl
 have hF:=cF h1 hF
 refine .skip<|sq_n<|.seq<|.region rfl<|.m rfl rfl<|.m rfl rfl<|.m rfl rfl<|.q (.lenR rfl rfl rfl e_66 h0_0) ?_
 obtain ⟨q2,hq2,hF⟩:=bS hF
 refine .callV .no rfl rfl rfl (Qai p1 (p0.length:Int) _ _ hq2) ?_
 obtain ⟨y3,hy3,hF⟩:=bS hF
 have hj3:=atI_lt hy3
 refine .ixl .no rfl rfl h0_0 rfl e_66 hy3 ?_
 rintro b3 o3 _ hq3 rfl
 refine .w (.ps 0 rfl hq3 rfl a_3 rfl)<|.z rfl rfl<|.nil<|sq_n<|.ret ?_
 obtain rfl:=sI hF
 refine Qab (Le.refl _) (.tmp rfl .nil) rfl ?_
 rfl
structure L_r04_Rooms_1 where
 v1_2:V
 cs1_3:List V
 d1_1:List Room
 z1_5:Int
 k1_6:Nat
def Qcg:List (Nat→Int)→List Room→Int→Nat→Option ((List Room))
 | [],d1_1,z1_5,k1_6=>some (d1_1)
 | y1 :: ys1,d1_1,z1_5,k1_6=>(cond (decide ((k1_6:Int) < 8)) (((Qak (y1 0) 5).bind fun q6=>((Qak (y1 1) 1500).bind fun q7=>((Qak (y1 2) 7).bind fun q8=>((Qak (y1 3) 9).bind fun q9=>((Qak (wr (Int.tdiv (y1 3) 9)) 9).bind fun q10=>((Qak (y1 4) 700).bind fun q11=>(ck (decide (d1_1.length+1≤1000000)) (Qcg ys1 (d1_1 ++ [(Room.mk (wr (z1_5+(wr ((1:Int)+q6)))) (wr ((1:Int)+q8)) q9 q10 q7 (wr (q7+q11)))]) (wr (z1_5+(wr ((1:Int)+q6)))) (k1_6+1)))))))))) (some (d1_1)))
def Qen (p0:(List (Nat→Int))):Option ((List Room)):=((Qcg p0 [] 0 0).bind fun o1_0_1=>some o1_0_1)
set_option maxHeartbeats 1000000 in
theorem F_r04_Rooms_ok (p0:(List (Nat→Int))) (v0_0:V) (g:G) (h0_0:RS Arr5R 5 g v0_0 p0) (r:(List Room)) (hF:Qen p0=some r):Fw Tryz.prog natS (.f 99 [] []) [v0_0] g [] fun g' ml' q=>ml'=[]∧∃ (w0_0:V),q=(w0_0)∧RS RoomR 6 g' w0_0 r:=by
 refine Fw.drop ?_
 unfold Qen at hF
 have lh0_0:=h0_0.1
 refine Fw.enter (N:=55) (al:=[(0,_)]) Tryz.func99 (by kernel_rfl) (by kernel_rfl) rfl rfl rfl rfl ?_
 intro B
 refine .seq<|.region rfl<|.z rfl rfl<|.nil<|sq_n<|.seq<|.region rfl<|.z rfl rfl<|.nil<|sq_n<|.seq<|.region rfl<|.z rfl rfl<|.nil<|sq_n<|.seq<|.seq<|.region rfl<|.z rfl rfl<|.nil<|sq_n<|.block<|.acc 6 29 ?_
 obtain ⟨o1,hF,hG1⟩:=bS hF
 refine .loopx (α:=L_r04_Rooms_1) [(0,_)] [] (fun fx x=>(3,x.v1_2) :: (4,.i .i64 x.z1_5) :: (5,.i .i64 (x.k1_6:Int)) :: fx) (fun mx x=>[.acc x.v1_2 6 x.cs1_3 29]) (fun x g'=>AccR RoomR 6 g' x.v1_2 x.cs1_3 x.d1_1∧x.k1_6≤p0.length∧Qcg (p0.drop x.k1_6) x.d1_1 x.z1_5 x.k1_6=some o1) (fun x=>p0.length - x.k1_6) (L_r04_Rooms_1.mk _ _ [] 0 0) ⟨rfl,rfl,rfl,rfl,trivial⟩ (List.Sublist.refl _) ⟨AccR.nil,(by first | omega | (dsimp only;omega)),hF⟩ ?_
 intro x1 gl1 hlo1 hJ1
 obtain ⟨v1_2,cs1_3,d1_1,z1_5,k1_6⟩:=x1
 try dsimp only at hJ1
 obtain ⟨ha1_4,hk1,hF⟩:=hJ1
 refine .al0 [(3,v1_2),(4,.i .i64 z1_5),(5,.i .i64 (k1_6:Int)),(0,_)] ?_
 replace h0_0:=h0_0.mono Arr5R.mono hlo1
 have lha1_4:=ha1_4.le
 refine .seq<|.seq<|.region rfl<|.m rfl rfl<|.m rfl rfl<|.q (.lenR rfl rfl rfl e_73 h0_0)<|.b rfl rfl rfl rfl<|.m rfl rfl<|.split (t:=12) rfl (fun h2=>?_) (fun h2=>?_)
 ·have kh2:=dT h2
  obtain ⟨y1,hy1⟩:=getK (l:=p0) (k:=k1_6) kh2
  rw [dc hy1,Qcg] at hF
  refine .py h2 (.move rfl)<|.py h2 (.bin rfl rfl rfl)<|.q (.pickT rfl h2 rfl)<|.nil<|sq_n<|.cond rfl (fun h3=>?_) (fun h3=>?_)
  ·have kh3:=dT h3
   have hF:=cT h3 hF
   refine .skip<|sq_n<|.seq<|.block<|.seq<|.region rfl<|.m rfl rfl<|.m rfl rfl<|.ixk (j:=k1_6) .no rfl rfl h0_0 rfl e_73 hy1 ?_
   rintro b4 o4 _ hq4 rfl
   refine .w (.pa 0 (vs:=[_,_,_,_,_]) rfl hq4 rfl a_38 s_38 rfl rfl)<|.alloc .no rfl z_38 fun b5=>.st (cs':=[_,_,_,_,_]) .no rfl rfl rfl rfl s_38 rfl rfl .hd rfl rfl<|.nil<|sq_n<|.seq<|.region rfl<|.m rfl rfl<|.q (.ixa (j:=0) rfl rfl ae_38 (by decide))<|.w (.s rfl .hd a_3 rfl) ?_
   obtain ⟨q6,hq6,hF⟩:=bS hF
   refine .callV .no rfl rfl rfl (Qai (y1 0) 5 _ _ hq6)<|.b rfl rfl rfl rfl<|.b rfl rfl rfl rfl<|.z rfl rfl<|.nil<|sq_n<|.seq<|.region rfl<|.q (.ixa (j:=1) rfl rfl ae_38 (by decide))<|.w (.s rfl .hd a_3 rfl) ?_
   obtain ⟨q7,hq7,hF⟩:=bS hF
   refine .callV .no rfl rfl rfl (Qai (y1 1) 1500 _ _ hq7)<|.z rfl rfl<|.nil<|sq_n<|.draw (tb:=[r0 0 0,r0 0 0,r0 0 0,r0 4 0,r0 12 0,r0 28 1,r0 0 0,r0 64 0,r0 220 1,r0 0 0,r0 512 0,r0 1536 0,r0 4060 2,r0 0 0,r0 0 0,r0 0 0,r0 32768 0,r1 106460 3,r1 253916 4,r1 524252 4,r1 1048574 4,r1 2097150 4,r1 4194303 4,r1 8388607 5]) rfl (by kernel_rfl) (by kernel_rfl) ?_
   refine .m rfl rfl<|.m rfl rfl<|.q (.ixa (j:=2) rfl rfl ae_38 (by decide))<|.y rfl rfl rfl (.s rfl .hd a_3 rfl) ?_
   obtain ⟨q8,hq8,hF⟩:=bS hF
   refine .callV .no rfl rfl rfl rfl rfl (Qai (y1 2) 7 _ _ hq8)<|.b rfl rfl rfl rfl<|.q (.ixa (j:=3) rfl rfl ae_38 (by decide))<|.ld (k:=1) .no rfl rfl rfl trivial (.s rfl .hd a_3 rfl) ?_
   obtain ⟨q9,hq9,hF⟩:=bS hF
   refine .callV .no rfl rfl rfl rfl rfl (Qai (y1 3) 9 _ _ hq9)<|.q (.ixa (j:=3) rfl rfl ae_38 (by decide))<|.ld (k:=2) .no rfl rfl rfl trivial (.s rfl .hd a_3 rfl)<|.b rfl rfl rfl rfl ?_
   obtain ⟨q10,hq10,hF⟩:=bS hF
   refine .callV .no rfl rfl rfl rfl rfl (Qai (wr (Int.tdiv (y1 3) 9)) 9 _ _ hq10)<|.m rfl rfl<|.m rfl rfl<|.q (.ixa (j:=4) rfl rfl ae_38 (by decide))<|.ld (k:=3) .no rfl rfl rfl trivial (.s rfl .hd a_3 rfl) ?_
   obtain ⟨q11,hq11,hF⟩:=bS hF
   refine .callV .no rfl rfl rfl rfl rfl (Qai (y1 4) 700 _ _ hq11)<|.b rfl rfl rfl rfl<|.q (.build (qs:=[(0,_),(1,_)]) (cs:=[_,_]) rfl b_27 rfl)<|.q (.build (qs:=[(0,_),(1,_),(2,_),(3,_),(4,_)]) (cs:=[_,_,_,_,_,_]) rfl b_29 rfl)<|.f .no rfl (.bs (qs:=[(0,_)]) (c:=[_,_,_,_,_,_]) rfl sl_25 el_29 (by decide) rfl) fun b12=>?_
   obtain ⟨hl13,hF⟩:=ckS hF
   have hl13:=of_decide_eq_true hl13
   refine .ne (.tl .hd) .hd fun hn13_b5=>.x .no rfl rfl (Qch rfl Qci) (Qbp rfl Qbo) (Qcq rfl) (fun _ _=>.all (Qaa rfl (Qaa rfl (Qaa rfl (Qaa rfl rfl))))) (.appA (m:=1) (new:=[_,_,_,_,_,_]) rfl rfl rfl (.tl (.tl .hd)) sl_25 el_29 (.of rfl .sl sl_25 .hd (Nat.le_of_ble_eq_true rfl) rfl) (by decide) rfl (AccR.room (R:=RoomR) (ys:=[(Room.mk (wr (z1_5+(wr ((1:Int)+q6)))) (wr ((1:Int)+q8)) q9 q10 q7 (wr (q7+q11)))]) ha1_4 (Ls.cons (c:=[_,_,_,_,_,_]) rfl rfl .nil) hl13) rfl) fun v13=>.as (.tl (.tl .hd)) fun av13=>?_
   have ha13:=AccR.app (R:=RoomR) (g:=gl1) (ys:=[(Room.mk (wr (z1_5+(wr ((1:Int)+q6)))) (wr ((1:Int)+q8)) q9 q10 q7 (wr (q7+q11)))]) ha1_4 (Ls.cons (c:=[_,_,_,_,_,_]) rfl rfl .nil) hl13 av13
   have lha13:=ha13.le
   refine .z rfl rfl<|.nil<|bq_n<|sq_n<|.region rfl<|.m rfl rfl<|.q (.inc1 rfl rfl (by omega))<|.z rfl rfl<|.nil<|Qac (L_r04_Rooms_1.mk _ _ (d1_1 ++ [(Room.mk (wr (z1_5+(wr ((1:Int)+q6)))) (wr ((1:Int)+q8)) q9 q10 q7 (wr (q7+q11)))]) (wr (z1_5+(wr ((1:Int)+q6)))) (k1_6+1)) ⟨rfl,rfl,rfl,rfl,trivial⟩ (.cons _ (.cons _ (List.Sublist.refl _))) (Le.refl _) ?_ ?_
   ·exact ⟨ha13,(Qam hy1),hF⟩
   ·simp only;omega
  have hF:=cF h3 hF
  obtain rfl:=sI hF
  have hF:=hG1
  refine .exit<|sq_e<|lq_e<|bq_x rfl<|sq_n<|.seq<|.region rfl<|.m rfl rfl<|.z rfl rfl<|.nil<|sq_n<|.see (Qbe RoomR.mono .hd (by decide) ha1_4) ?_
  rintro gz14 ⟨hle14,hz14⟩
  replace ha1_4:=ha1_4.mono RoomR.mono hle14
  refine .ret ?_
  obtain rfl:=sI hF
  refine Qab (hlo1.trans hle14) (.tmp rfl .nil) rfl ?_
  exact ⟨_,rfl,hz14⟩
 have kh2:=dF h2
 rw [dn (by omega),Qcg] at hF
 refine .k h2<|.k h2<|.q (.pickF rfl h2 rfl)<|.nil<|sq_n<|.condF rfl rfl ?_
 obtain rfl:=sI hF
 have hF:=hG1
 refine .exit<|sq_e<|lq_e<|bq_x rfl<|sq_n<|.seq<|.region rfl<|.m rfl rfl<|.z rfl rfl<|.nil<|sq_n<|.see (Qbe RoomR.mono .hd (by decide) ha1_4) ?_
 rintro gz15 ⟨hle15,hz15⟩
 refine .ret ?_
 obtain rfl:=sI hF
 refine Qab (hlo1.trans hle15) (.tmp rfl .nil) rfl ?_
 exact ⟨_,rfl,hz15⟩
structure L_r04_Sums_1 where
 k1_1:Nat
 z1_2:Int
 z1_3:Int
 z1_4:Int
 z1_5:Int
 z1_6:Int
def Qbf (p0:Version) (p2:(List Int)):List Room→Nat→Int→Int→Int→Int→Int→Option ((Int × Int × Int × Int × Int))
 | [],k1_1,z1_2,z1_3,z1_4,z1_5,z1_6=>some ((z1_2,z1_3,z1_4,z1_5,z1_6))
 | y1 :: ys1,k1_1,z1_2,z1_3,z1_4,z1_5,z1_6=>((F_r04_group p0 y1).bind fun q6=>(cond (decide ((0:Int) < q6.1)) ((cond (decide ((wr (q6.1 - 1))=0)) (((Qei p2 (k1_1:Int)).bind fun q10=>((Qak q10 (wr ((wr (y1.hi - y1.lo))+1))).bind fun q13=>Qbf p0 p2 ys1 (k1_1+1) (wr (z1_2+(wr (y1.lo+q13)))) z1_3 z1_4 z1_5 z1_6))) ((cond (decide ((wr (q6.1 - 1))=1)) (((Qei p2 (k1_1:Int)).bind fun q15=>((Qak q15 (wr ((wr (y1.hi - y1.lo))+1))).bind fun q18=>Qbf p0 p2 ys1 (k1_1+1) z1_2 (wr (z1_3+(wr (y1.lo+q18)))) z1_4 z1_5 z1_6))) ((cond (decide ((wr (q6.1 - 1))=2)) (((Qei p2 (k1_1:Int)).bind fun q20=>((Qak q20 (wr ((wr (y1.hi - y1.lo))+1))).bind fun q23=>Qbf p0 p2 ys1 (k1_1+1) z1_2 z1_3 (wr (z1_4+(wr (y1.lo+q23)))) z1_5 z1_6))) ((cond (decide ((wr (q6.1 - 1))=3)) (((Qei p2 (k1_1:Int)).bind fun q25=>((Qak q25 (wr ((wr (y1.hi - y1.lo))+1))).bind fun q28=>Qbf p0 p2 ys1 (k1_1+1) z1_2 z1_3 z1_4 (wr (z1_5+(wr (y1.lo+q28)))) z1_6))) ((cond (decide ((wr (q6.1 - 1))=4)) (((Qei p2 (k1_1:Int)).bind fun q30=>((Qak q30 (wr ((wr (y1.hi - y1.lo))+1))).bind fun q33=>Qbf p0 p2 ys1 (k1_1+1) z1_2 z1_3 z1_4 z1_5 (wr (z1_6+(wr (y1.lo+q33))))))) (none))))))))))) (Qbf p0 p2 ys1 (k1_1+1) z1_2 z1_3 z1_4 z1_5 z1_6)))
def Qfj (p0:Version) (p1:(List Room)) (p2:(List Int)):Option ((Nat→Int)):=((Qbf p0 p2 p1 0 0 0 0 0 0).bind fun ⟨o1_0_1,o1_0_2,o1_0_3,o1_0_4,o1_0_5⟩=>some (arr [o1_0_1,o1_0_2,o1_0_3,o1_0_4,o1_0_5] o1_0_1))
set_option maxHeartbeats 1000000 in
theorem F_r04_Sums_ok (p0:Version) (p1:(List Room)) (p2:(List Int)) (v1_0 v2_0:V) (cs0:List V) (g:G) (h0:VersionR g cs0 p0) (h1_0:RS RoomR 6 g v1_0 p1) (h2_0:RS IntR 1 g v2_0 p2) (r:(Nat→Int)) (hF:Qfj p0 p1 p2=some r):Fv Tryz.prog natS (.f 61 [] []) [.agg cs0,v1_0,v2_0] g (.agg [.i .i64 (r 0),.i .i64 (r 1),.i .i64 (r 2),.i .i64 (r 3),.i .i64 (r 4)]):=by
 refine Fw.fv ?_
 unfold Qfj at hF
 obtain ⟨pq0,lvq0,rfl,hpq0,hlq0⟩:=h0
 have lh0_1:=hpq0.1
 have lh0_2:=(hlq0 0 (by decide)).1
 have lh0_3:=(hlq0 1 (by decide)).1
 have lh0_4:=(hlq0 2 (by decide)).1
 have lh0_5:=(hlq0 3 (by decide)).1
 have lh0_6:=(hlq0 4 (by decide)).1
 have lh0_7:=(hlq0 5 (by decide)).1
 have lh0_8:=(hlq0 6 (by decide)).1
 have lh0_9:=(hlq0 7 (by decide)).1
 have lh0_10:=(hlq0 8 (by decide)).1
 have lh0_11:=(hlq0 9 (by decide)).1
 have lh1_0:=h1_0.1
 have lh2_0:=h2_0.1
 refine Fw.enter (N:=60) (al:=[(2,_),(1,_),(0,_)]) Tryz.func61 (by kernel_rfl) (by kernel_rfl) rfl rfl rfl rfl ?_
 intro B
 refine .seq<|.region rfl<|.box .no rfl rfl rfl rfl fun b1=>.alloc .no rfl z_38 fun b2=>.nil<|sq_n<|.seq<|.region rfl<|.alloc .no rfl z_38 fun b3=>.nil<|sq_n<|.seq<|.seq<|.region rfl<|.z rfl rfl<|.nil<|sq_n<|.block ?_
 obtain ⟨o1,hF,hG1⟩:=bS hF
 refine .loopx (α:=L_r04_Sums_1) [(1,_),(2,_),(3,_),(6,_),(7,_)] [_,_] (fun fx x=>(8,.i .i64 (x.k1_1:Int)) :: fx) (fun mx x=>[.blk b3 (.cells [.i .i64 x.z1_2,.i .i64 x.z1_3,.i .i64 x.z1_4,.i .i64 x.z1_5,.i .i64 x.z1_6] 38),rg mx 0,rg mx 1]) (fun x g'=>x.k1_1≤p1.length∧Qbf p0 p2 (p1.drop x.k1_1) x.k1_1 x.z1_2 x.z1_3 x.z1_4 x.z1_5 x.z1_6=some o1) (fun x=>p1.length - x.k1_1) (L_r04_Sums_1.mk 0 0 0 0 0 0) ⟨rfl,rfl,rfl,rfl,rfl,rfl,trivial⟩ (List.Sublist.refl _) ⟨(by first | omega | (dsimp only;omega)),hF⟩ ?_
 intro x1 gl1 hlo1 hJ1
 obtain ⟨k1_1,z1_2,z1_3,z1_4,z1_5,z1_6⟩:=x1
 try dsimp only at hJ1
 obtain ⟨hk1,hF⟩:=hJ1
 refine .al0 [(8,.i .i64 (k1_1:Int)),(1,_),(2,_),(3,_),(6,_),(7,_)] ?_
 replace hpq0:=hpq0.mono PutR.mono hlo1
 replace hlq0:=fun k hk=>(hlq0 k hk).mono PieceR.mono hlo1
 replace h1_0:=h1_0.mono RoomR.mono hlo1
 replace h2_0:=h2_0.mono IntR.mono hlo1
 refine .seq<|.seq<|.region rfl<|.m rfl rfl<|.m rfl rfl<|.q (.lenR rfl rfl rfl e_25 h1_0)<|.b rfl rfl rfl rfl<|.nil<|sq_n<|.cond rfl (fun h4=>?_) (fun h4=>?_)
 ·have kh4:=dT h4
  obtain ⟨y1,hy1⟩:=getK (l:=p1) (k:=k1_1) kh4
  rw [dc hy1,Qbf] at hF
  refine .skip<|sq_n<|.seq<|.block<|.seq<|.draw (tb:=[r0 0 0,r0 0 0,r0 0 0,r0 6 0,r0 14 0,r1 31 0,r1 63 1,r1 127 1,r1 127 1,r1 255 1,r1 1023 1]) rfl (by kernel_rfl) (by kernel_rfl) ?_
  refine .y rfl rfl rfl (.a (vs:=[_,_,_,_,_,_,_,_,_,_,_,_]) rfl (.tl (.tl .hd)) a_97 s_97 rfl rfl)<|.m rfl rfl<|.m rfl rfl<|.ixk (j:=k1_1) .no rfl rfl h1_0 rfl e_25 hy1 ?_
  rintro b5 o5 _ hq5 rfl
  refine .y rfl rfl rfl (.pa 0 (vs:=[_,_,_,_,_,_]) rfl hq5 rfl a_29 s_29 rfl rfl) ?_
  obtain ⟨q6,hq6,hF⟩:=bS hF
  refine .callV .no rfl rfl rfl rfl rfl (F_r04_group_ok p0 y1 _ _ ⟨_,_,rfl,hpq0,hlq0⟩ _ hq6)<|.m rfl rfl<|.q (.ext rfl rfl)<|.q (.ext rfl rfl)<|.z rfl rfl<|.z rfl rfl<|.nil<|sq_n<|.seq<|.region rfl<|.m rfl rfl<|.b rfl rfl rfl rfl<|.nil<|sq_n<|.cond rfl (fun h7=>?_) (fun h7=>?_)
  ·have kh7:=dT h7
   have hF:=cT h7 hF
   refine .draw (tb:=[r0 0 0,r0 1 0,r0 3 0,r0 7 0,r0 0 0,r0 0 0,r0 48 0,r0 112 0,r0 240 0,r0 496 0,r0 0 0,r0 0 0,r0 3072 0,r0 0 0,r0 0 0,r0 24576 0,r0 57344 0,r0 122880 0,r0 253952 0,r0 0 0,r0 0 0,r0 1572864 0,r0 3670016 0,r0 7864320 0,r0 16252928 0,r0 33546240 0,r0 67100672 0,r0 134216704 1,r0 268435440 2,r1 536870911 2,r1 1073741823 2,r1 2147483647 2]) rfl (by kernel_rfl) (by kernel_rfl) ?_
   refine .m rfl rfl<|.b rfl rfl rfl rfl ?_
   by_cases e8_0:((wr (q6.1 - 1)):Int)=0
   ·have hF:=cT (decide_eq_true e8_0) hF
    refine .q (.ixae (q:=0) rfl rfl e8_0 ae_38 (by decide))<|.y rfl rfl rfl (.s rfl .hd a_3 rfl)<|.m rfl rfl<|.m rfl rfl<|.ixk (j:=k1_1) .no rfl rfl h1_0 rfl e_25 hy1 ?_
    rintro b9 o9 _ hq9 rfl
    refine .q (.fa rfl Qbk)<|.q (.fa rfl Qao)<|.y rfl rfl rfl (.ps 4 rfl hq9 rfl a_3 rfl)<|.m rfl rfl<|.m rfl rfl ?_
    obtain ⟨q10,hq10,hF⟩:=bS hF
    refine .callV .no rfl rfl rfl rfl rfl (Qem p2 (k1_1:Int) _ _ h2_0 _ hq10)<|.m rfl rfl<|.m rfl rfl<|.ixk (j:=k1_1) .no rfl rfl h1_0 rfl e_25 hy1 ?_
    rintro b11 o11 _ hq11 rfl
    refine .q (.fa rfl Qbk)<|.q (.fa rfl Qap)<|.ld (k:=1) .no rfl rfl rfl trivial (.ps 5 rfl hq11 rfl a_3 rfl)<|.m rfl rfl<|.m rfl rfl<|.ixk (j:=k1_1) .no rfl rfl h1_0 rfl e_25 hy1 ?_
    rintro b12 o12 _ hq12 rfl
    refine .q (.fa rfl Qbk)<|.q (.fa rfl Qao)<|.ld (k:=1) .no rfl rfl rfl trivial (.ps 4 rfl hq12 rfl a_3 rfl)<|.b rfl rfl rfl rfl<|.b rfl rfl rfl rfl ?_
    obtain ⟨q13,hq13,hF⟩:=bS hF
    refine .callV .no rfl rfl rfl rfl rfl (Qai q10 (wr ((wr (y1.hi - y1.lo))+1)) _ _ hq13)<|.b rfl rfl rfl rfl<|.b rfl rfl rfl rfl<|.q (.ixae (q:=0) rfl rfl e8_0 ae_38 (by decide))<|.st (cs':=[_,_,_,_,_]) .no rfl rfl rfl rfl rfl rfl s_3 rfl rfl .hd rfl rfl (.all (Qaa rfl (Qaa rfl (Qaa rfl (Qaa rfl rfl)))))<|.nil<|bq_n<|sq_n<|.region rfl<|.m rfl rfl<|.q (.inc1 rfl rfl (by omega))<|.z rfl rfl<|.nil<|Qac (L_r04_Sums_1.mk (k1_1+1) (wr (z1_2+(wr (y1.lo+q13)))) z1_3 z1_4 z1_5 z1_6) ⟨rfl,rfl,rfl,rfl,rfl,rfl,trivial⟩ (List.Sublist.refl _) (Le.refl _) ?_ ?_
    ·exact ⟨(Qam hy1),hF⟩
    ·simp only;omega
   have hF:=cF (decide_eq_false e8_0) hF
   by_cases e8_1:((wr (q6.1 - 1)):Int)=1
   ·have hF:=cT (decide_eq_true e8_1) hF
    refine .q (.ixae (q:=1) rfl rfl e8_1 ae_38 (by decide))<|.y rfl rfl rfl (.s rfl .hd a_3 rfl)<|.m rfl rfl<|.m rfl rfl<|.ixk (j:=k1_1) .no rfl rfl h1_0 rfl e_25 hy1 ?_
    rintro b14 o14 _ hq14 rfl
    refine .q (.fa rfl Qbk)<|.q (.fa rfl Qao)<|.y rfl rfl rfl (.ps 4 rfl hq14 rfl a_3 rfl)<|.m rfl rfl<|.m rfl rfl ?_
    obtain ⟨q15,hq15,hF⟩:=bS hF
    refine .callV .no rfl rfl rfl rfl rfl (Qem p2 (k1_1:Int) _ _ h2_0 _ hq15)<|.m rfl rfl<|.m rfl rfl<|.ixk (j:=k1_1) .no rfl rfl h1_0 rfl e_25 hy1 ?_
    rintro b16 o16 _ hq16 rfl
    refine .q (.fa rfl Qbk)<|.q (.fa rfl Qap)<|.ld (k:=1) .no rfl rfl rfl trivial (.ps 5 rfl hq16 rfl a_3 rfl)<|.m rfl rfl<|.m rfl rfl<|.ixk (j:=k1_1) .no rfl rfl h1_0 rfl e_25 hy1 ?_
    rintro b17 o17 _ hq17 rfl
    refine .q (.fa rfl Qbk)<|.q (.fa rfl Qao)<|.ld (k:=1) .no rfl rfl rfl trivial (.ps 4 rfl hq17 rfl a_3 rfl)<|.b rfl rfl rfl rfl<|.b rfl rfl rfl rfl ?_
    obtain ⟨q18,hq18,hF⟩:=bS hF
    refine .callV .no rfl rfl rfl rfl rfl (Qai q15 (wr ((wr (y1.hi - y1.lo))+1)) _ _ hq18)<|.b rfl rfl rfl rfl<|.b rfl rfl rfl rfl<|.q (.ixae (q:=1) rfl rfl e8_1 ae_38 (by decide))<|.st (cs':=[_,_,_,_,_]) .no rfl rfl rfl rfl rfl rfl s_3 rfl rfl .hd rfl rfl (.all (Qaa rfl (Qaa rfl (Qaa rfl (Qaa rfl rfl)))))<|.nil<|bq_n<|sq_n<|.region rfl<|.m rfl rfl<|.q (.inc1 rfl rfl (by omega))<|.z rfl rfl<|.nil<|Qac (L_r04_Sums_1.mk (k1_1+1) z1_2 (wr (z1_3+(wr (y1.lo+q18)))) z1_4 z1_5 z1_6) ⟨rfl,rfl,rfl,rfl,rfl,rfl,trivial⟩ (List.Sublist.refl _) (Le.refl _) ?_ ?_
    ·exact ⟨(Qam hy1),hF⟩
    ·simp only;omega
   have hF:=cF (decide_eq_false e8_1) hF
   by_cases e8_2:((wr (q6.1 - 1)):Int)=2
   ·have hF:=cT (decide_eq_true e8_2) hF
    refine .q (.ixae (q:=2) rfl rfl e8_2 ae_38 (by decide))<|.y rfl rfl rfl (.s rfl .hd a_3 rfl)<|.m rfl rfl<|.m rfl rfl<|.ixk (j:=k1_1) .no rfl rfl h1_0 rfl e_25 hy1 ?_
    rintro b19 o19 _ hq19 rfl
    refine .q (.fa rfl Qbk)<|.q (.fa rfl Qao)<|.y rfl rfl rfl (.ps 4 rfl hq19 rfl a_3 rfl)<|.m rfl rfl<|.m rfl rfl ?_
    obtain ⟨q20,hq20,hF⟩:=bS hF
    refine .callV .no rfl rfl rfl rfl rfl (Qem p2 (k1_1:Int) _ _ h2_0 _ hq20)<|.m rfl rfl<|.m rfl rfl<|.ixk (j:=k1_1) .no rfl rfl h1_0 rfl e_25 hy1 ?_
    rintro b21 o21 _ hq21 rfl
    refine .q (.fa rfl Qbk)<|.q (.fa rfl Qap)<|.ld (k:=1) .no rfl rfl rfl trivial (.ps 5 rfl hq21 rfl a_3 rfl)<|.m rfl rfl<|.m rfl rfl<|.ixk (j:=k1_1) .no rfl rfl h1_0 rfl e_25 hy1 ?_
    rintro b22 o22 _ hq22 rfl
    refine .q (.fa rfl Qbk)<|.q (.fa rfl Qao)<|.ld (k:=1) .no rfl rfl rfl trivial (.ps 4 rfl hq22 rfl a_3 rfl)<|.b rfl rfl rfl rfl<|.b rfl rfl rfl rfl ?_
    obtain ⟨q23,hq23,hF⟩:=bS hF
    refine .callV .no rfl rfl rfl rfl rfl (Qai q20 (wr ((wr (y1.hi - y1.lo))+1)) _ _ hq23)<|.b rfl rfl rfl rfl<|.b rfl rfl rfl rfl<|.q (.ixae (q:=2) rfl rfl e8_2 ae_38 (by decide))<|.st (cs':=[_,_,_,_,_]) .no rfl rfl rfl rfl rfl rfl s_3 rfl rfl .hd rfl rfl (.all (Qaa rfl (Qaa rfl (Qaa rfl (Qaa rfl rfl)))))<|.nil<|bq_n<|sq_n<|.region rfl<|.m rfl rfl<|.q (.inc1 rfl rfl (by omega))<|.z rfl rfl<|.nil<|Qac (L_r04_Sums_1.mk (k1_1+1) z1_2 z1_3 (wr (z1_4+(wr (y1.lo+q23)))) z1_5 z1_6) ⟨rfl,rfl,rfl,rfl,rfl,rfl,trivial⟩ (List.Sublist.refl _) (Le.refl _) ?_ ?_
    ·exact ⟨(Qam hy1),hF⟩
    ·simp only;omega
   have hF:=cF (decide_eq_false e8_2) hF
   by_cases e8_3:((wr (q6.1 - 1)):Int)=3
   ·have hF:=cT (decide_eq_true e8_3) hF
    refine .q (.ixae (q:=3) rfl rfl e8_3 ae_38 (by decide))<|.y rfl rfl rfl (.s rfl .hd a_3 rfl)<|.m rfl rfl<|.m rfl rfl<|.ixk (j:=k1_1) .no rfl rfl h1_0 rfl e_25 hy1 ?_
    rintro b24 o24 _ hq24 rfl
    refine .q (.fa rfl Qbk)<|.q (.fa rfl Qao)<|.y rfl rfl rfl (.ps 4 rfl hq24 rfl a_3 rfl)<|.m rfl rfl<|.m rfl rfl ?_
    obtain ⟨q25,hq25,hF⟩:=bS hF
    refine .callV .no rfl rfl rfl rfl rfl (Qem p2 (k1_1:Int) _ _ h2_0 _ hq25)<|.m rfl rfl<|.m rfl rfl<|.ixk (j:=k1_1) .no rfl rfl h1_0 rfl e_25 hy1 ?_
    rintro b26 o26 _ hq26 rfl
    refine .q (.fa rfl Qbk)<|.q (.fa rfl Qap)<|.ld (k:=1) .no rfl rfl rfl trivial (.ps 5 rfl hq26 rfl a_3 rfl)<|.m rfl rfl<|.m rfl rfl<|.ixk (j:=k1_1) .no rfl rfl h1_0 rfl e_25 hy1 ?_
    rintro b27 o27 _ hq27 rfl
    refine .q (.fa rfl Qbk)<|.q (.fa rfl Qao)<|.ld (k:=1) .no rfl rfl rfl trivial (.ps 4 rfl hq27 rfl a_3 rfl)<|.b rfl rfl rfl rfl<|.b rfl rfl rfl rfl ?_
    obtain ⟨q28,hq28,hF⟩:=bS hF
    refine .callV .no rfl rfl rfl rfl rfl (Qai q25 (wr ((wr (y1.hi - y1.lo))+1)) _ _ hq28)<|.b rfl rfl rfl rfl<|.b rfl rfl rfl rfl<|.q (.ixae (q:=3) rfl rfl e8_3 ae_38 (by decide))<|.st (cs':=[_,_,_,_,_]) .no rfl rfl rfl rfl rfl rfl s_3 rfl rfl .hd rfl rfl (.all (Qaa rfl (Qaa rfl (Qaa rfl (Qaa rfl rfl)))))<|.nil<|bq_n<|sq_n<|.region rfl<|.m rfl rfl<|.q (.inc1 rfl rfl (by omega))<|.z rfl rfl<|.nil<|Qac (L_r04_Sums_1.mk (k1_1+1) z1_2 z1_3 z1_4 (wr (z1_5+(wr (y1.lo+q28)))) z1_6) ⟨rfl,rfl,rfl,rfl,rfl,rfl,trivial⟩ (List.Sublist.refl _) (Le.refl _) ?_ ?_
    ·exact ⟨(Qam hy1),hF⟩
    ·simp only;omega
   have hF:=cF (decide_eq_false e8_3) hF
   by_cases e8_4:((wr (q6.1 - 1)):Int)=4
   ·have hF:=cT (decide_eq_true e8_4) hF
    refine .q (.ixae (q:=4) rfl rfl e8_4 ae_38 (by decide))<|.y rfl rfl rfl (.s rfl .hd a_3 rfl)<|.m rfl rfl<|.m rfl rfl<|.ixk (j:=k1_1) .no rfl rfl h1_0 rfl e_25 hy1 ?_
    rintro b29 o29 _ hq29 rfl
    refine .q (.fa rfl Qbk)<|.q (.fa rfl Qao)<|.y rfl rfl rfl (.ps 4 rfl hq29 rfl a_3 rfl)<|.m rfl rfl<|.m rfl rfl ?_
    obtain ⟨q30,hq30,hF⟩:=bS hF
    refine .callV .no rfl rfl rfl rfl rfl (Qem p2 (k1_1:Int) _ _ h2_0 _ hq30)<|.m rfl rfl<|.m rfl rfl<|.ixk (j:=k1_1) .no rfl rfl h1_0 rfl e_25 hy1 ?_
    rintro b31 o31 _ hq31 rfl
    refine .q (.fa rfl Qbk)<|.q (.fa rfl Qap)<|.ld (k:=1) .no rfl rfl rfl trivial (.ps 5 rfl hq31 rfl a_3 rfl)<|.m rfl rfl<|.m rfl rfl<|.ixk (j:=k1_1) .no rfl rfl h1_0 rfl e_25 hy1 ?_
    rintro b32 o32 _ hq32 rfl
    refine .q (.fa rfl Qbk)<|.q (.fa rfl Qao)<|.ld (k:=1) .no rfl rfl rfl trivial (.ps 4 rfl hq32 rfl a_3 rfl)<|.b rfl rfl rfl rfl<|.b rfl rfl rfl rfl ?_
    obtain ⟨q33,hq33,hF⟩:=bS hF
    refine .callV .no rfl rfl rfl rfl rfl (Qai q30 (wr ((wr (y1.hi - y1.lo))+1)) _ _ hq33)<|.b rfl rfl rfl rfl<|.b rfl rfl rfl rfl<|.q (.ixae (q:=4) rfl rfl e8_4 ae_38 (by decide))<|.st (cs':=[_,_,_,_,_]) .no rfl rfl rfl rfl rfl rfl s_3 rfl rfl .hd rfl rfl (.all (Qaa rfl (Qaa rfl (Qaa rfl (Qaa rfl rfl)))))<|.nil<|bq_n<|sq_n<|.region rfl<|.m rfl rfl<|.q (.inc1 rfl rfl (by omega))<|.z rfl rfl<|.nil<|Qac (L_r04_Sums_1.mk (k1_1+1) z1_2 z1_3 z1_4 z1_5 (wr (z1_6+(wr (y1.lo+q33))))) ⟨rfl,rfl,rfl,rfl,rfl,rfl,trivial⟩ (List.Sublist.refl _) (Le.refl _) ?_ ?_
    ·exact ⟨(Qam hy1),hF⟩
    ·simp only;omega
   have hF:=cF (decide_eq_false e8_4) hF
   cases hF
  have kh7:=dF h7
  have hF:=cF h7 hF
  refine .skip<|bq_n<|sq_n<|.region rfl<|.m rfl rfl<|.q (.inc1 rfl rfl (by omega))<|.z rfl rfl<|.nil<|Qac (L_r04_Sums_1.mk (k1_1+1) z1_2 z1_3 z1_4 z1_5 z1_6) ⟨rfl,rfl,rfl,rfl,rfl,rfl,trivial⟩ (List.Sublist.refl _) (Le.refl _) ?_ ?_
  ·exact ⟨(Qam hy1),hF⟩
  ·simp only;omega
 have kh4:=dF h4
 rw [dn (by omega),Qbf] at hF
 obtain rfl:=sI hF
 have hF:=hG1
 refine .exit<|sq_e<|lq_e<|bq_x rfl<|sq_n<|.seq<|.region rfl<|.w (.a (vs:=[_,_,_,_,_]) rfl .hd a_38 s_38 rfl rfl)<|.st (cs':=[_,_,_,_,_]) .no rfl rfl rfl rfl s_38 rfl rfl (.tl .hd) rfl rfl<|.nil<|sq_n<|.ret ?_
 obtain rfl:=sI hF
 refine Qab hlo1 (.cell (.a (vs:=[_,_,_,_,_]) rfl (.tl .hd) a_38 s_38 rfl rfl) .nil) rfl ?_
 rfl
end Go.Proofs.YtjflgemfeofciaaGreatDoor
