import Derived.Test.YtjflgemfeofciaaGreatDoorMY7
namespace Go.Proofs.YtjflgemfeofciaaGreatDoor
open Go Go.Ev
set_option linter.unusedVariables false
set_option linter.unusedSimpArgs false
set_option maxRecDepth 10000
structure T_question where
 c_:Code
 version_:Version
 index_:Int
 e_:Int
def R_question (g:G) (cs:List V) (x:T_question):Prop:=∃ v1 v3 v4 v5 v6 v7 v8 v9 v10 v11 v12 v13,cs=[.s (x.c_.name),v1,.i .i64 (x.version_.fr),v3,v4,v5,v6,v7,v8,v9,v10,v11,v12,v13,.i .i64 (x.index_),.i .i64 (x.e_)]∧RS VersionR 12 g v1 (x.c_.vs)∧RS PutR 2 g v3 (x.version_.puts)∧RS PieceR 3 g v4 ((x.version_.ln 0))∧RS PieceR 3 g v5 ((x.version_.ln 1))∧RS PieceR 3 g v6 ((x.version_.ln 2))∧RS PieceR 3 g v7 ((x.version_.ln 3))∧RS PieceR 3 g v8 ((x.version_.ln 4))∧RS PieceR 3 g v9 ((x.version_.ln 5))∧RS PieceR 3 g v10 ((x.version_.ln 6))∧RS PieceR 3 g v11 ((x.version_.ln 7))∧RS PieceR 3 g v12 ((x.version_.ln 8))∧RS PieceR 3 g v13 ((x.version_.ln 9))
theorem R_question.one {g:G} {cs:List V} {x:T_question} (h:R_question g cs x):Qb cs=true:=by
 obtain ⟨v1,v3,v4,v5,v6,v7,v8,v9,v10,v11,v12,v13,rfl,h1,h3,h4,h5,h6,h7,h8,h9,h10,h11,h12,h13⟩:=h
 exact (Qa rfl (Qa h1.one (Qa rfl (Qa h3.one (Qa h4.one (Qa h5.one (Qa h6.one (Qa h7.one (Qa h8.one (Qa h9.one (Qa h10.one (Qa h11.one (Qa h12.one (Qa h13.one (Qa rfl (Qa rfl rfl))))))))))))))))
theorem R_question.mono:∀ g g' cs x,Le g g'→R_question g cs x→R_question g' cs x:=fun _ _ _ _ hl ⟨v1,v3,v4,v5,v6,v7,v8,v9,v10,v11,v12,v13,h,h1,h3,h4,h5,h6,h7,h8,h9,h10,h11,h12,h13⟩=>⟨v1,v3,v4,v5,v6,v7,v8,v9,v10,v11,v12,v13,h,h1.mono VersionR.mono hl,h3.mono PutR.mono hl,h4.mono PieceR.mono hl,h5.mono PieceR.mono hl,h6.mono PieceR.mono hl,h7.mono PieceR.mono hl,h8.mono PieceR.mono hl,h9.mono PieceR.mono hl,h10.mono PieceR.mono hl,h11.mono PieceR.mono hl,h12.mono PieceR.mono hl,h13.mono PieceR.mono hl⟩
def Qcc (p0:Code):Option (T_question):=some (T_question.mk p0 (Version.mk 0 [] (arr [[],[],[],[],[],[],[],[],[],[]] [])) (-1) (Code.err p0))
set_option maxHeartbeats 1000000 in
theorem Qdh (p0:Code) (cs0:List V) (g:G) (h0:CodeR g cs0 p0) (r:T_question) (hF:Qcc p0=some r):Fw Tryz.prog natS (.f 76 [] []) [.agg cs0] g [] fun g' ml' q=>∃ (c0:Nat) (ds0:List V),ml'=[.blk c0 (.cells ds0 132)]∧q=(.p c0 0)∧R_question g' ds0 r:=by
 unfold Qcc at hF
 obtain ⟨vq0,rfl,hcq0⟩:=h0
 refine Fw.enter (N:=8) (al:=[(0,_)]) Tryz.func76 (by kernel_rfl) (by kernel_rfl) rfl rfl rfl rfl ?_
 intro B
 refine .seq<|.region rfl<|.box .no rfl rfl rfl rfl fun b1=>.z rfl rfl<|.nil<|sq_n<|.seq<|.draw (tb:=[r0 0 0,r0 0 0,r2 2 0,r1 7 1,r1 15 1,r1 31 1]) rfl (by kernel_rfl) (by kernel_rfl) fun k0=>?_
 refine .y rfl rfl rfl (.a (vs:=[_,_]) rfl .hd a_24 s_24 rfl rfl)<|.y rfl rfl rfl (.a (vs:=[_,_]) rfl .hd a_24 s_24 rfl rfl)<|.callV .no rfl rfl rfl rfl rfl (Check_ok _ _ _ ⟨_,rfl,hcq0⟩)<|.q (.build (qs:=[(0,_),(2,_),(3,_)]) (cs:=[_,_,_,_,_,_,_,_,_,_,_,_,_,_,_,_]) rfl b_132 rfl)<|.f .no rfl (.box rfl rfl rfl) fun b3=>.z rfl rfl<|.nil<|sq_n<|.drop (.cons_cons _ (.cons _ (List.Sublist.refl _)))<|.ret ?_
 obtain rfl:=sI hF
 refine Qaa (Le.refl _) (.tmp rfl .nil) rfl ?_
 exact ⟨_,_,rfl,rfl,⟨_,_,_,_,_,_,_,_,_,_,_,_,rfl,hcq0,RS.nil,RS.nil,RS.nil,RS.nil,RS.nil,RS.nil,RS.nil,RS.nil,RS.nil,RS.nil,RS.nil⟩⟩
def Qad (p0:T_question) (p1:Bool) (p2:Int):Option (T_question):=(cond (decide (p0.e_=0)) ((cond p1 (some (T_question.mk p0.c_ p0.version_ p0.index_ p2)) (some p0))) (some p0))
set_option maxHeartbeats 1000000 in
theorem Qaf (p0:T_question) (p1:Bool) (p2:Int) (cs0:List V) (b0:Nat) (g:G) (h0:R_question g cs0 p0) (r:T_question) (hF:Qad p0 p1 p2=some r):Fw Tryz.prog natS (.f 88 [] []) [.p b0 0,.b p1,.i .i64 p2] g [.blk b0 (.cells cs0 132)] fun g' ml' q=>∃ (ds0:List V),ml'=[.blk b0 (.cells ds0 132)]∧q=(.p b0 0)∧R_question g' ds0 r:=by
 unfold Qad at hF
 obtain ⟨v1_q0,v3_q0,v4_q0,v5_q0,v6_q0,v7_q0,v8_q0,v9_q0,v10_q0,v11_q0,v12_q0,v13_q0,rfl,h1_q0,h3_q0,h4_q0,h5_q0,h6_q0,h7_q0,h8_q0,h9_q0,h10_q0,h11_q0,h12_q0,h13_q0⟩:=h0
 refine Fw.enter (N:=20) (al:=[(2,_),(1,_),(0,_)]) Tryz.func88 (by kernel_rfl) (by kernel_rfl) rfl rfl rfl rfl ?_
 intro B
 refine .seq<|.region rfl<|.z rfl rfl<|.nil<|sq_n<|.seq<|.seq<|.region rfl<|.m rfl rfl<|.q (.nil rfl)<|.q (.fa rfl Qcz)<|.w (.s rfl .hd a_30 rfl)<|.b rfl rfl rfl rfl<|.m rfl rfl<|.split (t:=12) rfl (fun h1=>?_) (fun h1=>?_)
 ·have hF:=cT h1 hF
  refine .py h1 (.move rfl)<|.q (.pickT rfl h1 rfl)<|.nil<|sq_n<|.cond rfl (fun h2=>?_) (fun h2=>?_)
  ·have hF:=cT h2 hF
   refine .region rfl<|.m rfl rfl<|.m rfl rfl<|.q (.nil rfl)<|.q (.fa rfl Qcz)<|.st (cs':=[_,_,_,_,_,_,_,_,_,_,_,_,_,_,_,_]) .no rfl rfl rfl rfl s_30 rfl rfl .hd rfl rfl<|.nil<|sq_n<|.seq<|.region rfl<|.m rfl rfl<|.z rfl rfl<|.nil<|sq_n<|.ret ?_
   obtain rfl:=sI hF
   refine Qaa (Le.refl _) (.tmp rfl .nil) rfl ?_
   exact ⟨_,rfl,rfl,⟨_,_,_,_,_,_,_,_,_,_,_,_,rfl,h1_q0,h3_q0,h4_q0,h5_q0,h6_q0,h7_q0,h8_q0,h9_q0,h10_q0,h11_q0,h12_q0,h13_q0⟩⟩
  have hF:=cF h2 hF
  refine .skip<|sq_n<|.seq<|.region rfl<|.m rfl rfl<|.z rfl rfl<|.nil<|sq_n<|.ret ?_
  obtain rfl:=sI hF
  refine Qaa (Le.refl _) (.tmp rfl .nil) rfl ?_
  exact ⟨_,rfl,rfl,⟨_,_,_,_,_,_,_,_,_,_,_,_,rfl,h1_q0,h3_q0,h4_q0,h5_q0,h6_q0,h7_q0,h8_q0,h9_q0,h10_q0,h11_q0,h12_q0,h13_q0⟩⟩
 have hF:=cF h1 hF
 refine .k h1<|.q (.pickF rfl h1 rfl)<|.nil<|sq_n<|.condF rfl rfl<|.skip<|sq_n<|.seq<|.region rfl<|.m rfl rfl<|.z rfl rfl<|.nil<|sq_n<|.ret ?_
 obtain rfl:=sI hF
 refine Qaa (Le.refl _) (.tmp rfl .nil) rfl ?_
 exact ⟨_,rfl,rfl,⟨_,_,_,_,_,_,_,_,_,_,_,_,rfl,h1_q0,h3_q0,h4_q0,h5_q0,h6_q0,h7_q0,h8_q0,h9_q0,h10_q0,h11_q0,h12_q0,h13_q0⟩⟩
def Qbd (p0:T_question) (p1:Int):Option (T_question):=(cond (!(decide (p1=0))) (((Qad p0 (!(decide (p1=1))) 1).bind fun q2=>some q2)) (((Qad p0 false 1).bind fun q3=>some q3)))
set_option maxHeartbeats 1000000 in
theorem F_code_question_by_ok (p0:T_question) (p1:Int) (cs0:List V) (b0:Nat) (g:G) (h0:R_question g cs0 p0) (r:T_question) (hF:Qbd p0 p1=some r):Fw Tryz.prog natS (.f 87 [] []) [.p b0 0,.i .i64 p1] g [.blk b0 (.cells cs0 132)] fun g' ml' q=>∃ (ds0:List V),ml'=[.blk b0 (.cells ds0 132)]∧q=(.p b0 0)∧R_question g' ds0 r:=by
 unfold Qbd at hF
 obtain ⟨v1_q0,v3_q0,v4_q0,v5_q0,v6_q0,v7_q0,v8_q0,v9_q0,v10_q0,v11_q0,v12_q0,v13_q0,rfl,h1_q0,h3_q0,h4_q0,h5_q0,h6_q0,h7_q0,h8_q0,h9_q0,h10_q0,h11_q0,h12_q0,h13_q0⟩:=h0
 refine Fw.enter (N:=13) (al:=[(1,_),(0,_)]) Tryz.func87 (by kernel_rfl) (by kernel_rfl) rfl rfl rfl rfl ?_
 intro B
 refine .seq<|.region rfl<|.z rfl rfl<|.nil<|sq_n<|.seq<|.region rfl<|.m rfl rfl<|.m rfl rfl<|.b rfl rfl rfl rfl<|.m rfl rfl<|.split (t:=8) rfl (fun h1=>?_) (fun h1=>?_)
 ·have hF:=cT h1 hF
  refine .py h1 (.move rfl)<|.py h1 (.bin rfl rfl rfl)<|.q (.pickT rfl h1 rfl) ?_
  obtain ⟨q2,hq2,hF⟩:=bS hF
  refine .callT .no rfl rfl rfl .hd (Qaf p0 (!(decide (p1=1))) 1 _ _ _ ⟨_,_,_,_,_,_,_,_,_,_,_,_,rfl,h1_q0,h3_q0,h4_q0,h5_q0,h6_q0,h7_q0,h8_q0,h9_q0,h10_q0,h11_q0,h12_q0,h13_q0⟩ _ hq2) ?_
  rintro g2 ml2 r2 hle2 ⟨cs2_0,rfl,rfl,⟨v1_2_0,v3_2_0,v4_2_0,v5_2_0,v6_2_0,v7_2_0,v8_2_0,v9_2_0,v10_2_0,v11_2_0,v12_2_0,v13_2_0,rfl,h1_2_0,h3_2_0,h4_2_0,h5_2_0,h6_2_0,h7_2_0,h8_2_0,h9_2_0,h10_2_0,h11_2_0,h12_2_0,h13_2_0⟩⟩
  refine .z rfl rfl<|.nil<|sq_n<|.ret ?_
  obtain rfl:=sI hF
  refine Qaa hle2 (.tmp rfl .nil) rfl ?_
  exact ⟨_,rfl,rfl,⟨_,_,_,_,_,_,_,_,_,_,_,_,rfl,h1_2_0,h3_2_0,h4_2_0,h5_2_0,h6_2_0,h7_2_0,h8_2_0,h9_2_0,h10_2_0,h11_2_0,h12_2_0,h13_2_0⟩⟩
 have hF:=cF h1 hF
 refine .k h1<|.k h1<|.q (.pickF rfl h1 rfl) ?_
 obtain ⟨q3,hq3,hF⟩:=bS hF
 refine .callT .no rfl rfl rfl .hd (Qaf p0 false 1 _ _ _ ⟨_,_,_,_,_,_,_,_,_,_,_,_,rfl,h1_q0,h3_q0,h4_q0,h5_q0,h6_q0,h7_q0,h8_q0,h9_q0,h10_q0,h11_q0,h12_q0,h13_q0⟩ _ hq3) ?_
 rintro g3 ml3 r3 hle3 ⟨cs3_0,rfl,rfl,⟨v1_3_0,v3_3_0,v4_3_0,v5_3_0,v6_3_0,v7_3_0,v8_3_0,v9_3_0,v10_3_0,v11_3_0,v12_3_0,v13_3_0,rfl,h1_3_0,h3_3_0,h4_3_0,h5_3_0,h6_3_0,h7_3_0,h8_3_0,h9_3_0,h10_3_0,h11_3_0,h12_3_0,h13_3_0⟩⟩
 refine .z rfl rfl<|.nil<|sq_n<|.ret ?_
 obtain rfl:=sI hF
 refine Qaa hle3 (.tmp rfl .nil) rfl ?_
 exact ⟨_,rfl,rfl,⟨_,_,_,_,_,_,_,_,_,_,_,_,rfl,h1_3_0,h3_3_0,h4_3_0,h5_3_0,h6_3_0,h7_3_0,h8_3_0,h9_3_0,h10_3_0,h11_3_0,h12_3_0,h13_3_0⟩⟩
def Qal (p0:T_question) (p1:(List Room)):Option (T_question):=((Qad p0 (!(decide ((Qcp p1)=0))) 40).bind fun q2=>some q2)
set_option maxHeartbeats 1000000 in
theorem Qcg (p0:T_question) (p1:(List Room)) (v1_0:V) (cs0:List V) (b0:Nat) (g:G) (h0:R_question g cs0 p0) (h1_0:RS RoomR 6 g v1_0 p1) (r:T_question) (hF:Qal p0 p1=some r):Fw Tryz.prog natS (.f 78 [] []) [.p b0 0,v1_0] g [.blk b0 (.cells cs0 132)] fun g' ml' q=>∃ (ds0:List V),ml'=[.blk b0 (.cells ds0 132)]∧q=(.p b0 0)∧R_question g' ds0 r:=by
 unfold Qal at hF
 obtain ⟨v1_q0,v3_q0,v4_q0,v5_q0,v6_q0,v7_q0,v8_q0,v9_q0,v10_q0,v11_q0,v12_q0,v13_q0,rfl,h1_q0,h3_q0,h4_q0,h5_q0,h6_q0,h7_q0,h8_q0,h9_q0,h10_q0,h11_q0,h12_q0,h13_q0⟩:=h0
 refine Fw.enter (N:=10) (al:=[(1,_),(0,_)]) Tryz.func78 (by kernel_rfl) (by kernel_rfl) rfl rfl rfl rfl ?_
 intro B
 refine .seq<|.region rfl<|.z rfl rfl<|.nil<|sq_n<|.seq<|.region rfl<|.m rfl rfl<|.m rfl rfl<|.callV .no rfl rfl rfl (CheckRooms_ok _ _ _ h1_0)<|.b rfl rfl rfl rfl ?_
 obtain ⟨q2,hq2,hF⟩:=bS hF
 refine .callT .no rfl rfl rfl .hd (Qaf p0 (!(decide ((Qcp p1)=0))) 40 _ _ _ ⟨_,_,_,_,_,_,_,_,_,_,_,_,rfl,h1_q0,h3_q0,h4_q0,h5_q0,h6_q0,h7_q0,h8_q0,h9_q0,h10_q0,h11_q0,h12_q0,h13_q0⟩ _ hq2) ?_
 rintro g2 ml2 r2 hle2 ⟨cs2_0,rfl,rfl,⟨v1_2_0,v3_2_0,v4_2_0,v5_2_0,v6_2_0,v7_2_0,v8_2_0,v9_2_0,v10_2_0,v11_2_0,v12_2_0,v13_2_0,rfl,h1_2_0,h3_2_0,h4_2_0,h5_2_0,h6_2_0,h7_2_0,h8_2_0,h9_2_0,h10_2_0,h11_2_0,h12_2_0,h13_2_0⟩⟩
 refine .z rfl rfl<|.nil<|sq_n<|.ret ?_
 obtain rfl:=sI hF
 refine Qaa hle2 (.tmp rfl .nil) rfl ?_
 exact ⟨_,rfl,rfl,⟨_,_,_,_,_,_,_,_,_,_,_,_,rfl,h1_2_0,h3_2_0,h4_2_0,h5_2_0,h6_2_0,h7_2_0,h8_2_0,h9_2_0,h10_2_0,h11_2_0,h12_2_0,h13_2_0⟩⟩
def Qah (p0:T_question) (p1:Int):Option (T_question):=((Qad p0 (!(Qae p1 0 ((p0.c_.vs.length:Int) - 1))) 42).bind fun q2=>(cond (decide (q2.e_=0)) (((atI q2.c_.vs p1).bind fun y4=>some (T_question.mk q2.c_ y4 p1 q2.e_))) (some q2)))
set_option maxHeartbeats 1000000 in
theorem Qbl (p0:T_question) (p1:Int) (cs0:List V) (b0:Nat) (g:G) (h0:R_question g cs0 p0) (r:T_question) (hF:Qah p0 p1=some r):Fw Tryz.prog natS (.f 86 [] []) [.p b0 0,.i .i64 p1] g [.blk b0 (.cells cs0 132)] fun g' ml' q=>∃ (ds0:List V),ml'=[.blk b0 (.cells ds0 132)]∧q=(.p b0 0)∧R_question g' ds0 r:=by
 unfold Qah at hF
 obtain ⟨v1_q0,v3_q0,v4_q0,v5_q0,v6_q0,v7_q0,v8_q0,v9_q0,v10_q0,v11_q0,v12_q0,v13_q0,rfl,h1_q0,h3_q0,h4_q0,h5_q0,h6_q0,h7_q0,h8_q0,h9_q0,h10_q0,h11_q0,h12_q0,h13_q0⟩:=h0
 have lh0_1:=h1_q0.1
 have lh0_3:=h3_q0.1
 have lh0_4:=h4_q0.1
 have lh0_5:=h5_q0.1
 have lh0_6:=h6_q0.1
 have lh0_7:=h7_q0.1
 have lh0_8:=h8_q0.1
 have lh0_9:=h9_q0.1
 have lh0_10:=h10_q0.1
 have lh0_11:=h11_q0.1
 have lh0_12:=h12_q0.1
 have lh0_13:=h13_q0.1
 refine Fw.enter (N:=37) (al:=[(1,_),(0,_)]) Tryz.func86 (by kernel_rfl) (by kernel_rfl) rfl rfl rfl rfl ?_
 intro B
 refine .seq<|.region rfl<|.z rfl rfl<|.nil<|sq_n<|.seq<|.seq<|.region rfl<|.m rfl rfl<|.m rfl rfl<|.m rfl rfl<|.q (.nil rfl)<|.q (.fa rfl f_132_0)<|.q (.fa rfl Qbu)<|.w (.s rfl .hd a_22 rfl)<|.q (.lenR rfl rfl rfl e_22 h1_q0)<|.q (.sub rfl rfl (by omega))<|.callV .no rfl rfl rfl (Qai _ _ _ _)<|.q (.not rfl) ?_
 obtain ⟨q2,hq2,hF⟩:=bS hF
 refine .callT .no rfl rfl rfl .hd (Qaf p0 (!(Qae p1 0 ((p0.c_.vs.length:Int) - 1))) 42 _ _ _ ⟨_,_,_,_,_,_,_,_,_,_,_,_,rfl,h1_q0,h3_q0,h4_q0,h5_q0,h6_q0,h7_q0,h8_q0,h9_q0,h10_q0,h11_q0,h12_q0,h13_q0⟩ _ hq2) ?_
 rintro g2 ml2 r2 hle2 ⟨cs2_0,rfl,rfl,⟨v1_2_0,v3_2_0,v4_2_0,v5_2_0,v6_2_0,v7_2_0,v8_2_0,v9_2_0,v10_2_0,v11_2_0,v12_2_0,v13_2_0,rfl,h1_2_0,h3_2_0,h4_2_0,h5_2_0,h6_2_0,h7_2_0,h8_2_0,h9_2_0,h10_2_0,h11_2_0,h12_2_0,h13_2_0⟩⟩
 refine .q (.nil rfl)<|.q (.fa rfl Qcz)<|.w (.s rfl .hd a_30 rfl)<|.b rfl rfl rfl rfl<|.nil<|sq_n<|.cond rfl (fun h3=>?_) (fun h3=>?_)
 ·have hF:=cT h3 hF
  refine .region rfl<|.m rfl rfl<|.m rfl rfl<|.m rfl rfl<|.m rfl rfl<|.q (.nil rfl)<|.q (.fa rfl f_132_0)<|.q (.fa rfl Qbu)<|.w (.s rfl .hd a_22 rfl)<|.m rfl rfl ?_
  obtain ⟨y4,hy4,hF⟩:=bS hF
  have hj4:=atI_lt hy4
  refine .ixl .no rfl rfl h1_2_0 rfl e_22 hy4 ?_
  rintro b4 o4 _ hq4 ⟨p4,lv4,rfl,hp4,hl4⟩
  refine .w (.pa 0 (vs:=[_,_,_,_,_,_,_,_,_,_,_,_]) rfl hq4 rfl a_97 s_97 rfl rfl)<|.q (.nil rfl)<|.q (.fa rfl f_132_2)<|.st (cs':=[_,_,_,_,_,_,_,_,_,_,_,_,_,_,_,_]) .no rfl rfl rfl rfl s_3 rfl rfl .hd rfl rfl<|.q (.nil rfl)<|.q (.fa rfl f_132_1)<|.st (cs':=[_,_,_,_,_,_,_,_,_,_,_,_,_,_,_,_]) .no rfl rfl rfl rfl s_97 rfl rfl .hd rfl (Qa rfl (Qa hp4.one (Qa (hl4 0 (by decide)).one (Qa (hl4 1 (by decide)).one (Qa (hl4 2 (by decide)).one (Qa (hl4 3 (by decide)).one (Qa (hl4 4 (by decide)).one (Qa (hl4 5 (by decide)).one (Qa (hl4 6 (by decide)).one (Qa (hl4 7 (by decide)).one (Qa (hl4 8 (by decide)).one (Qa (hl4 9 (by decide)).one rfl))))))))))))<|.nil<|sq_n<|.seq<|.region rfl<|.m rfl rfl<|.z rfl rfl<|.nil<|sq_n<|.ret ?_
  obtain rfl:=sI hF
  refine Qaa hle2 (.tmp rfl .nil) rfl ?_
  exact ⟨_,rfl,rfl,⟨_,_,_,_,_,_,_,_,_,_,_,_,rfl,h1_2_0,hp4,(hl4 0 (by decide)),(hl4 1 (by decide)),(hl4 2 (by decide)),(hl4 3 (by decide)),(hl4 4 (by decide)),(hl4 5 (by decide)),(hl4 6 (by decide)),(hl4 7 (by decide)),(hl4 8 (by decide)),(hl4 9 (by decide))⟩⟩
 have hF:=cF h3 hF
 refine .skip<|sq_n<|.seq<|.region rfl<|.m rfl rfl<|.z rfl rfl<|.nil<|sq_n<|.ret ?_
 obtain rfl:=sI hF
 refine Qaa hle2 (.tmp rfl .nil) rfl ?_
 exact ⟨_,rfl,rfl,⟨_,_,_,_,_,_,_,_,_,_,_,_,rfl,h1_2_0,h3_2_0,h4_2_0,h5_2_0,h6_2_0,h7_2_0,h8_2_0,h9_2_0,h10_2_0,h11_2_0,h12_2_0,h13_2_0⟩⟩
def Qbc (p0:T_question) (p1:Int) (p2:Int):Option (T_question):=((Qad p0 (!(Qae p1 0 100000)) 6).bind fun q3=>((Qbd q3 p2).bind fun q4=>((Qad q4 (decide ((Qax p0.c_ p1) < 0)) 45).bind fun q5=>(cond (decide (q5.e_=0)) (((atI q5.c_.vs (Qax p0.c_ p1)).bind fun y7=>some (T_question.mk q5.c_ y7 (Qax p0.c_ p1) q5.e_))) (some q5)))))
set_option maxHeartbeats 1000000 in
theorem F_code_question_on_ok (p0:T_question) (p1:Int) (p2:Int) (cs0:List V) (b0:Nat) (g:G) (h0:R_question g cs0 p0) (r:T_question) (hF:Qbc p0 p1 p2=some r):Fw Tryz.prog natS (.f 77 [] []) [.p b0 0,.i .i64 p1,.i .i64 p2] g [.blk b0 (.cells cs0 132)] fun g' ml' q=>∃ (ds0:List V),ml'=[.blk b0 (.cells ds0 132)]∧q=(.p b0 0)∧R_question g' ds0 r:=by
 unfold Qbc at hF
 obtain ⟨v1_q0,v3_q0,v4_q0,v5_q0,v6_q0,v7_q0,v8_q0,v9_q0,v10_q0,v11_q0,v12_q0,v13_q0,rfl,h1_q0,h3_q0,h4_q0,h5_q0,h6_q0,h7_q0,h8_q0,h9_q0,h10_q0,h11_q0,h12_q0,h13_q0⟩:=h0
 refine Fw.enter (N:=44) (al:=[(2,_),(1,_),(0,_)]) Tryz.func77 (by kernel_rfl) (by kernel_rfl) rfl rfl rfl rfl ?_
 intro B
 refine .seq<|.region rfl<|.z rfl rfl<|.nil<|sq_n<|.seq<|.region rfl<|.m rfl rfl<|.q (.nil rfl)<|.q (.fa rfl f_132_0)<|.w (.a (vs:=[_,_]) rfl .hd a_24 s_24 rfl rfl)<|.m rfl rfl<|.callV .no rfl rfl rfl (inForce_ok _ _ _ _ ⟨_,rfl,h1_q0⟩)<|.z rfl rfl<|.nil<|sq_n<|.seq<|.seq<|.region rfl<|.m rfl rfl<|.m rfl rfl<|.callV .no rfl rfl rfl (Qai _ _ _ _)<|.q (.not rfl) ?_
 obtain ⟨q3,hq3,hF⟩:=bS hF
 refine .callT .no rfl rfl rfl .hd (Qaf p0 (!(Qae p1 0 100000)) 6 _ _ _ ⟨_,_,_,_,_,_,_,_,_,_,_,_,rfl,h1_q0,h3_q0,h4_q0,h5_q0,h6_q0,h7_q0,h8_q0,h9_q0,h10_q0,h11_q0,h12_q0,h13_q0⟩ _ hq3) ?_
 rintro g3 ml3 r3 hle3 ⟨cs3_0,rfl,rfl,⟨v1_3_0,v3_3_0,v4_3_0,v5_3_0,v6_3_0,v7_3_0,v8_3_0,v9_3_0,v10_3_0,v11_3_0,v12_3_0,v13_3_0,rfl,h1_3_0,h3_3_0,h4_3_0,h5_3_0,h6_3_0,h7_3_0,h8_3_0,h9_3_0,h10_3_0,h11_3_0,h12_3_0,h13_3_0⟩⟩
 refine .m rfl rfl ?_
 obtain ⟨q4,hq4,hF⟩:=bS hF
 refine .callT .no rfl rfl rfl .hd (F_code_question_by_ok q3 p2 _ _ _ ⟨_,_,_,_,_,_,_,_,_,_,_,_,rfl,h1_3_0,h3_3_0,h4_3_0,h5_3_0,h6_3_0,h7_3_0,h8_3_0,h9_3_0,h10_3_0,h11_3_0,h12_3_0,h13_3_0⟩ _ hq4) ?_
 rintro g4 ml4 r4 hle4 ⟨cs4_0,rfl,rfl,⟨v1_4_0,v3_4_0,v4_4_0,v5_4_0,v6_4_0,v7_4_0,v8_4_0,v9_4_0,v10_4_0,v11_4_0,v12_4_0,v13_4_0,rfl,h1_4_0,h3_4_0,h4_4_0,h5_4_0,h6_4_0,h7_4_0,h8_4_0,h9_4_0,h10_4_0,h11_4_0,h12_4_0,h13_4_0⟩⟩
 refine .m rfl rfl<|.b rfl rfl rfl rfl ?_
 obtain ⟨q5,hq5,hF⟩:=bS hF
 refine .callT .no rfl rfl rfl .hd (Qaf q4 (decide ((Qax p0.c_ p1) < 0)) 45 _ _ _ ⟨_,_,_,_,_,_,_,_,_,_,_,_,rfl,h1_4_0,h3_4_0,h4_4_0,h5_4_0,h6_4_0,h7_4_0,h8_4_0,h9_4_0,h10_4_0,h11_4_0,h12_4_0,h13_4_0⟩ _ hq5) ?_
 rintro g5 ml5 r5 hle5 ⟨cs5_0,rfl,rfl,⟨v1_5_0,v3_5_0,v4_5_0,v5_5_0,v6_5_0,v7_5_0,v8_5_0,v9_5_0,v10_5_0,v11_5_0,v12_5_0,v13_5_0,rfl,h1_5_0,h3_5_0,h4_5_0,h5_5_0,h6_5_0,h7_5_0,h8_5_0,h9_5_0,h10_5_0,h11_5_0,h12_5_0,h13_5_0⟩⟩
 refine .q (.nil rfl)<|.q (.fa rfl Qcz)<|.w (.s rfl .hd a_30 rfl)<|.b rfl rfl rfl rfl<|.nil<|sq_n<|.cond rfl (fun h6=>?_) (fun h6=>?_)
 ·have hF:=cT h6 hF
  refine .region rfl<|.m rfl rfl<|.m rfl rfl<|.m rfl rfl<|.m rfl rfl<|.q (.nil rfl)<|.q (.fa rfl f_132_0)<|.q (.fa rfl Qbu)<|.w (.s rfl .hd a_22 rfl)<|.m rfl rfl ?_
  obtain ⟨y7,hy7,hF⟩:=bS hF
  have hj7:=atI_lt hy7
  refine .ixl .no rfl rfl h1_5_0 rfl e_22 hy7 ?_
  rintro b7 o7 _ hq7 ⟨p7,lv7,rfl,hp7,hl7⟩
  refine .w (.pa 0 (vs:=[_,_,_,_,_,_,_,_,_,_,_,_]) rfl hq7 rfl a_97 s_97 rfl rfl)<|.q (.nil rfl)<|.q (.fa rfl f_132_2)<|.st (cs':=[_,_,_,_,_,_,_,_,_,_,_,_,_,_,_,_]) .no rfl rfl rfl rfl s_3 rfl rfl .hd rfl rfl<|.q (.nil rfl)<|.q (.fa rfl f_132_1)<|.st (cs':=[_,_,_,_,_,_,_,_,_,_,_,_,_,_,_,_]) .no rfl rfl rfl rfl s_97 rfl rfl .hd rfl (Qa rfl (Qa hp7.one (Qa (hl7 0 (by decide)).one (Qa (hl7 1 (by decide)).one (Qa (hl7 2 (by decide)).one (Qa (hl7 3 (by decide)).one (Qa (hl7 4 (by decide)).one (Qa (hl7 5 (by decide)).one (Qa (hl7 6 (by decide)).one (Qa (hl7 7 (by decide)).one (Qa (hl7 8 (by decide)).one (Qa (hl7 9 (by decide)).one rfl))))))))))))<|.nil<|sq_n<|.seq<|.region rfl<|.m rfl rfl<|.z rfl rfl<|.nil<|sq_n<|.ret ?_
  obtain rfl:=sI hF
  refine Qaa ((hle3.trans hle4).trans hle5) (.tmp rfl .nil) rfl ?_
  exact ⟨_,rfl,rfl,⟨_,_,_,_,_,_,_,_,_,_,_,_,rfl,h1_5_0,hp7,(hl7 0 (by decide)),(hl7 1 (by decide)),(hl7 2 (by decide)),(hl7 3 (by decide)),(hl7 4 (by decide)),(hl7 5 (by decide)),(hl7 6 (by decide)),(hl7 7 (by decide)),(hl7 8 (by decide)),(hl7 9 (by decide))⟩⟩
 have hF:=cF h6 hF
 refine .skip<|sq_n<|.seq<|.region rfl<|.m rfl rfl<|.z rfl rfl<|.nil<|sq_n<|.ret ?_
 obtain rfl:=sI hF
 refine Qaa ((hle3.trans hle4).trans hle5) (.tmp rfl .nil) rfl ?_
 exact ⟨_,rfl,rfl,⟨_,_,_,_,_,_,_,_,_,_,_,_,rfl,h1_5_0,h3_5_0,h4_5_0,h5_5_0,h6_5_0,h7_5_0,h8_5_0,h9_5_0,h10_5_0,h11_5_0,h12_5_0,h13_5_0⟩⟩
theorem QR.of_R {g:G} {cs:List V} {q:T_question} (h:R_question g cs q):QR g q.c_ q.version_ q.index_ q.e_ cs:=by
 obtain ⟨v1,v3,v4,v5,v6,v7,v8,v9,v10,v11,v12,v13,rfl,h1,h3,h4,h5,h6,h7,h8,h9,h10,h11,h12,h13⟩:=h
 exact ⟨v1,v3,lv10 v4 v5 v6 v7 v8 v9 v10 v11 v12 v13,rfl,h1,h3,fun n hn=>match n,hn with
  | 0,_=>h4 | 1,_=>h5 | 2,_=>h6 | 3,_=>h7 | 4,_=>h8 | 5,_=>h9 | 6,_=>h10 | 7,_=>h11 | 8,_=>h12 | 9,_=>h13
  | n+10,hn=>absurd hn (by omega)⟩
def Qbq (q:T_question) (l:List Room):Option T_Plan:=ck (decide (l.length≤20) && q.version_.puts.all Put.ok) (some (planD q.version_ q.index_ l))
theorem Qdr (p0:T_question) (p1:(List Room)) (v1_0:V) (cs0:List V) (b0:Nat) (g:G) (h0:R_question g cs0 p0) (h1_0:RS RoomR 6 g v1_0 p1) (r:T_Plan) (hF:Qbq p0 p1=some r):Fw Tryz.prog natS (.f 80 [] []) [.p b0 0,v1_0] g [.blk b0 (.cells cs0 132)] fun g' ml' q=>∃ (ds0:List V),ml'=[.blk b0 (.cells cs0 132)]∧q=(.agg ds0)∧R_Plan g' ds0 r:=by
 obtain ⟨h1,hF⟩:=ckS hF
 obtain rfl:=sI hF
 rw [Bool.and_eq_true,decide_eq_true_eq] at h1
 refine (qplan_ok p0.c_ p0.version_ p0.index_ p0.e_ p1 _ _ _ g (QR.of_R h0) h1_0 h1.1 h1.2).mono ?_
 rintro g' ml' r - ⟨cs,rfl,rfl,rv,rfl,hrv⟩
 exact ⟨_,rfl,rfl,rv 1,rv 2,rv 3,rv 4,rv 5,rv 0,rfl,hrv 1 (by decide),hrv 2 (by decide),hrv 3 (by decide),hrv 4 (by decide),hrv 5 (by decide),hrv 0 (by decide)⟩
def Qbf (v:Version) (r:Room):Option (Int × Int):=ck (v.puts.all Put.ok) (some ((grp v r).1,(grp v r).2))
theorem Qdb (p0:Version) (p1:Room) (cs0:List V) (g:G) (h0:VersionR g cs0 p0) (r:Int × Int) (hF:Qbf p0 p1=some r):Fv Tryz.prog natS (.f 100 [] []) [.agg cs0,.agg [.i .i64 p1.id,.i .i64 p1.kind,.i .i64 p1.op,.i .i64 p1.cr,.i .i64 p1.lo,.i .i64 p1.hi]] g (.tup [.i .i64 r.1,.i .i64 r.2]):=by
 obtain ⟨h1,hF⟩:=ckS hF
 obtain rfl:=sI hF
 exact group_ok p0 p1 _ g h0 h1
def Qbn (v:Version) (r:Room):Option (Int × Int):=ck (v.puts.all Put.ok) (some ((grp v r).1,(grp v r).2))
theorem Qdi (p0:Version) (p1:Room) (cs0:List V) (g:G) (h0:VersionR g cs0 p0) (r:Int × Int) (hF:Qbn p0 p1=some r):Fv Tryz.prog natS (.f 101 [] []) [.agg cs0,.agg [.i .i64 p1.id,.i .i64 p1.kind,.i .i64 p1.op,.i .i64 p1.cr,.i .i64 p1.lo,.i .i64 p1.hi]] g (.tup [.i .i64 r.1,.i .i64 r.2]):=by
 obtain ⟨h1,hF⟩:=ckS hF
 obtain rfl:=sI hF
 exact rGroup_ok p0 p1 _ g h0 h1
end Go.Proofs.YtjflgemfeofciaaGreatDoor
