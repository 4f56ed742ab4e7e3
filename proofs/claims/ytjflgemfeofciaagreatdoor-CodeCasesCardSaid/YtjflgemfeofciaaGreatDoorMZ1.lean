import Derived.Test.YtjflgemfeofciaaGreatDoorQa4
import Derived.Test.YtjflgemfeofciaaGreatDoorExR
namespace Go.Proofs.YtjflgemfeofciaaGreatDoor
open Go Go.Ev
set_option linter.unusedVariables false
set_option linter.unusedSimpArgs false
set_option maxRecDepth 10000
theorem rs_map {α β:Type} {R:G→List V→α→Prop} {R':G→List V→β→Prop} {s:Nat} {g:G} {v:V} {l:List α} (f:α→β) (hf:∀ cs x,R g cs x→R' g cs (f x)) (h:RS R s g v l):RS R' s g v (l.map f):=by
 obtain ⟨h0,h⟩:=h
 refine ⟨by rw [List.length_map];exact h0,?_⟩
 rcases h with ⟨a,rfl⟩ | ⟨a,rfl⟩ | ⟨b,o,a,k⟩
 ·exact .inl ⟨a,rfl⟩
 ·exact .inr (.inl ⟨a,rfl⟩)
 ·refine .inr (.inr ⟨b,o,by rw [List.length_map];exact a,fun j x hx=>?_⟩)
  rw [List.getElem?_map] at hx
  cases e:l[j]? with
  | none=>rw [e] at hx;cases hx
  | some y=>
    rw [e] at hx
    obtain rfl:=Option.some.inj hx
    obtain ⟨cs,k1,k2,k3⟩:=k j y e
    exact ⟨cs,k1,k2,hf cs y k3⟩
def Qbo (l:List Piece) (r:Int × Int):Option (List Int × List (Int × Int)):=ck (lineB l) (some ((cellN l r.1 r.2 (nCell l)).map (fun (i:Nat)=>(i:Int)),(cellN l r.1 r.2 (nCell l)).map (cellA l r.1 r.2)))
theorem Qbi (p0:(List Piece)) (p1:(Int × Int)) (v0_0:V) (g:G) (h0_0:RS PieceR 3 g v0_0 p0) (r:(List Int) × (List (Int × Int))) (hF:Qbo p0 p1=some r):Fw Tryz.prog natS (.f 92 [] []) [v0_0,.agg [.i .i64 p1.1,.i .i64 p1.2]] g [] fun g' ml' q=>ml'=[]∧∃ (w0_0 w1_0:V),q=(.tup [w0_0,w1_0])∧RS IntR 1 g' w0_0 r.1∧RS RngR 2 g' w1_0 r.2:=by
 obtain ⟨h1,hF⟩:=ckS hF
 obtain rfl:=sI hF
 refine (Qey p0 p1.1 p1.2 _ g h0_0 h1).mono ?_
 rintro g' ml' q - ⟨a,b,rfl,rfl,ha,hb⟩
 exact ⟨rfl,a,b,rfl,rs_map _ (fun cs x h=>h) ha,hb⟩
def judE (sel:Int × Int→Int) (v:Version) (f:Int) (p:T_Plan):T_End:=⟨judT sel v f (fun i=>(p.Shares (i - 1)).Litres.1) (fun i=>(p.Shares (i - 1)).Litres.2),fun i=>sel (judL v f.toNat (fun i=>(p.Shares (i - 1)).Litres.1) (fun i=>(p.Shares (i - 1)).Litres.2) (i+1))⟩
def grpsB (p:T_Plan):Bool:=decide ((p.Shares 0).Group=1) && (decide ((p.Shares 1).Group=2) && (decide ((p.Shares 2).Group=3) && (decide ((p.Shares 3).Group=4) && decide ((p.Shares 4).Group=5))))
def Qgg (v:Version) (f:Int) (p:T_Plan):Option (T_End × T_End):=ck ((decide (f=0) || decide (f=1)) && (allR (fun k=>lineB (v.ln k)) 10 && grpsB p)) (some (judE Prod.fst v f p,judE Prod.snd v f p))
theorem F_code_judged_ok (p0:Version) (p1:Int) (p2:T_Plan) (cs0 cs2:List V) (g:G) (h0:VersionR g cs0 p0) (h2:R_Plan g cs2 p2) (r:T_End × T_End) (hF:Qgg p0 p1 p2=some r):Fv Tryz.prog natS (.f 79 [] []) [.agg cs0,.i .i64 p1,.agg cs2] g (.tup [.agg [.i .i64 r.1.Tonnage,.i .i64 (r.1.Litres 0),.i .i64 (r.1.Litres 1),.i .i64 (r.1.Litres 2),.i .i64 (r.1.Litres 3),.i .i64 (r.1.Litres 4)],.agg [.i .i64 r.2.Tonnage,.i .i64 (r.2.Litres 0),.i .i64 (r.2.Litres 1),.i .i64 (r.2.Litres 2),.i .i64 (r.2.Litres 3),.i .i64 (r.2.Litres 4)]]):=by
 obtain ⟨h1,hF⟩:=ckS hF
 obtain rfl:=sI hF
 unfold grpsB at h1
 simp only [Bool.and_eq_true,Bool.or_eq_true,decide_eq_true_eq] at h1
 obtain ⟨hf,hl,k1,k2,k3,k4,k5⟩:=h1
 obtain ⟨v2,v6,v10,v14,v18,v21,rfl,h2,h6,h10,h14,h18,h21⟩:=h2
 rw [k1,k2,k3,k4,k5]
 exact judged_ok p0 p1 p2.Version (fun i=>(p2.Shares (i - 1)).Litres.1) (fun i=>(p2.Shares (i - 1)).Litres.2) (fun i=>match i with | 0=>p2.Exempt | i+1=>(p2.Shares i).Rooms) cs0 _ g h0 ⟨(fun i=>match i with | 0=>v21 | 1=>v2 | 2=>v6 | 3=>v10 | 4=>v14 | _=>v18),rfl,fun i hi=>match i,hi with
  | 0,_=>h21 | 1,_=>h2 | 2,_=>h6 | 3,_=>h10 | 4,_=>h14 | 5,_=>h18
  | n+6,hi=>absurd hi (by omega)⟩ hf (fun k hk=>Qdm hl hk)
end Go.Proofs.YtjflgemfeofciaaGreatDoor
namespace Go.Proofs.YtjflgemfeofciaaGreatDoor
open Go Go.Ev
set_option linter.unusedVariables false
set_option linter.unusedSimpArgs false
set_option maxRecDepth 10000
def F_cs5 (p2:T_Plan) (p3:T_Case) (p4:Version) (p5:Int):Option (List T_Case):=((Qgg p4 p5 (T_Plan.mk p2.Version (arr [(T_Share.mk ((p2.Shares 0).Group) ((p2.Shares 0).Rooms) (p3.Litres 0)),(T_Share.mk ((p2.Shares 1).Group) ((p2.Shares 1).Rooms) (p3.Litres 1)),(T_Share.mk ((p2.Shares 2).Group) ((p2.Shares 2).Rooms) (p3.Litres 2)),(T_Share.mk ((p2.Shares 3).Group) ((p2.Shares 3).Rooms) (p3.Litres 3)),(T_Share.mk ((p2.Shares 4).Group) ((p2.Shares 4).Rooms) (p3.Litres 4))] (T_Share.mk ((p2.Shares 0).Group) ((p2.Shares 0).Rooms) (p3.Litres 0))) p2.Exempt)).bind fun q8=>(yl (T_Case.mk p3.Pieces p3.Litres (q8.1.Tonnage,q8.2.Tonnage)) (some [])))
set_option maxHeartbeats 1000000 in
theorem F_cs5_ok (p2:T_Plan) (p3:T_Case) (p4:Version) (p5:Int) (cs2 cs4:List V) (bc1 bc2 bc3 bc4 bc5:Nat) (g:G) (hb1:g bc1=some (.cells [.i .i64 5] 3)) (h2:R_Plan g cs2 p2) (hb2:g bc2=some (.cells cs2 85)) (h4:VersionR g cs4 p4) (hb4:g bc4=some (.cells cs4 97)) (hb5:g bc5=some (.cells [.i .i64 p5] 3)) (r:List T_Case) (hF:F_cs5 p2 p3 p4 p5=some r):It Tryz.prog natS (.f 139 [] [.p bc1 0,.p bc2 0,.p bc3 0,.p bc4 0,.p bc5 0]) g [.blk bc3 (.cells [.i .i64 (p3.Pieces 0),.i .i64 (p3.Pieces 1),.i .i64 (p3.Pieces 2),.i .i64 (p3.Pieces 3),.i .i64 (p3.Pieces 4),.i .i64 ((p3.Litres 0).1),.i .i64 ((p3.Litres 0).2),.i .i64 ((p3.Litres 1).1),.i .i64 ((p3.Litres 1).2),.i .i64 ((p3.Litres 2).1),.i .i64 ((p3.Litres 2).2),.i .i64 ((p3.Litres 3).1),.i .i64 ((p3.Litres 3).2),.i .i64 ((p3.Litres 4).1),.i .i64 ((p3.Litres 4).2),.i .i64 p3.Tonnages.1,.i .i64 p3.Tonnages.2] 111)] (AggR R_Case) r:=by
 unfold F_cs5 at hF
 obtain ⟨v2_q2,v6_q2,v10_q2,v14_q2,v18_q2,v21_q2,rfl,h2_q2,h6_q2,h10_q2,h14_q2,h18_q2,h21_q2⟩:=h2
 obtain ⟨pq4,lvq4,rfl,hpq4,hlq4⟩:=h4
 intro y S E hy g0 m0 hle0 hS
 replace hb1:=hle0 _ _ hb1
 replace h2_q2:=h2_q2.mono IntR.mono hle0
 replace h6_q2:=h6_q2.mono IntR.mono hle0
 replace h10_q2:=h10_q2.mono IntR.mono hle0
 replace h14_q2:=h14_q2.mono IntR.mono hle0
 replace h18_q2:=h18_q2.mono IntR.mono hle0
 replace h21_q2:=h21_q2.mono IntR.mono hle0
 replace hb2:=hle0 _ _ hb2
 replace hpq4:=hpq4.mono PutR.mono hle0
 replace hlq4:=fun k hk=>(hlq4 k hk).mono PieceR.mono hle0
 replace hb4:=hle0 _ _ hb4
 replace hb5:=hle0 _ _ hb5
 refine Fw.enterD (N:=94) (al:=[(5,_),(4,_),(3,_),(2,_),(1,_),(0,_)]) Tryz.func139 (by kernel_rfl) (by kernel_rfl) rfl rfl rfl rfl ?_
 intro B
 refine .seq<|.region rfl<|.box .no rfl rfl hy.any hy.cells fun b1=>.nil<|sq_n<|.seq<|.seq<|.region rfl<|.w (.s rfl (.g hb1) a_3 rfl)<|.b rfl rfl rfl rfl<|.nil<|sq_n<|.condT rfl (by decide)<|.seq<|.region rfl<|.w (.a (vs:=[_,_,_,_,_,_,_,_,_,_,_,_,_,_,_,_,_,_,_,_,_,_]) rfl (.g hb2) a_85 s_85 rfl rfl)<|.alloc .no rfl z_85 fun b2=>.st (cs':=[_,_,_,_,_,_,_,_,_,_,_,_,_,_,_,_,_,_,_,_,_,_]) .no rfl rfl rfl rfl s_85 rfl rfl .hd rfl (Qa rfl (Qa rfl (Qa h2_q2.one (Qa rfl (Qa rfl (Qa rfl (Qa h6_q2.one (Qa rfl (Qa rfl (Qa rfl (Qa h10_q2.one (Qa rfl (Qa rfl (Qa rfl (Qa h14_q2.one (Qa rfl (Qa rfl (Qa rfl (Qa h18_q2.one (Qa rfl (Qa rfl (Qa h21_q2.one rfl))))))))))))))))))))))<|.nil<|sq_n<|.seq<|.seq<|.region rfl<|.q (.fa rfl Qef)<|.w (.a (vs:=[_,_,_,_,_,_,_,_,_,_]) rfl (.tl (.tl .hd)) a_109 s_109 rfl rfl)<|.m rfl rfl<|.nil<|sq_n<|.block<|.unroll<|.seq<|.region rfl<|.b rfl rfl rfl rfl<|.nil<|sq_n ?_
 refine .seq<|.condT rfl (by decide)<|.skip<|sq_n<|.seq<|.block<|.seq<|.region rfl<|.m rfl rfl<|.q (.ixv (j:=0) rfl rfl ar_109 s_27 (by decide) (Qdf a_27 s_27 (vs:=[_,_]) rfl))<|.alloc .no rfl z_27 fun b3=>.z rfl rfl<|.st (cs':=[_,_]) .no rfl rfl rfl rfl s_27 rfl rfl .hd rfl rfl<|.nil<|sq_n<|.region rfl<|.m rfl rfl<|.w (.a (vs:=[_,_]) rfl .hd a_27 s_27 rfl rfl)<|.q (.fa rfl Qar)<|.q (.ixa (j:=0) rfl rfl ae_83 (by decide))<|.q (.fa rfl Qag)<|.st (cs':=[_,_,_,_,_,_,_,_,_,_,_,_,_,_,_,_,_,_,_,_,_,_]) .no rfl rfl rfl rfl s_27 rfl rfl (.tl .hd) rfl rfl<|.nil<|bq_n<|sq_n<|.region rfl<|.q (.addL (c:=1) rfl rfl rfl (by decide))<|.m rfl rfl<|.nil<|sq_n<|.unroll<|.seq<|.region rfl<|.b rfl rfl rfl rfl<|.nil<|sq_n ?_
 refine .seq<|.condT rfl (by decide)<|.skip<|sq_n<|.seq<|.block<|.seq<|.region rfl<|.m rfl rfl<|.q (.ixv (j:=1) rfl rfl ar_109 s_27 (by decide) (Qdf a_27 s_27 (vs:=[_,_]) rfl))<|.alloc .no rfl z_27 fun b4=>.z rfl rfl<|.st (cs':=[_,_]) .no rfl rfl rfl rfl s_27 rfl rfl .hd rfl rfl<|.nil<|sq_n<|.region rfl<|.m rfl rfl<|.w (.a (vs:=[_,_]) rfl .hd a_27 s_27 rfl rfl)<|.q (.fa rfl Qar)<|.q (.ixa (j:=1) rfl rfl ae_83 (by decide))<|.q (.fa rfl Qag)<|.st (cs':=[_,_,_,_,_,_,_,_,_,_,_,_,_,_,_,_,_,_,_,_,_,_]) .no rfl rfl rfl rfl s_27 rfl rfl (.tl (.tl .hd)) rfl rfl<|.nil<|bq_n<|sq_n<|.region rfl<|.q (.addL (c:=2) rfl rfl rfl (by decide))<|.m rfl rfl<|.nil<|sq_n<|.unroll<|.seq<|.region rfl<|.b rfl rfl rfl rfl<|.nil<|sq_n ?_
 refine .seq<|.condT rfl (by decide)<|.skip<|sq_n<|.seq<|.block<|.seq<|.region rfl<|.m rfl rfl<|.q (.ixv (j:=2) rfl rfl ar_109 s_27 (by decide) (Qdf a_27 s_27 (vs:=[_,_]) rfl))<|.alloc .no rfl z_27 fun b5=>.z rfl rfl<|.st (cs':=[_,_]) .no rfl rfl rfl rfl s_27 rfl rfl .hd rfl rfl<|.nil<|sq_n<|.region rfl<|.m rfl rfl<|.w (.a (vs:=[_,_]) rfl .hd a_27 s_27 rfl rfl)<|.q (.fa rfl Qar)<|.q (.ixa (j:=2) rfl rfl ae_83 (by decide))<|.q (.fa rfl Qag)<|.st (cs':=[_,_,_,_,_,_,_,_,_,_,_,_,_,_,_,_,_,_,_,_,_,_]) .no rfl rfl rfl rfl s_27 rfl rfl (.tl (.tl (.tl .hd))) rfl rfl<|.nil<|bq_n<|sq_n<|.region rfl<|.q (.addL (c:=3) rfl rfl rfl (by decide))<|.m rfl rfl<|.nil<|sq_n<|.unroll<|.seq<|.region rfl<|.b rfl rfl rfl rfl<|.nil<|sq_n ?_
 refine .seq<|.condT rfl (by decide)<|.skip<|sq_n<|.seq<|.block<|.seq<|.region rfl<|.m rfl rfl<|.q (.ixv (j:=3) rfl rfl ar_109 s_27 (by decide) (Qdf a_27 s_27 (vs:=[_,_]) rfl))<|.alloc .no rfl z_27 fun b6=>.z rfl rfl<|.st (cs':=[_,_]) .no rfl rfl rfl rfl s_27 rfl rfl .hd rfl rfl<|.nil<|sq_n<|.region rfl<|.m rfl rfl<|.w (.a (vs:=[_,_]) rfl .hd a_27 s_27 rfl rfl)<|.q (.fa rfl Qar)<|.q (.ixa (j:=3) rfl rfl ae_83 (by decide))<|.q (.fa rfl Qag)<|.st (cs':=[_,_,_,_,_,_,_,_,_,_,_,_,_,_,_,_,_,_,_,_,_,_]) .no rfl rfl rfl rfl s_27 rfl rfl (.tl (.tl (.tl (.tl .hd)))) rfl rfl<|.nil<|bq_n<|sq_n<|.region rfl<|.q (.addL (c:=4) rfl rfl rfl (by decide))<|.m rfl rfl<|.nil<|sq_n<|.unroll<|.seq<|.region rfl<|.b rfl rfl rfl rfl<|.nil<|sq_n ?_
 refine .seq<|.condT rfl (by decide)<|.skip<|sq_n<|.seq<|.block<|.seq<|.region rfl<|.m rfl rfl<|.q (.ixv (j:=4) rfl rfl ar_109 s_27 (by decide) (Qdf a_27 s_27 (vs:=[_,_]) rfl))<|.alloc .no rfl z_27 fun b7=>.z rfl rfl<|.st (cs':=[_,_]) .no rfl rfl rfl rfl s_27 rfl rfl .hd rfl rfl<|.nil<|sq_n<|.region rfl<|.m rfl rfl<|.w (.a (vs:=[_,_]) rfl .hd a_27 s_27 rfl rfl)<|.q (.fa rfl Qar)<|.q (.ixa (j:=4) rfl rfl ae_83 (by decide))<|.q (.fa rfl Qag)<|.st (cs':=[_,_,_,_,_,_,_,_,_,_,_,_,_,_,_,_,_,_,_,_,_,_]) .no rfl rfl rfl rfl s_27 rfl rfl (.tl (.tl (.tl (.tl (.tl .hd))))) rfl rfl<|.nil<|bq_n<|sq_n<|.region rfl<|.q (.addL (c:=5) rfl rfl rfl (by decide))<|.m rfl rfl<|.nil<|sq_n<|.unroll<|.seq<|.region rfl<|.b rfl rfl rfl rfl<|.nil<|sq_n ?_
 refine .seq<|.condF rfl (by decide)<|.exit<|sq_e<|sq_e<|bq_x rfl<|sq_n<|.seq<|.region rfl<|.w (.a (vs:=[_,_,_,_,_,_,_,_,_,_,_,_]) rfl (.g hb4) a_97 s_97 rfl rfl)<|.w (.s rfl (.g hb5) a_3 rfl)<|.w (.a (vs:=[_,_,_,_,_,_,_,_,_,_,_,_,_,_,_,_,_,_,_,_,_,_]) rfl (.tl (.tl (.tl (.tl (.tl .hd))))) a_85 s_85 rfl rfl) ?_
 obtain ⟨q8,hq8,hF⟩:=bS hF
 refine .callV .no rfl rfl rfl (F_code_judged_ok p4 p5 (T_Plan.mk p2.Version (arr [(T_Share.mk ((p2.Shares 0).Group) ((p2.Shares 0).Rooms) (p3.Litres 0)),(T_Share.mk ((p2.Shares 1).Group) ((p2.Shares 1).Rooms) (p3.Litres 1)),(T_Share.mk ((p2.Shares 2).Group) ((p2.Shares 2).Rooms) (p3.Litres 2)),(T_Share.mk ((p2.Shares 3).Group) ((p2.Shares 3).Rooms) (p3.Litres 3)),(T_Share.mk ((p2.Shares 4).Group) ((p2.Shares 4).Rooms) (p3.Litres 4))] (T_Share.mk ((p2.Shares 0).Group) ((p2.Shares 0).Rooms) (p3.Litres 0))) p2.Exempt) _ _ _ ⟨_,_,rfl,hpq4,hlq4⟩ ⟨_,_,_,_,_,_,rfl,h2_q2,h6_q2,h10_q2,h14_q2,h18_q2,h21_q2⟩ _ hq8)<|.m rfl rfl<|.q (.ext rfl rfl)<|.q (.ext rfl rfl)<|.alloc .no rfl z_40 fun b9=>.alloc .no rfl z_40 fun b10=>.st (cs':=[_,_,_,_,_,_]) .no rfl rfl rfl rfl s_40 rfl rfl (.tl .hd) rfl rfl<|.st (cs':=[_,_,_,_,_,_]) .no rfl rfl rfl rfl s_40 rfl rfl .hd rfl rfl<|.nil<|sq_n<|.seq<|.region rfl<|.q (.fa rfl f_40_0)<|.w (.s rfl (.tl .hd) a_3 rfl)<|.q (.fa rfl f_40_0)<|.w (.s rfl .hd a_3 rfl)<|.q (.build (qs:=[(0,_),(1,_)]) (cs:=[_,_]) rfl b_27 rfl)<|.q (.fa rfl f_111_2)<|.st (cs':=[_,_,_,_,_,_,_,_,_,_,_,_,_,_,_,_,_]) .no rfl rfl rfl rfl s_27 rfl rfl (.tl (.tl (.tl (.tl (.tl (.tl (.tl (.tl (.tl .hd))))))))) rfl rfl<|.nil<|sq_n<|.seq<|.region rfl<|.w (.s rfl (.tl (.tl (.tl (.tl (.tl (.tl (.tl (.tl .hd)))))))) a_201 rfl)<|.w (.a (vs:=[_,_,_,_,_,_,_,_,_,_,_,_,_,_,_,_,_]) rfl (.tl (.tl (.tl (.tl (.tl (.tl (.tl (.tl (.tl .hd))))))))) a_111 s_111 rfl rfl) ?_
 obtain ⟨o11,hF11,rfl⟩:=ylS hF
 clear hF
 have hF:=hF11
 clear hF11
 refine .callY .no rfl rfl rfl hy ((.cons (.cons (.cons (.cons (.cons (.cons (.cons (.cons (.cons (.cons .nil)))))))))):Fr _ _ _) hS ⟨_,rfl,rfl⟩ (fun g11 m11 hle11 hS11=>?_) (fun g11 m11 hle11 hE11=>?_)
 ·skip
  have hS:=hS11
  refine .nil<|sq_n<|.ret<|sq_r ?_
  obtain rfl:=sI hF
  refine retD_r hle11 (.cons _ (.cons _ (.cons _ (.cons _ (.cons _ (.cons _ (.cons _ (.cons _ (.cons _ (.cons _ (List.Sublist.refl _))))))))))) .nil rfl ?_
  exact .inl hS
 ·skip
  have hE:=hE11
  refine .nil<|sq_n<|.ret<|sq_r<|retD_r hle11 (.cons _ (.cons _ (.cons _ (.cons _ (.cons _ (.cons _ (.cons _ (.cons _ (.cons _ (.cons _ (List.Sublist.refl _))))))))))) .nil rfl ?_
  exact .inr hE
theorem cases5_ok (p:T_Plan) (x:T_Case) (v:Version) (f:Int) (cs0 cs2 cs4:List V) (g:G) (h0:VersionR g cs0 v) (h2:R_Plan g cs2 p) (h4:R_Case g cs4 x) (r:List T_Case) (hF:F_cs5 p x v f=some r):Fw Tryz.prog natS (.f 94 [] []) [.agg cs0,.i .i64 f,.agg cs2,.i .i64 5,.agg cs4] g [] fun g' ml' q=>∃ b x,ml'=[.blk b x]∧It Tryz.prog natS q g' [.blk b x] (AggR R_Case) r:=by
 refine Fw.enter (N:=12) (al:=[(4,_),(3,_),(2,_),(1,_),(0,_)]) Tryz.func94 (by kernel_rfl) (by kernel_rfl) rfl rfl rfl rfl ?_
 intro B
 refine .seq<|.region rfl<|.box .no rfl rfl rfl rfl fun b5=>.box .no rfl rfl rfl rfl fun b6=>.box .no rfl rfl rfl rfl fun b7=>.box .no rfl rfl rfl rfl fun b8=>.box .no rfl rfl rfl rfl fun b9=>.z rfl rfl<|.nil<|sq_n<|.seq<|.region rfl<|.q (.mf rfl rfl)<|.z rfl rfl<|.nil<|sq_n ?_
 refine Wc.freeze (.tl .hd) fun g1 l1 z8=>?_
 refine Wc.freeze (.tl .hd) fun g2 l2 z7=>?_
 refine Wc.freeze (.tl .hd) fun g3 l3 z6=>?_
 refine Wc.freeze (.tl .hd) fun g4 l4 z5=>?_
 refine .ret<|Qaa (((l1.trans l2).trans l3).trans l4) (.tmp rfl .nil) rfl ?_
 have l:=((l1.trans l2).trans l3).trans l4
 subst h4
 exact ⟨b9,_,rfl,F_cs5_ok p x v f cs2 cs0 b8 b7 b9 b5 b6 g4 (l4 _ _ (l3 _ _ (l2 _ _ z8))) (R_Plan.mono _ _ _ _ l h2) (l4 _ _ (l3 _ _ z7)) (VersionR.mono _ _ _ _ l h0) z5 (l4 _ _ z6) r hF⟩
structure R_cs4_2 where
 o2:List T_Case
 m2:ML
def Qfs (kk2:Unit→Option (List T_Case)):List T_Case→Option (List T_Case)
 | []=>kk2 ()
 | y2 :: ys2=>(yl y2 (Qfs kk2 ys2))
structure L_cs4_1 where
 k1_1:Nat
 z1_2:Int
 z1_3:Int
 z1_4:Int
 z1_5:Int
 z1_6:Int
 z1_7:Int
 z1_8:Int
 z1_9:Int
 z1_10:Int
 z1_11:Int
 z1_12:Int
 z1_13:Int
 z1_14:Int
 z1_15:Int
 z1_16:Int
 z1_17:Int
 z1_18:Int
 o1:List T_Case
 m1:ML
 dl1:List D
def Qfg (p2:T_Plan) (p4:Version) (p5:Int) (q4:(List Int) × (List (Int × Int))) (kk1:Int × Int × Int × Int × Int × Int × Int × Int × Int × Int × Int × Int × Int × Int × Int × Int × Int→Option (List T_Case)):List Int→Nat→Int→Int→Int→Int→Int→Int→Int→Int→Int→Int→Int→Int→Int→Int→Int→Int→Int→Option (List T_Case)
 | [],k1_1,z1_2,z1_3,z1_4,z1_5,z1_6,z1_7,z1_8,z1_9,z1_10,z1_11,z1_12,z1_13,z1_14,z1_15,z1_16,z1_17,z1_18=>kk1 (z1_2,z1_3,z1_4,z1_5,z1_6,z1_7,z1_8,z1_9,z1_10,z1_11,z1_12,z1_13,z1_14,z1_15,z1_16,z1_17,z1_18)
 | y1 :: ys1,k1_1,z1_2,z1_3,z1_4,z1_5,z1_6,z1_7,z1_8,z1_9,z1_10,z1_11,z1_12,z1_13,z1_14,z1_15,z1_16,z1_17,z1_18=>((q4.2[k1_1]?).bind fun y7=>((F_cs5 p2 (T_Case.mk (arr [z1_2,z1_3,z1_4,z1_5,y1] z1_2) (arr [(z1_7,z1_8),(z1_9,z1_10),(z1_11,z1_12),(z1_13,z1_14),y7] (z1_7,z1_8)) (z1_17,z1_18)) p4 p5).bind fun q8=>(Qfs (fun _=>Qfg p2 p4 p5 q4 kk1 ys1 (k1_1+1) z1_2 z1_3 z1_4 z1_5 y1 z1_7 z1_8 z1_9 z1_10 z1_11 z1_12 z1_13 z1_14 y7.1 y7.2 z1_17 z1_18) q8)))
def F_cs4 (p2:T_Plan) (p3:T_Case) (p4:Version) (p5:Int):Option (List T_Case):=(ck (decide ((0:Int)≤p5) && decide (p5 < (2:Int))) (((Qbo (arr [(p4.ln 4),(p4.ln 9)] (p4.ln 4) p5.toNat) ((p2.Shares 4).Litres)).bind fun q4=>(Qfg p2 p4 p5 q4 (fun ⟨u1_1,u1_2,u1_3,u1_4,u1_5,u1_6,u1_7,u1_8,u1_9,u1_10,u1_11,u1_12,u1_13,u1_14,u1_15,u1_16,u1_17⟩=>some []) q4.1 0 (p3.Pieces 0) (p3.Pieces 1) (p3.Pieces 2) (p3.Pieces 3) (p3.Pieces 4) ((p3.Litres 0).1) ((p3.Litres 0).2) ((p3.Litres 1).1) ((p3.Litres 1).2) ((p3.Litres 2).1) ((p3.Litres 2).2) ((p3.Litres 3).1) ((p3.Litres 3).2) ((p3.Litres 4).1) ((p3.Litres 4).2) p3.Tonnages.1 p3.Tonnages.2))))
set_option maxHeartbeats 1000000 in
theorem F_cs4_ok (p2:T_Plan) (p3:T_Case) (p4:Version) (p5:Int) (cs2 cs4:List V) (bc1 bc2 bc3 bc4 bc5:Nat) (g:G) (hb1:g bc1=some (.cells [.i .i64 4] 3)) (h2:R_Plan g cs2 p2) (hb2:g bc2=some (.cells cs2 85)) (h4:VersionR g cs4 p4) (hb4:g bc4=some (.cells cs4 97)) (hb5:g bc5=some (.cells [.i .i64 p5] 3)) (r:List T_Case) (hF:F_cs4 p2 p3 p4 p5=some r):It Tryz.prog natS (.f 139 [] [.p bc1 0,.p bc2 0,.p bc3 0,.p bc4 0,.p bc5 0]) g [.blk bc3 (.cells [.i .i64 (p3.Pieces 0),.i .i64 (p3.Pieces 1),.i .i64 (p3.Pieces 2),.i .i64 (p3.Pieces 3),.i .i64 (p3.Pieces 4),.i .i64 ((p3.Litres 0).1),.i .i64 ((p3.Litres 0).2),.i .i64 ((p3.Litres 1).1),.i .i64 ((p3.Litres 1).2),.i .i64 ((p3.Litres 2).1),.i .i64 ((p3.Litres 2).2),.i .i64 ((p3.Litres 3).1),.i .i64 ((p3.Litres 3).2),.i .i64 ((p3.Litres 4).1),.i .i64 ((p3.Litres 4).2),.i .i64 p3.Tonnages.1,.i .i64 p3.Tonnages.2] 111)] (AggR R_Case) r:=by
 unfold F_cs4 at hF
 obtain ⟨v2_q2,v6_q2,v10_q2,v14_q2,v18_q2,v21_q2,rfl,h2_q2,h6_q2,h10_q2,h14_q2,h18_q2,h21_q2⟩:=h2
 have lh2_2:=h2_q2.1
 have lh2_6:=h6_q2.1
 have lh2_10:=h10_q2.1
 have lh2_14:=h14_q2.1
 have lh2_18:=h18_q2.1
 have lh2_21:=h21_q2.1
 obtain ⟨pq4,lvq4,rfl,hpq4,hlq4⟩:=h4
 have lh4_1:=hpq4.1
 have lh4_2:=(hlq4 0 (by decide)).1
 have lh4_3:=(hlq4 1 (by decide)).1
 have lh4_4:=(hlq4 2 (by decide)).1
 have lh4_5:=(hlq4 3 (by decide)).1
 have lh4_6:=(hlq4 4 (by decide)).1
 have lh4_7:=(hlq4 5 (by decide)).1
 have lh4_8:=(hlq4 6 (by decide)).1
 have lh4_9:=(hlq4 7 (by decide)).1
 have lh4_10:=(hlq4 8 (by decide)).1
 have lh4_11:=(hlq4 9 (by decide)).1
 intro y S E hy g0 m0 hle0 hS
 replace hb1:=hle0 _ _ hb1
 replace h2_q2:=h2_q2.mono IntR.mono hle0
 replace h6_q2:=h6_q2.mono IntR.mono hle0
 replace h10_q2:=h10_q2.mono IntR.mono hle0
 replace h14_q2:=h14_q2.mono IntR.mono hle0
 replace h18_q2:=h18_q2.mono IntR.mono hle0
 replace h21_q2:=h21_q2.mono IntR.mono hle0
 replace hb2:=hle0 _ _ hb2
 replace hpq4:=hpq4.mono PutR.mono hle0
 replace hlq4:=fun k hk=>(hlq4 k hk).mono PieceR.mono hle0
 replace hb4:=hle0 _ _ hb4
 replace hb5:=hle0 _ _ hb5
 refine Fw.enterD (N:=94) (al:=[(5,_),(4,_),(3,_),(2,_),(1,_),(0,_)]) Tryz.func139 (by kernel_rfl) (by kernel_rfl) rfl rfl rfl rfl ?_
 intro B
 refine .seq<|.region rfl<|.box .no rfl rfl hy.any hy.cells fun b1=>.nil<|sq_n<|.seq<|.seq<|.region rfl<|.w (.s rfl (.g hb1) a_3 rfl)<|.b rfl rfl rfl rfl<|.nil<|sq_n<|.condF rfl (by decide)<|.skip<|sq_n<|.seq<|.draw (tb:=[r0 0 0,r0 0 0,r0 0 0,r0 5 0,r0 15 0,r0 31 0,r0 0 0,r0 0 0,r0 192 0,r0 448 0,r0 960 0,r1 2047 0,r1 4095 1,r1 8191 1,r1 8191 1,r1 16383 1,r1 65535 1]) rfl (by kernel_rfl) (by kernel_rfl) ?_
 refine .y rfl rfl rfl (.s rfl (.g hb5) a_3 rfl)<|.y rfl rfl rfl (.s rfl (.g hb1) a_3 rfl)<|.q (.fa rfl Qaj) ?_
 obtain ⟨hsy2,hF⟩:=ckS hF
 have hsy2:=symB (n:=2) hsy2
 refine .q (.ixai rfl rfl ae_95 hsy2)<|.q (.ixa (j:=4) rfl rfl ae_94 (by decide))<|.ldc (k:=0) (Φ:=fun w3_0=>RS PieceR 3 g0 w3_0 (arr [(p4.ln 4),(p4.ln 9)] (p4.ln 4) p5.toNat)) .no rfl rfl rfl trivial (sym2 hsy2 (fun e=>⟨_,.sO (o':=6) rfl (by rw [e];try rfl) (.g hb4) a_93 rfl,by rw [e];exact (hlq4 4 (by decide))⟩) (fun e=>⟨_,.sO (o':=11) rfl (by rw [e];try rfl) (.g hb4) a_93 rfl,by rw [e];exact (hlq4 9 (by decide))⟩)) fun v3 hv3=>?_
 have lhv3:=hv3.1
 refine .y rfl rfl rfl (.s rfl (.g hb1) a_3 rfl)<|.q (.fa rfl Qar)<|.q (.ixa (j:=4) rfl rfl ae_83 (by decide))<|.q (.fa rfl Qag)<|.y rfl rfl rfl (.a (vs:=[_,_]) rfl (.g hb2) a_27 s_27 rfl rfl) ?_
 obtain ⟨q4,hq4,hF⟩:=bS hF
 refine .call .no rfl rfl rfl rfl rfl (Qbi (arr [(p4.ln 4),(p4.ln 9)] (p4.ln 4) p5.toNat) ((p2.Shares 4).Litres) _ _ hv3 _ hq4) ?_
 rintro g4 ml4 r4 hle4 ⟨rfl,w4_0_0,w4_1_0,rfl,hw4_0_0,hw4_1_0⟩
 replace hb1:=hle4 _ _ hb1
 replace h2_q2:=h2_q2.mono IntR.mono hle4
 replace h6_q2:=h6_q2.mono IntR.mono hle4
 replace h10_q2:=h10_q2.mono IntR.mono hle4
 replace h14_q2:=h14_q2.mono IntR.mono hle4
 replace h18_q2:=h18_q2.mono IntR.mono hle4
 replace h21_q2:=h21_q2.mono IntR.mono hle4
 replace hb2:=hle4 _ _ hb2
 replace hpq4:=hpq4.mono PutR.mono hle4
 replace hlq4:=fun k hk=>(hlq4 k hk).mono PieceR.mono hle4
 replace hb4:=hle4 _ _ hb4
 replace hb5:=hle4 _ _ hb5
 replace hS:=hy.monoS _ _ _ _ hle4 hS
 have lhw4_0_0:=hw4_0_0.1
 have lhw4_1_0:=hw4_1_0.1
 refine .m rfl rfl<|.q (.ext rfl rfl)<|.q (.ext rfl rfl)<|.z rfl rfl<|.z rfl rfl<|.nil<|sq_n<|.seq<|.region rfl<|.m rfl rfl<|.q (.lenR rfl rfl rfl e_66 hw4_0_0)<|.m rfl rfl<|.nil<|sq_n<|.block<|.loopD (α:=L_cs4_1) [(1,_),(2,_),(3,_),(4,_),(5,_),(6,_),(13,_),(63,_),(64,_)] [_] (fun fx x=>(65,.i .i64 (x.k1_1:Int)) :: fx) (fun mx x=>rg mx 0 :: .blk bc3 (.cells [.i .i64 x.z1_2,.i .i64 x.z1_3,.i .i64 x.z1_4,.i .i64 x.z1_5,.i .i64 x.z1_6,.i .i64 x.z1_7,.i .i64 x.z1_8,.i .i64 x.z1_9,.i .i64 x.z1_10,.i .i64 x.z1_11,.i .i64 x.z1_12,.i .i64 x.z1_13,.i .i64 x.z1_14,.i .i64 x.z1_15,.i .i64 x.z1_16,.i .i64 x.z1_17,.i .i64 x.z1_18] 111) :: (dml x.dl1 ++ x.m1)) (fun x=>x.dl1) (fun x g'=>x.k1_1≤q4.1.length∧Qfg p2 p4 p5 q4 (fun ⟨u1_1,u1_2,u1_3,u1_4,u1_5,u1_6,u1_7,u1_8,u1_9,u1_10,u1_11,u1_12,u1_13,u1_14,u1_15,u1_16,u1_17⟩=>some []) (q4.1.drop x.k1_1) x.k1_1 x.z1_2 x.z1_3 x.z1_4 x.z1_5 x.z1_6 x.z1_7 x.z1_8 x.z1_9 x.z1_10 x.z1_11 x.z1_12 x.z1_13 x.z1_14 x.z1_15 x.z1_16 x.z1_17 x.z1_18=some x.o1∧S x.o1 g' x.m1) (fun x=>q4.1.length - x.k1_1) (L_cs4_1.mk 0 (p3.Pieces 0) (p3.Pieces 1) (p3.Pieces 2) (p3.Pieces 3) (p3.Pieces 4) ((p3.Litres 0).1) ((p3.Litres 0).2) ((p3.Litres 1).1) ((p3.Litres 1).2) ((p3.Litres 2).1) ((p3.Litres 2).2) ((p3.Litres 3).1) ((p3.Litres 3).2) ((p3.Litres 4).1) ((p3.Litres 4).2) p3.Tonnages.1 p3.Tonnages.2 _ _ []) ⟨rfl,rfl,rfl,rfl,rfl,rfl,rfl,rfl,rfl,rfl,trivial⟩ (List.Sublist.refl _) rfl ⟨(Nat.zero_le _),hF,hS⟩ ?_
 intro x1 gl1 hlo1 hJ1
 obtain ⟨k1_1,z1_2,z1_3,z1_4,z1_5,z1_6,z1_7,z1_8,z1_9,z1_10,z1_11,z1_12,z1_13,z1_14,z1_15,z1_16,z1_17,z1_18,o1,m1,dl1⟩:=x1
 dsimp only at hJ1 ⊢
 clear hF hS
 obtain ⟨hk1,hF,hS⟩:=hJ1
 replace hb1:=hlo1 _ _ hb1
 replace h2_q2:=h2_q2.mono IntR.mono hlo1
 replace h6_q2:=h6_q2.mono IntR.mono hlo1
 replace h10_q2:=h10_q2.mono IntR.mono hlo1
 replace h14_q2:=h14_q2.mono IntR.mono hlo1
 replace h18_q2:=h18_q2.mono IntR.mono hlo1
 replace h21_q2:=h21_q2.mono IntR.mono hlo1
 replace hb2:=hlo1 _ _ hb2
 replace hpq4:=hpq4.mono PutR.mono hlo1
 replace hlq4:=fun k hk=>(hlq4 k hk).mono PieceR.mono hlo1
 replace hb4:=hlo1 _ _ hb4
 replace hb5:=hlo1 _ _ hb5
 replace hw4_0_0:=hw4_0_0.mono IntR.mono hlo1
 replace hw4_1_0:=hw4_1_0.mono RngR.mono hlo1
 refine .seq<|.region rfl<|.b rfl rfl rfl rfl<|.nil<|sq_n<|.seq<|.cond rfl (fun h5=>?_) (fun h5=>?_)
 ·have kh5:=dT h5
  obtain ⟨y1,hy1⟩:=getK (l:=q4.1) (k:=k1_1) kh5
  rw [dc hy1,Qfg] at hF
  refine .skip<|sq_n<|.seq<|.block<|.seq<|.region rfl<|.m rfl rfl<|.ixk (j:=k1_1) .no rfl rfl hw4_0_0 rfl e_66 hy1 ?_
  rintro b6 o6 _ hq6 rfl
  refine .w (.ps 0 rfl hq6 rfl a_3 rfl)<|.z rfl rfl<|.z rfl rfl<|.nil<|sq_n<|.seq<|.draw (tb:=[r0 0 0,r0 0 0,r0 0 0,r0 0 0,r0 0 0,r0 24 0,r0 56 0,r0 0 0,r0 133 0,r0 389 0,r0 0 0,r1 2047 1,r1 4095 1]) rfl (by kernel_rfl) (by kernel_rfl) ?_
  refine .y rfl rfl rfl (.s rfl (.g hb1) a_3 rfl)<|.y rfl rfl rfl (.s rfl (.g hb1) a_3 rfl)<|.m rfl rfl<|.m rfl rfl<|.m rfl rfl ?_
  obtain ⟨y7,hy7,hF⟩:=bS hF
  have hj7:=Qaf hy7
  refine .ixk (j:=k1_1) .no rfl rfl hw4_1_0 rfl e_148 hy7 ?_
  rintro b7 o7 _ hq7 rfl
  refine .y rfl rfl rfl (.pa 0 (vs:=[_,_]) rfl hq7 rfl a_27 s_27 rfl rfl)<|.q (.fa rfl Qfw)<|.q (.ixa (j:=4) rfl rfl ae_38 (by decide))<|.st (cs':=[_,_,_,_,_,_,_,_,_,_,_,_,_,_,_,_,_]) .no rfl rfl rfl rfl rfl rfl s_3 rfl rfl (.tl .hd) rfl rfl (FrL.cN (fun _ s=>s.negP (.tl .hd) hq7) (FrL.cN (fun _ s=>s.neg (.tl .hd) hb1) (FrL.cI rfl FrL.n)))<|.q (.fa rfl Qef)<|.q (.ixa (j:=4) rfl rfl Qbp (by decide))<|.st (cs':=[_,_,_,_,_,_,_,_,_,_,_,_,_,_,_,_,_]) .no rfl rfl rfl rfl rfl rfl s_27 rfl rfl (.tl .hd) rfl rfl (.all (Qab rfl (Qab rfl (Qab rfl rfl))))<|.nil<|sq_n<|.seq<|.region rfl<|.w (.a (vs:=[_,_,_,_,_,_,_,_,_,_,_,_]) rfl (.g hb4) a_97 s_97 rfl rfl)<|.w (.s rfl (.g hb5) a_3 rfl)<|.w (.a (vs:=[_,_,_,_,_,_,_,_,_,_,_,_,_,_,_,_,_,_,_,_,_,_]) rfl (.g hb2) a_85 s_85 rfl rfl)<|.w (.s rfl (.g hb1) a_3 rfl)<|.q (.addL (c:=5) rfl rfl rfl (by decide))<|.w (.a (vs:=[_,_,_,_,_,_,_,_,_,_,_,_,_,_,_,_,_]) rfl (.tl .hd) a_111 s_111 rfl rfl) ?_
  obtain ⟨q8,hq8,hF⟩:=bS hF
  refine .call .no rfl rfl rfl (cases5_ok p2 (T_Case.mk (arr [z1_2,z1_3,z1_4,z1_5,y1] z1_2) (arr [(z1_7,z1_8),(z1_9,z1_10),(z1_11,z1_12),(z1_13,z1_14),y7] (z1_7,z1_8)) (z1_17,z1_18)) p4 p5 _ _ _ _ ⟨_,_,rfl,hpq4,hlq4⟩ ⟨_,_,_,_,_,_,rfl,h2_q2,h6_q2,h10_q2,h14_q2,h18_q2,h21_q2⟩ rfl _ hq8) ?_
  rintro g8 ml8 r8 hle8 ⟨b8,x8,rfl,hit8⟩
  replace hS:=hy.monoS _ _ _ _ hle8 hS
  refine .nil<|sq_n<|.block<|.rangeL (α:=R_cs4_2) [_,_] (fun mx x=>rg mx 0 :: rg mx 1 :: (dml dl1 ++ x.m2)) (fun xs x g'=>Qfs (fun _=>Qfg p2 p4 p5 q4 (fun ⟨u1_1,u1_2,u1_3,u1_4,u1_5,u1_6,u1_7,u1_8,u1_9,u1_10,u1_11,u1_12,u1_13,u1_14,u1_15,u1_16,u1_17⟩=>some []) (q4.1.drop (k1_1+1)) (k1_1+1) z1_2 z1_3 z1_4 z1_5 y1 z1_7 z1_8 z1_9 z1_10 z1_11 z1_12 z1_13 z1_14 y7.1 y7.2 z1_17 z1_18) xs=some x.o2∧S x.o2 g' x.m2) (fun e x g'=>e= .ret∧E g' x.m2) (R_cs4_2.mk _ _) rfl hit8 (Le.refl _) (List.Sublist.refl _) (fun _ _ _ _ hl h=>⟨h.1,hy.monoS _ _ _ _ hl h.2⟩) (fun _ _ _ _ hl h=>⟨h.1,hy.monoE _ _ _ hl h.2⟩) ⟨hF,hS⟩ ?_ ?_ ?_
  ·intro l B2 y2 xs2 x2 gl2 args hlo2 hJ hr2
   obtain ⟨o2,m2⟩:=x2
   dsimp only at hJ ⊢
   clear hF hS
   obtain ⟨hF,hS⟩:=hJ
   obtain ⟨_,rfl,rfl⟩:=hr2
   rw [Qfs] at hF
   refine ⟨_,rfl,?_⟩
   refine .region rfl<|.alloc .no rfl z_111 fun b9=>.st (cs':=[_,_,_,_,_,_,_,_,_,_,_,_,_,_,_,_,_]) .no rfl rfl rfl rfl s_111 rfl rfl .hd rfl rfl<|.nil<|⟨rfl,rfl,(Le.refl _),fun B=>?_⟩
   refine .block<|.seq<|.region rfl<|.w (.s rfl (.tl .hd) a_201 rfl)<|.w (.a (vs:=[_,_,_,_,_,_,_,_,_,_,_,_,_,_,_,_,_]) rfl .hd a_111 s_111 rfl rfl) ?_
   obtain ⟨o10,hF10,rfl⟩:=ylS hF
   clear hF
   have hF:=hF10
   clear hF10
   refine .callY .no rfl rfl rfl hy ((.cons (.cons (.cons .app))):Fr _ _ _) hS ⟨_,rfl,rfl⟩ (fun g10 m10 hle10 hS10=>?_) (fun g10 m10 hle10 hE10=>?_)
   ·skip
    have hS:=hS10
    refine .q (.not rfl)<|.nil<|sq_n<|.condF rfl rfl<|.skip<|bq_n ?_
    exact ⟨rfl,hle10,R_cs4_2.mk _ _,(.cons _ (List.Sublist.refl _)),hF,hS⟩
   ·skip
    have hE:=hE10
    refine .q (.not rfl)<|.nil<|sq_n<|.condT rfl rfl<|.ret<|bq_r ?_
    exact ⟨rfl,hle10,R_cs4_2.mk [] _,(.cons _ (List.Sublist.refl _)),rfl,hE⟩
  ·intro d2 x2 gl2 hlo2 hJ
   obtain ⟨o2,m2⟩:=x2
   dsimp only at hJ ⊢
   clear hF hS
   obtain ⟨hF,hS⟩:=hJ
   rw [Qfs] at hF
   refine bq_n<|bq_n<|sq_n<|.see0 (fun _ s=>s.perm (List.perm_middle (l₁:=[_,_]).symm))<|.region rfl<|.q (.inc1 rfl rfl (by omega))<|.m rfl rfl<|.nil<|loopDQ_n (L_cs4_1.mk (k1_1+1) z1_2 z1_3 z1_4 z1_5 y1 z1_7 z1_8 z1_9 z1_10 z1_11 z1_12 z1_13 z1_14 y7.1 y7.2 z1_17 z1_18 _ _ _) rfl ⟨rfl,rfl,rfl,rfl,rfl,rfl,rfl,rfl,rfl,rfl,trivial⟩ (fun _ _ s=>s.weak (List.Sublist.refl _)) (hle8.trans hlo2) ⟨(Qaf hy1),hF,hS⟩ ?_
   simp only;omega
  ·rintro d2 e2 x2 gl2 he2 hlo2 ⟨rfl,hE⟩
   refine bq_r<|bq_r<|sq_r<|lqD_r<|bq_r<|retD_r (((hle4.trans hlo1).trans hle8).trans hlo2) (.cons_cons _ (.cons _ (.cons _ (List.Sublist.refl _)))) .nil rfl ?_
   exact .inr hE
 have kh5:=dF h5
 rw [dn (by omega),Qfg] at hF
 try dsimp only at hF
 refine .exit<|sq_e<|lqD_e<|bq_x rfl ?_
 obtain rfl:=sI hF
 refine retD_n (hle4.trans hlo1) (.cons _ (.cons _ (List.Sublist.refl _))) .nil rfl ?_
 exact .inl hS
theorem cases4_ok (p:T_Plan) (x:T_Case) (v:Version) (f:Int) (cs0 cs2 cs4:List V) (g:G) (h0:VersionR g cs0 v) (h2:R_Plan g cs2 p) (h4:R_Case g cs4 x) (r:List T_Case) (hF:F_cs4 p x v f=some r):Fw Tryz.prog natS (.f 94 [] []) [.agg cs0,.i .i64 f,.agg cs2,.i .i64 4,.agg cs4] g [] fun g' ml' q=>∃ b x,ml'=[.blk b x]∧It Tryz.prog natS q g' [.blk b x] (AggR R_Case) r:=by
 refine Fw.enter (N:=12) (al:=[(4,_),(3,_),(2,_),(1,_),(0,_)]) Tryz.func94 (by kernel_rfl) (by kernel_rfl) rfl rfl rfl rfl ?_
 intro B
 refine .seq<|.region rfl<|.box .no rfl rfl rfl rfl fun b5=>.box .no rfl rfl rfl rfl fun b6=>.box .no rfl rfl rfl rfl fun b7=>.box .no rfl rfl rfl rfl fun b8=>.box .no rfl rfl rfl rfl fun b9=>.z rfl rfl<|.nil<|sq_n<|.seq<|.region rfl<|.q (.mf rfl rfl)<|.z rfl rfl<|.nil<|sq_n ?_
 refine Wc.freeze (.tl .hd) fun g1 l1 z8=>?_
 refine Wc.freeze (.tl .hd) fun g2 l2 z7=>?_
 refine Wc.freeze (.tl .hd) fun g3 l3 z6=>?_
 refine Wc.freeze (.tl .hd) fun g4 l4 z5=>?_
 refine .ret<|Qaa (((l1.trans l2).trans l3).trans l4) (.tmp rfl .nil) rfl ?_
 have l:=((l1.trans l2).trans l3).trans l4
 subst h4
 exact ⟨b9,_,rfl,F_cs4_ok p x v f cs2 cs0 b8 b7 b9 b5 b6 g4 (l4 _ _ (l3 _ _ (l2 _ _ z8))) (R_Plan.mono _ _ _ _ l h2) (l4 _ _ (l3 _ _ z7)) (VersionR.mono _ _ _ _ l h0) z5 (l4 _ _ z6) r hF⟩
structure R_cs3_2 where
 o2:List T_Case
 m2:ML
def Qff (kk2:Unit→Option (List T_Case)):List T_Case→Option (List T_Case)
 | []=>kk2 ()
 | y2 :: ys2=>(yl y2 (Qff kk2 ys2))
structure L_cs3_1 where
 k1_1:Nat
 z1_2:Int
 z1_3:Int
 z1_4:Int
 z1_5:Int
 z1_6:Int
 z1_7:Int
 z1_8:Int
 z1_9:Int
 z1_10:Int
 z1_11:Int
 z1_12:Int
 z1_13:Int
 z1_14:Int
 z1_15:Int
 z1_16:Int
 z1_17:Int
 z1_18:Int
 o1:List T_Case
 m1:ML
 dl1:List D
def Qfn (p2:T_Plan) (p4:Version) (p5:Int) (q4:(List Int) × (List (Int × Int))) (kk1:Int × Int × Int × Int × Int × Int × Int × Int × Int × Int × Int × Int × Int × Int × Int × Int × Int→Option (List T_Case)):List Int→Nat→Int→Int→Int→Int→Int→Int→Int→Int→Int→Int→Int→Int→Int→Int→Int→Int→Int→Option (List T_Case)
 | [],k1_1,z1_2,z1_3,z1_4,z1_5,z1_6,z1_7,z1_8,z1_9,z1_10,z1_11,z1_12,z1_13,z1_14,z1_15,z1_16,z1_17,z1_18=>kk1 (z1_2,z1_3,z1_4,z1_5,z1_6,z1_7,z1_8,z1_9,z1_10,z1_11,z1_12,z1_13,z1_14,z1_15,z1_16,z1_17,z1_18)
 | y1 :: ys1,k1_1,z1_2,z1_3,z1_4,z1_5,z1_6,z1_7,z1_8,z1_9,z1_10,z1_11,z1_12,z1_13,z1_14,z1_15,z1_16,z1_17,z1_18=>((q4.2[k1_1]?).bind fun y7=>((F_cs4 p2 (T_Case.mk (arr [z1_2,z1_3,z1_4,y1,z1_6] z1_2) (arr [(z1_7,z1_8),(z1_9,z1_10),(z1_11,z1_12),y7,(z1_15,z1_16)] (z1_7,z1_8)) (z1_17,z1_18)) p4 p5).bind fun q8=>(Qff (fun _=>Qfn p2 p4 p5 q4 kk1 ys1 (k1_1+1) z1_2 z1_3 z1_4 y1 z1_6 z1_7 z1_8 z1_9 z1_10 z1_11 z1_12 y7.1 y7.2 z1_15 z1_16 z1_17 z1_18) q8)))
def F_cs3 (p2:T_Plan) (p3:T_Case) (p4:Version) (p5:Int):Option (List T_Case):=(ck (decide ((0:Int)≤p5) && decide (p5 < (2:Int))) (((Qbo (arr [(p4.ln 3),(p4.ln 8)] (p4.ln 3) p5.toNat) ((p2.Shares 3).Litres)).bind fun q4=>(Qfn p2 p4 p5 q4 (fun ⟨u1_1,u1_2,u1_3,u1_4,u1_5,u1_6,u1_7,u1_8,u1_9,u1_10,u1_11,u1_12,u1_13,u1_14,u1_15,u1_16,u1_17⟩=>some []) q4.1 0 (p3.Pieces 0) (p3.Pieces 1) (p3.Pieces 2) (p3.Pieces 3) (p3.Pieces 4) ((p3.Litres 0).1) ((p3.Litres 0).2) ((p3.Litres 1).1) ((p3.Litres 1).2) ((p3.Litres 2).1) ((p3.Litres 2).2) ((p3.Litres 3).1) ((p3.Litres 3).2) ((p3.Litres 4).1) ((p3.Litres 4).2) p3.Tonnages.1 p3.Tonnages.2))))
set_option maxHeartbeats 1000000 in
theorem F_cs3_ok (p2:T_Plan) (p3:T_Case) (p4:Version) (p5:Int) (cs2 cs4:List V) (bc1 bc2 bc3 bc4 bc5:Nat) (g:G) (hb1:g bc1=some (.cells [.i .i64 3] 3)) (h2:R_Plan g cs2 p2) (hb2:g bc2=some (.cells cs2 85)) (h4:VersionR g cs4 p4) (hb4:g bc4=some (.cells cs4 97)) (hb5:g bc5=some (.cells [.i .i64 p5] 3)) (r:List T_Case) (hF:F_cs3 p2 p3 p4 p5=some r):It Tryz.prog natS (.f 139 [] [.p bc1 0,.p bc2 0,.p bc3 0,.p bc4 0,.p bc5 0]) g [.blk bc3 (.cells [.i .i64 (p3.Pieces 0),.i .i64 (p3.Pieces 1),.i .i64 (p3.Pieces 2),.i .i64 (p3.Pieces 3),.i .i64 (p3.Pieces 4),.i .i64 ((p3.Litres 0).1),.i .i64 ((p3.Litres 0).2),.i .i64 ((p3.Litres 1).1),.i .i64 ((p3.Litres 1).2),.i .i64 ((p3.Litres 2).1),.i .i64 ((p3.Litres 2).2),.i .i64 ((p3.Litres 3).1),.i .i64 ((p3.Litres 3).2),.i .i64 ((p3.Litres 4).1),.i .i64 ((p3.Litres 4).2),.i .i64 p3.Tonnages.1,.i .i64 p3.Tonnages.2] 111)] (AggR R_Case) r:=by
 unfold F_cs3 at hF
 obtain ⟨v2_q2,v6_q2,v10_q2,v14_q2,v18_q2,v21_q2,rfl,h2_q2,h6_q2,h10_q2,h14_q2,h18_q2,h21_q2⟩:=h2
 have lh2_2:=h2_q2.1
 have lh2_6:=h6_q2.1
 have lh2_10:=h10_q2.1
 have lh2_14:=h14_q2.1
 have lh2_18:=h18_q2.1
 have lh2_21:=h21_q2.1
 obtain ⟨pq4,lvq4,rfl,hpq4,hlq4⟩:=h4
 have lh4_1:=hpq4.1
 have lh4_2:=(hlq4 0 (by decide)).1
 have lh4_3:=(hlq4 1 (by decide)).1
 have lh4_4:=(hlq4 2 (by decide)).1
 have lh4_5:=(hlq4 3 (by decide)).1
 have lh4_6:=(hlq4 4 (by decide)).1
 have lh4_7:=(hlq4 5 (by decide)).1
 have lh4_8:=(hlq4 6 (by decide)).1
 have lh4_9:=(hlq4 7 (by decide)).1
 have lh4_10:=(hlq4 8 (by decide)).1
 have lh4_11:=(hlq4 9 (by decide)).1
 intro y S E hy g0 m0 hle0 hS
 replace hb1:=hle0 _ _ hb1
 replace h2_q2:=h2_q2.mono IntR.mono hle0
 replace h6_q2:=h6_q2.mono IntR.mono hle0
 replace h10_q2:=h10_q2.mono IntR.mono hle0
 replace h14_q2:=h14_q2.mono IntR.mono hle0
 replace h18_q2:=h18_q2.mono IntR.mono hle0
 replace h21_q2:=h21_q2.mono IntR.mono hle0
 replace hb2:=hle0 _ _ hb2
 replace hpq4:=hpq4.mono PutR.mono hle0
 replace hlq4:=fun k hk=>(hlq4 k hk).mono PieceR.mono hle0
 replace hb4:=hle0 _ _ hb4
 replace hb5:=hle0 _ _ hb5
 refine Fw.enterD (N:=94) (al:=[(5,_),(4,_),(3,_),(2,_),(1,_),(0,_)]) Tryz.func139 (by kernel_rfl) (by kernel_rfl) rfl rfl rfl rfl ?_
 intro B
 refine .seq<|.region rfl<|.box .no rfl rfl hy.any hy.cells fun b1=>.nil<|sq_n<|.seq<|.seq<|.region rfl<|.w (.s rfl (.g hb1) a_3 rfl)<|.b rfl rfl rfl rfl<|.nil<|sq_n<|.condF rfl (by decide)<|.skip<|sq_n<|.seq<|.draw (tb:=[r0 0 0,r0 0 0,r0 0 0,r0 5 0,r0 15 0,r0 31 0,r0 0 0,r0 0 0,r0 192 0,r0 448 0,r0 960 0,r1 2047 0,r1 4095 1,r1 8191 1,r1 8191 1,r1 16383 1,r1 65535 1]) rfl (by kernel_rfl) (by kernel_rfl) ?_
 refine .y rfl rfl rfl (.s rfl (.g hb5) a_3 rfl)<|.y rfl rfl rfl (.s rfl (.g hb1) a_3 rfl)<|.q (.fa rfl Qaj) ?_
 obtain ⟨hsy2,hF⟩:=ckS hF
 have hsy2:=symB (n:=2) hsy2
 refine .q (.ixai rfl rfl ae_95 hsy2)<|.q (.ixa (j:=3) rfl rfl ae_94 (by decide))<|.ldc (k:=0) (Φ:=fun w3_0=>RS PieceR 3 g0 w3_0 (arr [(p4.ln 3),(p4.ln 8)] (p4.ln 3) p5.toNat)) .no rfl rfl rfl trivial (sym2 hsy2 (fun e=>⟨_,.sO (o':=5) rfl (by rw [e];try rfl) (.g hb4) a_93 rfl,by rw [e];exact (hlq4 3 (by decide))⟩) (fun e=>⟨_,.sO (o':=10) rfl (by rw [e];try rfl) (.g hb4) a_93 rfl,by rw [e];exact (hlq4 8 (by decide))⟩)) fun v3 hv3=>?_
 have lhv3:=hv3.1
 refine .y rfl rfl rfl (.s rfl (.g hb1) a_3 rfl)<|.q (.fa rfl Qar)<|.q (.ixa (j:=3) rfl rfl ae_83 (by decide))<|.q (.fa rfl Qag)<|.y rfl rfl rfl (.a (vs:=[_,_]) rfl (.g hb2) a_27 s_27 rfl rfl) ?_
 obtain ⟨q4,hq4,hF⟩:=bS hF
 refine .call .no rfl rfl rfl rfl rfl (Qbi (arr [(p4.ln 3),(p4.ln 8)] (p4.ln 3) p5.toNat) ((p2.Shares 3).Litres) _ _ hv3 _ hq4) ?_
 rintro g4 ml4 r4 hle4 ⟨rfl,w4_0_0,w4_1_0,rfl,hw4_0_0,hw4_1_0⟩
 replace hb1:=hle4 _ _ hb1
 replace h2_q2:=h2_q2.mono IntR.mono hle4
 replace h6_q2:=h6_q2.mono IntR.mono hle4
 replace h10_q2:=h10_q2.mono IntR.mono hle4
 replace h14_q2:=h14_q2.mono IntR.mono hle4
 replace h18_q2:=h18_q2.mono IntR.mono hle4
 replace h21_q2:=h21_q2.mono IntR.mono hle4
 replace hb2:=hle4 _ _ hb2
 replace hpq4:=hpq4.mono PutR.mono hle4
 replace hlq4:=fun k hk=>(hlq4 k hk).mono PieceR.mono hle4
 replace hb4:=hle4 _ _ hb4
 replace hb5:=hle4 _ _ hb5
 replace hS:=hy.monoS _ _ _ _ hle4 hS
 have lhw4_0_0:=hw4_0_0.1
 have lhw4_1_0:=hw4_1_0.1
 refine .m rfl rfl<|.q (.ext rfl rfl)<|.q (.ext rfl rfl)<|.z rfl rfl<|.z rfl rfl<|.nil<|sq_n<|.seq<|.region rfl<|.m rfl rfl<|.q (.lenR rfl rfl rfl e_66 hw4_0_0)<|.m rfl rfl<|.nil<|sq_n<|.block<|.loopD (α:=L_cs3_1) [(1,_),(2,_),(3,_),(4,_),(5,_),(6,_),(13,_),(63,_),(64,_)] [_] (fun fx x=>(65,.i .i64 (x.k1_1:Int)) :: fx) (fun mx x=>rg mx 0 :: .blk bc3 (.cells [.i .i64 x.z1_2,.i .i64 x.z1_3,.i .i64 x.z1_4,.i .i64 x.z1_5,.i .i64 x.z1_6,.i .i64 x.z1_7,.i .i64 x.z1_8,.i .i64 x.z1_9,.i .i64 x.z1_10,.i .i64 x.z1_11,.i .i64 x.z1_12,.i .i64 x.z1_13,.i .i64 x.z1_14,.i .i64 x.z1_15,.i .i64 x.z1_16,.i .i64 x.z1_17,.i .i64 x.z1_18] 111) :: (dml x.dl1 ++ x.m1)) (fun x=>x.dl1) (fun x g'=>x.k1_1≤q4.1.length∧Qfn p2 p4 p5 q4 (fun ⟨u1_1,u1_2,u1_3,u1_4,u1_5,u1_6,u1_7,u1_8,u1_9,u1_10,u1_11,u1_12,u1_13,u1_14,u1_15,u1_16,u1_17⟩=>some []) (q4.1.drop x.k1_1) x.k1_1 x.z1_2 x.z1_3 x.z1_4 x.z1_5 x.z1_6 x.z1_7 x.z1_8 x.z1_9 x.z1_10 x.z1_11 x.z1_12 x.z1_13 x.z1_14 x.z1_15 x.z1_16 x.z1_17 x.z1_18=some x.o1∧S x.o1 g' x.m1) (fun x=>q4.1.length - x.k1_1) (L_cs3_1.mk 0 (p3.Pieces 0) (p3.Pieces 1) (p3.Pieces 2) (p3.Pieces 3) (p3.Pieces 4) ((p3.Litres 0).1) ((p3.Litres 0).2) ((p3.Litres 1).1) ((p3.Litres 1).2) ((p3.Litres 2).1) ((p3.Litres 2).2) ((p3.Litres 3).1) ((p3.Litres 3).2) ((p3.Litres 4).1) ((p3.Litres 4).2) p3.Tonnages.1 p3.Tonnages.2 _ _ []) ⟨rfl,rfl,rfl,rfl,rfl,rfl,rfl,rfl,rfl,rfl,trivial⟩ (List.Sublist.refl _) rfl ⟨(Nat.zero_le _),hF,hS⟩ ?_
 intro x1 gl1 hlo1 hJ1
 obtain ⟨k1_1,z1_2,z1_3,z1_4,z1_5,z1_6,z1_7,z1_8,z1_9,z1_10,z1_11,z1_12,z1_13,z1_14,z1_15,z1_16,z1_17,z1_18,o1,m1,dl1⟩:=x1
 dsimp only at hJ1 ⊢
 clear hF hS
 obtain ⟨hk1,hF,hS⟩:=hJ1
 replace hb1:=hlo1 _ _ hb1
 replace h2_q2:=h2_q2.mono IntR.mono hlo1
 replace h6_q2:=h6_q2.mono IntR.mono hlo1
 replace h10_q2:=h10_q2.mono IntR.mono hlo1
 replace h14_q2:=h14_q2.mono IntR.mono hlo1
 replace h18_q2:=h18_q2.mono IntR.mono hlo1
 replace h21_q2:=h21_q2.mono IntR.mono hlo1
 replace hb2:=hlo1 _ _ hb2
 replace hpq4:=hpq4.mono PutR.mono hlo1
 replace hlq4:=fun k hk=>(hlq4 k hk).mono PieceR.mono hlo1
 replace hb4:=hlo1 _ _ hb4
 replace hb5:=hlo1 _ _ hb5
 replace hw4_0_0:=hw4_0_0.mono IntR.mono hlo1
 replace hw4_1_0:=hw4_1_0.mono RngR.mono hlo1
 refine .seq<|.region rfl<|.b rfl rfl rfl rfl<|.nil<|sq_n<|.seq<|.cond rfl (fun h5=>?_) (fun h5=>?_)
 ·have kh5:=dT h5
  obtain ⟨y1,hy1⟩:=getK (l:=q4.1) (k:=k1_1) kh5
  rw [dc hy1,Qfn] at hF
  refine .skip<|sq_n<|.seq<|.block<|.seq<|.region rfl<|.m rfl rfl<|.ixk (j:=k1_1) .no rfl rfl hw4_0_0 rfl e_66 hy1 ?_
  rintro b6 o6 _ hq6 rfl
  refine .w (.ps 0 rfl hq6 rfl a_3 rfl)<|.z rfl rfl<|.z rfl rfl<|.nil<|sq_n<|.seq<|.draw (tb:=[r0 0 0,r0 0 0,r0 0 0,r0 0 0,r0 0 0,r0 24 0,r0 56 0,r0 0 0,r0 133 0,r0 389 0,r0 0 0,r1 2047 1,r1 4095 1]) rfl (by kernel_rfl) (by kernel_rfl) ?_
  refine .y rfl rfl rfl (.s rfl (.g hb1) a_3 rfl)<|.y rfl rfl rfl (.s rfl (.g hb1) a_3 rfl)<|.m rfl rfl<|.m rfl rfl<|.m rfl rfl ?_
  obtain ⟨y7,hy7,hF⟩:=bS hF
  have hj7:=Qaf hy7
  refine .ixk (j:=k1_1) .no rfl rfl hw4_1_0 rfl e_148 hy7 ?_
  rintro b7 o7 _ hq7 rfl
  refine .y rfl rfl rfl (.pa 0 (vs:=[_,_]) rfl hq7 rfl a_27 s_27 rfl rfl)<|.q (.fa rfl Qfw)<|.q (.ixa (j:=3) rfl rfl ae_38 (by decide))<|.st (cs':=[_,_,_,_,_,_,_,_,_,_,_,_,_,_,_,_,_]) .no rfl rfl rfl rfl rfl rfl s_3 rfl rfl (.tl .hd) rfl rfl (FrL.cN (fun _ s=>s.negP (.tl .hd) hq7) (FrL.cN (fun _ s=>s.neg (.tl .hd) hb1) (FrL.cI rfl FrL.n)))<|.q (.fa rfl Qef)<|.q (.ixa (j:=3) rfl rfl Qbp (by decide))<|.st (cs':=[_,_,_,_,_,_,_,_,_,_,_,_,_,_,_,_,_]) .no rfl rfl rfl rfl rfl rfl s_27 rfl rfl (.tl .hd) rfl rfl (.all (Qab rfl (Qab rfl (Qab rfl rfl))))<|.nil<|sq_n<|.seq<|.region rfl<|.w (.a (vs:=[_,_,_,_,_,_,_,_,_,_,_,_]) rfl (.g hb4) a_97 s_97 rfl rfl)<|.w (.s rfl (.g hb5) a_3 rfl)<|.w (.a (vs:=[_,_,_,_,_,_,_,_,_,_,_,_,_,_,_,_,_,_,_,_,_,_]) rfl (.g hb2) a_85 s_85 rfl rfl)<|.w (.s rfl (.g hb1) a_3 rfl)<|.q (.addL (c:=4) rfl rfl rfl (by decide))<|.w (.a (vs:=[_,_,_,_,_,_,_,_,_,_,_,_,_,_,_,_,_]) rfl (.tl .hd) a_111 s_111 rfl rfl) ?_
  obtain ⟨q8,hq8,hF⟩:=bS hF
  refine .call .no rfl rfl rfl (cases4_ok p2 (T_Case.mk (arr [z1_2,z1_3,z1_4,y1,z1_6] z1_2) (arr [(z1_7,z1_8),(z1_9,z1_10),(z1_11,z1_12),y7,(z1_15,z1_16)] (z1_7,z1_8)) (z1_17,z1_18)) p4 p5 _ _ _ _ ⟨_,_,rfl,hpq4,hlq4⟩ ⟨_,_,_,_,_,_,rfl,h2_q2,h6_q2,h10_q2,h14_q2,h18_q2,h21_q2⟩ rfl _ hq8) ?_
  rintro g8 ml8 r8 hle8 ⟨b8,x8,rfl,hit8⟩
  replace hS:=hy.monoS _ _ _ _ hle8 hS
  refine .nil<|sq_n<|.block<|.rangeL (α:=R_cs3_2) [_,_] (fun mx x=>rg mx 0 :: rg mx 1 :: (dml dl1 ++ x.m2)) (fun xs x g'=>Qff (fun _=>Qfn p2 p4 p5 q4 (fun ⟨u1_1,u1_2,u1_3,u1_4,u1_5,u1_6,u1_7,u1_8,u1_9,u1_10,u1_11,u1_12,u1_13,u1_14,u1_15,u1_16,u1_17⟩=>some []) (q4.1.drop (k1_1+1)) (k1_1+1) z1_2 z1_3 z1_4 y1 z1_6 z1_7 z1_8 z1_9 z1_10 z1_11 z1_12 y7.1 y7.2 z1_15 z1_16 z1_17 z1_18) xs=some x.o2∧S x.o2 g' x.m2) (fun e x g'=>e= .ret∧E g' x.m2) (R_cs3_2.mk _ _) rfl hit8 (Le.refl _) (List.Sublist.refl _) (fun _ _ _ _ hl h=>⟨h.1,hy.monoS _ _ _ _ hl h.2⟩) (fun _ _ _ _ hl h=>⟨h.1,hy.monoE _ _ _ hl h.2⟩) ⟨hF,hS⟩ ?_ ?_ ?_
  ·intro l B2 y2 xs2 x2 gl2 args hlo2 hJ hr2
   obtain ⟨o2,m2⟩:=x2
   dsimp only at hJ ⊢
   clear hF hS
   obtain ⟨hF,hS⟩:=hJ
   obtain ⟨_,rfl,rfl⟩:=hr2
   rw [Qff] at hF
   refine ⟨_,rfl,?_⟩
   refine .region rfl<|.alloc .no rfl z_111 fun b9=>.st (cs':=[_,_,_,_,_,_,_,_,_,_,_,_,_,_,_,_,_]) .no rfl rfl rfl rfl s_111 rfl rfl .hd rfl rfl<|.nil<|⟨rfl,rfl,(Le.refl _),fun B=>?_⟩
   refine .block<|.seq<|.region rfl<|.w (.s rfl (.tl .hd) a_201 rfl)<|.w (.a (vs:=[_,_,_,_,_,_,_,_,_,_,_,_,_,_,_,_,_]) rfl .hd a_111 s_111 rfl rfl) ?_
   obtain ⟨o10,hF10,rfl⟩:=ylS hF
   clear hF
   have hF:=hF10
   clear hF10
   refine .callY .no rfl rfl rfl hy ((.cons (.cons (.cons .app))):Fr _ _ _) hS ⟨_,rfl,rfl⟩ (fun g10 m10 hle10 hS10=>?_) (fun g10 m10 hle10 hE10=>?_)
   ·skip
    have hS:=hS10
    refine .q (.not rfl)<|.nil<|sq_n<|.condF rfl rfl<|.skip<|bq_n ?_
    exact ⟨rfl,hle10,R_cs3_2.mk _ _,(.cons _ (List.Sublist.refl _)),hF,hS⟩
   ·skip
    have hE:=hE10
    refine .q (.not rfl)<|.nil<|sq_n<|.condT rfl rfl<|.ret<|bq_r ?_
    exact ⟨rfl,hle10,R_cs3_2.mk [] _,(.cons _ (List.Sublist.refl _)),rfl,hE⟩
  ·intro d2 x2 gl2 hlo2 hJ
   obtain ⟨o2,m2⟩:=x2
   dsimp only at hJ ⊢
   clear hF hS
   obtain ⟨hF,hS⟩:=hJ
   rw [Qff] at hF
   refine bq_n<|bq_n<|sq_n<|.see0 (fun _ s=>s.perm (List.perm_middle (l₁:=[_,_]).symm))<|.region rfl<|.q (.inc1 rfl rfl (by omega))<|.m rfl rfl<|.nil<|loopDQ_n (L_cs3_1.mk (k1_1+1) z1_2 z1_3 z1_4 y1 z1_6 z1_7 z1_8 z1_9 z1_10 z1_11 z1_12 y7.1 y7.2 z1_15 z1_16 z1_17 z1_18 _ _ _) rfl ⟨rfl,rfl,rfl,rfl,rfl,rfl,rfl,rfl,rfl,rfl,trivial⟩ (fun _ _ s=>s.weak (List.Sublist.refl _)) (hle8.trans hlo2) ⟨(Qaf hy1),hF,hS⟩ ?_
   simp only;omega
  ·rintro d2 e2 x2 gl2 he2 hlo2 ⟨rfl,hE⟩
   refine bq_r<|bq_r<|sq_r<|lqD_r<|bq_r<|retD_r (((hle4.trans hlo1).trans hle8).trans hlo2) (.cons_cons _ (.cons _ (.cons _ (List.Sublist.refl _)))) .nil rfl ?_
   exact .inr hE
 have kh5:=dF h5
 rw [dn (by omega),Qfn] at hF
 try dsimp only at hF
 refine .exit<|sq_e<|lqD_e<|bq_x rfl ?_
 obtain rfl:=sI hF
 refine retD_n (hle4.trans hlo1) (.cons _ (.cons _ (List.Sublist.refl _))) .nil rfl ?_
 exact .inl hS
theorem cases3_ok (p:T_Plan) (x:T_Case) (v:Version) (f:Int) (cs0 cs2 cs4:List V) (g:G) (h0:VersionR g cs0 v) (h2:R_Plan g cs2 p) (h4:R_Case g cs4 x) (r:List T_Case) (hF:F_cs3 p x v f=some r):Fw Tryz.prog natS (.f 94 [] []) [.agg cs0,.i .i64 f,.agg cs2,.i .i64 3,.agg cs4] g [] fun g' ml' q=>∃ b x,ml'=[.blk b x]∧It Tryz.prog natS q g' [.blk b x] (AggR R_Case) r:=by
 refine Fw.enter (N:=12) (al:=[(4,_),(3,_),(2,_),(1,_),(0,_)]) Tryz.func94 (by kernel_rfl) (by kernel_rfl) rfl rfl rfl rfl ?_
 intro B
 refine .seq<|.region rfl<|.box .no rfl rfl rfl rfl fun b5=>.box .no rfl rfl rfl rfl fun b6=>.box .no rfl rfl rfl rfl fun b7=>.box .no rfl rfl rfl rfl fun b8=>.box .no rfl rfl rfl rfl fun b9=>.z rfl rfl<|.nil<|sq_n<|.seq<|.region rfl<|.q (.mf rfl rfl)<|.z rfl rfl<|.nil<|sq_n ?_
 refine Wc.freeze (.tl .hd) fun g1 l1 z8=>?_
 refine Wc.freeze (.tl .hd) fun g2 l2 z7=>?_
 refine Wc.freeze (.tl .hd) fun g3 l3 z6=>?_
 refine Wc.freeze (.tl .hd) fun g4 l4 z5=>?_
 refine .ret<|Qaa (((l1.trans l2).trans l3).trans l4) (.tmp rfl .nil) rfl ?_
 have l:=((l1.trans l2).trans l3).trans l4
 subst h4
 exact ⟨b9,_,rfl,F_cs3_ok p x v f cs2 cs0 b8 b7 b9 b5 b6 g4 (l4 _ _ (l3 _ _ (l2 _ _ z8))) (R_Plan.mono _ _ _ _ l h2) (l4 _ _ (l3 _ _ z7)) (VersionR.mono _ _ _ _ l h0) z5 (l4 _ _ z6) r hF⟩
structure R_cs2_2 where
 o2:List T_Case
 m2:ML
def Qfp (kk2:Unit→Option (List T_Case)):List T_Case→Option (List T_Case)
 | []=>kk2 ()
 | y2 :: ys2=>(yl y2 (Qfp kk2 ys2))
structure L_cs2_1 where
 k1_1:Nat
 z1_2:Int
 z1_3:Int
 z1_4:Int
 z1_5:Int
 z1_6:Int
 z1_7:Int
 z1_8:Int
 z1_9:Int
 z1_10:Int
 z1_11:Int
 z1_12:Int
 z1_13:Int
 z1_14:Int
 z1_15:Int
 z1_16:Int
 z1_17:Int
 z1_18:Int
 o1:List T_Case
 m1:ML
 dl1:List D
def Qfj (p2:T_Plan) (p4:Version) (p5:Int) (q4:(List Int) × (List (Int × Int))) (kk1:Int × Int × Int × Int × Int × Int × Int × Int × Int × Int × Int × Int × Int × Int × Int × Int × Int→Option (List T_Case)):List Int→Nat→Int→Int→Int→Int→Int→Int→Int→Int→Int→Int→Int→Int→Int→Int→Int→Int→Int→Option (List T_Case)
 | [],k1_1,z1_2,z1_3,z1_4,z1_5,z1_6,z1_7,z1_8,z1_9,z1_10,z1_11,z1_12,z1_13,z1_14,z1_15,z1_16,z1_17,z1_18=>kk1 (z1_2,z1_3,z1_4,z1_5,z1_6,z1_7,z1_8,z1_9,z1_10,z1_11,z1_12,z1_13,z1_14,z1_15,z1_16,z1_17,z1_18)
 | y1 :: ys1,k1_1,z1_2,z1_3,z1_4,z1_5,z1_6,z1_7,z1_8,z1_9,z1_10,z1_11,z1_12,z1_13,z1_14,z1_15,z1_16,z1_17,z1_18=>((q4.2[k1_1]?).bind fun y7=>((F_cs3 p2 (T_Case.mk (arr [z1_2,z1_3,y1,z1_5,z1_6] z1_2) (arr [(z1_7,z1_8),(z1_9,z1_10),y7,(z1_13,z1_14),(z1_15,z1_16)] (z1_7,z1_8)) (z1_17,z1_18)) p4 p5).bind fun q8=>(Qfp (fun _=>Qfj p2 p4 p5 q4 kk1 ys1 (k1_1+1) z1_2 z1_3 y1 z1_5 z1_6 z1_7 z1_8 z1_9 z1_10 y7.1 y7.2 z1_13 z1_14 z1_15 z1_16 z1_17 z1_18) q8)))
def F_cs2 (p2:T_Plan) (p3:T_Case) (p4:Version) (p5:Int):Option (List T_Case):=(ck (decide ((0:Int)≤p5) && decide (p5 < (2:Int))) (((Qbo (arr [(p4.ln 2),(p4.ln 7)] (p4.ln 2) p5.toNat) ((p2.Shares 2).Litres)).bind fun q4=>(Qfj p2 p4 p5 q4 (fun ⟨u1_1,u1_2,u1_3,u1_4,u1_5,u1_6,u1_7,u1_8,u1_9,u1_10,u1_11,u1_12,u1_13,u1_14,u1_15,u1_16,u1_17⟩=>some []) q4.1 0 (p3.Pieces 0) (p3.Pieces 1) (p3.Pieces 2) (p3.Pieces 3) (p3.Pieces 4) ((p3.Litres 0).1) ((p3.Litres 0).2) ((p3.Litres 1).1) ((p3.Litres 1).2) ((p3.Litres 2).1) ((p3.Litres 2).2) ((p3.Litres 3).1) ((p3.Litres 3).2) ((p3.Litres 4).1) ((p3.Litres 4).2) p3.Tonnages.1 p3.Tonnages.2))))
set_option maxHeartbeats 1000000 in
theorem F_cs2_ok (p2:T_Plan) (p3:T_Case) (p4:Version) (p5:Int) (cs2 cs4:List V) (bc1 bc2 bc3 bc4 bc5:Nat) (g:G) (hb1:g bc1=some (.cells [.i .i64 2] 3)) (h2:R_Plan g cs2 p2) (hb2:g bc2=some (.cells cs2 85)) (h4:VersionR g cs4 p4) (hb4:g bc4=some (.cells cs4 97)) (hb5:g bc5=some (.cells [.i .i64 p5] 3)) (r:List T_Case) (hF:F_cs2 p2 p3 p4 p5=some r):It Tryz.prog natS (.f 139 [] [.p bc1 0,.p bc2 0,.p bc3 0,.p bc4 0,.p bc5 0]) g [.blk bc3 (.cells [.i .i64 (p3.Pieces 0),.i .i64 (p3.Pieces 1),.i .i64 (p3.Pieces 2),.i .i64 (p3.Pieces 3),.i .i64 (p3.Pieces 4),.i .i64 ((p3.Litres 0).1),.i .i64 ((p3.Litres 0).2),.i .i64 ((p3.Litres 1).1),.i .i64 ((p3.Litres 1).2),.i .i64 ((p3.Litres 2).1),.i .i64 ((p3.Litres 2).2),.i .i64 ((p3.Litres 3).1),.i .i64 ((p3.Litres 3).2),.i .i64 ((p3.Litres 4).1),.i .i64 ((p3.Litres 4).2),.i .i64 p3.Tonnages.1,.i .i64 p3.Tonnages.2] 111)] (AggR R_Case) r:=by
 unfold F_cs2 at hF
 obtain ⟨v2_q2,v6_q2,v10_q2,v14_q2,v18_q2,v21_q2,rfl,h2_q2,h6_q2,h10_q2,h14_q2,h18_q2,h21_q2⟩:=h2
 have lh2_2:=h2_q2.1
 have lh2_6:=h6_q2.1
 have lh2_10:=h10_q2.1
 have lh2_14:=h14_q2.1
 have lh2_18:=h18_q2.1
 have lh2_21:=h21_q2.1
 obtain ⟨pq4,lvq4,rfl,hpq4,hlq4⟩:=h4
 have lh4_1:=hpq4.1
 have lh4_2:=(hlq4 0 (by decide)).1
 have lh4_3:=(hlq4 1 (by decide)).1
 have lh4_4:=(hlq4 2 (by decide)).1
 have lh4_5:=(hlq4 3 (by decide)).1
 have lh4_6:=(hlq4 4 (by decide)).1
 have lh4_7:=(hlq4 5 (by decide)).1
 have lh4_8:=(hlq4 6 (by decide)).1
 have lh4_9:=(hlq4 7 (by decide)).1
 have lh4_10:=(hlq4 8 (by decide)).1
 have lh4_11:=(hlq4 9 (by decide)).1
 intro y S E hy g0 m0 hle0 hS
 replace hb1:=hle0 _ _ hb1
 replace h2_q2:=h2_q2.mono IntR.mono hle0
 replace h6_q2:=h6_q2.mono IntR.mono hle0
 replace h10_q2:=h10_q2.mono IntR.mono hle0
 replace h14_q2:=h14_q2.mono IntR.mono hle0
 replace h18_q2:=h18_q2.mono IntR.mono hle0
 replace h21_q2:=h21_q2.mono IntR.mono hle0
 replace hb2:=hle0 _ _ hb2
 replace hpq4:=hpq4.mono PutR.mono hle0
 replace hlq4:=fun k hk=>(hlq4 k hk).mono PieceR.mono hle0
 replace hb4:=hle0 _ _ hb4
 replace hb5:=hle0 _ _ hb5
 refine Fw.enterD (N:=94) (al:=[(5,_),(4,_),(3,_),(2,_),(1,_),(0,_)]) Tryz.func139 (by kernel_rfl) (by kernel_rfl) rfl rfl rfl rfl ?_
 intro B
 refine .seq<|.region rfl<|.box .no rfl rfl hy.any hy.cells fun b1=>.nil<|sq_n<|.seq<|.seq<|.region rfl<|.w (.s rfl (.g hb1) a_3 rfl)<|.b rfl rfl rfl rfl<|.nil<|sq_n<|.condF rfl (by decide)<|.skip<|sq_n<|.seq<|.draw (tb:=[r0 0 0,r0 0 0,r0 0 0,r0 5 0,r0 15 0,r0 31 0,r0 0 0,r0 0 0,r0 192 0,r0 448 0,r0 960 0,r1 2047 0,r1 4095 1,r1 8191 1,r1 8191 1,r1 16383 1,r1 65535 1]) rfl (by kernel_rfl) (by kernel_rfl) ?_
 refine .y rfl rfl rfl (.s rfl (.g hb5) a_3 rfl)<|.y rfl rfl rfl (.s rfl (.g hb1) a_3 rfl)<|.q (.fa rfl Qaj) ?_
 obtain ⟨hsy2,hF⟩:=ckS hF
 have hsy2:=symB (n:=2) hsy2
 refine .q (.ixai rfl rfl ae_95 hsy2)<|.q (.ixa (j:=2) rfl rfl ae_94 (by decide))<|.ldc (k:=0) (Φ:=fun w3_0=>RS PieceR 3 g0 w3_0 (arr [(p4.ln 2),(p4.ln 7)] (p4.ln 2) p5.toNat)) .no rfl rfl rfl trivial (sym2 hsy2 (fun e=>⟨_,.sO (o':=4) rfl (by rw [e];try rfl) (.g hb4) a_93 rfl,by rw [e];exact (hlq4 2 (by decide))⟩) (fun e=>⟨_,.sO (o':=9) rfl (by rw [e];try rfl) (.g hb4) a_93 rfl,by rw [e];exact (hlq4 7 (by decide))⟩)) fun v3 hv3=>?_
 have lhv3:=hv3.1
 refine .y rfl rfl rfl (.s rfl (.g hb1) a_3 rfl)<|.q (.fa rfl Qar)<|.q (.ixa (j:=2) rfl rfl ae_83 (by decide))<|.q (.fa rfl Qag)<|.y rfl rfl rfl (.a (vs:=[_,_]) rfl (.g hb2) a_27 s_27 rfl rfl) ?_
 obtain ⟨q4,hq4,hF⟩:=bS hF
 refine .call .no rfl rfl rfl rfl rfl (Qbi (arr [(p4.ln 2),(p4.ln 7)] (p4.ln 2) p5.toNat) ((p2.Shares 2).Litres) _ _ hv3 _ hq4) ?_
 rintro g4 ml4 r4 hle4 ⟨rfl,w4_0_0,w4_1_0,rfl,hw4_0_0,hw4_1_0⟩
 replace hb1:=hle4 _ _ hb1
 replace h2_q2:=h2_q2.mono IntR.mono hle4
 replace h6_q2:=h6_q2.mono IntR.mono hle4
 replace h10_q2:=h10_q2.mono IntR.mono hle4
 replace h14_q2:=h14_q2.mono IntR.mono hle4
 replace h18_q2:=h18_q2.mono IntR.mono hle4
 replace h21_q2:=h21_q2.mono IntR.mono hle4
 replace hb2:=hle4 _ _ hb2
 replace hpq4:=hpq4.mono PutR.mono hle4
 replace hlq4:=fun k hk=>(hlq4 k hk).mono PieceR.mono hle4
 replace hb4:=hle4 _ _ hb4
 replace hb5:=hle4 _ _ hb5
 replace hS:=hy.monoS _ _ _ _ hle4 hS
 have lhw4_0_0:=hw4_0_0.1
 have lhw4_1_0:=hw4_1_0.1
 refine .m rfl rfl<|.q (.ext rfl rfl)<|.q (.ext rfl rfl)<|.z rfl rfl<|.z rfl rfl<|.nil<|sq_n<|.seq<|.region rfl<|.m rfl rfl<|.q (.lenR rfl rfl rfl e_66 hw4_0_0)<|.m rfl rfl<|.nil<|sq_n<|.block<|.loopD (α:=L_cs2_1) [(1,_),(2,_),(3,_),(4,_),(5,_),(6,_),(13,_),(63,_),(64,_)] [_] (fun fx x=>(65,.i .i64 (x.k1_1:Int)) :: fx) (fun mx x=>rg mx 0 :: .blk bc3 (.cells [.i .i64 x.z1_2,.i .i64 x.z1_3,.i .i64 x.z1_4,.i .i64 x.z1_5,.i .i64 x.z1_6,.i .i64 x.z1_7,.i .i64 x.z1_8,.i .i64 x.z1_9,.i .i64 x.z1_10,.i .i64 x.z1_11,.i .i64 x.z1_12,.i .i64 x.z1_13,.i .i64 x.z1_14,.i .i64 x.z1_15,.i .i64 x.z1_16,.i .i64 x.z1_17,.i .i64 x.z1_18] 111) :: (dml x.dl1 ++ x.m1)) (fun x=>x.dl1) (fun x g'=>x.k1_1≤q4.1.length∧Qfj p2 p4 p5 q4 (fun ⟨u1_1,u1_2,u1_3,u1_4,u1_5,u1_6,u1_7,u1_8,u1_9,u1_10,u1_11,u1_12,u1_13,u1_14,u1_15,u1_16,u1_17⟩=>some []) (q4.1.drop x.k1_1) x.k1_1 x.z1_2 x.z1_3 x.z1_4 x.z1_5 x.z1_6 x.z1_7 x.z1_8 x.z1_9 x.z1_10 x.z1_11 x.z1_12 x.z1_13 x.z1_14 x.z1_15 x.z1_16 x.z1_17 x.z1_18=some x.o1∧S x.o1 g' x.m1) (fun x=>q4.1.length - x.k1_1) (L_cs2_1.mk 0 (p3.Pieces 0) (p3.Pieces 1) (p3.Pieces 2) (p3.Pieces 3) (p3.Pieces 4) ((p3.Litres 0).1) ((p3.Litres 0).2) ((p3.Litres 1).1) ((p3.Litres 1).2) ((p3.Litres 2).1) ((p3.Litres 2).2) ((p3.Litres 3).1) ((p3.Litres 3).2) ((p3.Litres 4).1) ((p3.Litres 4).2) p3.Tonnages.1 p3.Tonnages.2 _ _ []) ⟨rfl,rfl,rfl,rfl,rfl,rfl,rfl,rfl,rfl,rfl,trivial⟩ (List.Sublist.refl _) rfl ⟨(Nat.zero_le _),hF,hS⟩ ?_
 intro x1 gl1 hlo1 hJ1
 obtain ⟨k1_1,z1_2,z1_3,z1_4,z1_5,z1_6,z1_7,z1_8,z1_9,z1_10,z1_11,z1_12,z1_13,z1_14,z1_15,z1_16,z1_17,z1_18,o1,m1,dl1⟩:=x1
 dsimp only at hJ1 ⊢
 clear hF hS
 obtain ⟨hk1,hF,hS⟩:=hJ1
 replace hb1:=hlo1 _ _ hb1
 replace h2_q2:=h2_q2.mono IntR.mono hlo1
 replace h6_q2:=h6_q2.mono IntR.mono hlo1
 replace h10_q2:=h10_q2.mono IntR.mono hlo1
 replace h14_q2:=h14_q2.mono IntR.mono hlo1
 replace h18_q2:=h18_q2.mono IntR.mono hlo1
 replace h21_q2:=h21_q2.mono IntR.mono hlo1
 replace hb2:=hlo1 _ _ hb2
 replace hpq4:=hpq4.mono PutR.mono hlo1
 replace hlq4:=fun k hk=>(hlq4 k hk).mono PieceR.mono hlo1
 replace hb4:=hlo1 _ _ hb4
 replace hb5:=hlo1 _ _ hb5
 replace hw4_0_0:=hw4_0_0.mono IntR.mono hlo1
 replace hw4_1_0:=hw4_1_0.mono RngR.mono hlo1
 refine .seq<|.region rfl<|.b rfl rfl rfl rfl<|.nil<|sq_n<|.seq<|.cond rfl (fun h5=>?_) (fun h5=>?_)
 ·have kh5:=dT h5
  obtain ⟨y1,hy1⟩:=getK (l:=q4.1) (k:=k1_1) kh5
  rw [dc hy1,Qfj] at hF
  refine .skip<|sq_n<|.seq<|.block<|.seq<|.region rfl<|.m rfl rfl<|.ixk (j:=k1_1) .no rfl rfl hw4_0_0 rfl e_66 hy1 ?_
  rintro b6 o6 _ hq6 rfl
  refine .w (.ps 0 rfl hq6 rfl a_3 rfl)<|.z rfl rfl<|.z rfl rfl<|.nil<|sq_n<|.seq<|.draw (tb:=[r0 0 0,r0 0 0,r0 0 0,r0 0 0,r0 0 0,r0 24 0,r0 56 0,r0 0 0,r0 133 0,r0 389 0,r0 0 0,r1 2047 1,r1 4095 1]) rfl (by kernel_rfl) (by kernel_rfl) ?_
  refine .y rfl rfl rfl (.s rfl (.g hb1) a_3 rfl)<|.y rfl rfl rfl (.s rfl (.g hb1) a_3 rfl)<|.m rfl rfl<|.m rfl rfl<|.m rfl rfl ?_
  obtain ⟨y7,hy7,hF⟩:=bS hF
  have hj7:=Qaf hy7
  refine .ixk (j:=k1_1) .no rfl rfl hw4_1_0 rfl e_148 hy7 ?_
  rintro b7 o7 _ hq7 rfl
  refine .y rfl rfl rfl (.pa 0 (vs:=[_,_]) rfl hq7 rfl a_27 s_27 rfl rfl)<|.q (.fa rfl Qfw)<|.q (.ixa (j:=2) rfl rfl ae_38 (by decide))<|.st (cs':=[_,_,_,_,_,_,_,_,_,_,_,_,_,_,_,_,_]) .no rfl rfl rfl rfl rfl rfl s_3 rfl rfl (.tl .hd) rfl rfl (FrL.cN (fun _ s=>s.negP (.tl .hd) hq7) (FrL.cN (fun _ s=>s.neg (.tl .hd) hb1) (FrL.cI rfl FrL.n)))<|.q (.fa rfl Qef)<|.q (.ixa (j:=2) rfl rfl Qbp (by decide))<|.st (cs':=[_,_,_,_,_,_,_,_,_,_,_,_,_,_,_,_,_]) .no rfl rfl rfl rfl rfl rfl s_27 rfl rfl (.tl .hd) rfl rfl (.all (Qab rfl (Qab rfl (Qab rfl rfl))))<|.nil<|sq_n<|.seq<|.region rfl<|.w (.a (vs:=[_,_,_,_,_,_,_,_,_,_,_,_]) rfl (.g hb4) a_97 s_97 rfl rfl)<|.w (.s rfl (.g hb5) a_3 rfl)<|.w (.a (vs:=[_,_,_,_,_,_,_,_,_,_,_,_,_,_,_,_,_,_,_,_,_,_]) rfl (.g hb2) a_85 s_85 rfl rfl)<|.w (.s rfl (.g hb1) a_3 rfl)<|.q (.addL (c:=3) rfl rfl rfl (by decide))<|.w (.a (vs:=[_,_,_,_,_,_,_,_,_,_,_,_,_,_,_,_,_]) rfl (.tl .hd) a_111 s_111 rfl rfl) ?_
  obtain ⟨q8,hq8,hF⟩:=bS hF
  refine .call .no rfl rfl rfl (cases3_ok p2 (T_Case.mk (arr [z1_2,z1_3,y1,z1_5,z1_6] z1_2) (arr [(z1_7,z1_8),(z1_9,z1_10),y7,(z1_13,z1_14),(z1_15,z1_16)] (z1_7,z1_8)) (z1_17,z1_18)) p4 p5 _ _ _ _ ⟨_,_,rfl,hpq4,hlq4⟩ ⟨_,_,_,_,_,_,rfl,h2_q2,h6_q2,h10_q2,h14_q2,h18_q2,h21_q2⟩ rfl _ hq8) ?_
  rintro g8 ml8 r8 hle8 ⟨b8,x8,rfl,hit8⟩
  replace hS:=hy.monoS _ _ _ _ hle8 hS
  refine .nil<|sq_n<|.block<|.rangeL (α:=R_cs2_2) [_,_] (fun mx x=>rg mx 0 :: rg mx 1 :: (dml dl1 ++ x.m2)) (fun xs x g'=>Qfp (fun _=>Qfj p2 p4 p5 q4 (fun ⟨u1_1,u1_2,u1_3,u1_4,u1_5,u1_6,u1_7,u1_8,u1_9,u1_10,u1_11,u1_12,u1_13,u1_14,u1_15,u1_16,u1_17⟩=>some []) (q4.1.drop (k1_1+1)) (k1_1+1) z1_2 z1_3 y1 z1_5 z1_6 z1_7 z1_8 z1_9 z1_10 y7.1 y7.2 z1_13 z1_14 z1_15 z1_16 z1_17 z1_18) xs=some x.o2∧S x.o2 g' x.m2) (fun e x g'=>e= .ret∧E g' x.m2) (R_cs2_2.mk _ _) rfl hit8 (Le.refl _) (List.Sublist.refl _) (fun _ _ _ _ hl h=>⟨h.1,hy.monoS _ _ _ _ hl h.2⟩) (fun _ _ _ _ hl h=>⟨h.1,hy.monoE _ _ _ hl h.2⟩) ⟨hF,hS⟩ ?_ ?_ ?_
  ·intro l B2 y2 xs2 x2 gl2 args hlo2 hJ hr2
   obtain ⟨o2,m2⟩:=x2
   dsimp only at hJ ⊢
   clear hF hS
   obtain ⟨hF,hS⟩:=hJ
   obtain ⟨_,rfl,rfl⟩:=hr2
   rw [Qfp] at hF
   refine ⟨_,rfl,?_⟩
   refine .region rfl<|.alloc .no rfl z_111 fun b9=>.st (cs':=[_,_,_,_,_,_,_,_,_,_,_,_,_,_,_,_,_]) .no rfl rfl rfl rfl s_111 rfl rfl .hd rfl rfl<|.nil<|⟨rfl,rfl,(Le.refl _),fun B=>?_⟩
   refine .block<|.seq<|.region rfl<|.w (.s rfl (.tl .hd) a_201 rfl)<|.w (.a (vs:=[_,_,_,_,_,_,_,_,_,_,_,_,_,_,_,_,_]) rfl .hd a_111 s_111 rfl rfl) ?_
   obtain ⟨o10,hF10,rfl⟩:=ylS hF
   clear hF
   have hF:=hF10
   clear hF10
   refine .callY .no rfl rfl rfl hy ((.cons (.cons (.cons .app))):Fr _ _ _) hS ⟨_,rfl,rfl⟩ (fun g10 m10 hle10 hS10=>?_) (fun g10 m10 hle10 hE10=>?_)
   ·skip
    have hS:=hS10
    refine .q (.not rfl)<|.nil<|sq_n<|.condF rfl rfl<|.skip<|bq_n ?_
    exact ⟨rfl,hle10,R_cs2_2.mk _ _,(.cons _ (List.Sublist.refl _)),hF,hS⟩
   ·skip
    have hE:=hE10
    refine .q (.not rfl)<|.nil<|sq_n<|.condT rfl rfl<|.ret<|bq_r ?_
    exact ⟨rfl,hle10,R_cs2_2.mk [] _,(.cons _ (List.Sublist.refl _)),rfl,hE⟩
  ·intro d2 x2 gl2 hlo2 hJ
   obtain ⟨o2,m2⟩:=x2
   dsimp only at hJ ⊢
   clear hF hS
   obtain ⟨hF,hS⟩:=hJ
   rw [Qfp] at hF
   refine bq_n<|bq_n<|sq_n<|.see0 (fun _ s=>s.perm (List.perm_middle (l₁:=[_,_]).symm))<|.region rfl<|.q (.inc1 rfl rfl (by omega))<|.m rfl rfl<|.nil<|loopDQ_n (L_cs2_1.mk (k1_1+1) z1_2 z1_3 y1 z1_5 z1_6 z1_7 z1_8 z1_9 z1_10 y7.1 y7.2 z1_13 z1_14 z1_15 z1_16 z1_17 z1_18 _ _ _) rfl ⟨rfl,rfl,rfl,rfl,rfl,rfl,rfl,rfl,rfl,rfl,trivial⟩ (fun _ _ s=>s.weak (List.Sublist.refl _)) (hle8.trans hlo2) ⟨(Qaf hy1),hF,hS⟩ ?_
   simp only;omega
  ·rintro d2 e2 x2 gl2 he2 hlo2 ⟨rfl,hE⟩
   refine bq_r<|bq_r<|sq_r<|lqD_r<|bq_r<|retD_r (((hle4.trans hlo1).trans hle8).trans hlo2) (.cons_cons _ (.cons _ (.cons _ (List.Sublist.refl _)))) .nil rfl ?_
   exact .inr hE
 have kh5:=dF h5
 rw [dn (by omega),Qfj] at hF
 try dsimp only at hF
 refine .exit<|sq_e<|lqD_e<|bq_x rfl ?_
 obtain rfl:=sI hF
 refine retD_n (hle4.trans hlo1) (.cons _ (.cons _ (List.Sublist.refl _))) .nil rfl ?_
 exact .inl hS
theorem cases2_ok (p:T_Plan) (x:T_Case) (v:Version) (f:Int) (cs0 cs2 cs4:List V) (g:G) (h0:VersionR g cs0 v) (h2:R_Plan g cs2 p) (h4:R_Case g cs4 x) (r:List T_Case) (hF:F_cs2 p x v f=some r):Fw Tryz.prog natS (.f 94 [] []) [.agg cs0,.i .i64 f,.agg cs2,.i .i64 2,.agg cs4] g [] fun g' ml' q=>∃ b x,ml'=[.blk b x]∧It Tryz.prog natS q g' [.blk b x] (AggR R_Case) r:=by
 refine Fw.enter (N:=12) (al:=[(4,_),(3,_),(2,_),(1,_),(0,_)]) Tryz.func94 (by kernel_rfl) (by kernel_rfl) rfl rfl rfl rfl ?_
 intro B
 refine .seq<|.region rfl<|.box .no rfl rfl rfl rfl fun b5=>.box .no rfl rfl rfl rfl fun b6=>.box .no rfl rfl rfl rfl fun b7=>.box .no rfl rfl rfl rfl fun b8=>.box .no rfl rfl rfl rfl fun b9=>.z rfl rfl<|.nil<|sq_n<|.seq<|.region rfl<|.q (.mf rfl rfl)<|.z rfl rfl<|.nil<|sq_n ?_
 refine Wc.freeze (.tl .hd) fun g1 l1 z8=>?_
 refine Wc.freeze (.tl .hd) fun g2 l2 z7=>?_
 refine Wc.freeze (.tl .hd) fun g3 l3 z6=>?_
 refine Wc.freeze (.tl .hd) fun g4 l4 z5=>?_
 refine .ret<|Qaa (((l1.trans l2).trans l3).trans l4) (.tmp rfl .nil) rfl ?_
 have l:=((l1.trans l2).trans l3).trans l4
 subst h4
 exact ⟨b9,_,rfl,F_cs2_ok p x v f cs2 cs0 b8 b7 b9 b5 b6 g4 (l4 _ _ (l3 _ _ (l2 _ _ z8))) (R_Plan.mono _ _ _ _ l h2) (l4 _ _ (l3 _ _ z7)) (VersionR.mono _ _ _ _ l h0) z5 (l4 _ _ z6) r hF⟩
structure R_cs1_2 where
 o2:List T_Case
 m2:ML
def Qfl (kk2:Unit→Option (List T_Case)):List T_Case→Option (List T_Case)
 | []=>kk2 ()
 | y2 :: ys2=>(yl y2 (Qfl kk2 ys2))
structure L_cs1_1 where
 k1_1:Nat
 z1_2:Int
 z1_3:Int
 z1_4:Int
 z1_5:Int
 z1_6:Int
 z1_7:Int
 z1_8:Int
 z1_9:Int
 z1_10:Int
 z1_11:Int
 z1_12:Int
 z1_13:Int
 z1_14:Int
 z1_15:Int
 z1_16:Int
 z1_17:Int
 z1_18:Int
 o1:List T_Case
 m1:ML
 dl1:List D
def Qfi (p2:T_Plan) (p4:Version) (p5:Int) (q4:(List Int) × (List (Int × Int))) (kk1:Int × Int × Int × Int × Int × Int × Int × Int × Int × Int × Int × Int × Int × Int × Int × Int × Int→Option (List T_Case)):List Int→Nat→Int→Int→Int→Int→Int→Int→Int→Int→Int→Int→Int→Int→Int→Int→Int→Int→Int→Option (List T_Case)
 | [],k1_1,z1_2,z1_3,z1_4,z1_5,z1_6,z1_7,z1_8,z1_9,z1_10,z1_11,z1_12,z1_13,z1_14,z1_15,z1_16,z1_17,z1_18=>kk1 (z1_2,z1_3,z1_4,z1_5,z1_6,z1_7,z1_8,z1_9,z1_10,z1_11,z1_12,z1_13,z1_14,z1_15,z1_16,z1_17,z1_18)
 | y1 :: ys1,k1_1,z1_2,z1_3,z1_4,z1_5,z1_6,z1_7,z1_8,z1_9,z1_10,z1_11,z1_12,z1_13,z1_14,z1_15,z1_16,z1_17,z1_18=>((q4.2[k1_1]?).bind fun y7=>((F_cs2 p2 (T_Case.mk (arr [z1_2,y1,z1_4,z1_5,z1_6] z1_2) (arr [(z1_7,z1_8),y7,(z1_11,z1_12),(z1_13,z1_14),(z1_15,z1_16)] (z1_7,z1_8)) (z1_17,z1_18)) p4 p5).bind fun q8=>(Qfl (fun _=>Qfi p2 p4 p5 q4 kk1 ys1 (k1_1+1) z1_2 y1 z1_4 z1_5 z1_6 z1_7 z1_8 y7.1 y7.2 z1_11 z1_12 z1_13 z1_14 z1_15 z1_16 z1_17 z1_18) q8)))
def F_cs1 (p2:T_Plan) (p3:T_Case) (p4:Version) (p5:Int):Option (List T_Case):=(ck (decide ((0:Int)≤p5) && decide (p5 < (2:Int))) (((Qbo (arr [(p4.ln 1),(p4.ln 6)] (p4.ln 1) p5.toNat) ((p2.Shares 1).Litres)).bind fun q4=>(Qfi p2 p4 p5 q4 (fun ⟨u1_1,u1_2,u1_3,u1_4,u1_5,u1_6,u1_7,u1_8,u1_9,u1_10,u1_11,u1_12,u1_13,u1_14,u1_15,u1_16,u1_17⟩=>some []) q4.1 0 (p3.Pieces 0) (p3.Pieces 1) (p3.Pieces 2) (p3.Pieces 3) (p3.Pieces 4) ((p3.Litres 0).1) ((p3.Litres 0).2) ((p3.Litres 1).1) ((p3.Litres 1).2) ((p3.Litres 2).1) ((p3.Litres 2).2) ((p3.Litres 3).1) ((p3.Litres 3).2) ((p3.Litres 4).1) ((p3.Litres 4).2) p3.Tonnages.1 p3.Tonnages.2))))
set_option maxHeartbeats 1000000 in
theorem F_cs1_ok (p2:T_Plan) (p3:T_Case) (p4:Version) (p5:Int) (cs2 cs4:List V) (bc1 bc2 bc3 bc4 bc5:Nat) (g:G) (hb1:g bc1=some (.cells [.i .i64 1] 3)) (h2:R_Plan g cs2 p2) (hb2:g bc2=some (.cells cs2 85)) (h4:VersionR g cs4 p4) (hb4:g bc4=some (.cells cs4 97)) (hb5:g bc5=some (.cells [.i .i64 p5] 3)) (r:List T_Case) (hF:F_cs1 p2 p3 p4 p5=some r):It Tryz.prog natS (.f 139 [] [.p bc1 0,.p bc2 0,.p bc3 0,.p bc4 0,.p bc5 0]) g [.blk bc3 (.cells [.i .i64 (p3.Pieces 0),.i .i64 (p3.Pieces 1),.i .i64 (p3.Pieces 2),.i .i64 (p3.Pieces 3),.i .i64 (p3.Pieces 4),.i .i64 ((p3.Litres 0).1),.i .i64 ((p3.Litres 0).2),.i .i64 ((p3.Litres 1).1),.i .i64 ((p3.Litres 1).2),.i .i64 ((p3.Litres 2).1),.i .i64 ((p3.Litres 2).2),.i .i64 ((p3.Litres 3).1),.i .i64 ((p3.Litres 3).2),.i .i64 ((p3.Litres 4).1),.i .i64 ((p3.Litres 4).2),.i .i64 p3.Tonnages.1,.i .i64 p3.Tonnages.2] 111)] (AggR R_Case) r:=by
 unfold F_cs1 at hF
 obtain ⟨v2_q2,v6_q2,v10_q2,v14_q2,v18_q2,v21_q2,rfl,h2_q2,h6_q2,h10_q2,h14_q2,h18_q2,h21_q2⟩:=h2
 have lh2_2:=h2_q2.1
 have lh2_6:=h6_q2.1
 have lh2_10:=h10_q2.1
 have lh2_14:=h14_q2.1
 have lh2_18:=h18_q2.1
 have lh2_21:=h21_q2.1
 obtain ⟨pq4,lvq4,rfl,hpq4,hlq4⟩:=h4
 have lh4_1:=hpq4.1
 have lh4_2:=(hlq4 0 (by decide)).1
 have lh4_3:=(hlq4 1 (by decide)).1
 have lh4_4:=(hlq4 2 (by decide)).1
 have lh4_5:=(hlq4 3 (by decide)).1
 have lh4_6:=(hlq4 4 (by decide)).1
 have lh4_7:=(hlq4 5 (by decide)).1
 have lh4_8:=(hlq4 6 (by decide)).1
 have lh4_9:=(hlq4 7 (by decide)).1
 have lh4_10:=(hlq4 8 (by decide)).1
 have lh4_11:=(hlq4 9 (by decide)).1
 intro y S E hy g0 m0 hle0 hS
 replace hb1:=hle0 _ _ hb1
 replace h2_q2:=h2_q2.mono IntR.mono hle0
 replace h6_q2:=h6_q2.mono IntR.mono hle0
 replace h10_q2:=h10_q2.mono IntR.mono hle0
 replace h14_q2:=h14_q2.mono IntR.mono hle0
 replace h18_q2:=h18_q2.mono IntR.mono hle0
 replace h21_q2:=h21_q2.mono IntR.mono hle0
 replace hb2:=hle0 _ _ hb2
 replace hpq4:=hpq4.mono PutR.mono hle0
 replace hlq4:=fun k hk=>(hlq4 k hk).mono PieceR.mono hle0
 replace hb4:=hle0 _ _ hb4
 replace hb5:=hle0 _ _ hb5
 refine Fw.enterD (N:=94) (al:=[(5,_),(4,_),(3,_),(2,_),(1,_),(0,_)]) Tryz.func139 (by kernel_rfl) (by kernel_rfl) rfl rfl rfl rfl ?_
 intro B
 refine .seq<|.region rfl<|.box .no rfl rfl hy.any hy.cells fun b1=>.nil<|sq_n<|.seq<|.seq<|.region rfl<|.w (.s rfl (.g hb1) a_3 rfl)<|.b rfl rfl rfl rfl<|.nil<|sq_n<|.condF rfl (by decide)<|.skip<|sq_n<|.seq<|.draw (tb:=[r0 0 0,r0 0 0,r0 0 0,r0 5 0,r0 15 0,r0 31 0,r0 0 0,r0 0 0,r0 192 0,r0 448 0,r0 960 0,r1 2047 0,r1 4095 1,r1 8191 1,r1 8191 1,r1 16383 1,r1 65535 1]) rfl (by kernel_rfl) (by kernel_rfl) ?_
 refine .y rfl rfl rfl (.s rfl (.g hb5) a_3 rfl)<|.y rfl rfl rfl (.s rfl (.g hb1) a_3 rfl)<|.q (.fa rfl Qaj) ?_
 obtain ⟨hsy2,hF⟩:=ckS hF
 have hsy2:=symB (n:=2) hsy2
 refine .q (.ixai rfl rfl ae_95 hsy2)<|.q (.ixa (j:=1) rfl rfl ae_94 (by decide))<|.ldc (k:=0) (Φ:=fun w3_0=>RS PieceR 3 g0 w3_0 (arr [(p4.ln 1),(p4.ln 6)] (p4.ln 1) p5.toNat)) .no rfl rfl rfl trivial (sym2 hsy2 (fun e=>⟨_,.sO (o':=3) rfl (by rw [e];try rfl) (.g hb4) a_93 rfl,by rw [e];exact (hlq4 1 (by decide))⟩) (fun e=>⟨_,.sO (o':=8) rfl (by rw [e];try rfl) (.g hb4) a_93 rfl,by rw [e];exact (hlq4 6 (by decide))⟩)) fun v3 hv3=>?_
 have lhv3:=hv3.1
 refine .y rfl rfl rfl (.s rfl (.g hb1) a_3 rfl)<|.q (.fa rfl Qar)<|.q (.ixa (j:=1) rfl rfl ae_83 (by decide))<|.q (.fa rfl Qag)<|.y rfl rfl rfl (.a (vs:=[_,_]) rfl (.g hb2) a_27 s_27 rfl rfl) ?_
 obtain ⟨q4,hq4,hF⟩:=bS hF
 refine .call .no rfl rfl rfl rfl rfl (Qbi (arr [(p4.ln 1),(p4.ln 6)] (p4.ln 1) p5.toNat) ((p2.Shares 1).Litres) _ _ hv3 _ hq4) ?_
 rintro g4 ml4 r4 hle4 ⟨rfl,w4_0_0,w4_1_0,rfl,hw4_0_0,hw4_1_0⟩
 replace hb1:=hle4 _ _ hb1
 replace h2_q2:=h2_q2.mono IntR.mono hle4
 replace h6_q2:=h6_q2.mono IntR.mono hle4
 replace h10_q2:=h10_q2.mono IntR.mono hle4
 replace h14_q2:=h14_q2.mono IntR.mono hle4
 replace h18_q2:=h18_q2.mono IntR.mono hle4
 replace h21_q2:=h21_q2.mono IntR.mono hle4
 replace hb2:=hle4 _ _ hb2
 replace hpq4:=hpq4.mono PutR.mono hle4
 replace hlq4:=fun k hk=>(hlq4 k hk).mono PieceR.mono hle4
 replace hb4:=hle4 _ _ hb4
 replace hb5:=hle4 _ _ hb5
 replace hS:=hy.monoS _ _ _ _ hle4 hS
 have lhw4_0_0:=hw4_0_0.1
 have lhw4_1_0:=hw4_1_0.1
 refine .m rfl rfl<|.q (.ext rfl rfl)<|.q (.ext rfl rfl)<|.z rfl rfl<|.z rfl rfl<|.nil<|sq_n<|.seq<|.region rfl<|.m rfl rfl<|.q (.lenR rfl rfl rfl e_66 hw4_0_0)<|.m rfl rfl<|.nil<|sq_n<|.block<|.loopD (α:=L_cs1_1) [(1,_),(2,_),(3,_),(4,_),(5,_),(6,_),(13,_),(63,_),(64,_)] [_] (fun fx x=>(65,.i .i64 (x.k1_1:Int)) :: fx) (fun mx x=>rg mx 0 :: .blk bc3 (.cells [.i .i64 x.z1_2,.i .i64 x.z1_3,.i .i64 x.z1_4,.i .i64 x.z1_5,.i .i64 x.z1_6,.i .i64 x.z1_7,.i .i64 x.z1_8,.i .i64 x.z1_9,.i .i64 x.z1_10,.i .i64 x.z1_11,.i .i64 x.z1_12,.i .i64 x.z1_13,.i .i64 x.z1_14,.i .i64 x.z1_15,.i .i64 x.z1_16,.i .i64 x.z1_17,.i .i64 x.z1_18] 111) :: (dml x.dl1 ++ x.m1)) (fun x=>x.dl1) (fun x g'=>x.k1_1≤q4.1.length∧Qfi p2 p4 p5 q4 (fun ⟨u1_1,u1_2,u1_3,u1_4,u1_5,u1_6,u1_7,u1_8,u1_9,u1_10,u1_11,u1_12,u1_13,u1_14,u1_15,u1_16,u1_17⟩=>some []) (q4.1.drop x.k1_1) x.k1_1 x.z1_2 x.z1_3 x.z1_4 x.z1_5 x.z1_6 x.z1_7 x.z1_8 x.z1_9 x.z1_10 x.z1_11 x.z1_12 x.z1_13 x.z1_14 x.z1_15 x.z1_16 x.z1_17 x.z1_18=some x.o1∧S x.o1 g' x.m1) (fun x=>q4.1.length - x.k1_1) (L_cs1_1.mk 0 (p3.Pieces 0) (p3.Pieces 1) (p3.Pieces 2) (p3.Pieces 3) (p3.Pieces 4) ((p3.Litres 0).1) ((p3.Litres 0).2) ((p3.Litres 1).1) ((p3.Litres 1).2) ((p3.Litres 2).1) ((p3.Litres 2).2) ((p3.Litres 3).1) ((p3.Litres 3).2) ((p3.Litres 4).1) ((p3.Litres 4).2) p3.Tonnages.1 p3.Tonnages.2 _ _ []) ⟨rfl,rfl,rfl,rfl,rfl,rfl,rfl,rfl,rfl,rfl,trivial⟩ (List.Sublist.refl _) rfl ⟨(Nat.zero_le _),hF,hS⟩ ?_
 intro x1 gl1 hlo1 hJ1
 obtain ⟨k1_1,z1_2,z1_3,z1_4,z1_5,z1_6,z1_7,z1_8,z1_9,z1_10,z1_11,z1_12,z1_13,z1_14,z1_15,z1_16,z1_17,z1_18,o1,m1,dl1⟩:=x1
 dsimp only at hJ1 ⊢
 clear hF hS
 obtain ⟨hk1,hF,hS⟩:=hJ1
 replace hb1:=hlo1 _ _ hb1
 replace h2_q2:=h2_q2.mono IntR.mono hlo1
 replace h6_q2:=h6_q2.mono IntR.mono hlo1
 replace h10_q2:=h10_q2.mono IntR.mono hlo1
 replace h14_q2:=h14_q2.mono IntR.mono hlo1
 replace h18_q2:=h18_q2.mono IntR.mono hlo1
 replace h21_q2:=h21_q2.mono IntR.mono hlo1
 replace hb2:=hlo1 _ _ hb2
 replace hpq4:=hpq4.mono PutR.mono hlo1
 replace hlq4:=fun k hk=>(hlq4 k hk).mono PieceR.mono hlo1
 replace hb4:=hlo1 _ _ hb4
 replace hb5:=hlo1 _ _ hb5
 replace hw4_0_0:=hw4_0_0.mono IntR.mono hlo1
 replace hw4_1_0:=hw4_1_0.mono RngR.mono hlo1
 refine .seq<|.region rfl<|.b rfl rfl rfl rfl<|.nil<|sq_n<|.seq<|.cond rfl (fun h5=>?_) (fun h5=>?_)
 ·have kh5:=dT h5
  obtain ⟨y1,hy1⟩:=getK (l:=q4.1) (k:=k1_1) kh5
  rw [dc hy1,Qfi] at hF
  refine .skip<|sq_n<|.seq<|.block<|.seq<|.region rfl<|.m rfl rfl<|.ixk (j:=k1_1) .no rfl rfl hw4_0_0 rfl e_66 hy1 ?_
  rintro b6 o6 _ hq6 rfl
  refine .w (.ps 0 rfl hq6 rfl a_3 rfl)<|.z rfl rfl<|.z rfl rfl<|.nil<|sq_n<|.seq<|.draw (tb:=[r0 0 0,r0 0 0,r0 0 0,r0 0 0,r0 0 0,r0 24 0,r0 56 0,r0 0 0,r0 133 0,r0 389 0,r0 0 0,r1 2047 1,r1 4095 1]) rfl (by kernel_rfl) (by kernel_rfl) ?_
  refine .y rfl rfl rfl (.s rfl (.g hb1) a_3 rfl)<|.y rfl rfl rfl (.s rfl (.g hb1) a_3 rfl)<|.m rfl rfl<|.m rfl rfl<|.m rfl rfl ?_
  obtain ⟨y7,hy7,hF⟩:=bS hF
  have hj7:=Qaf hy7
  refine .ixk (j:=k1_1) .no rfl rfl hw4_1_0 rfl e_148 hy7 ?_
  rintro b7 o7 _ hq7 rfl
  refine .y rfl rfl rfl (.pa 0 (vs:=[_,_]) rfl hq7 rfl a_27 s_27 rfl rfl)<|.q (.fa rfl Qfw)<|.q (.ixa (j:=1) rfl rfl ae_38 (by decide))<|.st (cs':=[_,_,_,_,_,_,_,_,_,_,_,_,_,_,_,_,_]) .no rfl rfl rfl rfl rfl rfl s_3 rfl rfl (.tl .hd) rfl rfl (FrL.cN (fun _ s=>s.negP (.tl .hd) hq7) (FrL.cN (fun _ s=>s.neg (.tl .hd) hb1) (FrL.cI rfl FrL.n)))<|.q (.fa rfl Qef)<|.q (.ixa (j:=1) rfl rfl Qbp (by decide))<|.st (cs':=[_,_,_,_,_,_,_,_,_,_,_,_,_,_,_,_,_]) .no rfl rfl rfl rfl rfl rfl s_27 rfl rfl (.tl .hd) rfl rfl (.all (Qab rfl (Qab rfl (Qab rfl rfl))))<|.nil<|sq_n<|.seq<|.region rfl<|.w (.a (vs:=[_,_,_,_,_,_,_,_,_,_,_,_]) rfl (.g hb4) a_97 s_97 rfl rfl)<|.w (.s rfl (.g hb5) a_3 rfl)<|.w (.a (vs:=[_,_,_,_,_,_,_,_,_,_,_,_,_,_,_,_,_,_,_,_,_,_]) rfl (.g hb2) a_85 s_85 rfl rfl)<|.w (.s rfl (.g hb1) a_3 rfl)<|.q (.addL (c:=2) rfl rfl rfl (by decide))<|.w (.a (vs:=[_,_,_,_,_,_,_,_,_,_,_,_,_,_,_,_,_]) rfl (.tl .hd) a_111 s_111 rfl rfl) ?_
  obtain ⟨q8,hq8,hF⟩:=bS hF
  refine .call .no rfl rfl rfl (cases2_ok p2 (T_Case.mk (arr [z1_2,y1,z1_4,z1_5,z1_6] z1_2) (arr [(z1_7,z1_8),y7,(z1_11,z1_12),(z1_13,z1_14),(z1_15,z1_16)] (z1_7,z1_8)) (z1_17,z1_18)) p4 p5 _ _ _ _ ⟨_,_,rfl,hpq4,hlq4⟩ ⟨_,_,_,_,_,_,rfl,h2_q2,h6_q2,h10_q2,h14_q2,h18_q2,h21_q2⟩ rfl _ hq8) ?_
  rintro g8 ml8 r8 hle8 ⟨b8,x8,rfl,hit8⟩
  replace hS:=hy.monoS _ _ _ _ hle8 hS
  refine .nil<|sq_n<|.block<|.rangeL (α:=R_cs1_2) [_,_] (fun mx x=>rg mx 0 :: rg mx 1 :: (dml dl1 ++ x.m2)) (fun xs x g'=>Qfl (fun _=>Qfi p2 p4 p5 q4 (fun ⟨u1_1,u1_2,u1_3,u1_4,u1_5,u1_6,u1_7,u1_8,u1_9,u1_10,u1_11,u1_12,u1_13,u1_14,u1_15,u1_16,u1_17⟩=>some []) (q4.1.drop (k1_1+1)) (k1_1+1) z1_2 y1 z1_4 z1_5 z1_6 z1_7 z1_8 y7.1 y7.2 z1_11 z1_12 z1_13 z1_14 z1_15 z1_16 z1_17 z1_18) xs=some x.o2∧S x.o2 g' x.m2) (fun e x g'=>e= .ret∧E g' x.m2) (R_cs1_2.mk _ _) rfl hit8 (Le.refl _) (List.Sublist.refl _) (fun _ _ _ _ hl h=>⟨h.1,hy.monoS _ _ _ _ hl h.2⟩) (fun _ _ _ _ hl h=>⟨h.1,hy.monoE _ _ _ hl h.2⟩) ⟨hF,hS⟩ ?_ ?_ ?_
  ·intro l B2 y2 xs2 x2 gl2 args hlo2 hJ hr2
   obtain ⟨o2,m2⟩:=x2
   dsimp only at hJ ⊢
   clear hF hS
   obtain ⟨hF,hS⟩:=hJ
   obtain ⟨_,rfl,rfl⟩:=hr2
   rw [Qfl] at hF
   refine ⟨_,rfl,?_⟩
   refine .region rfl<|.alloc .no rfl z_111 fun b9=>.st (cs':=[_,_,_,_,_,_,_,_,_,_,_,_,_,_,_,_,_]) .no rfl rfl rfl rfl s_111 rfl rfl .hd rfl rfl<|.nil<|⟨rfl,rfl,(Le.refl _),fun B=>?_⟩
   refine .block<|.seq<|.region rfl<|.w (.s rfl (.tl .hd) a_201 rfl)<|.w (.a (vs:=[_,_,_,_,_,_,_,_,_,_,_,_,_,_,_,_,_]) rfl .hd a_111 s_111 rfl rfl) ?_
   obtain ⟨o10,hF10,rfl⟩:=ylS hF
   clear hF
   have hF:=hF10
   clear hF10
   refine .callY .no rfl rfl rfl hy ((.cons (.cons (.cons .app))):Fr _ _ _) hS ⟨_,rfl,rfl⟩ (fun g10 m10 hle10 hS10=>?_) (fun g10 m10 hle10 hE10=>?_)
   ·skip
    have hS:=hS10
    refine .q (.not rfl)<|.nil<|sq_n<|.condF rfl rfl<|.skip<|bq_n ?_
    exact ⟨rfl,hle10,R_cs1_2.mk _ _,(.cons _ (List.Sublist.refl _)),hF,hS⟩
   ·skip
    have hE:=hE10
    refine .q (.not rfl)<|.nil<|sq_n<|.condT rfl rfl<|.ret<|bq_r ?_
    exact ⟨rfl,hle10,R_cs1_2.mk [] _,(.cons _ (List.Sublist.refl _)),rfl,hE⟩
  ·intro d2 x2 gl2 hlo2 hJ
   obtain ⟨o2,m2⟩:=x2
   dsimp only at hJ ⊢
   clear hF hS
   obtain ⟨hF,hS⟩:=hJ
   rw [Qfl] at hF
   refine bq_n<|bq_n<|sq_n<|.see0 (fun _ s=>s.perm (List.perm_middle (l₁:=[_,_]).symm))<|.region rfl<|.q (.inc1 rfl rfl (by omega))<|.m rfl rfl<|.nil<|loopDQ_n (L_cs1_1.mk (k1_1+1) z1_2 y1 z1_4 z1_5 z1_6 z1_7 z1_8 y7.1 y7.2 z1_11 z1_12 z1_13 z1_14 z1_15 z1_16 z1_17 z1_18 _ _ _) rfl ⟨rfl,rfl,rfl,rfl,rfl,rfl,rfl,rfl,rfl,rfl,trivial⟩ (fun _ _ s=>s.weak (List.Sublist.refl _)) (hle8.trans hlo2) ⟨(Qaf hy1),hF,hS⟩ ?_
   simp only;omega
  ·rintro d2 e2 x2 gl2 he2 hlo2 ⟨rfl,hE⟩
   refine bq_r<|bq_r<|sq_r<|lqD_r<|bq_r<|retD_r (((hle4.trans hlo1).trans hle8).trans hlo2) (.cons_cons _ (.cons _ (.cons _ (List.Sublist.refl _)))) .nil rfl ?_
   exact .inr hE
 have kh5:=dF h5
 rw [dn (by omega),Qfi] at hF
 try dsimp only at hF
 refine .exit<|sq_e<|lqD_e<|bq_x rfl ?_
 obtain rfl:=sI hF
 refine retD_n (hle4.trans hlo1) (.cons _ (.cons _ (List.Sublist.refl _))) .nil rfl ?_
 exact .inl hS
theorem cases1_ok (p:T_Plan) (x:T_Case) (v:Version) (f:Int) (cs0 cs2 cs4:List V) (g:G) (h0:VersionR g cs0 v) (h2:R_Plan g cs2 p) (h4:R_Case g cs4 x) (r:List T_Case) (hF:F_cs1 p x v f=some r):Fw Tryz.prog natS (.f 94 [] []) [.agg cs0,.i .i64 f,.agg cs2,.i .i64 1,.agg cs4] g [] fun g' ml' q=>∃ b x,ml'=[.blk b x]∧It Tryz.prog natS q g' [.blk b x] (AggR R_Case) r:=by
 refine Fw.enter (N:=12) (al:=[(4,_),(3,_),(2,_),(1,_),(0,_)]) Tryz.func94 (by kernel_rfl) (by kernel_rfl) rfl rfl rfl rfl ?_
 intro B
 refine .seq<|.region rfl<|.box .no rfl rfl rfl rfl fun b5=>.box .no rfl rfl rfl rfl fun b6=>.box .no rfl rfl rfl rfl fun b7=>.box .no rfl rfl rfl rfl fun b8=>.box .no rfl rfl rfl rfl fun b9=>.z rfl rfl<|.nil<|sq_n<|.seq<|.region rfl<|.q (.mf rfl rfl)<|.z rfl rfl<|.nil<|sq_n ?_
 refine Wc.freeze (.tl .hd) fun g1 l1 z8=>?_
 refine Wc.freeze (.tl .hd) fun g2 l2 z7=>?_
 refine Wc.freeze (.tl .hd) fun g3 l3 z6=>?_
 refine Wc.freeze (.tl .hd) fun g4 l4 z5=>?_
 refine .ret<|Qaa (((l1.trans l2).trans l3).trans l4) (.tmp rfl .nil) rfl ?_
 have l:=((l1.trans l2).trans l3).trans l4
 subst h4
 exact ⟨b9,_,rfl,F_cs1_ok p x v f cs2 cs0 b8 b7 b9 b5 b6 g4 (l4 _ _ (l3 _ _ (l2 _ _ z8))) (R_Plan.mono _ _ _ _ l h2) (l4 _ _ (l3 _ _ z7)) (VersionR.mono _ _ _ _ l h0) z5 (l4 _ _ z6) r hF⟩
structure R_cs0_2 where
 o2:List T_Case
 m2:ML
def Qfk (kk2:Unit→Option (List T_Case)):List T_Case→Option (List T_Case)
 | []=>kk2 ()
 | y2 :: ys2=>(yl y2 (Qfk kk2 ys2))
structure L_cs0_1 where
 k1_1:Nat
 z1_2:Int
 z1_3:Int
 z1_4:Int
 z1_5:Int
 z1_6:Int
 z1_7:Int
 z1_8:Int
 z1_9:Int
 z1_10:Int
 z1_11:Int
 z1_12:Int
 z1_13:Int
 z1_14:Int
 z1_15:Int
 z1_16:Int
 z1_17:Int
 z1_18:Int
 o1:List T_Case
 m1:ML
 dl1:List D
def Qfo (p2:T_Plan) (p4:Version) (p5:Int) (q4:(List Int) × (List (Int × Int))) (kk1:Int × Int × Int × Int × Int × Int × Int × Int × Int × Int × Int × Int × Int × Int × Int × Int × Int→Option (List T_Case)):List Int→Nat→Int→Int→Int→Int→Int→Int→Int→Int→Int→Int→Int→Int→Int→Int→Int→Int→Int→Option (List T_Case)
 | [],k1_1,z1_2,z1_3,z1_4,z1_5,z1_6,z1_7,z1_8,z1_9,z1_10,z1_11,z1_12,z1_13,z1_14,z1_15,z1_16,z1_17,z1_18=>kk1 (z1_2,z1_3,z1_4,z1_5,z1_6,z1_7,z1_8,z1_9,z1_10,z1_11,z1_12,z1_13,z1_14,z1_15,z1_16,z1_17,z1_18)
 | y1 :: ys1,k1_1,z1_2,z1_3,z1_4,z1_5,z1_6,z1_7,z1_8,z1_9,z1_10,z1_11,z1_12,z1_13,z1_14,z1_15,z1_16,z1_17,z1_18=>((q4.2[k1_1]?).bind fun y7=>((F_cs1 p2 (T_Case.mk (arr [y1,z1_3,z1_4,z1_5,z1_6] y1) (arr [y7,(z1_9,z1_10),(z1_11,z1_12),(z1_13,z1_14),(z1_15,z1_16)] y7) (z1_17,z1_18)) p4 p5).bind fun q8=>(Qfk (fun _=>Qfo p2 p4 p5 q4 kk1 ys1 (k1_1+1) y1 z1_3 z1_4 z1_5 z1_6 y7.1 y7.2 z1_9 z1_10 z1_11 z1_12 z1_13 z1_14 z1_15 z1_16 z1_17 z1_18) q8)))
def F_cs0 (p2:T_Plan) (p3:T_Case) (p4:Version) (p5:Int):Option (List T_Case):=(ck (decide ((0:Int)≤p5) && decide (p5 < (2:Int))) (((Qbo (arr [(p4.ln 0),(p4.ln 5)] (p4.ln 0) p5.toNat) ((p2.Shares 0).Litres)).bind fun q4=>(Qfo p2 p4 p5 q4 (fun ⟨u1_1,u1_2,u1_3,u1_4,u1_5,u1_6,u1_7,u1_8,u1_9,u1_10,u1_11,u1_12,u1_13,u1_14,u1_15,u1_16,u1_17⟩=>some []) q4.1 0 (p3.Pieces 0) (p3.Pieces 1) (p3.Pieces 2) (p3.Pieces 3) (p3.Pieces 4) ((p3.Litres 0).1) ((p3.Litres 0).2) ((p3.Litres 1).1) ((p3.Litres 1).2) ((p3.Litres 2).1) ((p3.Litres 2).2) ((p3.Litres 3).1) ((p3.Litres 3).2) ((p3.Litres 4).1) ((p3.Litres 4).2) p3.Tonnages.1 p3.Tonnages.2))))
set_option maxHeartbeats 1000000 in
theorem F_cs0_ok (p2:T_Plan) (p3:T_Case) (p4:Version) (p5:Int) (cs2 cs4:List V) (bc1 bc2 bc3 bc4 bc5:Nat) (g:G) (hb1:g bc1=some (.cells [.i .i64 0] 3)) (h2:R_Plan g cs2 p2) (hb2:g bc2=some (.cells cs2 85)) (h4:VersionR g cs4 p4) (hb4:g bc4=some (.cells cs4 97)) (hb5:g bc5=some (.cells [.i .i64 p5] 3)) (r:List T_Case) (hF:F_cs0 p2 p3 p4 p5=some r):It Tryz.prog natS (.f 139 [] [.p bc1 0,.p bc2 0,.p bc3 0,.p bc4 0,.p bc5 0]) g [.blk bc3 (.cells [.i .i64 (p3.Pieces 0),.i .i64 (p3.Pieces 1),.i .i64 (p3.Pieces 2),.i .i64 (p3.Pieces 3),.i .i64 (p3.Pieces 4),.i .i64 ((p3.Litres 0).1),.i .i64 ((p3.Litres 0).2),.i .i64 ((p3.Litres 1).1),.i .i64 ((p3.Litres 1).2),.i .i64 ((p3.Litres 2).1),.i .i64 ((p3.Litres 2).2),.i .i64 ((p3.Litres 3).1),.i .i64 ((p3.Litres 3).2),.i .i64 ((p3.Litres 4).1),.i .i64 ((p3.Litres 4).2),.i .i64 p3.Tonnages.1,.i .i64 p3.Tonnages.2] 111)] (AggR R_Case) r:=by
 unfold F_cs0 at hF
 obtain ⟨v2_q2,v6_q2,v10_q2,v14_q2,v18_q2,v21_q2,rfl,h2_q2,h6_q2,h10_q2,h14_q2,h18_q2,h21_q2⟩:=h2
 have lh2_2:=h2_q2.1
 have lh2_6:=h6_q2.1
 have lh2_10:=h10_q2.1
 have lh2_14:=h14_q2.1
 have lh2_18:=h18_q2.1
 have lh2_21:=h21_q2.1
 obtain ⟨pq4,lvq4,rfl,hpq4,hlq4⟩:=h4
 have lh4_1:=hpq4.1
 have lh4_2:=(hlq4 0 (by decide)).1
 have lh4_3:=(hlq4 1 (by decide)).1
 have lh4_4:=(hlq4 2 (by decide)).1
 have lh4_5:=(hlq4 3 (by decide)).1
 have lh4_6:=(hlq4 4 (by decide)).1
 have lh4_7:=(hlq4 5 (by decide)).1
 have lh4_8:=(hlq4 6 (by decide)).1
 have lh4_9:=(hlq4 7 (by decide)).1
 have lh4_10:=(hlq4 8 (by decide)).1
 have lh4_11:=(hlq4 9 (by decide)).1
 intro y S E hy g0 m0 hle0 hS
 replace hb1:=hle0 _ _ hb1
 replace h2_q2:=h2_q2.mono IntR.mono hle0
 replace h6_q2:=h6_q2.mono IntR.mono hle0
 replace h10_q2:=h10_q2.mono IntR.mono hle0
 replace h14_q2:=h14_q2.mono IntR.mono hle0
 replace h18_q2:=h18_q2.mono IntR.mono hle0
 replace h21_q2:=h21_q2.mono IntR.mono hle0
 replace hb2:=hle0 _ _ hb2
 replace hpq4:=hpq4.mono PutR.mono hle0
 replace hlq4:=fun k hk=>(hlq4 k hk).mono PieceR.mono hle0
 replace hb4:=hle0 _ _ hb4
 replace hb5:=hle0 _ _ hb5
 refine Fw.enterD (N:=94) (al:=[(5,_),(4,_),(3,_),(2,_),(1,_),(0,_)]) Tryz.func139 (by kernel_rfl) (by kernel_rfl) rfl rfl rfl rfl ?_
 intro B
 refine .seq<|.region rfl<|.box .no rfl rfl hy.any hy.cells fun b1=>.nil<|sq_n<|.seq<|.seq<|.region rfl<|.w (.s rfl (.g hb1) a_3 rfl)<|.b rfl rfl rfl rfl<|.nil<|sq_n<|.condF rfl (by decide)<|.skip<|sq_n<|.seq<|.draw (tb:=[r0 0 0,r0 0 0,r0 0 0,r0 5 0,r0 15 0,r0 31 0,r0 0 0,r0 0 0,r0 192 0,r0 448 0,r0 960 0,r1 2047 0,r1 4095 1,r1 8191 1,r1 8191 1,r1 16383 1,r1 65535 1]) rfl (by kernel_rfl) (by kernel_rfl) ?_
 refine .y rfl rfl rfl (.s rfl (.g hb5) a_3 rfl)<|.y rfl rfl rfl (.s rfl (.g hb1) a_3 rfl)<|.q (.fa rfl Qaj) ?_
 obtain ⟨hsy2,hF⟩:=ckS hF
 have hsy2:=symB (n:=2) hsy2
 refine .q (.ixai rfl rfl ae_95 hsy2)<|.q (.ixa (j:=0) rfl rfl ae_94 (by decide))<|.ldc (k:=0) (Φ:=fun w3_0=>RS PieceR 3 g0 w3_0 (arr [(p4.ln 0),(p4.ln 5)] (p4.ln 0) p5.toNat)) .no rfl rfl rfl trivial (sym2 hsy2 (fun e=>⟨_,.sO (o':=2) rfl (by rw [e];try rfl) (.g hb4) a_93 rfl,by rw [e];exact (hlq4 0 (by decide))⟩) (fun e=>⟨_,.sO (o':=7) rfl (by rw [e];try rfl) (.g hb4) a_93 rfl,by rw [e];exact (hlq4 5 (by decide))⟩)) fun v3 hv3=>?_
 have lhv3:=hv3.1
 refine .y rfl rfl rfl (.s rfl (.g hb1) a_3 rfl)<|.q (.fa rfl Qar)<|.q (.ixa (j:=0) rfl rfl ae_83 (by decide))<|.q (.fa rfl Qag)<|.y rfl rfl rfl (.a (vs:=[_,_]) rfl (.g hb2) a_27 s_27 rfl rfl) ?_
 obtain ⟨q4,hq4,hF⟩:=bS hF
 refine .call .no rfl rfl rfl rfl rfl (Qbi (arr [(p4.ln 0),(p4.ln 5)] (p4.ln 0) p5.toNat) ((p2.Shares 0).Litres) _ _ hv3 _ hq4) ?_
 rintro g4 ml4 r4 hle4 ⟨rfl,w4_0_0,w4_1_0,rfl,hw4_0_0,hw4_1_0⟩
 replace hb1:=hle4 _ _ hb1
 replace h2_q2:=h2_q2.mono IntR.mono hle4
 replace h6_q2:=h6_q2.mono IntR.mono hle4
 replace h10_q2:=h10_q2.mono IntR.mono hle4
 replace h14_q2:=h14_q2.mono IntR.mono hle4
 replace h18_q2:=h18_q2.mono IntR.mono hle4
 replace h21_q2:=h21_q2.mono IntR.mono hle4
 replace hb2:=hle4 _ _ hb2
 replace hpq4:=hpq4.mono PutR.mono hle4
 replace hlq4:=fun k hk=>(hlq4 k hk).mono PieceR.mono hle4
 replace hb4:=hle4 _ _ hb4
 replace hb5:=hle4 _ _ hb5
 replace hS:=hy.monoS _ _ _ _ hle4 hS
 have lhw4_0_0:=hw4_0_0.1
 have lhw4_1_0:=hw4_1_0.1
 refine .m rfl rfl<|.q (.ext rfl rfl)<|.q (.ext rfl rfl)<|.z rfl rfl<|.z rfl rfl<|.nil<|sq_n<|.seq<|.region rfl<|.m rfl rfl<|.q (.lenR rfl rfl rfl e_66 hw4_0_0)<|.m rfl rfl<|.nil<|sq_n<|.block<|.loopD (α:=L_cs0_1) [(1,_),(2,_),(3,_),(4,_),(5,_),(6,_),(13,_),(63,_),(64,_)] [_] (fun fx x=>(65,.i .i64 (x.k1_1:Int)) :: fx) (fun mx x=>rg mx 0 :: .blk bc3 (.cells [.i .i64 x.z1_2,.i .i64 x.z1_3,.i .i64 x.z1_4,.i .i64 x.z1_5,.i .i64 x.z1_6,.i .i64 x.z1_7,.i .i64 x.z1_8,.i .i64 x.z1_9,.i .i64 x.z1_10,.i .i64 x.z1_11,.i .i64 x.z1_12,.i .i64 x.z1_13,.i .i64 x.z1_14,.i .i64 x.z1_15,.i .i64 x.z1_16,.i .i64 x.z1_17,.i .i64 x.z1_18] 111) :: (dml x.dl1 ++ x.m1)) (fun x=>x.dl1) (fun x g'=>x.k1_1≤q4.1.length∧Qfo p2 p4 p5 q4 (fun ⟨u1_1,u1_2,u1_3,u1_4,u1_5,u1_6,u1_7,u1_8,u1_9,u1_10,u1_11,u1_12,u1_13,u1_14,u1_15,u1_16,u1_17⟩=>some []) (q4.1.drop x.k1_1) x.k1_1 x.z1_2 x.z1_3 x.z1_4 x.z1_5 x.z1_6 x.z1_7 x.z1_8 x.z1_9 x.z1_10 x.z1_11 x.z1_12 x.z1_13 x.z1_14 x.z1_15 x.z1_16 x.z1_17 x.z1_18=some x.o1∧S x.o1 g' x.m1) (fun x=>q4.1.length - x.k1_1) (L_cs0_1.mk 0 (p3.Pieces 0) (p3.Pieces 1) (p3.Pieces 2) (p3.Pieces 3) (p3.Pieces 4) ((p3.Litres 0).1) ((p3.Litres 0).2) ((p3.Litres 1).1) ((p3.Litres 1).2) ((p3.Litres 2).1) ((p3.Litres 2).2) ((p3.Litres 3).1) ((p3.Litres 3).2) ((p3.Litres 4).1) ((p3.Litres 4).2) p3.Tonnages.1 p3.Tonnages.2 _ _ []) ⟨rfl,rfl,rfl,rfl,rfl,rfl,rfl,rfl,rfl,rfl,trivial⟩ (List.Sublist.refl _) rfl ⟨(Nat.zero_le _),hF,hS⟩ ?_
 intro x1 gl1 hlo1 hJ1
 obtain ⟨k1_1,z1_2,z1_3,z1_4,z1_5,z1_6,z1_7,z1_8,z1_9,z1_10,z1_11,z1_12,z1_13,z1_14,z1_15,z1_16,z1_17,z1_18,o1,m1,dl1⟩:=x1
 dsimp only at hJ1 ⊢
 clear hF hS
 obtain ⟨hk1,hF,hS⟩:=hJ1
 replace hb1:=hlo1 _ _ hb1
 replace h2_q2:=h2_q2.mono IntR.mono hlo1
 replace h6_q2:=h6_q2.mono IntR.mono hlo1
 replace h10_q2:=h10_q2.mono IntR.mono hlo1
 replace h14_q2:=h14_q2.mono IntR.mono hlo1
 replace h18_q2:=h18_q2.mono IntR.mono hlo1
 replace h21_q2:=h21_q2.mono IntR.mono hlo1
 replace hb2:=hlo1 _ _ hb2
 replace hpq4:=hpq4.mono PutR.mono hlo1
 replace hlq4:=fun k hk=>(hlq4 k hk).mono PieceR.mono hlo1
 replace hb4:=hlo1 _ _ hb4
 replace hb5:=hlo1 _ _ hb5
 replace hw4_0_0:=hw4_0_0.mono IntR.mono hlo1
 replace hw4_1_0:=hw4_1_0.mono RngR.mono hlo1
 refine .seq<|.region rfl<|.b rfl rfl rfl rfl<|.nil<|sq_n<|.seq<|.cond rfl (fun h5=>?_) (fun h5=>?_)
 ·have kh5:=dT h5
  obtain ⟨y1,hy1⟩:=getK (l:=q4.1) (k:=k1_1) kh5
  rw [dc hy1,Qfo] at hF
  refine .skip<|sq_n<|.seq<|.block<|.seq<|.region rfl<|.m rfl rfl<|.ixk (j:=k1_1) .no rfl rfl hw4_0_0 rfl e_66 hy1 ?_
  rintro b6 o6 _ hq6 rfl
  refine .w (.ps 0 rfl hq6 rfl a_3 rfl)<|.z rfl rfl<|.z rfl rfl<|.nil<|sq_n<|.seq<|.draw (tb:=[r0 0 0,r0 0 0,r0 0 0,r0 0 0,r0 0 0,r0 24 0,r0 56 0,r0 0 0,r0 133 0,r0 389 0,r0 0 0,r1 2047 1,r1 4095 1]) rfl (by kernel_rfl) (by kernel_rfl) ?_
  refine .y rfl rfl rfl (.s rfl (.g hb1) a_3 rfl)<|.y rfl rfl rfl (.s rfl (.g hb1) a_3 rfl)<|.m rfl rfl<|.m rfl rfl<|.m rfl rfl ?_
  obtain ⟨y7,hy7,hF⟩:=bS hF
  have hj7:=Qaf hy7
  refine .ixk (j:=k1_1) .no rfl rfl hw4_1_0 rfl e_148 hy7 ?_
  rintro b7 o7 _ hq7 rfl
  refine .y rfl rfl rfl (.pa 0 (vs:=[_,_]) rfl hq7 rfl a_27 s_27 rfl rfl)<|.q (.fa rfl Qfw)<|.q (.ixa (j:=0) rfl rfl ae_38 (by decide))<|.st (cs':=[_,_,_,_,_,_,_,_,_,_,_,_,_,_,_,_,_]) .no rfl rfl rfl rfl rfl rfl s_3 rfl rfl (.tl .hd) rfl rfl (FrL.cN (fun _ s=>s.negP (.tl .hd) hq7) (FrL.cN (fun _ s=>s.neg (.tl .hd) hb1) (FrL.cI rfl FrL.n)))<|.q (.fa rfl Qef)<|.q (.ixa (j:=0) rfl rfl Qbp (by decide))<|.st (cs':=[_,_,_,_,_,_,_,_,_,_,_,_,_,_,_,_,_]) .no rfl rfl rfl rfl rfl rfl s_27 rfl rfl (.tl .hd) rfl rfl (.all (Qab rfl (Qab rfl (Qab rfl rfl))))<|.nil<|sq_n<|.seq<|.region rfl<|.w (.a (vs:=[_,_,_,_,_,_,_,_,_,_,_,_]) rfl (.g hb4) a_97 s_97 rfl rfl)<|.w (.s rfl (.g hb5) a_3 rfl)<|.w (.a (vs:=[_,_,_,_,_,_,_,_,_,_,_,_,_,_,_,_,_,_,_,_,_,_]) rfl (.g hb2) a_85 s_85 rfl rfl)<|.w (.s rfl (.g hb1) a_3 rfl)<|.q (.addL (c:=1) rfl rfl rfl (by decide))<|.w (.a (vs:=[_,_,_,_,_,_,_,_,_,_,_,_,_,_,_,_,_]) rfl (.tl .hd) a_111 s_111 rfl rfl) ?_
  obtain ⟨q8,hq8,hF⟩:=bS hF
  refine .call .no rfl rfl rfl (cases1_ok p2 (T_Case.mk (arr [y1,z1_3,z1_4,z1_5,z1_6] y1) (arr [y7,(z1_9,z1_10),(z1_11,z1_12),(z1_13,z1_14),(z1_15,z1_16)] y7) (z1_17,z1_18)) p4 p5 _ _ _ _ ⟨_,_,rfl,hpq4,hlq4⟩ ⟨_,_,_,_,_,_,rfl,h2_q2,h6_q2,h10_q2,h14_q2,h18_q2,h21_q2⟩ rfl _ hq8) ?_
  rintro g8 ml8 r8 hle8 ⟨b8,x8,rfl,hit8⟩
  replace hS:=hy.monoS _ _ _ _ hle8 hS
  refine .nil<|sq_n<|.block<|.rangeL (α:=R_cs0_2) [_,_] (fun mx x=>rg mx 0 :: rg mx 1 :: (dml dl1 ++ x.m2)) (fun xs x g'=>Qfk (fun _=>Qfo p2 p4 p5 q4 (fun ⟨u1_1,u1_2,u1_3,u1_4,u1_5,u1_6,u1_7,u1_8,u1_9,u1_10,u1_11,u1_12,u1_13,u1_14,u1_15,u1_16,u1_17⟩=>some []) (q4.1.drop (k1_1+1)) (k1_1+1) y1 z1_3 z1_4 z1_5 z1_6 y7.1 y7.2 z1_9 z1_10 z1_11 z1_12 z1_13 z1_14 z1_15 z1_16 z1_17 z1_18) xs=some x.o2∧S x.o2 g' x.m2) (fun e x g'=>e= .ret∧E g' x.m2) (R_cs0_2.mk _ _) rfl hit8 (Le.refl _) (List.Sublist.refl _) (fun _ _ _ _ hl h=>⟨h.1,hy.monoS _ _ _ _ hl h.2⟩) (fun _ _ _ _ hl h=>⟨h.1,hy.monoE _ _ _ hl h.2⟩) ⟨hF,hS⟩ ?_ ?_ ?_
  ·intro l B2 y2 xs2 x2 gl2 args hlo2 hJ hr2
   obtain ⟨o2,m2⟩:=x2
   dsimp only at hJ ⊢
   clear hF hS
   obtain ⟨hF,hS⟩:=hJ
   obtain ⟨_,rfl,rfl⟩:=hr2
   rw [Qfk] at hF
   refine ⟨_,rfl,?_⟩
   refine .region rfl<|.alloc .no rfl z_111 fun b9=>.st (cs':=[_,_,_,_,_,_,_,_,_,_,_,_,_,_,_,_,_]) .no rfl rfl rfl rfl s_111 rfl rfl .hd rfl rfl<|.nil<|⟨rfl,rfl,(Le.refl _),fun B=>?_⟩
   refine .block<|.seq<|.region rfl<|.w (.s rfl (.tl .hd) a_201 rfl)<|.w (.a (vs:=[_,_,_,_,_,_,_,_,_,_,_,_,_,_,_,_,_]) rfl .hd a_111 s_111 rfl rfl) ?_
   obtain ⟨o10,hF10,rfl⟩:=ylS hF
   clear hF
   have hF:=hF10
   clear hF10
   refine .callY .no rfl rfl rfl hy ((.cons (.cons (.cons .app))):Fr _ _ _) hS ⟨_,rfl,rfl⟩ (fun g10 m10 hle10 hS10=>?_) (fun g10 m10 hle10 hE10=>?_)
   ·skip
    have hS:=hS10
    refine .q (.not rfl)<|.nil<|sq_n<|.condF rfl rfl<|.skip<|bq_n ?_
    exact ⟨rfl,hle10,R_cs0_2.mk _ _,(.cons _ (List.Sublist.refl _)),hF,hS⟩
   ·skip
    have hE:=hE10
    refine .q (.not rfl)<|.nil<|sq_n<|.condT rfl rfl<|.ret<|bq_r ?_
    exact ⟨rfl,hle10,R_cs0_2.mk [] _,(.cons _ (List.Sublist.refl _)),rfl,hE⟩
  ·intro d2 x2 gl2 hlo2 hJ
   obtain ⟨o2,m2⟩:=x2
   dsimp only at hJ ⊢
   clear hF hS
   obtain ⟨hF,hS⟩:=hJ
   rw [Qfk] at hF
   refine bq_n<|bq_n<|sq_n<|.see0 (fun _ s=>s.perm (List.perm_middle (l₁:=[_,_]).symm))<|.region rfl<|.q (.inc1 rfl rfl (by omega))<|.m rfl rfl<|.nil<|loopDQ_n (L_cs0_1.mk (k1_1+1) y1 z1_3 z1_4 z1_5 z1_6 y7.1 y7.2 z1_9 z1_10 z1_11 z1_12 z1_13 z1_14 z1_15 z1_16 z1_17 z1_18 _ _ _) rfl ⟨rfl,rfl,rfl,rfl,rfl,rfl,rfl,rfl,rfl,rfl,trivial⟩ (fun _ _ s=>s.weak (List.Sublist.refl _)) (hle8.trans hlo2) ⟨(Qaf hy1),hF,hS⟩ ?_
   simp only;omega
  ·rintro d2 e2 x2 gl2 he2 hlo2 ⟨rfl,hE⟩
   refine bq_r<|bq_r<|sq_r<|lqD_r<|bq_r<|retD_r (((hle4.trans hlo1).trans hle8).trans hlo2) (.cons_cons _ (.cons _ (.cons _ (List.Sublist.refl _)))) .nil rfl ?_
   exact .inr hE
 have kh5:=dF h5
 rw [dn (by omega),Qfo] at hF
 try dsimp only at hF
 refine .exit<|sq_e<|lqD_e<|bq_x rfl ?_
 obtain rfl:=sI hF
 refine retD_n (hle4.trans hlo1) (.cons _ (.cons _ (List.Sublist.refl _))) .nil rfl ?_
 exact .inl hS
theorem cases0_ok (p:T_Plan) (x:T_Case) (v:Version) (f:Int) (cs0 cs2 cs4:List V) (g:G) (h0:VersionR g cs0 v) (h2:R_Plan g cs2 p) (h4:R_Case g cs4 x) (r:List T_Case) (hF:F_cs0 p x v f=some r):Fw Tryz.prog natS (.f 94 [] []) [.agg cs0,.i .i64 f,.agg cs2,.i .i64 0,.agg cs4] g [] fun g' ml' q=>∃ b x,ml'=[.blk b x]∧It Tryz.prog natS q g' [.blk b x] (AggR R_Case) r:=by
 refine Fw.enter (N:=12) (al:=[(4,_),(3,_),(2,_),(1,_),(0,_)]) Tryz.func94 (by kernel_rfl) (by kernel_rfl) rfl rfl rfl rfl ?_
 intro B
 refine .seq<|.region rfl<|.box .no rfl rfl rfl rfl fun b5=>.box .no rfl rfl rfl rfl fun b6=>.box .no rfl rfl rfl rfl fun b7=>.box .no rfl rfl rfl rfl fun b8=>.box .no rfl rfl rfl rfl fun b9=>.z rfl rfl<|.nil<|sq_n<|.seq<|.region rfl<|.q (.mf rfl rfl)<|.z rfl rfl<|.nil<|sq_n ?_
 refine Wc.freeze (.tl .hd) fun g1 l1 z8=>?_
 refine Wc.freeze (.tl .hd) fun g2 l2 z7=>?_
 refine Wc.freeze (.tl .hd) fun g3 l3 z6=>?_
 refine Wc.freeze (.tl .hd) fun g4 l4 z5=>?_
 refine .ret<|Qaa (((l1.trans l2).trans l3).trans l4) (.tmp rfl .nil) rfl ?_
 have l:=((l1.trans l2).trans l3).trans l4
 subst h4
 exact ⟨b9,_,rfl,F_cs0_ok p x v f cs2 cs0 b8 b7 b9 b5 b6 g4 (l4 _ _ (l3 _ _ (l2 _ _ z8))) (R_Plan.mono _ _ _ _ l h2) (l4 _ _ (l3 _ _ z7)) (VersionR.mono _ _ _ _ l h0) z5 (l4 _ _ z6) r hF⟩
end Go.Proofs.YtjflgemfeofciaaGreatDoor
namespace Go.Proofs.YtjflgemfeofciaaGreatDoor
open Go Go.Ev
set_option linter.unusedVariables false
set_option linter.unusedSimpArgs false
set_option maxRecDepth 10000
structure CoSt where
 v:V
 cs:List V
 d:List T_Case
theorem appendSeq_ok (fv:V) (ml0:ML) (L:List T_Case) (g:G) (hit:It Tryz.prog natS fv g ml0 (AggR R_Case) L) (hl:L.length≤1000000):Fw Tryz.prog natS (.f 138 [] []) [.sn,fv] g ml0 fun g' ml' q=>ml'=[]∧RS R_Case 17 g' q L:=by
 refine Fw.enterD (N:=13) (al:=[(1,_),(0,_)]) Tryz.func138 (by kernel_rfl) (by kernel_rfl) rfl rfl rfl rfl ?_
 intro B
 refine Wc.acc 17 111 ?_
 refine .seq<|.region rfl<|.box .no rfl rfl rfl rfl fun b2=>.z rfl rfl<|.nil<|sq_n<|.seq<|.seq<|.region rfl<|.m rfl rfl<|.nil<|sq_n<|.block ?_
 refine Wc.see0 (fun _ s=>s.perm (List.perm_append_comm (l₁:=[_,_]))) ?_
 refine Wc.rangeL (α:=CoSt) [] (fun _ x=>[.blk b2 (.cells [x.v] 56),.acc x.v 17 x.cs 111]) (fun xs x g'=>AccR R_Case 17 g' x.v x.cs x.d∧x.d ++ xs=L) (fun _ _ _=>False) (CoSt.mk .sn [] []) rfl hit (Le.refl _) (List.Sublist.refl _) (fun _ _ _ _ hl h=>⟨h.1.mono R_Case.mono hl,h.2⟩) (fun _ _ _ _ _ h=>h) ⟨AccR.nil,rfl⟩ ?_ ?_ ?_
 ·intro l B2 y xs x g2 args hlo hJ hr
  obtain ⟨v,cs,d⟩:=x
  dsimp only at hJ ⊢
  obtain ⟨ha,hd⟩:=hJ
  obtain ⟨_,rfl,rfl⟩:=hr
  have hl2:d.length+1≤1000000:=by
   have:=congrArg List.length hd
   rw [List.length_append,List.length_cons] at this
   omega
  refine ⟨_,rfl,?_⟩
  refine .region rfl<|.alloc .no rfl z_111 fun b5=>.st (cs':=[_,_,_,_,_,_,_,_,_,_,_,_,_,_,_,_,_]) .no rfl rfl rfl rfl s_111 rfl rfl .hd rfl rfl<|.nil ?_
  refine ⟨rfl,rfl,Le.refl _,fun B3=>?_⟩
  refine .block<|.region rfl<|.w (.s rfl (.tl .hd) a_56 rfl)<|.w (.a (vs:=[_,_,_,_,_,_,_,_,_,_,_,_,_,_,_,_,_]) rfl .hd a_111 s_111 rfl rfl)<|.bs .no rfl (qs:=[(0,_)]) (c:=[_,_,_,_,_,_,_,_,_,_,_,_,_,_,_,_,_]) rfl sl_56 Qgc (by decide) rfl fun b10=>?_
  have pf:Ls R_Case 17 g2 [_,_,_,_,_,_,_,_,_,_,_,_,_,_,_,_,_] [y]:=.cons (c:=[_,_,_,_,_,_,_,_,_,_,_,_,_,_,_,_,_]) rfl rfl .nil
  refine Wo.x .no rfl (.appA (m:=1) (new:=[_,_,_,_,_,_,_,_,_,_,_,_,_,_,_,_,_]) rfl rfl rfl (.tl (.tl (.tl .hd))) sl_56 Qgc (.of rfl .sl sl_56 .hd (Nat.le_of_ble_eq_true rfl) rfl) (by decide) rfl (AccR.room (R:=R_Case) (ys:=[y]) ha pf hl2) rfl) (fun v11=>?_)
  refine Wo.as (.tl (.tl (.tl .hd))) (fun av=>?_)
  have ha2:=AccR.app (R:=R_Case) (g:=g2) (ys:=[y]) ha pf hl2 av
  refine .st (cs':=[_]) .no rfl rfl ha2.any ha2.cells s_56 rfl rfl (.tl (.tl .hd)) rfl (Qa ha2.one rfl)<|.nil ?_
  exact ⟨rfl,Le.refl _,CoSt.mk _ _ _,(.cons _ (.cons _ (List.Sublist.refl _))),ha2,by rw [List.append_assoc];exact hd⟩
 ·intro d x g2 hlo hJ
  obtain ⟨v,cs,e⟩:=x
  dsimp only at hJ ⊢
  obtain ⟨ha,hd⟩:=hJ
  rw [List.append_nil] at hd
  subst hd
  refine bq_n<|sq_n<|.seq<|.region rfl<|.w (.s rfl (.tl .hd) a_56 rfl)<|.z rfl rfl<|.nil<|sq_n ?_
  refine Wc.see (Qdg R_Case.mono (.tl (.tl .hd)) (by decide) ha) ?_
  rintro gz ⟨hle,hz⟩
  exact .ret<|retD_r (hlo.trans hle) (.cons_cons _ (.cons _ .slnil)) (.tmp rfl .nil) rfl ⟨rfl,hz⟩
 ·intro d e x g2 he hlo hJ
  exact hJ.elim
theorem collect_ok (fv:V) (b:Nat) (x:Blk) (L:List T_Case) (g:G) (hit:It Tryz.prog natS fv g [.blk b x] (AggR R_Case) L) (hl:L.length≤1000000):Fw Tryz.prog natS (.f 93 [] []) [fv] g [.blk b x] fun g' ml' q=>ml'=[]∧RS R_Case 17 g' q L:=by
 refine Fw.enter (N:=5) (al:=[(0,_)]) Tryz.func93 (by kernel_rfl) (by kernel_rfl) rfl rfl rfl rfl ?_
 intro B
 refine .seq<|.region rfl<|.z rfl rfl<|.nil<|sq_n<|.seq<|.region rfl<|.m rfl rfl<|.callT .no rfl rfl rfl .hd (appendSeq_ok fv [.blk b x] L g hit hl) ?_
 rintro g2 ml2 r2 hle2 ⟨rfl,hr⟩
 exact .z rfl rfl<|.nil<|sq_n<|.ret<|Qaa hle2 (.tmp rfl .nil) rfl ⟨rfl,hr⟩
end Go.Proofs.YtjflgemfeofciaaGreatDoor
namespace Go.Proofs.YtjflgemfeofciaaGreatDoor
open Go Go.Ev
set_option linter.unusedVariables false
set_option linter.unusedSimpArgs false
set_option maxRecDepth 10000
structure L_code_Opens_5 where
 v5_2:V
 cs5_3:List V
 d5_1:List T_Open
 k5_5:Nat
def Qaw (q6:T_Plan):List Piece→List T_Open→Nat→Option ((List T_Open))
 | [],d5_1,k5_5=>some (d5_1)
 | y5 :: ys5,d5_1,k5_5=>(cond (decide ((0:Int) < (k5_5:Int))) ((cond (decide (((q6.Shares 4).Litres.1) < y5.fr)) ((cond (decide (y5.fr≤((q6.Shares 4).Litres.2))) ((ck (decide (d5_1.length+1≤1000000)) (Qaw q6 ys5 (d5_1 ++ [(T_Open.mk 5 (k5_5:Int) y5.fr)]) (k5_5+1)))) (Qaw q6 ys5 d5_1 (k5_5+1)))) (Qaw q6 ys5 d5_1 (k5_5+1)))) (Qaw q6 ys5 d5_1 (k5_5+1)))
structure L_code_Opens_4 where
 v4_2:V
 cs4_3:List V
 d4_1:List T_Open
 k4_5:Nat
def Qav (q6:T_Plan):List Piece→List T_Open→Nat→Option ((List T_Open))
 | [],d4_1,k4_5=>some (d4_1)
 | y4 :: ys4,d4_1,k4_5=>(cond (decide ((0:Int) < (k4_5:Int))) ((cond (decide (((q6.Shares 3).Litres.1) < y4.fr)) ((cond (decide (y4.fr≤((q6.Shares 3).Litres.2))) ((ck (decide (d4_1.length+1≤1000000)) (Qav q6 ys4 (d4_1 ++ [(T_Open.mk 4 (k4_5:Int) y4.fr)]) (k4_5+1)))) (Qav q6 ys4 d4_1 (k4_5+1)))) (Qav q6 ys4 d4_1 (k4_5+1)))) (Qav q6 ys4 d4_1 (k4_5+1)))
structure L_code_Opens_3 where
 v3_2:V
 cs3_3:List V
 d3_1:List T_Open
 k3_5:Nat
def Qat (q6:T_Plan):List Piece→List T_Open→Nat→Option ((List T_Open))
 | [],d3_1,k3_5=>some (d3_1)
 | y3 :: ys3,d3_1,k3_5=>(cond (decide ((0:Int) < (k3_5:Int))) ((cond (decide (((q6.Shares 2).Litres.1) < y3.fr)) ((cond (decide (y3.fr≤((q6.Shares 2).Litres.2))) ((ck (decide (d3_1.length+1≤1000000)) (Qat q6 ys3 (d3_1 ++ [(T_Open.mk 3 (k3_5:Int) y3.fr)]) (k3_5+1)))) (Qat q6 ys3 d3_1 (k3_5+1)))) (Qat q6 ys3 d3_1 (k3_5+1)))) (Qat q6 ys3 d3_1 (k3_5+1)))
structure L_code_Opens_2 where
 v2_2:V
 cs2_3:List V
 d2_1:List T_Open
 k2_5:Nat
def Qau (q6:T_Plan):List Piece→List T_Open→Nat→Option ((List T_Open))
 | [],d2_1,k2_5=>some (d2_1)
 | y2 :: ys2,d2_1,k2_5=>(cond (decide ((0:Int) < (k2_5:Int))) ((cond (decide (((q6.Shares 1).Litres.1) < y2.fr)) ((cond (decide (y2.fr≤((q6.Shares 1).Litres.2))) ((ck (decide (d2_1.length+1≤1000000)) (Qau q6 ys2 (d2_1 ++ [(T_Open.mk 2 (k2_5:Int) y2.fr)]) (k2_5+1)))) (Qau q6 ys2 d2_1 (k2_5+1)))) (Qau q6 ys2 d2_1 (k2_5+1)))) (Qau q6 ys2 d2_1 (k2_5+1)))
structure L_code_Opens_1 where
 v1_2:V
 cs1_3:List V
 d1_1:List T_Open
 k1_5:Nat
def Qb (q6:T_Plan):List Piece→List T_Open→Nat→Option ((List T_Open))
 | [],d1_1,k1_5=>some (d1_1)
 | y1 :: ys1,d1_1,k1_5=>(cond (decide ((0:Int) < (k1_5:Int))) ((cond (decide (((q6.Shares 0).Litres.1) < y1.fr)) ((cond (decide (y1.fr≤((q6.Shares 0).Litres.2))) ((ck (decide (d1_1.length+1≤1000000)) (Qb q6 ys1 (d1_1 ++ [(T_Open.mk 1 (k1_5:Int) y1.fr)]) (k1_5+1)))) (Qb q6 ys1 d1_1 (k1_5+1)))) (Qb q6 ys1 d1_1 (k1_5+1)))) (Qb q6 ys1 d1_1 (k1_5+1)))
def Qds (p0:Code) (p1:Int) (p2:Int) (p3:(List Room)):Option ((List T_Open) × Int):=((Qg p0).bind fun q2=>((Qcg q2 p1 p2).bind fun q3=>((Qax q3 p3).bind fun q4=>(cond (!(decide (q4.e_=0))) (some ([],q4.e_)) (((Qch q4 p3).bind fun q6=>(ck (decide ((0:Int)≤p2) && decide (p2 < (2:Int))) (((Qb q6 (arr [(q4.version_.ln 0),(q4.version_.ln 5)] (q4.version_.ln 0) p2.toNat) [] 0).bind fun o1_0_1=>((Qau q6 (arr [(q4.version_.ln 1),(q4.version_.ln 6)] (q4.version_.ln 1) p2.toNat) o1_0_1 0).bind fun o2_0_1=>((Qat q6 (arr [(q4.version_.ln 2),(q4.version_.ln 7)] (q4.version_.ln 2) p2.toNat) o2_0_1 0).bind fun o3_0_1=>((Qav q6 (arr [(q4.version_.ln 3),(q4.version_.ln 8)] (q4.version_.ln 3) p2.toNat) o3_0_1 0).bind fun o4_0_1=>((Qaw q6 (arr [(q4.version_.ln 4),(q4.version_.ln 9)] (q4.version_.ln 4) p2.toNat) o4_0_1 0).bind fun o5_0_1=>some (o5_0_1,0))))))))))))))
set_option maxHeartbeats 1000000 in
theorem F_code_Opens_ok (p0:Code) (p1:Int) (p2:Int) (p3:(List Room)) (v3_0:V) (cs0:List V) (g:G) (h0:CodeR g cs0 p0) (h3_0:RS RoomR 6 g v3_0 p3) (r:(List T_Open) × Int) (hF:Qds p0 p1 p2 p3=some r):Fw Tryz.prog natS (.f 36 [] []) [.agg cs0,.i .i64 p1,.i .i64 p2,v3_0] g [] fun g' ml' q=>ml'=[]∧∃ (w0_0:V),q=(.tup [w0_0,.i .i64 r.2])∧RS R_Open 3 g' w0_0 r.1:=by
 refine Fw.drop ?_
 unfold Qds at hF
 obtain ⟨vq0,rfl,hcq0⟩:=h0
 have lh0_1:=hcq0.1
 have lh3_0:=h3_0.1
 refine Fw.enter (N:=85) (al:=[(3,_),(2,_),(1,_),(0,_)]) Tryz.func36 (by kernel_rfl) (by kernel_rfl) rfl rfl rfl rfl ?_
 intro B
 refine .seq<|.region rfl<|.box .no rfl rfl rfl rfl fun b1=>.z rfl rfl<|.z rfl rfl<|.nil<|sq_n<|.seq<|.region rfl<|.w (.a (vs:=[_,_]) rfl .hd a_24 s_24 rfl rfl) ?_
 obtain ⟨q2,hq2,hF⟩:=bS hF
 refine .call .no rfl rfl rfl (F_code_of_ok p0 _ _ ⟨_,rfl,hcq0⟩ _ hq2) ?_
 rintro g2 ml2 r2 hle2 ⟨b2_0,cs2_0,rfl,rfl,⟨v1_2_0,v3_2_0,v4_2_0,v5_2_0,v6_2_0,v7_2_0,v8_2_0,v9_2_0,v10_2_0,v11_2_0,v12_2_0,v13_2_0,rfl,h1_2_0,h3_2_0,h4_2_0,h5_2_0,h6_2_0,h7_2_0,h8_2_0,h9_2_0,h10_2_0,h11_2_0,h12_2_0,h13_2_0⟩⟩
 replace h3_0:=h3_0.mono RoomR.mono hle2
 have lh2_0_1:=h1_2_0.1
 have lh2_0_3:=h3_2_0.1
 have lh2_0_4:=h4_2_0.1
 have lh2_0_5:=h5_2_0.1
 have lh2_0_6:=h6_2_0.1
 have lh2_0_7:=h7_2_0.1
 have lh2_0_8:=h8_2_0.1
 have lh2_0_9:=h9_2_0.1
 have lh2_0_10:=h10_2_0.1
 have lh2_0_11:=h11_2_0.1
 have lh2_0_12:=h12_2_0.1
 have lh2_0_13:=h13_2_0.1
 refine .m rfl rfl<|.m rfl rfl ?_
 obtain ⟨q3,hq3,hF⟩:=bS hF
 refine .callT .no rfl rfl rfl .hd (Qeq q2 p1 p2 _ _ _ ⟨_,_,_,_,_,_,_,_,_,_,_,_,rfl,h1_2_0,h3_2_0,h4_2_0,h5_2_0,h6_2_0,h7_2_0,h8_2_0,h9_2_0,h10_2_0,h11_2_0,h12_2_0,h13_2_0⟩ _ hq3) ?_
 rintro g3 ml3 r3 hle3 ⟨cs3_0,rfl,rfl,⟨v1_3_0,v3_3_0,v4_3_0,v5_3_0,v6_3_0,v7_3_0,v8_3_0,v9_3_0,v10_3_0,v11_3_0,v12_3_0,v13_3_0,rfl,h1_3_0,h3_3_0,h4_3_0,h5_3_0,h6_3_0,h7_3_0,h8_3_0,h9_3_0,h10_3_0,h11_3_0,h12_3_0,h13_3_0⟩⟩
 replace h3_0:=h3_0.mono RoomR.mono hle3
 have lh3_0_1:=h1_3_0.1
 have lh3_0_3:=h3_3_0.1
 have lh3_0_4:=h4_3_0.1
 have lh3_0_5:=h5_3_0.1
 have lh3_0_6:=h6_3_0.1
 have lh3_0_7:=h7_3_0.1
 have lh3_0_8:=h8_3_0.1
 have lh3_0_9:=h9_3_0.1
 have lh3_0_10:=h10_3_0.1
 have lh3_0_11:=h11_3_0.1
 have lh3_0_12:=h12_3_0.1
 have lh3_0_13:=h13_3_0.1
 refine .m rfl rfl ?_
 obtain ⟨q4,hq4,hF⟩:=bS hF
 refine .callT .no rfl rfl rfl .hd (Qdu q3 p3 _ _ _ _ ⟨_,_,_,_,_,_,_,_,_,_,_,_,rfl,h1_3_0,h3_3_0,h4_3_0,h5_3_0,h6_3_0,h7_3_0,h8_3_0,h9_3_0,h10_3_0,h11_3_0,h12_3_0,h13_3_0⟩ h3_0 _ hq4) ?_
 rintro g4 ml4 r4 hle4 ⟨cs4_0,rfl,rfl,⟨v1_4_0,v3_4_0,v4_4_0,v5_4_0,v6_4_0,v7_4_0,v8_4_0,v9_4_0,v10_4_0,v11_4_0,v12_4_0,v13_4_0,rfl,h1_4_0,h3_4_0,h4_4_0,h5_4_0,h6_4_0,h7_4_0,h8_4_0,h9_4_0,h10_4_0,h11_4_0,h12_4_0,h13_4_0⟩⟩
 replace h3_0:=h3_0.mono RoomR.mono hle4
 have lh4_0_1:=h1_4_0.1
 have lh4_0_3:=h3_4_0.1
 have lh4_0_4:=h4_4_0.1
 have lh4_0_5:=h5_4_0.1
 have lh4_0_6:=h6_4_0.1
 have lh4_0_7:=h7_4_0.1
 have lh4_0_8:=h8_4_0.1
 have lh4_0_9:=h9_4_0.1
 have lh4_0_10:=h10_4_0.1
 have lh4_0_11:=h11_4_0.1
 have lh4_0_12:=h12_4_0.1
 have lh4_0_13:=h13_4_0.1
 refine .z rfl rfl<|.nil<|sq_n<|.seq<|.seq<|.region rfl<|.m rfl rfl<|.q (.nil rfl)<|.q (.fa rfl f_132_3)<|.w (.s rfl .hd a_30 rfl)<|.b rfl rfl rfl rfl<|.nil<|sq_n<|.cond rfl (fun h5=>?_) (fun h5=>?_)
 ·have hF:=cT h5 hF
  refine .seq<|.draw (tb:=[r1 0 0,r1 1 0,r1 3 0,r1 7 0,r0 0 0,r1 31 0]) rfl (by kernel_rfl) (by kernel_rfl) ?_
  refine .m rfl rfl<|.q (.nil rfl)<|.q (.fa rfl f_132_3)<|.y rfl rfl rfl (.s rfl .hd a_30 rfl)<|.z rfl rfl<|.z rfl rfl<|.nil<|sq_n<|.ret<|sq_r ?_
  obtain rfl:=sI hF
  refine Qaa ((hle2.trans hle3).trans hle4) (.tmp rfl (.tmp rfl .nil)) rfl ?_
  exact ⟨_,rfl,RS.nil⟩
 have kh5:=dT (nF h5)
 have hF:=cF h5 hF
 refine .skip<|sq_n<|.seq<|.region rfl<|.z rfl rfl<|.nil<|sq_n<|.seq<|.seq<|.region rfl<|.m rfl rfl<|.m rfl rfl ?_
 obtain ⟨q6,hq6,hF⟩:=bS hF
 refine .callT .no rfl rfl rfl .hd (Qdw q4 p3 _ _ _ _ ⟨_,_,_,_,_,_,_,_,_,_,_,_,rfl,h1_4_0,h3_4_0,h4_4_0,h5_4_0,h6_4_0,h7_4_0,h8_4_0,h9_4_0,h10_4_0,h11_4_0,h12_4_0,h13_4_0⟩ h3_0 _ hq6) ?_
 rintro g6 ml6 r6 hle6 ⟨cs6_0,rfl,rfl,⟨v2_6_0,v6_6_0,v10_6_0,v14_6_0,v18_6_0,v21_6_0,rfl,h2_6_0,h6_6_0,h10_6_0,h14_6_0,h18_6_0,h21_6_0⟩⟩
 replace h4_4_0:=h4_4_0.mono PieceR.mono hle6
 replace h5_4_0:=h5_4_0.mono PieceR.mono hle6
 replace h6_4_0:=h6_4_0.mono PieceR.mono hle6
 replace h7_4_0:=h7_4_0.mono PieceR.mono hle6
 replace h8_4_0:=h8_4_0.mono PieceR.mono hle6
 replace h9_4_0:=h9_4_0.mono PieceR.mono hle6
 replace h10_4_0:=h10_4_0.mono PieceR.mono hle6
 replace h11_4_0:=h11_4_0.mono PieceR.mono hle6
 replace h12_4_0:=h12_4_0.mono PieceR.mono hle6
 replace h13_4_0:=h13_4_0.mono PieceR.mono hle6
 have lh6_0_2:=h2_6_0.1
 have lh6_0_6:=h6_6_0.1
 have lh6_0_10:=h10_6_0.1
 have lh6_0_14:=h14_6_0.1
 have lh6_0_18:=h18_6_0.1
 have lh6_0_21:=h21_6_0.1
 refine .q (.fieldS rfl fo_85_1 (Qdf a_83 s_83 (vs:=[_,_,_,_,_,_,_,_,_,_,_,_,_,_,_,_,_,_,_,_]) rfl))<|.m rfl rfl<|.nil<|sq_n<|.block<|.unroll<|.seq<|.region rfl<|.b rfl rfl rfl rfl<|.nil<|sq_n<|.seq<|.condT rfl (by decide)<|.skip<|sq_n<|.seq<|.block<|.seq<|.region rfl<|.m rfl rfl<|.q (.ixv (j:=0) rfl rfl ar_83 s_82 (by decide) (Qdf a_82 s_82 (vs:=[_,_,_,_]) rfl))<|.alloc .no rfl z_82 fun b7=>.z rfl rfl<|.st (cs':=[_,_,_,_]) .no rfl rfl rfl rfl s_82 rfl rfl .hd rfl (Qa rfl (Qa h2_6_0.one (Qa rfl (Qa rfl rfl))))<|.nil<|sq_n<|.seq<|.region rfl<|.m rfl rfl<|.m rfl rfl<|.m rfl rfl<|.q (.nil rfl)<|.q (.fa rfl Qek)<|.q (.fa rfl Qaj) ?_
 obtain ⟨hsy8,hF⟩:=ckS hF
 have hsy8:=symB (n:=2) hsy8
 refine .q (.ixai rfl rfl ae_95 hsy8)<|.q (.ixa (j:=0) rfl rfl ae_94 (by decide))<|.ldc (Φ:=fun w9_0=>RS PieceR 3 g6 w9_0 (arr [(q4.version_.ln 0),(q4.version_.ln 5)] (q4.version_.ln 0) p2.toNat)) .no rfl (sym2 hsy8 (fun e=>⟨_,.sO (o':=4) rfl (by rw [e];try rfl) (.tl .hd) a_93 rfl,by rw [e];exact h4_4_0⟩) (fun e=>⟨_,.sO (o':=9) rfl (by rw [e];try rfl) (.tl .hd) a_93 rfl,by rw [e];exact h9_4_0⟩)) fun v9 hv9=>?_
 have lhv9:=hv9.1
 refine .q (.lenR rfl rfl rfl e_93 hv9)<|.m rfl rfl<|.nil<|sq_n<|.block<|.acc 3 124 ?_
 obtain ⟨o1,hF,hG1⟩:=bS hF
 refine .loopx (α:=L_code_Opens_1) [(2,_),(10,_),(12,_),(13,_),(35,_),(36,_),(48,_),(49,_)] [_,_,_] (fun fx x=>(11,x.v1_2) :: (50,.i .i64 (x.k1_5:Int)) :: fx) (fun mx x=>[.acc x.v1_2 3 x.cs1_3 124,rg mx 0,rg mx 1,rg mx 2]) (fun x g'=>AccR R_Open 3 g' x.v1_2 x.cs1_3 x.d1_1∧x.k1_5≤(arr [(q4.version_.ln 0),(q4.version_.ln 5)] (q4.version_.ln 0) p2.toNat).length∧Qb q6 ((arr [(q4.version_.ln 0),(q4.version_.ln 5)] (q4.version_.ln 0) p2.toNat).drop x.k1_5) x.d1_1 x.k1_5=some o1) (fun x=>(arr [(q4.version_.ln 0),(q4.version_.ln 5)] (q4.version_.ln 0) p2.toNat).length - x.k1_5) (L_code_Opens_1.mk _ _ [] 0) ⟨rfl,rfl,rfl,rfl,rfl,rfl,rfl,rfl,rfl,rfl,trivial⟩ (List.Sublist.refl _) ⟨AccR.nil,(by first | omega | (dsimp only;omega)),hF⟩ ?_
 intro x1 gl1 hlo1 hJ1
 obtain ⟨v1_2,cs1_3,d1_1,k1_5⟩:=x1
 try dsimp only at hJ1
 obtain ⟨ha1_4,hk1,hF⟩:=hJ1
 refine .al0 [(11,v1_2),(50,.i .i64 (k1_5:Int)),(2,_),(10,_),(12,_),(13,_),(35,_),(36,_),(48,_),(49,_)] ?_
 replace h5_4_0:=h5_4_0.mono PieceR.mono hlo1
 replace h6_4_0:=h6_4_0.mono PieceR.mono hlo1
 replace h7_4_0:=h7_4_0.mono PieceR.mono hlo1
 replace h8_4_0:=h8_4_0.mono PieceR.mono hlo1
 replace h10_4_0:=h10_4_0.mono PieceR.mono hlo1
 replace h11_4_0:=h11_4_0.mono PieceR.mono hlo1
 replace h12_4_0:=h12_4_0.mono PieceR.mono hlo1
 replace h13_4_0:=h13_4_0.mono PieceR.mono hlo1
 replace h6_6_0:=h6_6_0.mono IntR.mono hlo1
 replace h10_6_0:=h10_6_0.mono IntR.mono hlo1
 replace h14_6_0:=h14_6_0.mono IntR.mono hlo1
 replace h18_6_0:=h18_6_0.mono IntR.mono hlo1
 replace hv9:=hv9.mono PieceR.mono hlo1
 have lha1_4:=ha1_4.le
 refine .seq<|.region rfl<|.b rfl rfl rfl rfl<|.nil<|sq_n<|.seq<|.cond rfl (fun h11=>?_) (fun h11=>?_)
 ·have kh11:=dT h11
  obtain ⟨y1,hy1⟩:=getK (l:=(arr [(q4.version_.ln 0),(q4.version_.ln 5)] (q4.version_.ln 0) p2.toNat)) (k:=k1_5) kh11
  rw [dc hy1,Qb] at hF
  refine .skip<|sq_n<|.seq<|.block<|.seq<|.region rfl<|.m rfl rfl<|.ixk (j:=k1_5) .no rfl rfl hv9 rfl e_93 hy1 ?_
  rintro b12 o12 _ hq12 rfl
  refine .w (.pa 0 (vs:=[_,_,_]) rfl hq12 rfl a_157 s_157 rfl rfl)<|.alloc .no rfl z_157 fun b13=>.z rfl rfl<|.st (cs':=[_,_,_]) .no rfl rfl rfl rfl s_157 rfl rfl .hd rfl rfl<|.nil<|sq_n<|.seq<|.region rfl<|.m rfl rfl<|.b rfl rfl rfl rfl<|.m rfl rfl<|.split (t:=57) rfl (fun h14=>?_) (fun h14=>?_)
  ·have kh14:=dT h14
   have hF:=cT h14 hF
   refine .py h14 (.fa rfl Qai)<|.wy h14 (.s rfl .hd a_3 rfl)<|.py h14 (.fa rfl Qag)<|.py h14 (.fa rfl Qal)<|.wy h14 (.s rfl (.tl (.tl .hd)) a_3 rfl)<|.py h14 (.bin rfl rfl rfl)<|.q (.pickT rfl h14 rfl)<|.m rfl rfl<|.split (t:=65) rfl (fun h15=>?_) (fun h15=>?_)
   ·have kh15:=dT h15
    have hF:=cT h15 hF
    refine .py h15 (.fa rfl Qai)<|.wy h15 (.s rfl .hd a_3 rfl)<|.py h15 (.fa rfl Qag)<|.py h15 (.fa rfl Qak)<|.wy h15 (.s rfl (.tl (.tl .hd)) a_3 rfl)<|.py h15 (.bin rfl rfl rfl)<|.q (.pickT rfl h15 rfl)<|.nil<|sq_n<|.cond rfl (fun h16=>?_) (fun h16=>?_)
    ·have kh16:=dT h16
     have hF:=cT h16 hF
     refine .region rfl<|.m rfl rfl<|.m rfl rfl<|.q (.addL (c:=1) rfl rfl rfl (by decide))<|.m rfl rfl<|.q (.fa rfl Qai)<|.w (.s rfl .hd a_3 rfl)<|.q (.build (qs:=[(0,_),(1,_),(2,_)]) (cs:=[_,_,_]) rfl b_124 rfl)<|.bs .no rfl (qs:=[(0,_)]) (c:=[_,_,_]) rfl sl_60 Qdp (by decide) rfl fun b17=>?_
     obtain ⟨hl18,hF⟩:=ckS hF
     have hl18:=of_decide_eq_true hl18
     refine .x .no rfl (.appA (m:=1) (new:=[_,_,_]) rfl rfl rfl (.tl (.tl .hd)) sl_60 Qdp (.of rfl .sl sl_60 .hd (Nat.le_of_ble_eq_true rfl) rfl) (by decide) rfl (AccR.room (R:=R_Open) (ys:=[(T_Open.mk 1 (k1_5:Int) y1.fr)]) ha1_4 (Ls.cons (c:=[_,_,_]) rfl rfl .nil) hl18) rfl) fun v18=>.as (.tl (.tl .hd)) fun av18=>?_
     have ha18:=AccR.app (R:=R_Open) (g:=gl1) (ys:=[(T_Open.mk 1 (k1_5:Int) y1.fr)]) ha1_4 (Ls.cons (c:=[_,_,_]) rfl rfl .nil) hl18 av18
     have lha18:=ha18.le
     refine .z rfl rfl<|.nil<|bq_n<|sq_n<|.region rfl<|.q (.inc1 rfl rfl (by omega))<|.m rfl rfl<|.nil<|Qac (L_code_Opens_1.mk _ _ (d1_1 ++ [(T_Open.mk 1 (k1_5:Int) y1.fr)]) (k1_5+1)) ⟨rfl,rfl,rfl,rfl,rfl,rfl,rfl,rfl,rfl,rfl,trivial⟩ (.cons _ (.cons _ (List.Sublist.refl _))) (Le.refl _) ?_ ?_
     ·exact ⟨ha18,(Qaf hy1),hF⟩
     ·simp only;omega
    have kh16:=dF h16
    have hF:=cF h16 hF
    refine .skip<|bq_n<|sq_n<|.region rfl<|.q (.inc1 rfl rfl (by omega))<|.m rfl rfl<|.nil<|Qac (L_code_Opens_1.mk _ _ d1_1 (k1_5+1)) ⟨rfl,rfl,rfl,rfl,rfl,rfl,rfl,rfl,rfl,rfl,trivial⟩ (.cons _ (List.Sublist.refl _)) (Le.refl _) ?_ ?_
    ·exact ⟨ha1_4,(Qaf hy1),hF⟩
    ·simp only;omega
   have kh15:=dF h15
   have hF:=cF h15 hF
   refine .k h15<|.k h15<|.k h15<|.k h15<|.k h15<|.k h15<|.q (.pickF rfl h15 rfl)<|.nil<|sq_n<|.condF rfl rfl<|.skip<|bq_n<|sq_n<|.region rfl<|.q (.inc1 rfl rfl (by omega))<|.m rfl rfl<|.nil<|Qac (L_code_Opens_1.mk _ _ d1_1 (k1_5+1)) ⟨rfl,rfl,rfl,rfl,rfl,rfl,rfl,rfl,rfl,rfl,trivial⟩ (.cons _ (List.Sublist.refl _)) (Le.refl _) ?_ ?_
   ·exact ⟨ha1_4,(Qaf hy1),hF⟩
   ·simp only;omega
  have kh14:=dF h14
  have hF:=cF h14 hF
  refine .k h14<|.k h14<|.k h14<|.k h14<|.k h14<|.k h14<|.q (.pickF rfl h14 rfl)<|.m rfl rfl<|.k rfl<|.k rfl<|.k rfl<|.k rfl<|.k rfl<|.k rfl<|.q (.pickF rfl rfl rfl)<|.nil<|sq_n<|.condF rfl rfl<|.skip<|bq_n<|sq_n<|.region rfl<|.q (.inc1 rfl rfl (by omega))<|.m rfl rfl<|.nil<|Qac (L_code_Opens_1.mk _ _ d1_1 (k1_5+1)) ⟨rfl,rfl,rfl,rfl,rfl,rfl,rfl,rfl,rfl,rfl,trivial⟩ (.cons _ (List.Sublist.refl _)) (Le.refl _) ?_ ?_
  ·exact ⟨ha1_4,(Qaf hy1),hF⟩
  ·simp only;omega
 have kh11:=dF h11
 rw [dn (by omega),Qb] at hF
 obtain rfl:=sI hF
 have hF:=hG1
 refine .exit<|sq_e<|lq_e<|bq_x rfl<|bq_n<|sq_n<|.region rfl<|.q (.addL (c:=1) rfl rfl rfl (by decide))<|.m rfl rfl<|.nil<|sq_n<|.unroll<|.seq<|.region rfl<|.b rfl rfl rfl rfl<|.nil<|sq_n<|.seq<|.condT rfl (by decide)<|.skip<|sq_n<|.seq<|.block<|.seq<|.region rfl<|.m rfl rfl<|.q (.ixv (j:=1) rfl rfl ar_83 s_82 (by decide) (Qdf a_82 s_82 (vs:=[_,_,_,_]) rfl))<|.alloc .no rfl z_82 fun b19=>.z rfl rfl<|.st (cs':=[_,_,_,_]) .no rfl rfl rfl rfl s_82 rfl rfl .hd rfl (Qa rfl (Qa h6_6_0.one (Qa rfl (Qa rfl rfl))))<|.nil<|sq_n<|.seq<|.region rfl<|.m rfl rfl<|.m rfl rfl<|.m rfl rfl<|.q (.nil rfl)<|.q (.fa rfl Qek) ?_
 refine .q (.fa rfl Qaj)<|.q (.ixai rfl rfl ae_95 hsy8)<|.q (.ixa (j:=1) rfl rfl ae_94 (by decide))<|.ldc (Φ:=fun w20_0=>RS PieceR 3 gl1 w20_0 (arr [(q4.version_.ln 1),(q4.version_.ln 6)] (q4.version_.ln 1) p2.toNat)) .no rfl (sym2 hsy8 (fun e=>⟨_,.sO (o':=5) rfl (by rw [e];try rfl) (.tl (.tl (.tl .hd))) a_93 rfl,by rw [e];exact h5_4_0⟩) (fun e=>⟨_,.sO (o':=10) rfl (by rw [e];try rfl) (.tl (.tl (.tl .hd))) a_93 rfl,by rw [e];exact h10_4_0⟩)) fun v20 hv20=>?_
 have lhv20:=hv20.1
 refine .q (.lenR rfl rfl rfl e_93 hv20)<|.m rfl rfl<|.nil<|sq_n<|.block ?_
 obtain ⟨o2,hF,hG2⟩:=bS hF
 refine .loopx (α:=L_code_Opens_2) [(2,_),(10,_),(12,_),(13,_),(35,_),(36,_),(48,_),(49,_)] [_,_,_,_] (fun fx x=>(11,x.v2_2) :: (50,.i .i64 (x.k2_5:Int)) :: fx) (fun mx x=>[rg mx 0,.acc x.v2_2 3 x.cs2_3 124,rg mx 1,rg mx 2,rg mx 3]) (fun x g'=>AccR R_Open 3 g' x.v2_2 x.cs2_3 x.d2_1∧x.k2_5≤(arr [(q4.version_.ln 1),(q4.version_.ln 6)] (q4.version_.ln 1) p2.toNat).length∧Qau q6 ((arr [(q4.version_.ln 1),(q4.version_.ln 6)] (q4.version_.ln 1) p2.toNat).drop x.k2_5) x.d2_1 x.k2_5=some o2) (fun x=>(arr [(q4.version_.ln 1),(q4.version_.ln 6)] (q4.version_.ln 1) p2.toNat).length - x.k2_5) (L_code_Opens_2.mk _ _ d1_1 0) ⟨rfl,rfl,rfl,rfl,rfl,rfl,rfl,rfl,rfl,rfl,trivial⟩ (List.Sublist.refl _) ⟨ha1_4,(by first | omega | (dsimp only;omega)),hF⟩ ?_
 intro x2 gl2 hlo2 hJ2
 obtain ⟨v2_2,cs2_3,d2_1,k2_5⟩:=x2
 try dsimp only at hJ2
 obtain ⟨ha2_4,hk2,hF⟩:=hJ2
 refine .al0 [(11,v2_2),(50,.i .i64 (k2_5:Int)),(2,_),(10,_),(12,_),(13,_),(35,_),(36,_),(48,_),(49,_)] ?_
 replace h6_4_0:=h6_4_0.mono PieceR.mono hlo2
 replace h7_4_0:=h7_4_0.mono PieceR.mono hlo2
 replace h8_4_0:=h8_4_0.mono PieceR.mono hlo2
 replace h11_4_0:=h11_4_0.mono PieceR.mono hlo2
 replace h12_4_0:=h12_4_0.mono PieceR.mono hlo2
 replace h13_4_0:=h13_4_0.mono PieceR.mono hlo2
 replace h10_6_0:=h10_6_0.mono IntR.mono hlo2
 replace h14_6_0:=h14_6_0.mono IntR.mono hlo2
 replace h18_6_0:=h18_6_0.mono IntR.mono hlo2
 replace hv20:=hv20.mono PieceR.mono hlo2
 have lha2_4:=ha2_4.le
 refine .seq<|.region rfl<|.b rfl rfl rfl rfl<|.nil<|sq_n<|.seq<|.cond rfl (fun h21=>?_) (fun h21=>?_)
 ·have kh21:=dT h21
  obtain ⟨y2,hy2⟩:=getK (l:=(arr [(q4.version_.ln 1),(q4.version_.ln 6)] (q4.version_.ln 1) p2.toNat)) (k:=k2_5) kh21
  rw [dc hy2,Qau] at hF
  refine .skip<|sq_n<|.seq<|.block<|.seq<|.region rfl<|.m rfl rfl<|.ixk (j:=k2_5) .no rfl rfl hv20 rfl e_93 hy2 ?_
  rintro b22 o22 _ hq22 rfl
  refine .w (.pa 0 (vs:=[_,_,_]) rfl hq22 rfl a_157 s_157 rfl rfl)<|.alloc .no rfl z_157 fun b23=>.z rfl rfl<|.st (cs':=[_,_,_]) .no rfl rfl rfl rfl s_157 rfl rfl .hd rfl rfl<|.nil<|sq_n<|.seq<|.region rfl<|.m rfl rfl<|.b rfl rfl rfl rfl<|.m rfl rfl<|.split (t:=57) rfl (fun h24=>?_) (fun h24=>?_)
  ·have kh24:=dT h24
   have hF:=cT h24 hF
   refine .py h24 (.fa rfl Qai)<|.wy h24 (.s rfl .hd a_3 rfl)<|.py h24 (.fa rfl Qag)<|.py h24 (.fa rfl Qal)<|.wy h24 (.s rfl (.tl .hd) a_3 rfl)<|.py h24 (.bin rfl rfl rfl)<|.q (.pickT rfl h24 rfl)<|.m rfl rfl<|.split (t:=65) rfl (fun h25=>?_) (fun h25=>?_)
   ·have kh25:=dT h25
    have hF:=cT h25 hF
    refine .py h25 (.fa rfl Qai)<|.wy h25 (.s rfl .hd a_3 rfl)<|.py h25 (.fa rfl Qag)<|.py h25 (.fa rfl Qak)<|.wy h25 (.s rfl (.tl .hd) a_3 rfl)<|.py h25 (.bin rfl rfl rfl)<|.q (.pickT rfl h25 rfl)<|.nil<|sq_n<|.cond rfl (fun h26=>?_) (fun h26=>?_)
    ·have kh26:=dT h26
     have hF:=cT h26 hF
     refine .region rfl<|.m rfl rfl<|.m rfl rfl<|.q (.addL (c:=2) rfl rfl rfl (by decide))<|.m rfl rfl<|.q (.fa rfl Qai)<|.w (.s rfl .hd a_3 rfl)<|.q (.build (qs:=[(0,_),(1,_),(2,_)]) (cs:=[_,_,_]) rfl b_124 rfl)<|.bs .no rfl (qs:=[(0,_)]) (c:=[_,_,_]) rfl sl_60 Qdp (by decide) rfl fun b27=>?_
     obtain ⟨hl28,hF⟩:=ckS hF
     have hl28:=of_decide_eq_true hl28
     refine .x .no rfl (.appA (m:=1) (new:=[_,_,_]) rfl rfl rfl (.tl (.tl (.tl .hd))) sl_60 Qdp (.of rfl .sl sl_60 .hd (Nat.le_of_ble_eq_true rfl) rfl) (by decide) rfl (AccR.room (R:=R_Open) (ys:=[(T_Open.mk 2 (k2_5:Int) y2.fr)]) ha2_4 (Ls.cons (c:=[_,_,_]) rfl rfl .nil) hl28) rfl) fun v28=>.as (.tl (.tl (.tl .hd))) fun av28=>?_
     have ha28:=AccR.app (R:=R_Open) (g:=gl2) (ys:=[(T_Open.mk 2 (k2_5:Int) y2.fr)]) ha2_4 (Ls.cons (c:=[_,_,_]) rfl rfl .nil) hl28 av28
     have lha28:=ha28.le
     refine .z rfl rfl<|.nil<|bq_n<|sq_n<|.region rfl<|.q (.inc1 rfl rfl (by omega))<|.m rfl rfl<|.nil<|Qac (L_code_Opens_2.mk _ _ (d2_1 ++ [(T_Open.mk 2 (k2_5:Int) y2.fr)]) (k2_5+1)) ⟨rfl,rfl,rfl,rfl,rfl,rfl,rfl,rfl,rfl,rfl,trivial⟩ (.cons _ (.cons _ (List.Sublist.refl _))) (Le.refl _) ?_ ?_
     ·exact ⟨ha28,(Qaf hy2),hF⟩
     ·simp only;omega
    have kh26:=dF h26
    have hF:=cF h26 hF
    refine .skip<|bq_n<|sq_n<|.region rfl<|.q (.inc1 rfl rfl (by omega))<|.m rfl rfl<|.nil<|Qac (L_code_Opens_2.mk _ _ d2_1 (k2_5+1)) ⟨rfl,rfl,rfl,rfl,rfl,rfl,rfl,rfl,rfl,rfl,trivial⟩ (.cons _ (List.Sublist.refl _)) (Le.refl _) ?_ ?_
    ·exact ⟨ha2_4,(Qaf hy2),hF⟩
    ·simp only;omega
   have kh25:=dF h25
   have hF:=cF h25 hF
   refine .k h25<|.k h25<|.k h25<|.k h25<|.k h25<|.k h25<|.q (.pickF rfl h25 rfl)<|.nil<|sq_n<|.condF rfl rfl<|.skip<|bq_n<|sq_n<|.region rfl<|.q (.inc1 rfl rfl (by omega))<|.m rfl rfl<|.nil<|Qac (L_code_Opens_2.mk _ _ d2_1 (k2_5+1)) ⟨rfl,rfl,rfl,rfl,rfl,rfl,rfl,rfl,rfl,rfl,trivial⟩ (.cons _ (List.Sublist.refl _)) (Le.refl _) ?_ ?_
   ·exact ⟨ha2_4,(Qaf hy2),hF⟩
   ·simp only;omega
  have kh24:=dF h24
  have hF:=cF h24 hF
  refine .k h24<|.k h24<|.k h24<|.k h24<|.k h24<|.k h24<|.q (.pickF rfl h24 rfl)<|.m rfl rfl<|.k rfl<|.k rfl<|.k rfl<|.k rfl<|.k rfl<|.k rfl<|.q (.pickF rfl rfl rfl)<|.nil<|sq_n<|.condF rfl rfl<|.skip<|bq_n<|sq_n<|.region rfl<|.q (.inc1 rfl rfl (by omega))<|.m rfl rfl<|.nil<|Qac (L_code_Opens_2.mk _ _ d2_1 (k2_5+1)) ⟨rfl,rfl,rfl,rfl,rfl,rfl,rfl,rfl,rfl,rfl,trivial⟩ (.cons _ (List.Sublist.refl _)) (Le.refl _) ?_ ?_
  ·exact ⟨ha2_4,(Qaf hy2),hF⟩
  ·simp only;omega
 have kh21:=dF h21
 rw [dn (by omega),Qau] at hF
 obtain rfl:=sI hF
 have hF:=hG2
 refine .exit<|sq_e<|lq_e<|bq_x rfl<|bq_n<|sq_n<|.region rfl<|.q (.addL (c:=2) rfl rfl rfl (by decide))<|.m rfl rfl<|.nil<|sq_n<|.unroll<|.seq<|.region rfl<|.b rfl rfl rfl rfl<|.nil<|sq_n<|.seq<|.condT rfl (by decide)<|.skip<|sq_n<|.seq<|.block<|.seq<|.region rfl<|.m rfl rfl<|.q (.ixv (j:=2) rfl rfl ar_83 s_82 (by decide) (Qdf a_82 s_82 (vs:=[_,_,_,_]) rfl))<|.alloc .no rfl z_82 fun b29=>.z rfl rfl<|.st (cs':=[_,_,_,_]) .no rfl rfl rfl rfl s_82 rfl rfl .hd rfl (Qa rfl (Qa h10_6_0.one (Qa rfl (Qa rfl rfl))))<|.nil<|sq_n<|.seq<|.region rfl<|.m rfl rfl<|.m rfl rfl<|.m rfl rfl<|.q (.nil rfl)<|.q (.fa rfl Qek) ?_
 refine .q (.fa rfl Qaj)<|.q (.ixai rfl rfl ae_95 hsy8)<|.q (.ixa (j:=2) rfl rfl ae_94 (by decide))<|.ldc (Φ:=fun w30_0=>RS PieceR 3 gl2 w30_0 (arr [(q4.version_.ln 2),(q4.version_.ln 7)] (q4.version_.ln 2) p2.toNat)) .no rfl (sym2 hsy8 (fun e=>⟨_,.sO (o':=6) rfl (by rw [e];try rfl) (.tl (.tl (.tl (.tl .hd)))) a_93 rfl,by rw [e];exact h6_4_0⟩) (fun e=>⟨_,.sO (o':=11) rfl (by rw [e];try rfl) (.tl (.tl (.tl (.tl .hd)))) a_93 rfl,by rw [e];exact h11_4_0⟩)) fun v30 hv30=>?_
 have lhv30:=hv30.1
 refine .q (.lenR rfl rfl rfl e_93 hv30)<|.m rfl rfl<|.nil<|sq_n<|.block ?_
 obtain ⟨o3,hF,hG3⟩:=bS hF
 refine .loopx (α:=L_code_Opens_3) [(2,_),(10,_),(12,_),(13,_),(35,_),(36,_),(48,_),(49,_)] [_,_,_,_,_] (fun fx x=>(11,x.v3_2) :: (50,.i .i64 (x.k3_5:Int)) :: fx) (fun mx x=>[rg mx 0,rg mx 1,.acc x.v3_2 3 x.cs3_3 124,rg mx 2,rg mx 3,rg mx 4]) (fun x g'=>AccR R_Open 3 g' x.v3_2 x.cs3_3 x.d3_1∧x.k3_5≤(arr [(q4.version_.ln 2),(q4.version_.ln 7)] (q4.version_.ln 2) p2.toNat).length∧Qat q6 ((arr [(q4.version_.ln 2),(q4.version_.ln 7)] (q4.version_.ln 2) p2.toNat).drop x.k3_5) x.d3_1 x.k3_5=some o3) (fun x=>(arr [(q4.version_.ln 2),(q4.version_.ln 7)] (q4.version_.ln 2) p2.toNat).length - x.k3_5) (L_code_Opens_3.mk _ _ d2_1 0) ⟨rfl,rfl,rfl,rfl,rfl,rfl,rfl,rfl,rfl,rfl,trivial⟩ (List.Sublist.refl _) ⟨ha2_4,(by first | omega | (dsimp only;omega)),hF⟩ ?_
 intro x3 gl3 hlo3 hJ3
 obtain ⟨v3_2,cs3_3,d3_1,k3_5⟩:=x3
 try dsimp only at hJ3
 obtain ⟨ha3_4,hk3,hF⟩:=hJ3
 refine .al0 [(11,v3_2),(50,.i .i64 (k3_5:Int)),(2,_),(10,_),(12,_),(13,_),(35,_),(36,_),(48,_),(49,_)] ?_
 replace h7_4_0:=h7_4_0.mono PieceR.mono hlo3
 replace h8_4_0:=h8_4_0.mono PieceR.mono hlo3
 replace h12_4_0:=h12_4_0.mono PieceR.mono hlo3
 replace h13_4_0:=h13_4_0.mono PieceR.mono hlo3
 replace h14_6_0:=h14_6_0.mono IntR.mono hlo3
 replace h18_6_0:=h18_6_0.mono IntR.mono hlo3
 replace hv30:=hv30.mono PieceR.mono hlo3
 have lha3_4:=ha3_4.le
 refine .seq<|.region rfl<|.b rfl rfl rfl rfl<|.nil<|sq_n<|.seq<|.cond rfl (fun h31=>?_) (fun h31=>?_)
 ·have kh31:=dT h31
  obtain ⟨y3,hy3⟩:=getK (l:=(arr [(q4.version_.ln 2),(q4.version_.ln 7)] (q4.version_.ln 2) p2.toNat)) (k:=k3_5) kh31
  rw [dc hy3,Qat] at hF
  refine .skip<|sq_n<|.seq<|.block<|.seq<|.region rfl<|.m rfl rfl<|.ixk (j:=k3_5) .no rfl rfl hv30 rfl e_93 hy3 ?_
  rintro b32 o32 _ hq32 rfl
  refine .w (.pa 0 (vs:=[_,_,_]) rfl hq32 rfl a_157 s_157 rfl rfl)<|.alloc .no rfl z_157 fun b33=>.z rfl rfl<|.st (cs':=[_,_,_]) .no rfl rfl rfl rfl s_157 rfl rfl .hd rfl rfl<|.nil<|sq_n<|.seq<|.region rfl<|.m rfl rfl<|.b rfl rfl rfl rfl<|.m rfl rfl<|.split (t:=57) rfl (fun h34=>?_) (fun h34=>?_)
  ·have kh34:=dT h34
   have hF:=cT h34 hF
   refine .py h34 (.fa rfl Qai)<|.wy h34 (.s rfl .hd a_3 rfl)<|.py h34 (.fa rfl Qag)<|.py h34 (.fa rfl Qal)<|.wy h34 (.s rfl (.tl .hd) a_3 rfl)<|.py h34 (.bin rfl rfl rfl)<|.q (.pickT rfl h34 rfl)<|.m rfl rfl<|.split (t:=65) rfl (fun h35=>?_) (fun h35=>?_)
   ·have kh35:=dT h35
    have hF:=cT h35 hF
    refine .py h35 (.fa rfl Qai)<|.wy h35 (.s rfl .hd a_3 rfl)<|.py h35 (.fa rfl Qag)<|.py h35 (.fa rfl Qak)<|.wy h35 (.s rfl (.tl .hd) a_3 rfl)<|.py h35 (.bin rfl rfl rfl)<|.q (.pickT rfl h35 rfl)<|.nil<|sq_n<|.cond rfl (fun h36=>?_) (fun h36=>?_)
    ·have kh36:=dT h36
     have hF:=cT h36 hF
     refine .region rfl<|.m rfl rfl<|.m rfl rfl<|.q (.addL (c:=3) rfl rfl rfl (by decide))<|.m rfl rfl<|.q (.fa rfl Qai)<|.w (.s rfl .hd a_3 rfl)<|.q (.build (qs:=[(0,_),(1,_),(2,_)]) (cs:=[_,_,_]) rfl b_124 rfl)<|.bs .no rfl (qs:=[(0,_)]) (c:=[_,_,_]) rfl sl_60 Qdp (by decide) rfl fun b37=>?_
     obtain ⟨hl38,hF⟩:=ckS hF
     have hl38:=of_decide_eq_true hl38
     refine .x .no rfl (.appA (m:=1) (new:=[_,_,_]) rfl rfl rfl (.tl (.tl (.tl (.tl .hd)))) sl_60 Qdp (.of rfl .sl sl_60 .hd (Nat.le_of_ble_eq_true rfl) rfl) (by decide) rfl (AccR.room (R:=R_Open) (ys:=[(T_Open.mk 3 (k3_5:Int) y3.fr)]) ha3_4 (Ls.cons (c:=[_,_,_]) rfl rfl .nil) hl38) rfl) fun v38=>.as (.tl (.tl (.tl (.tl .hd)))) fun av38=>?_
     have ha38:=AccR.app (R:=R_Open) (g:=gl3) (ys:=[(T_Open.mk 3 (k3_5:Int) y3.fr)]) ha3_4 (Ls.cons (c:=[_,_,_]) rfl rfl .nil) hl38 av38
     have lha38:=ha38.le
     refine .z rfl rfl<|.nil<|bq_n<|sq_n<|.region rfl<|.q (.inc1 rfl rfl (by omega))<|.m rfl rfl<|.nil<|Qac (L_code_Opens_3.mk _ _ (d3_1 ++ [(T_Open.mk 3 (k3_5:Int) y3.fr)]) (k3_5+1)) ⟨rfl,rfl,rfl,rfl,rfl,rfl,rfl,rfl,rfl,rfl,trivial⟩ (.cons _ (.cons _ (List.Sublist.refl _))) (Le.refl _) ?_ ?_
     ·exact ⟨ha38,(Qaf hy3),hF⟩
     ·simp only;omega
    have kh36:=dF h36
    have hF:=cF h36 hF
    refine .skip<|bq_n<|sq_n<|.region rfl<|.q (.inc1 rfl rfl (by omega))<|.m rfl rfl<|.nil<|Qac (L_code_Opens_3.mk _ _ d3_1 (k3_5+1)) ⟨rfl,rfl,rfl,rfl,rfl,rfl,rfl,rfl,rfl,rfl,trivial⟩ (.cons _ (List.Sublist.refl _)) (Le.refl _) ?_ ?_
    ·exact ⟨ha3_4,(Qaf hy3),hF⟩
    ·simp only;omega
   have kh35:=dF h35
   have hF:=cF h35 hF
   refine .k h35<|.k h35<|.k h35<|.k h35<|.k h35<|.k h35<|.q (.pickF rfl h35 rfl)<|.nil<|sq_n<|.condF rfl rfl<|.skip<|bq_n<|sq_n<|.region rfl<|.q (.inc1 rfl rfl (by omega))<|.m rfl rfl<|.nil<|Qac (L_code_Opens_3.mk _ _ d3_1 (k3_5+1)) ⟨rfl,rfl,rfl,rfl,rfl,rfl,rfl,rfl,rfl,rfl,trivial⟩ (.cons _ (List.Sublist.refl _)) (Le.refl _) ?_ ?_
   ·exact ⟨ha3_4,(Qaf hy3),hF⟩
   ·simp only;omega
  have kh34:=dF h34
  have hF:=cF h34 hF
  refine .k h34<|.k h34<|.k h34<|.k h34<|.k h34<|.k h34<|.q (.pickF rfl h34 rfl)<|.m rfl rfl<|.k rfl<|.k rfl<|.k rfl<|.k rfl<|.k rfl<|.k rfl<|.q (.pickF rfl rfl rfl)<|.nil<|sq_n<|.condF rfl rfl<|.skip<|bq_n<|sq_n<|.region rfl<|.q (.inc1 rfl rfl (by omega))<|.m rfl rfl<|.nil<|Qac (L_code_Opens_3.mk _ _ d3_1 (k3_5+1)) ⟨rfl,rfl,rfl,rfl,rfl,rfl,rfl,rfl,rfl,rfl,trivial⟩ (.cons _ (List.Sublist.refl _)) (Le.refl _) ?_ ?_
  ·exact ⟨ha3_4,(Qaf hy3),hF⟩
  ·simp only;omega
 have kh31:=dF h31
 rw [dn (by omega),Qat] at hF
 obtain rfl:=sI hF
 have hF:=hG3
 refine .exit<|sq_e<|lq_e<|bq_x rfl<|bq_n<|sq_n<|.region rfl<|.q (.addL (c:=3) rfl rfl rfl (by decide))<|.m rfl rfl<|.nil<|sq_n<|.unroll<|.seq<|.region rfl<|.b rfl rfl rfl rfl<|.nil<|sq_n<|.seq<|.condT rfl (by decide)<|.skip<|sq_n<|.seq<|.block<|.seq<|.region rfl<|.m rfl rfl<|.q (.ixv (j:=3) rfl rfl ar_83 s_82 (by decide) (Qdf a_82 s_82 (vs:=[_,_,_,_]) rfl))<|.alloc .no rfl z_82 fun b39=>.z rfl rfl<|.st (cs':=[_,_,_,_]) .no rfl rfl rfl rfl s_82 rfl rfl .hd rfl (Qa rfl (Qa h14_6_0.one (Qa rfl (Qa rfl rfl))))<|.nil<|sq_n<|.seq<|.region rfl<|.m rfl rfl<|.m rfl rfl<|.m rfl rfl<|.q (.nil rfl)<|.q (.fa rfl Qek) ?_
 refine .q (.fa rfl Qaj)<|.q (.ixai rfl rfl ae_95 hsy8)<|.q (.ixa (j:=3) rfl rfl ae_94 (by decide))<|.ldc (Φ:=fun w40_0=>RS PieceR 3 gl3 w40_0 (arr [(q4.version_.ln 3),(q4.version_.ln 8)] (q4.version_.ln 3) p2.toNat)) .no rfl (sym2 hsy8 (fun e=>⟨_,.sO (o':=7) rfl (by rw [e];try rfl) (.tl (.tl (.tl (.tl (.tl .hd))))) a_93 rfl,by rw [e];exact h7_4_0⟩) (fun e=>⟨_,.sO (o':=12) rfl (by rw [e];try rfl) (.tl (.tl (.tl (.tl (.tl .hd))))) a_93 rfl,by rw [e];exact h12_4_0⟩)) fun v40 hv40=>?_
 have lhv40:=hv40.1
 refine .q (.lenR rfl rfl rfl e_93 hv40)<|.m rfl rfl<|.nil<|sq_n<|.block ?_
 obtain ⟨o4,hF,hG4⟩:=bS hF
 refine .loopx (α:=L_code_Opens_4) [(2,_),(10,_),(12,_),(13,_),(35,_),(36,_),(48,_),(49,_)] [_,_,_,_,_,_] (fun fx x=>(11,x.v4_2) :: (50,.i .i64 (x.k4_5:Int)) :: fx) (fun mx x=>[rg mx 0,rg mx 1,rg mx 2,.acc x.v4_2 3 x.cs4_3 124,rg mx 3,rg mx 4,rg mx 5]) (fun x g'=>AccR R_Open 3 g' x.v4_2 x.cs4_3 x.d4_1∧x.k4_5≤(arr [(q4.version_.ln 3),(q4.version_.ln 8)] (q4.version_.ln 3) p2.toNat).length∧Qav q6 ((arr [(q4.version_.ln 3),(q4.version_.ln 8)] (q4.version_.ln 3) p2.toNat).drop x.k4_5) x.d4_1 x.k4_5=some o4) (fun x=>(arr [(q4.version_.ln 3),(q4.version_.ln 8)] (q4.version_.ln 3) p2.toNat).length - x.k4_5) (L_code_Opens_4.mk _ _ d3_1 0) ⟨rfl,rfl,rfl,rfl,rfl,rfl,rfl,rfl,rfl,rfl,trivial⟩ (List.Sublist.refl _) ⟨ha3_4,(by first | omega | (dsimp only;omega)),hF⟩ ?_
 intro x4 gl4 hlo4 hJ4
 obtain ⟨v4_2,cs4_3,d4_1,k4_5⟩:=x4
 try dsimp only at hJ4
 obtain ⟨ha4_4,hk4,hF⟩:=hJ4
 refine .al0 [(11,v4_2),(50,.i .i64 (k4_5:Int)),(2,_),(10,_),(12,_),(13,_),(35,_),(36,_),(48,_),(49,_)] ?_
 replace h8_4_0:=h8_4_0.mono PieceR.mono hlo4
 replace h13_4_0:=h13_4_0.mono PieceR.mono hlo4
 replace h18_6_0:=h18_6_0.mono IntR.mono hlo4
 replace hv40:=hv40.mono PieceR.mono hlo4
 have lha4_4:=ha4_4.le
 refine .seq<|.region rfl<|.b rfl rfl rfl rfl<|.nil<|sq_n<|.seq<|.cond rfl (fun h41=>?_) (fun h41=>?_)
 ·have kh41:=dT h41
  obtain ⟨y4,hy4⟩:=getK (l:=(arr [(q4.version_.ln 3),(q4.version_.ln 8)] (q4.version_.ln 3) p2.toNat)) (k:=k4_5) kh41
  rw [dc hy4,Qav] at hF
  refine .skip<|sq_n<|.seq<|.block<|.seq<|.region rfl<|.m rfl rfl<|.ixk (j:=k4_5) .no rfl rfl hv40 rfl e_93 hy4 ?_
  rintro b42 o42 _ hq42 rfl
  refine .w (.pa 0 (vs:=[_,_,_]) rfl hq42 rfl a_157 s_157 rfl rfl)<|.alloc .no rfl z_157 fun b43=>.z rfl rfl<|.st (cs':=[_,_,_]) .no rfl rfl rfl rfl s_157 rfl rfl .hd rfl rfl<|.nil<|sq_n<|.seq<|.region rfl<|.m rfl rfl<|.b rfl rfl rfl rfl<|.m rfl rfl<|.split (t:=57) rfl (fun h44=>?_) (fun h44=>?_)
  ·have kh44:=dT h44
   have hF:=cT h44 hF
   refine .py h44 (.fa rfl Qai)<|.wy h44 (.s rfl .hd a_3 rfl)<|.py h44 (.fa rfl Qag)<|.py h44 (.fa rfl Qal)<|.wy h44 (.s rfl (.tl .hd) a_3 rfl)<|.py h44 (.bin rfl rfl rfl)<|.q (.pickT rfl h44 rfl)<|.m rfl rfl<|.split (t:=65) rfl (fun h45=>?_) (fun h45=>?_)
   ·have kh45:=dT h45
    have hF:=cT h45 hF
    refine .py h45 (.fa rfl Qai)<|.wy h45 (.s rfl .hd a_3 rfl)<|.py h45 (.fa rfl Qag)<|.py h45 (.fa rfl Qak)<|.wy h45 (.s rfl (.tl .hd) a_3 rfl)<|.py h45 (.bin rfl rfl rfl)<|.q (.pickT rfl h45 rfl)<|.nil<|sq_n<|.cond rfl (fun h46=>?_) (fun h46=>?_)
    ·have kh46:=dT h46
     have hF:=cT h46 hF
     refine .region rfl<|.m rfl rfl<|.m rfl rfl<|.q (.addL (c:=4) rfl rfl rfl (by decide))<|.m rfl rfl<|.q (.fa rfl Qai)<|.w (.s rfl .hd a_3 rfl)<|.q (.build (qs:=[(0,_),(1,_),(2,_)]) (cs:=[_,_,_]) rfl b_124 rfl)<|.bs .no rfl (qs:=[(0,_)]) (c:=[_,_,_]) rfl sl_60 Qdp (by decide) rfl fun b47=>?_
     obtain ⟨hl48,hF⟩:=ckS hF
     have hl48:=of_decide_eq_true hl48
     refine .x .no rfl (.appA (m:=1) (new:=[_,_,_]) rfl rfl rfl (.tl (.tl (.tl (.tl (.tl .hd))))) sl_60 Qdp (.of rfl .sl sl_60 .hd (Nat.le_of_ble_eq_true rfl) rfl) (by decide) rfl (AccR.room (R:=R_Open) (ys:=[(T_Open.mk 4 (k4_5:Int) y4.fr)]) ha4_4 (Ls.cons (c:=[_,_,_]) rfl rfl .nil) hl48) rfl) fun v48=>.as (.tl (.tl (.tl (.tl (.tl .hd))))) fun av48=>?_
     have ha48:=AccR.app (R:=R_Open) (g:=gl4) (ys:=[(T_Open.mk 4 (k4_5:Int) y4.fr)]) ha4_4 (Ls.cons (c:=[_,_,_]) rfl rfl .nil) hl48 av48
     have lha48:=ha48.le
     refine .z rfl rfl<|.nil<|bq_n<|sq_n<|.region rfl<|.q (.inc1 rfl rfl (by omega))<|.m rfl rfl<|.nil<|Qac (L_code_Opens_4.mk _ _ (d4_1 ++ [(T_Open.mk 4 (k4_5:Int) y4.fr)]) (k4_5+1)) ⟨rfl,rfl,rfl,rfl,rfl,rfl,rfl,rfl,rfl,rfl,trivial⟩ (.cons _ (.cons _ (List.Sublist.refl _))) (Le.refl _) ?_ ?_
     ·exact ⟨ha48,(Qaf hy4),hF⟩
     ·simp only;omega
    have kh46:=dF h46
    have hF:=cF h46 hF
    refine .skip<|bq_n<|sq_n<|.region rfl<|.q (.inc1 rfl rfl (by omega))<|.m rfl rfl<|.nil<|Qac (L_code_Opens_4.mk _ _ d4_1 (k4_5+1)) ⟨rfl,rfl,rfl,rfl,rfl,rfl,rfl,rfl,rfl,rfl,trivial⟩ (.cons _ (List.Sublist.refl _)) (Le.refl _) ?_ ?_
    ·exact ⟨ha4_4,(Qaf hy4),hF⟩
    ·simp only;omega
   have kh45:=dF h45
   have hF:=cF h45 hF
   refine .k h45<|.k h45<|.k h45<|.k h45<|.k h45<|.k h45<|.q (.pickF rfl h45 rfl)<|.nil<|sq_n<|.condF rfl rfl<|.skip<|bq_n<|sq_n<|.region rfl<|.q (.inc1 rfl rfl (by omega))<|.m rfl rfl<|.nil<|Qac (L_code_Opens_4.mk _ _ d4_1 (k4_5+1)) ⟨rfl,rfl,rfl,rfl,rfl,rfl,rfl,rfl,rfl,rfl,trivial⟩ (.cons _ (List.Sublist.refl _)) (Le.refl _) ?_ ?_
   ·exact ⟨ha4_4,(Qaf hy4),hF⟩
   ·simp only;omega
  have kh44:=dF h44
  have hF:=cF h44 hF
  refine .k h44<|.k h44<|.k h44<|.k h44<|.k h44<|.k h44<|.q (.pickF rfl h44 rfl)<|.m rfl rfl<|.k rfl<|.k rfl<|.k rfl<|.k rfl<|.k rfl<|.k rfl<|.q (.pickF rfl rfl rfl)<|.nil<|sq_n<|.condF rfl rfl<|.skip<|bq_n<|sq_n<|.region rfl<|.q (.inc1 rfl rfl (by omega))<|.m rfl rfl<|.nil<|Qac (L_code_Opens_4.mk _ _ d4_1 (k4_5+1)) ⟨rfl,rfl,rfl,rfl,rfl,rfl,rfl,rfl,rfl,rfl,trivial⟩ (.cons _ (List.Sublist.refl _)) (Le.refl _) ?_ ?_
  ·exact ⟨ha4_4,(Qaf hy4),hF⟩
  ·simp only;omega
 have kh41:=dF h41
 rw [dn (by omega),Qav] at hF
 obtain rfl:=sI hF
 have hF:=hG4
 refine .exit<|sq_e<|lq_e<|bq_x rfl<|bq_n<|sq_n<|.region rfl<|.q (.addL (c:=4) rfl rfl rfl (by decide))<|.m rfl rfl<|.nil<|sq_n<|.unroll<|.seq<|.region rfl<|.b rfl rfl rfl rfl<|.nil<|sq_n<|.seq<|.condT rfl (by decide)<|.skip<|sq_n<|.seq<|.block<|.seq<|.region rfl<|.m rfl rfl<|.q (.ixv (j:=4) rfl rfl ar_83 s_82 (by decide) (Qdf a_82 s_82 (vs:=[_,_,_,_]) rfl))<|.alloc .no rfl z_82 fun b49=>.z rfl rfl<|.st (cs':=[_,_,_,_]) .no rfl rfl rfl rfl s_82 rfl rfl .hd rfl (Qa rfl (Qa h18_6_0.one (Qa rfl (Qa rfl rfl))))<|.nil<|sq_n<|.seq<|.region rfl<|.m rfl rfl<|.m rfl rfl<|.m rfl rfl<|.q (.nil rfl)<|.q (.fa rfl Qek) ?_
 refine .q (.fa rfl Qaj)<|.q (.ixai rfl rfl ae_95 hsy8)<|.q (.ixa (j:=4) rfl rfl ae_94 (by decide))<|.ldc (Φ:=fun w50_0=>RS PieceR 3 gl4 w50_0 (arr [(q4.version_.ln 4),(q4.version_.ln 9)] (q4.version_.ln 4) p2.toNat)) .no rfl (sym2 hsy8 (fun e=>⟨_,.sO (o':=8) rfl (by rw [e];try rfl) (.tl (.tl (.tl (.tl (.tl (.tl .hd)))))) a_93 rfl,by rw [e];exact h8_4_0⟩) (fun e=>⟨_,.sO (o':=13) rfl (by rw [e];try rfl) (.tl (.tl (.tl (.tl (.tl (.tl .hd)))))) a_93 rfl,by rw [e];exact h13_4_0⟩)) fun v50 hv50=>?_
 have lhv50:=hv50.1
 refine .q (.lenR rfl rfl rfl e_93 hv50)<|.m rfl rfl<|.nil<|sq_n<|.block ?_
 obtain ⟨o5,hF,hG5⟩:=bS hF
 refine .loopx (α:=L_code_Opens_5) [(2,_),(10,_),(12,_),(13,_),(35,_),(36,_),(48,_),(49,_)] [_,_,_,_,_,_,_] (fun fx x=>(11,x.v5_2) :: (50,.i .i64 (x.k5_5:Int)) :: fx) (fun mx x=>[rg mx 0,rg mx 1,rg mx 2,rg mx 3,.acc x.v5_2 3 x.cs5_3 124,rg mx 4,rg mx 5,rg mx 6]) (fun x g'=>AccR R_Open 3 g' x.v5_2 x.cs5_3 x.d5_1∧x.k5_5≤(arr [(q4.version_.ln 4),(q4.version_.ln 9)] (q4.version_.ln 4) p2.toNat).length∧Qaw q6 ((arr [(q4.version_.ln 4),(q4.version_.ln 9)] (q4.version_.ln 4) p2.toNat).drop x.k5_5) x.d5_1 x.k5_5=some o5) (fun x=>(arr [(q4.version_.ln 4),(q4.version_.ln 9)] (q4.version_.ln 4) p2.toNat).length - x.k5_5) (L_code_Opens_5.mk _ _ d4_1 0) ⟨rfl,rfl,rfl,rfl,rfl,rfl,rfl,rfl,rfl,rfl,trivial⟩ (List.Sublist.refl _) ⟨ha4_4,(by first | omega | (dsimp only;omega)),hF⟩ ?_
 intro x5 gl5 hlo5 hJ5
 obtain ⟨v5_2,cs5_3,d5_1,k5_5⟩:=x5
 try dsimp only at hJ5
 obtain ⟨ha5_4,hk5,hF⟩:=hJ5
 refine .al0 [(11,v5_2),(50,.i .i64 (k5_5:Int)),(2,_),(10,_),(12,_),(13,_),(35,_),(36,_),(48,_),(49,_)] ?_
 replace hv50:=hv50.mono PieceR.mono hlo5
 have lha5_4:=ha5_4.le
 refine .seq<|.region rfl<|.b rfl rfl rfl rfl<|.nil<|sq_n<|.seq<|.cond rfl (fun h51=>?_) (fun h51=>?_)
 ·have kh51:=dT h51
  obtain ⟨y5,hy5⟩:=getK (l:=(arr [(q4.version_.ln 4),(q4.version_.ln 9)] (q4.version_.ln 4) p2.toNat)) (k:=k5_5) kh51
  rw [dc hy5,Qaw] at hF
  refine .skip<|sq_n<|.seq<|.block<|.seq<|.region rfl<|.m rfl rfl<|.ixk (j:=k5_5) .no rfl rfl hv50 rfl e_93 hy5 ?_
  rintro b52 o52 _ hq52 rfl
  refine .w (.pa 0 (vs:=[_,_,_]) rfl hq52 rfl a_157 s_157 rfl rfl)<|.alloc .no rfl z_157 fun b53=>.z rfl rfl<|.st (cs':=[_,_,_]) .no rfl rfl rfl rfl s_157 rfl rfl .hd rfl rfl<|.nil<|sq_n<|.seq<|.region rfl<|.m rfl rfl<|.b rfl rfl rfl rfl<|.m rfl rfl<|.split (t:=57) rfl (fun h54=>?_) (fun h54=>?_)
  ·have kh54:=dT h54
   have hF:=cT h54 hF
   refine .py h54 (.fa rfl Qai)<|.wy h54 (.s rfl .hd a_3 rfl)<|.py h54 (.fa rfl Qag)<|.py h54 (.fa rfl Qal)<|.wy h54 (.s rfl (.tl .hd) a_3 rfl)<|.py h54 (.bin rfl rfl rfl)<|.q (.pickT rfl h54 rfl)<|.m rfl rfl<|.split (t:=65) rfl (fun h55=>?_) (fun h55=>?_)
   ·have kh55:=dT h55
    have hF:=cT h55 hF
    refine .py h55 (.fa rfl Qai)<|.wy h55 (.s rfl .hd a_3 rfl)<|.py h55 (.fa rfl Qag)<|.py h55 (.fa rfl Qak)<|.wy h55 (.s rfl (.tl .hd) a_3 rfl)<|.py h55 (.bin rfl rfl rfl)<|.q (.pickT rfl h55 rfl)<|.nil<|sq_n<|.cond rfl (fun h56=>?_) (fun h56=>?_)
    ·have kh56:=dT h56
     have hF:=cT h56 hF
     refine .region rfl<|.m rfl rfl<|.m rfl rfl<|.q (.addL (c:=5) rfl rfl rfl (by decide))<|.m rfl rfl<|.q (.fa rfl Qai)<|.w (.s rfl .hd a_3 rfl)<|.q (.build (qs:=[(0,_),(1,_),(2,_)]) (cs:=[_,_,_]) rfl b_124 rfl)<|.bs .no rfl (qs:=[(0,_)]) (c:=[_,_,_]) rfl sl_60 Qdp (by decide) rfl fun b57=>?_
     obtain ⟨hl58,hF⟩:=ckS hF
     have hl58:=of_decide_eq_true hl58
     refine .x .no rfl (.appA (m:=1) (new:=[_,_,_]) rfl rfl rfl (.tl (.tl (.tl (.tl (.tl (.tl .hd)))))) sl_60 Qdp (.of rfl .sl sl_60 .hd (Nat.le_of_ble_eq_true rfl) rfl) (by decide) rfl (AccR.room (R:=R_Open) (ys:=[(T_Open.mk 5 (k5_5:Int) y5.fr)]) ha5_4 (Ls.cons (c:=[_,_,_]) rfl rfl .nil) hl58) rfl) fun v58=>.as (.tl (.tl (.tl (.tl (.tl (.tl .hd)))))) fun av58=>?_
     have ha58:=AccR.app (R:=R_Open) (g:=gl5) (ys:=[(T_Open.mk 5 (k5_5:Int) y5.fr)]) ha5_4 (Ls.cons (c:=[_,_,_]) rfl rfl .nil) hl58 av58
     have lha58:=ha58.le
     refine .z rfl rfl<|.nil<|bq_n<|sq_n<|.region rfl<|.q (.inc1 rfl rfl (by omega))<|.m rfl rfl<|.nil<|Qac (L_code_Opens_5.mk _ _ (d5_1 ++ [(T_Open.mk 5 (k5_5:Int) y5.fr)]) (k5_5+1)) ⟨rfl,rfl,rfl,rfl,rfl,rfl,rfl,rfl,rfl,rfl,trivial⟩ (.cons _ (.cons _ (List.Sublist.refl _))) (Le.refl _) ?_ ?_
     ·exact ⟨ha58,(Qaf hy5),hF⟩
     ·simp only;omega
    have kh56:=dF h56
    have hF:=cF h56 hF
    refine .skip<|bq_n<|sq_n<|.region rfl<|.q (.inc1 rfl rfl (by omega))<|.m rfl rfl<|.nil<|Qac (L_code_Opens_5.mk _ _ d5_1 (k5_5+1)) ⟨rfl,rfl,rfl,rfl,rfl,rfl,rfl,rfl,rfl,rfl,trivial⟩ (.cons _ (List.Sublist.refl _)) (Le.refl _) ?_ ?_
    ·exact ⟨ha5_4,(Qaf hy5),hF⟩
    ·simp only;omega
   have kh55:=dF h55
   have hF:=cF h55 hF
   refine .k h55<|.k h55<|.k h55<|.k h55<|.k h55<|.k h55<|.q (.pickF rfl h55 rfl)<|.nil<|sq_n<|.condF rfl rfl<|.skip<|bq_n<|sq_n<|.region rfl<|.q (.inc1 rfl rfl (by omega))<|.m rfl rfl<|.nil<|Qac (L_code_Opens_5.mk _ _ d5_1 (k5_5+1)) ⟨rfl,rfl,rfl,rfl,rfl,rfl,rfl,rfl,rfl,rfl,trivial⟩ (.cons _ (List.Sublist.refl _)) (Le.refl _) ?_ ?_
   ·exact ⟨ha5_4,(Qaf hy5),hF⟩
   ·simp only;omega
  have kh54:=dF h54
  have hF:=cF h54 hF
  refine .k h54<|.k h54<|.k h54<|.k h54<|.k h54<|.k h54<|.q (.pickF rfl h54 rfl)<|.m rfl rfl<|.k rfl<|.k rfl<|.k rfl<|.k rfl<|.k rfl<|.k rfl<|.q (.pickF rfl rfl rfl)<|.nil<|sq_n<|.condF rfl rfl<|.skip<|bq_n<|sq_n<|.region rfl<|.q (.inc1 rfl rfl (by omega))<|.m rfl rfl<|.nil<|Qac (L_code_Opens_5.mk _ _ d5_1 (k5_5+1)) ⟨rfl,rfl,rfl,rfl,rfl,rfl,rfl,rfl,rfl,rfl,trivial⟩ (.cons _ (List.Sublist.refl _)) (Le.refl _) ?_ ?_
  ·exact ⟨ha5_4,(Qaf hy5),hF⟩
  ·simp only;omega
 have kh51:=dF h51
 rw [dn (by omega),Qaw] at hF
 obtain rfl:=sI hF
 have hF:=hG5
 refine .exit<|sq_e<|lq_e<|bq_x rfl<|bq_n<|sq_n<|.region rfl<|.q (.addL (c:=5) rfl rfl rfl (by decide))<|.m rfl rfl<|.nil<|sq_n<|.unroll<|.seq<|.region rfl<|.b rfl rfl rfl rfl<|.nil<|sq_n<|.seq<|.condF rfl (by decide)<|.exit<|sq_e<|sq_e<|bq_x rfl<|sq_n<|.seq<|.region rfl<|.m rfl rfl<|.z rfl rfl<|.z rfl rfl<|.nil<|sq_n<|.see (Qdg R_Open.mono (.tl (.tl (.tl (.tl .hd)))) (by decide) ha5_4) ?_
 rintro gz59 ⟨hle59,hz59⟩
 refine .ret ?_
 obtain rfl:=sI hF
 refine Qaa (((((((((hle2.trans hle3).trans hle4).trans hle6).trans hlo1).trans hlo2).trans hlo3).trans hlo4).trans hlo5).trans hle59) (.tmp rfl (.tmp rfl .nil)) rfl ?_
 exact ⟨_,rfl,hz59⟩
def Qda (p0:Code) (p1:Int) (p2:Int) (p3:(List Room)):Option ((List T_Case) × Int):=((Qg p0).bind fun q2=>((Qcg q2 p1 p2).bind fun q3=>((Qax q3 p3).bind fun q4=>(cond (!(decide (q4.e_=0))) (some ([],q4.e_)) (((Qch q4 p3).bind fun q6=>(ck (decide ((0:Int)≤p2) && decide (p2 < (2:Int))) (((Qbo (arr [(q4.version_.ln 0),(q4.version_.ln 5)] (q4.version_.ln 0) p2.toNat) ((q6.Shares 0).Litres)).bind fun q11=>((Qbo (arr [(q4.version_.ln 1),(q4.version_.ln 6)] (q4.version_.ln 1) p2.toNat) ((q6.Shares 1).Litres)).bind fun q14=>((Qbo (arr [(q4.version_.ln 2),(q4.version_.ln 7)] (q4.version_.ln 2) p2.toNat) ((q6.Shares 2).Litres)).bind fun q17=>((Qbo (arr [(q4.version_.ln 3),(q4.version_.ln 8)] (q4.version_.ln 3) p2.toNat) ((q6.Shares 3).Litres)).bind fun q20=>((Qbo (arr [(q4.version_.ln 4),(q4.version_.ln 9)] (q4.version_.ln 4) p2.toNat) ((q6.Shares 4).Litres)).bind fun q23=>(cond (decide ((512:Int) < (wr ((wr ((wr ((wr ((wr ((1:Int) * (q11.1.length:Int))) * (q14.1.length:Int))) * (q17.1.length:Int))) * (q20.1.length:Int))) * (q23.1.length:Int))))) (some ([],2)) (((F_cs0 q6 (T_Case.mk (arr [0,0,0,0,0] 0) (arr [(0,0),(0,0),(0,0),(0,0),(0,0)] (0,0)) (0,0)) q4.version_ p2).bind fun q25=>(ck (decide (q25.length≤1000000)) (some (q25,0)))))))))))))))))))
set_option maxHeartbeats 1000000 in
theorem F_code_Cases_ok (p0:Code) (p1:Int) (p2:Int) (p3:(List Room)) (v3_0:V) (cs0:List V) (g:G) (h0:CodeR g cs0 p0) (h3_0:RS RoomR 6 g v3_0 p3) (r:(List T_Case) × Int) (hF:Qda p0 p1 p2 p3=some r):Fw Tryz.prog natS (.f 32 [] []) [.agg cs0,.i .i64 p1,.i .i64 p2,v3_0] g [] fun g' ml' q=>ml'=[]∧∃ (w0_0:V),q=(.tup [w0_0,.i .i64 r.2])∧RS R_Case 17 g' w0_0 r.1:=by
 refine Fw.drop ?_
 unfold Qda at hF
 obtain ⟨vq0,rfl,hcq0⟩:=h0
 refine Fw.enter (N:=73) (al:=[(3,_),(2,_),(1,_),(0,_)]) Tryz.func32 (by kernel_rfl) (by kernel_rfl) rfl rfl rfl rfl ?_
 intro B
 refine .seq<|.region rfl<|.box .no rfl rfl rfl rfl fun b1=>.z rfl rfl<|.z rfl rfl<|.nil<|sq_n<|.seq<|.region rfl<|.w (.a (vs:=[_,_]) rfl .hd a_24 s_24 rfl rfl) ?_
 obtain ⟨q2,hq2,hF⟩:=bS hF
 refine .call .no rfl rfl rfl (F_code_of_ok p0 _ _ ⟨_,rfl,hcq0⟩ _ hq2) ?_
 rintro g2 ml2 r2 hle2 ⟨b2_0,cs2_0,rfl,rfl,⟨v1_2_0,v3_2_0,v4_2_0,v5_2_0,v6_2_0,v7_2_0,v8_2_0,v9_2_0,v10_2_0,v11_2_0,v12_2_0,v13_2_0,rfl,h1_2_0,h3_2_0,h4_2_0,h5_2_0,h6_2_0,h7_2_0,h8_2_0,h9_2_0,h10_2_0,h11_2_0,h12_2_0,h13_2_0⟩⟩
 replace h3_0:=h3_0.mono RoomR.mono hle2
 refine .m rfl rfl<|.m rfl rfl ?_
 obtain ⟨q3,hq3,hF⟩:=bS hF
 refine .callT .no rfl rfl rfl .hd (Qeq q2 p1 p2 _ _ _ ⟨_,_,_,_,_,_,_,_,_,_,_,_,rfl,h1_2_0,h3_2_0,h4_2_0,h5_2_0,h6_2_0,h7_2_0,h8_2_0,h9_2_0,h10_2_0,h11_2_0,h12_2_0,h13_2_0⟩ _ hq3) ?_
 rintro g3 ml3 r3 hle3 ⟨cs3_0,rfl,rfl,⟨v1_3_0,v3_3_0,v4_3_0,v5_3_0,v6_3_0,v7_3_0,v8_3_0,v9_3_0,v10_3_0,v11_3_0,v12_3_0,v13_3_0,rfl,h1_3_0,h3_3_0,h4_3_0,h5_3_0,h6_3_0,h7_3_0,h8_3_0,h9_3_0,h10_3_0,h11_3_0,h12_3_0,h13_3_0⟩⟩
 replace h3_0:=h3_0.mono RoomR.mono hle3
 refine .m rfl rfl ?_
 obtain ⟨q4,hq4,hF⟩:=bS hF
 refine .callT .no rfl rfl rfl .hd (Qdu q3 p3 _ _ _ _ ⟨_,_,_,_,_,_,_,_,_,_,_,_,rfl,h1_3_0,h3_3_0,h4_3_0,h5_3_0,h6_3_0,h7_3_0,h8_3_0,h9_3_0,h10_3_0,h11_3_0,h12_3_0,h13_3_0⟩ h3_0 _ hq4) ?_
 rintro g4 ml4 r4 hle4 ⟨cs4_0,rfl,rfl,⟨v1_4_0,v3_4_0,v4_4_0,v5_4_0,v6_4_0,v7_4_0,v8_4_0,v9_4_0,v10_4_0,v11_4_0,v12_4_0,v13_4_0,rfl,h1_4_0,h3_4_0,h4_4_0,h5_4_0,h6_4_0,h7_4_0,h8_4_0,h9_4_0,h10_4_0,h11_4_0,h12_4_0,h13_4_0⟩⟩
 replace h3_0:=h3_0.mono RoomR.mono hle4
 refine .z rfl rfl<|.nil<|sq_n<|.seq<|.seq<|.region rfl<|.m rfl rfl<|.q (.nil rfl)<|.q (.fa rfl f_132_3)<|.w (.s rfl .hd a_30 rfl)<|.b rfl rfl rfl rfl<|.nil<|sq_n<|.cond rfl (fun h5=>?_) (fun h5=>?_)
 ·have hF:=cT h5 hF
  refine .seq<|.draw (tb:=[r1 0 0,r1 1 0,r1 3 0,r1 7 0,r0 0 0,r1 31 0]) rfl (by kernel_rfl) (by kernel_rfl) ?_
  refine .m rfl rfl<|.q (.nil rfl)<|.q (.fa rfl f_132_3)<|.y rfl rfl rfl (.s rfl .hd a_30 rfl)<|.z rfl rfl<|.z rfl rfl<|.nil<|sq_n<|.ret<|sq_r ?_
  obtain rfl:=sI hF
  refine Qaa ((hle2.trans hle3).trans hle4) (.tmp rfl (.tmp rfl .nil)) rfl ?_
  exact ⟨_,rfl,RS.nil⟩
 have hF:=cF h5 hF
 refine .skip<|sq_n<|.seq<|.region rfl<|.m rfl rfl<|.m rfl rfl ?_
 obtain ⟨q6,hq6,hF⟩:=bS hF
 refine .callT .no rfl rfl rfl .hd (Qdw q4 p3 _ _ _ _ ⟨_,_,_,_,_,_,_,_,_,_,_,_,rfl,h1_4_0,h3_4_0,h4_4_0,h5_4_0,h6_4_0,h7_4_0,h8_4_0,h9_4_0,h10_4_0,h11_4_0,h12_4_0,h13_4_0⟩ h3_0 _ hq6) ?_
 rintro g6 ml6 r6 hle6 ⟨cs6_0,rfl,rfl,⟨v2_6_0,v6_6_0,v10_6_0,v14_6_0,v18_6_0,v21_6_0,rfl,h2_6_0,h6_6_0,h10_6_0,h14_6_0,h18_6_0,h21_6_0⟩⟩
 replace h3_4_0:=h3_4_0.mono PutR.mono hle6
 replace h4_4_0:=h4_4_0.mono PieceR.mono hle6
 replace h5_4_0:=h5_4_0.mono PieceR.mono hle6
 replace h6_4_0:=h6_4_0.mono PieceR.mono hle6
 replace h7_4_0:=h7_4_0.mono PieceR.mono hle6
 replace h8_4_0:=h8_4_0.mono PieceR.mono hle6
 replace h9_4_0:=h9_4_0.mono PieceR.mono hle6
 replace h10_4_0:=h10_4_0.mono PieceR.mono hle6
 replace h11_4_0:=h11_4_0.mono PieceR.mono hle6
 replace h12_4_0:=h12_4_0.mono PieceR.mono hle6
 replace h13_4_0:=h13_4_0.mono PieceR.mono hle6
 refine .alloc .no rfl z_85 fun b7=>.st (cs':=[_,_,_,_,_,_,_,_,_,_,_,_,_,_,_,_,_,_,_,_,_,_]) .no rfl rfl rfl rfl s_85 rfl rfl .hd rfl (Qa rfl (Qa rfl (Qa h2_6_0.one (Qa rfl (Qa rfl (Qa rfl (Qa h6_6_0.one (Qa rfl (Qa rfl (Qa rfl (Qa h10_6_0.one (Qa rfl (Qa rfl (Qa rfl (Qa h14_6_0.one (Qa rfl (Qa rfl (Qa rfl (Qa h18_6_0.one (Qa rfl (Qa rfl (Qa h21_6_0.one rfl))))))))))))))))))))))<|.nil<|sq_n<|.seq<|.region rfl<|.z rfl rfl<|.nil<|sq_n<|.seq<|.seq<|.region rfl<|.q (.fa rfl Qar)<|.w (.a (vs:=[_,_,_,_,_,_,_,_,_,_,_,_,_,_,_,_,_,_,_,_]) rfl .hd a_83 s_83 rfl rfl)<|.m rfl rfl<|.nil<|sq_n<|.block<|.unroll<|.seq<|.region rfl<|.b rfl rfl rfl rfl<|.nil<|sq_n<|.seq<|.condT rfl (by decide)<|.skip<|sq_n<|.seq<|.block<|.seq<|.region rfl<|.m rfl rfl<|.q (.ixv (j:=0) rfl rfl ar_83 s_82 (by decide) (Qdf a_82 s_82 (vs:=[_,_,_,_]) rfl))<|.alloc .no rfl z_82 fun b8=>?_
 refine .z rfl rfl<|.st (cs':=[_,_,_,_]) .no rfl rfl rfl rfl s_82 rfl rfl .hd rfl (Qa rfl (Qa h2_6_0.one (Qa rfl (Qa rfl rfl))))<|.nil<|sq_n<|.seq<|.draw (tb:=[r0 0 0,r0 0 0,r0 0 0,r0 1 0,r0 9 0,r0 25 0,r0 59 0,r0 127 0,r0 255 0,r0 0 0,r0 512 0,r1 2047 0,r1 4095 1,r1 8191 1,r1 8191 1,r1 16383 1,r1 65535 1]) rfl (by kernel_rfl) (by kernel_rfl) ?_
 refine .m rfl rfl<|.m rfl rfl<|.m rfl rfl<|.q (.nil rfl)<|.q (.fa rfl Qek)<|.q (.fa rfl Qaj) ?_
 obtain ⟨hsy9,hF⟩:=ckS hF
 have hsy9:=symB (n:=2) hsy9
 refine .q (.ixai rfl rfl ae_95 hsy9)<|.q (.ixa (j:=0) rfl rfl ae_94 (by decide))<|.ldc (k:=0) (Φ:=fun w10_0=>RS PieceR 3 g6 w10_0 (arr [(q4.version_.ln 0),(q4.version_.ln 5)] (q4.version_.ln 0) p2.toNat)) .no rfl rfl rfl trivial (sym2 hsy9 (fun e=>⟨_,.sO (o':=4) rfl (by rw [e];try rfl) (.tl (.tl .hd)) a_93 rfl,by rw [e];exact h4_4_0⟩) (fun e=>⟨_,.sO (o':=9) rfl (by rw [e];try rfl) (.tl (.tl .hd)) a_93 rfl,by rw [e];exact h9_4_0⟩)) fun v10 hv10=>?_
 refine .q (.fa rfl Qag)<|.y rfl rfl rfl (.a (vs:=[_,_]) rfl .hd a_27 s_27 rfl rfl) ?_
 obtain ⟨q11,hq11,hF⟩:=bS hF
 refine .call .no rfl rfl rfl rfl rfl (Qbi (arr [(q4.version_.ln 0),(q4.version_.ln 5)] (q4.version_.ln 0) p2.toNat) ((q6.Shares 0).Litres) _ _ hv10 _ hq11) ?_
 rintro g11 ml11 r11 hle11 ⟨rfl,w11_0_0,w11_1_0,rfl,hw11_0_0,hw11_1_0⟩
 replace h3_4_0:=h3_4_0.mono PutR.mono hle11
 replace h4_4_0:=h4_4_0.mono PieceR.mono hle11
 replace h5_4_0:=h5_4_0.mono PieceR.mono hle11
 replace h6_4_0:=h6_4_0.mono PieceR.mono hle11
 replace h7_4_0:=h7_4_0.mono PieceR.mono hle11
 replace h8_4_0:=h8_4_0.mono PieceR.mono hle11
 replace h9_4_0:=h9_4_0.mono PieceR.mono hle11
 replace h10_4_0:=h10_4_0.mono PieceR.mono hle11
 replace h11_4_0:=h11_4_0.mono PieceR.mono hle11
 replace h12_4_0:=h12_4_0.mono PieceR.mono hle11
 replace h13_4_0:=h13_4_0.mono PieceR.mono hle11
 replace h2_6_0:=h2_6_0.mono IntR.mono hle11
 replace h6_6_0:=h6_6_0.mono IntR.mono hle11
 replace h10_6_0:=h10_6_0.mono IntR.mono hle11
 replace h14_6_0:=h14_6_0.mono IntR.mono hle11
 replace h18_6_0:=h18_6_0.mono IntR.mono hle11
 replace h21_6_0:=h21_6_0.mono IntR.mono hle11
 refine .m rfl rfl<|.q (.ext rfl rfl)<|.q (.ext rfl rfl)<|.z rfl rfl<|.z rfl rfl<|.nil<|sq_n<|.region rfl<|.m rfl rfl<|.m rfl rfl<|.q (.lenR rfl rfl rfl e_66 hw11_0_0)<|.b rfl rfl rfl rfl<|.z rfl rfl<|.nil<|bq_n<|sq_n<|.region rfl<|.q (.addL (c:=1) rfl rfl rfl (by decide))<|.m rfl rfl<|.nil<|sq_n<|.unroll<|.seq<|.region rfl<|.b rfl rfl rfl rfl<|.nil<|sq_n<|.seq<|.condT rfl (by decide)<|.skip<|sq_n<|.seq<|.block<|.seq<|.region rfl<|.m rfl rfl ?_
 refine .q (.ixv (j:=1) rfl rfl ar_83 s_82 (by decide) (Qdf a_82 s_82 (vs:=[_,_,_,_]) rfl))<|.alloc .no rfl z_82 fun b12=>.z rfl rfl<|.st (cs':=[_,_,_,_]) .no rfl rfl rfl rfl s_82 rfl rfl .hd rfl (Qa rfl (Qa h6_6_0.one (Qa rfl (Qa rfl rfl))))<|.nil<|sq_n<|.seq<|.draw (tb:=[r0 0 0,r0 0 0,r0 0 0,r0 1 0,r0 9 0,r0 25 0,r0 59 0,r0 127 0,r0 255 0,r0 0 0,r0 512 0,r1 2047 0,r1 4095 1,r1 8191 1,r1 8191 1,r1 16383 1,r1 65535 1]) rfl (by kernel_rfl) (by kernel_rfl) ?_
 refine .m rfl rfl<|.m rfl rfl<|.m rfl rfl<|.q (.nil rfl)<|.q (.fa rfl Qek)<|.q (.fa rfl Qaj)<|.q (.ixai rfl rfl ae_95 hsy9)<|.q (.ixa (j:=1) rfl rfl ae_94 (by decide))<|.ldc (k:=0) (Φ:=fun w13_0=>RS PieceR 3 g11 w13_0 (arr [(q4.version_.ln 1),(q4.version_.ln 6)] (q4.version_.ln 1) p2.toNat)) .no rfl rfl rfl trivial (sym2 hsy9 (fun e=>⟨_,.sO (o':=5) rfl (by rw [e];try rfl) (.tl (.tl (.tl .hd))) a_93 rfl,by rw [e];exact h5_4_0⟩) (fun e=>⟨_,.sO (o':=10) rfl (by rw [e];try rfl) (.tl (.tl (.tl .hd))) a_93 rfl,by rw [e];exact h10_4_0⟩)) fun v13 hv13=>?_
 refine .q (.fa rfl Qag)<|.y rfl rfl rfl (.a (vs:=[_,_]) rfl .hd a_27 s_27 rfl rfl) ?_
 obtain ⟨q14,hq14,hF⟩:=bS hF
 refine .call .no rfl rfl rfl rfl rfl (Qbi (arr [(q4.version_.ln 1),(q4.version_.ln 6)] (q4.version_.ln 1) p2.toNat) ((q6.Shares 1).Litres) _ _ hv13 _ hq14) ?_
 rintro g14 ml14 r14 hle14 ⟨rfl,w14_0_0,w14_1_0,rfl,hw14_0_0,hw14_1_0⟩
 replace h3_4_0:=h3_4_0.mono PutR.mono hle14
 replace h4_4_0:=h4_4_0.mono PieceR.mono hle14
 replace h5_4_0:=h5_4_0.mono PieceR.mono hle14
 replace h6_4_0:=h6_4_0.mono PieceR.mono hle14
 replace h7_4_0:=h7_4_0.mono PieceR.mono hle14
 replace h8_4_0:=h8_4_0.mono PieceR.mono hle14
 replace h9_4_0:=h9_4_0.mono PieceR.mono hle14
 replace h10_4_0:=h10_4_0.mono PieceR.mono hle14
 replace h11_4_0:=h11_4_0.mono PieceR.mono hle14
 replace h12_4_0:=h12_4_0.mono PieceR.mono hle14
 replace h13_4_0:=h13_4_0.mono PieceR.mono hle14
 replace h2_6_0:=h2_6_0.mono IntR.mono hle14
 replace h6_6_0:=h6_6_0.mono IntR.mono hle14
 replace h10_6_0:=h10_6_0.mono IntR.mono hle14
 replace h14_6_0:=h14_6_0.mono IntR.mono hle14
 replace h18_6_0:=h18_6_0.mono IntR.mono hle14
 replace h21_6_0:=h21_6_0.mono IntR.mono hle14
 refine .m rfl rfl<|.q (.ext rfl rfl)<|.q (.ext rfl rfl)<|.z rfl rfl<|.z rfl rfl<|.nil<|sq_n<|.region rfl<|.m rfl rfl<|.m rfl rfl<|.q (.lenR rfl rfl rfl e_66 hw14_0_0)<|.b rfl rfl rfl rfl<|.z rfl rfl<|.nil<|bq_n<|sq_n<|.region rfl<|.q (.addL (c:=2) rfl rfl rfl (by decide))<|.m rfl rfl<|.nil<|sq_n<|.unroll<|.seq<|.region rfl<|.b rfl rfl rfl rfl<|.nil<|sq_n<|.seq<|.condT rfl (by decide)<|.skip<|sq_n<|.seq<|.block<|.seq<|.region rfl<|.m rfl rfl ?_
 refine .q (.ixv (j:=2) rfl rfl ar_83 s_82 (by decide) (Qdf a_82 s_82 (vs:=[_,_,_,_]) rfl))<|.alloc .no rfl z_82 fun b15=>.z rfl rfl<|.st (cs':=[_,_,_,_]) .no rfl rfl rfl rfl s_82 rfl rfl .hd rfl (Qa rfl (Qa h10_6_0.one (Qa rfl (Qa rfl rfl))))<|.nil<|sq_n<|.seq<|.draw (tb:=[r0 0 0,r0 0 0,r0 0 0,r0 1 0,r0 9 0,r0 25 0,r0 59 0,r0 127 0,r0 255 0,r0 0 0,r0 512 0,r1 2047 0,r1 4095 1,r1 8191 1,r1 8191 1,r1 16383 1,r1 65535 1]) rfl (by kernel_rfl) (by kernel_rfl) ?_
 refine .m rfl rfl<|.m rfl rfl<|.m rfl rfl<|.q (.nil rfl)<|.q (.fa rfl Qek)<|.q (.fa rfl Qaj)<|.q (.ixai rfl rfl ae_95 hsy9)<|.q (.ixa (j:=2) rfl rfl ae_94 (by decide))<|.ldc (k:=0) (Φ:=fun w16_0=>RS PieceR 3 g14 w16_0 (arr [(q4.version_.ln 2),(q4.version_.ln 7)] (q4.version_.ln 2) p2.toNat)) .no rfl rfl rfl trivial (sym2 hsy9 (fun e=>⟨_,.sO (o':=6) rfl (by rw [e];try rfl) (.tl (.tl (.tl (.tl .hd)))) a_93 rfl,by rw [e];exact h6_4_0⟩) (fun e=>⟨_,.sO (o':=11) rfl (by rw [e];try rfl) (.tl (.tl (.tl (.tl .hd)))) a_93 rfl,by rw [e];exact h11_4_0⟩)) fun v16 hv16=>?_
 refine .q (.fa rfl Qag)<|.y rfl rfl rfl (.a (vs:=[_,_]) rfl .hd a_27 s_27 rfl rfl) ?_
 obtain ⟨q17,hq17,hF⟩:=bS hF
 refine .call .no rfl rfl rfl rfl rfl (Qbi (arr [(q4.version_.ln 2),(q4.version_.ln 7)] (q4.version_.ln 2) p2.toNat) ((q6.Shares 2).Litres) _ _ hv16 _ hq17) ?_
 rintro g17 ml17 r17 hle17 ⟨rfl,w17_0_0,w17_1_0,rfl,hw17_0_0,hw17_1_0⟩
 replace h3_4_0:=h3_4_0.mono PutR.mono hle17
 replace h4_4_0:=h4_4_0.mono PieceR.mono hle17
 replace h5_4_0:=h5_4_0.mono PieceR.mono hle17
 replace h6_4_0:=h6_4_0.mono PieceR.mono hle17
 replace h7_4_0:=h7_4_0.mono PieceR.mono hle17
 replace h8_4_0:=h8_4_0.mono PieceR.mono hle17
 replace h9_4_0:=h9_4_0.mono PieceR.mono hle17
 replace h10_4_0:=h10_4_0.mono PieceR.mono hle17
 replace h11_4_0:=h11_4_0.mono PieceR.mono hle17
 replace h12_4_0:=h12_4_0.mono PieceR.mono hle17
 replace h13_4_0:=h13_4_0.mono PieceR.mono hle17
 replace h2_6_0:=h2_6_0.mono IntR.mono hle17
 replace h6_6_0:=h6_6_0.mono IntR.mono hle17
 replace h10_6_0:=h10_6_0.mono IntR.mono hle17
 replace h14_6_0:=h14_6_0.mono IntR.mono hle17
 replace h18_6_0:=h18_6_0.mono IntR.mono hle17
 replace h21_6_0:=h21_6_0.mono IntR.mono hle17
 refine .m rfl rfl<|.q (.ext rfl rfl)<|.q (.ext rfl rfl)<|.z rfl rfl<|.z rfl rfl<|.nil<|sq_n<|.region rfl<|.m rfl rfl<|.m rfl rfl<|.q (.lenR rfl rfl rfl e_66 hw17_0_0)<|.b rfl rfl rfl rfl<|.z rfl rfl<|.nil<|bq_n<|sq_n<|.region rfl<|.q (.addL (c:=3) rfl rfl rfl (by decide))<|.m rfl rfl<|.nil<|sq_n<|.unroll<|.seq<|.region rfl<|.b rfl rfl rfl rfl<|.nil<|sq_n<|.seq<|.condT rfl (by decide)<|.skip<|sq_n<|.seq<|.block<|.seq<|.region rfl<|.m rfl rfl ?_
 refine .q (.ixv (j:=3) rfl rfl ar_83 s_82 (by decide) (Qdf a_82 s_82 (vs:=[_,_,_,_]) rfl))<|.alloc .no rfl z_82 fun b18=>.z rfl rfl<|.st (cs':=[_,_,_,_]) .no rfl rfl rfl rfl s_82 rfl rfl .hd rfl (Qa rfl (Qa h14_6_0.one (Qa rfl (Qa rfl rfl))))<|.nil<|sq_n<|.seq<|.draw (tb:=[r0 0 0,r0 0 0,r0 0 0,r0 1 0,r0 9 0,r0 25 0,r0 59 0,r0 127 0,r0 255 0,r0 0 0,r0 512 0,r1 2047 0,r1 4095 1,r1 8191 1,r1 8191 1,r1 16383 1,r1 65535 1]) rfl (by kernel_rfl) (by kernel_rfl) ?_
 refine .m rfl rfl<|.m rfl rfl<|.m rfl rfl<|.q (.nil rfl)<|.q (.fa rfl Qek)<|.q (.fa rfl Qaj)<|.q (.ixai rfl rfl ae_95 hsy9)<|.q (.ixa (j:=3) rfl rfl ae_94 (by decide))<|.ldc (k:=0) (Φ:=fun w19_0=>RS PieceR 3 g17 w19_0 (arr [(q4.version_.ln 3),(q4.version_.ln 8)] (q4.version_.ln 3) p2.toNat)) .no rfl rfl rfl trivial (sym2 hsy9 (fun e=>⟨_,.sO (o':=7) rfl (by rw [e];try rfl) (.tl (.tl (.tl (.tl (.tl .hd))))) a_93 rfl,by rw [e];exact h7_4_0⟩) (fun e=>⟨_,.sO (o':=12) rfl (by rw [e];try rfl) (.tl (.tl (.tl (.tl (.tl .hd))))) a_93 rfl,by rw [e];exact h12_4_0⟩)) fun v19 hv19=>?_
 refine .q (.fa rfl Qag)<|.y rfl rfl rfl (.a (vs:=[_,_]) rfl .hd a_27 s_27 rfl rfl) ?_
 obtain ⟨q20,hq20,hF⟩:=bS hF
 refine .call .no rfl rfl rfl rfl rfl (Qbi (arr [(q4.version_.ln 3),(q4.version_.ln 8)] (q4.version_.ln 3) p2.toNat) ((q6.Shares 3).Litres) _ _ hv19 _ hq20) ?_
 rintro g20 ml20 r20 hle20 ⟨rfl,w20_0_0,w20_1_0,rfl,hw20_0_0,hw20_1_0⟩
 replace h3_4_0:=h3_4_0.mono PutR.mono hle20
 replace h4_4_0:=h4_4_0.mono PieceR.mono hle20
 replace h5_4_0:=h5_4_0.mono PieceR.mono hle20
 replace h6_4_0:=h6_4_0.mono PieceR.mono hle20
 replace h7_4_0:=h7_4_0.mono PieceR.mono hle20
 replace h8_4_0:=h8_4_0.mono PieceR.mono hle20
 replace h9_4_0:=h9_4_0.mono PieceR.mono hle20
 replace h10_4_0:=h10_4_0.mono PieceR.mono hle20
 replace h11_4_0:=h11_4_0.mono PieceR.mono hle20
 replace h12_4_0:=h12_4_0.mono PieceR.mono hle20
 replace h13_4_0:=h13_4_0.mono PieceR.mono hle20
 replace h2_6_0:=h2_6_0.mono IntR.mono hle20
 replace h6_6_0:=h6_6_0.mono IntR.mono hle20
 replace h10_6_0:=h10_6_0.mono IntR.mono hle20
 replace h14_6_0:=h14_6_0.mono IntR.mono hle20
 replace h18_6_0:=h18_6_0.mono IntR.mono hle20
 replace h21_6_0:=h21_6_0.mono IntR.mono hle20
 refine .m rfl rfl<|.q (.ext rfl rfl)<|.q (.ext rfl rfl)<|.z rfl rfl<|.z rfl rfl<|.nil<|sq_n<|.region rfl<|.m rfl rfl<|.m rfl rfl<|.q (.lenR rfl rfl rfl e_66 hw20_0_0)<|.b rfl rfl rfl rfl<|.z rfl rfl<|.nil<|bq_n<|sq_n<|.region rfl<|.q (.addL (c:=4) rfl rfl rfl (by decide))<|.m rfl rfl<|.nil<|sq_n<|.unroll<|.seq<|.region rfl<|.b rfl rfl rfl rfl<|.nil<|sq_n<|.seq<|.condT rfl (by decide)<|.skip<|sq_n<|.seq<|.block<|.seq<|.region rfl<|.m rfl rfl ?_
 refine .q (.ixv (j:=4) rfl rfl ar_83 s_82 (by decide) (Qdf a_82 s_82 (vs:=[_,_,_,_]) rfl))<|.alloc .no rfl z_82 fun b21=>.z rfl rfl<|.st (cs':=[_,_,_,_]) .no rfl rfl rfl rfl s_82 rfl rfl .hd rfl (Qa rfl (Qa h18_6_0.one (Qa rfl (Qa rfl rfl))))<|.nil<|sq_n<|.seq<|.draw (tb:=[r0 0 0,r0 0 0,r0 0 0,r0 1 0,r0 9 0,r0 25 0,r0 59 0,r0 127 0,r0 255 0,r0 0 0,r0 512 0,r1 2047 0,r1 4095 1,r1 8191 1,r1 8191 1,r1 16383 1,r1 65535 1]) rfl (by kernel_rfl) (by kernel_rfl) ?_
 refine .m rfl rfl<|.m rfl rfl<|.m rfl rfl<|.q (.nil rfl)<|.q (.fa rfl Qek)<|.q (.fa rfl Qaj)<|.q (.ixai rfl rfl ae_95 hsy9)<|.q (.ixa (j:=4) rfl rfl ae_94 (by decide))<|.ldc (k:=0) (Φ:=fun w22_0=>RS PieceR 3 g20 w22_0 (arr [(q4.version_.ln 4),(q4.version_.ln 9)] (q4.version_.ln 4) p2.toNat)) .no rfl rfl rfl trivial (sym2 hsy9 (fun e=>⟨_,.sO (o':=8) rfl (by rw [e];try rfl) (.tl (.tl (.tl (.tl (.tl (.tl .hd)))))) a_93 rfl,by rw [e];exact h8_4_0⟩) (fun e=>⟨_,.sO (o':=13) rfl (by rw [e];try rfl) (.tl (.tl (.tl (.tl (.tl (.tl .hd)))))) a_93 rfl,by rw [e];exact h13_4_0⟩)) fun v22 hv22=>?_
 refine .q (.fa rfl Qag)<|.y rfl rfl rfl (.a (vs:=[_,_]) rfl .hd a_27 s_27 rfl rfl) ?_
 obtain ⟨q23,hq23,hF⟩:=bS hF
 refine .call .no rfl rfl rfl rfl rfl (Qbi (arr [(q4.version_.ln 4),(q4.version_.ln 9)] (q4.version_.ln 4) p2.toNat) ((q6.Shares 4).Litres) _ _ hv22 _ hq23) ?_
 rintro g23 ml23 r23 hle23 ⟨rfl,w23_0_0,w23_1_0,rfl,hw23_0_0,hw23_1_0⟩
 replace h3_4_0:=h3_4_0.mono PutR.mono hle23
 replace h4_4_0:=h4_4_0.mono PieceR.mono hle23
 replace h5_4_0:=h5_4_0.mono PieceR.mono hle23
 replace h6_4_0:=h6_4_0.mono PieceR.mono hle23
 replace h7_4_0:=h7_4_0.mono PieceR.mono hle23
 replace h8_4_0:=h8_4_0.mono PieceR.mono hle23
 replace h9_4_0:=h9_4_0.mono PieceR.mono hle23
 replace h10_4_0:=h10_4_0.mono PieceR.mono hle23
 replace h11_4_0:=h11_4_0.mono PieceR.mono hle23
 replace h12_4_0:=h12_4_0.mono PieceR.mono hle23
 replace h13_4_0:=h13_4_0.mono PieceR.mono hle23
 replace h2_6_0:=h2_6_0.mono IntR.mono hle23
 replace h6_6_0:=h6_6_0.mono IntR.mono hle23
 replace h10_6_0:=h10_6_0.mono IntR.mono hle23
 replace h14_6_0:=h14_6_0.mono IntR.mono hle23
 replace h18_6_0:=h18_6_0.mono IntR.mono hle23
 replace h21_6_0:=h21_6_0.mono IntR.mono hle23
 refine .m rfl rfl<|.q (.ext rfl rfl)<|.q (.ext rfl rfl)<|.z rfl rfl<|.z rfl rfl<|.nil<|sq_n<|.region rfl<|.m rfl rfl<|.m rfl rfl<|.q (.lenR rfl rfl rfl e_66 hw23_0_0)<|.b rfl rfl rfl rfl<|.z rfl rfl<|.nil<|bq_n<|sq_n<|.region rfl<|.q (.addL (c:=5) rfl rfl rfl (by decide))<|.m rfl rfl<|.nil<|sq_n<|.unroll<|.seq<|.region rfl<|.b rfl rfl rfl rfl<|.nil<|sq_n<|.seq<|.condF rfl (by decide)<|.exit<|sq_e<|sq_e<|bq_x rfl<|sq_n<|.seq<|.seq<|.region rfl<|.m rfl rfl<|.b rfl rfl rfl rfl ?_
 refine .nil<|sq_n<|.cond rfl (fun h24=>?_) (fun h24=>?_)
 ·have hF:=cT h24 hF
  refine .seq<|.region rfl<|.z rfl rfl<|.z rfl rfl<|.nil<|sq_n<|.ret<|sq_r ?_
  obtain rfl:=sI hF
  refine Qaa ((((((((hle2.trans hle3).trans hle4).trans hle6).trans hle11).trans hle14).trans hle17).trans hle20).trans hle23) (.tmp rfl (.tmp rfl .nil)) rfl ?_
  exact ⟨_,rfl,RS.nil⟩
 have hF:=cF h24 hF
 refine .skip<|sq_n<|.seq<|.draw (tb:=[r0 0 0,r0 1 0,r0 3 0,r0 7 0,r0 0 0,r0 0 0,r0 0 0,r1 127 0,r1 255 1,r1 511 2,r1 1023 2]) rfl (by kernel_rfl) (by kernel_rfl) ?_
 refine .m rfl rfl<|.q (.nil rfl)<|.q (.fa rfl Qek)<|.y rfl rfl rfl (.a (vs:=[_,_,_,_,_,_,_,_,_,_,_,_]) rfl (.tl (.tl (.tl (.tl (.tl (.tl .hd)))))) a_97 s_97 rfl rfl)<|.m rfl rfl<|.y rfl rfl rfl (.a (vs:=[_,_,_,_,_,_,_,_,_,_,_,_,_,_,_,_,_,_,_,_,_,_]) rfl (.tl (.tl (.tl (.tl (.tl .hd))))) a_85 s_85 rfl rfl)<|.q (.build (qs:=[]) (cs:=[_,_,_,_,_,_,_,_,_,_,_,_,_,_,_,_,_]) rfl b_111 rfl) ?_
 obtain ⟨q25,hq25,hF⟩:=bS hF
 refine .call .no rfl rfl rfl rfl rfl (cases0_ok q6 (T_Case.mk (arr [0,0,0,0,0] 0) (arr [(0,0),(0,0),(0,0),(0,0),(0,0)] (0,0)) (0,0)) q4.version_ p2 _ _ _ _ (VersionR.of h3_4_0 h4_4_0 h5_4_0 h6_4_0 h7_4_0 h8_4_0 h9_4_0 h10_4_0 h11_4_0 h12_4_0 h13_4_0) ⟨_,_,_,_,_,_,rfl,h2_6_0,h6_6_0,h10_6_0,h14_6_0,h18_6_0,h21_6_0⟩ rfl _ hq25) ?_
 rintro g25 ml25 r25 hle25 ⟨b25,x25,rfl,hit25⟩
 obtain ⟨hc26,hF⟩:=ckS hF
 have hc26:=of_decide_eq_true hc26
 refine .callT .no rfl rfl rfl rfl rfl rfl .hd (collect_ok _ _ _ _ _ hit25 hc26) ?_
 rintro g26 ml26 r26 hle26 ⟨rfl,hw26⟩
 refine .z rfl rfl<|.z rfl rfl<|.nil<|sq_n<|.ret ?_
 obtain rfl:=sI hF
 refine Qaa ((((((((((hle2.trans hle3).trans hle4).trans hle6).trans hle11).trans hle14).trans hle17).trans hle20).trans hle23).trans hle25).trans hle26) (.tmp rfl (.tmp rfl .nil)) rfl ?_
 exact ⟨_,rfl,hw26⟩
end Go.Proofs.YtjflgemfeofciaaGreatDoor
namespace Go.Proofs.YtjflgemfeofciaaGreatDoor
open Go Go.Ev
set_option linter.unusedVariables false
set_option linter.unusedSimpArgs false
set_option maxRecDepth 10000
structure L_slices_Equal_api_Case_api_Case_1 where
 k1_1:Nat
def Qad (p1:(List T_Case)):List T_Case→Nat→Option ((Bool) ⊕ (Unit))
 | [],k1_1=>some ((Sum.inr ()))
 | y1 :: ys1,k1_1=>((p1[k1_1]?).bind fun y4=>(cond (!(((decide ((y1.Pieces 0)=(y4.Pieces 0))) && ((decide ((y1.Pieces 1)=(y4.Pieces 1))) && ((decide ((y1.Pieces 2)=(y4.Pieces 2))) && ((decide ((y1.Pieces 3)=(y4.Pieces 3))) && ((decide ((y1.Pieces 4)=(y4.Pieces 4))) && true))))) && ((((decide (((y1.Litres 0).1)=((y4.Litres 0).1))) && ((decide (((y1.Litres 0).2)=((y4.Litres 0).2))) && true)) && (((decide (((y1.Litres 1).1)=((y4.Litres 1).1))) && ((decide (((y1.Litres 1).2)=((y4.Litres 1).2))) && true)) && (((decide (((y1.Litres 2).1)=((y4.Litres 2).1))) && ((decide (((y1.Litres 2).2)=((y4.Litres 2).2))) && true)) && (((decide (((y1.Litres 3).1)=((y4.Litres 3).1))) && ((decide (((y1.Litres 3).2)=((y4.Litres 3).2))) && true)) && (((decide (((y1.Litres 4).1)=((y4.Litres 4).1))) && ((decide (((y1.Litres 4).2)=((y4.Litres 4).2))) && true)) && true))))) && (((decide (y1.Tonnages.1=y4.Tonnages.1)) && ((decide (y1.Tonnages.2=y4.Tonnages.2)) && true)) && true)))) (some ((Sum.inl false))) (Qad p1 ys1 (k1_1+1))))
def Qah (p0:(List T_Case)) (p1:(List T_Case)):Option (Bool):=(cond (!(decide ((p0.length:Int)=(p1.length:Int)))) (some false) (((Qad p1 p0 0).bind fun o=>match o with | (Sum.inl q)=>(some q) | (Sum.inr _)=>(some true))))
set_option maxHeartbeats 1000000 in
theorem Qdo (p0:(List T_Case)) (p1:(List T_Case)) (v0_0 v1_0:V) (g:G) (h0_0:RS R_Case 17 g v0_0 p0) (h1_0:RS R_Case 17 g v1_0 p1) (r:Bool) (hF:Qah p0 p1=some r):Fv Tryz.prog natS (.f 96 [] []) [v0_0,v1_0] g (.b r):=by
 refine Fw.fv ?_
 unfold Qah at hF
 have lh0_0:=h0_0.1
 have lh1_0:=h1_0.1
 refine Fw.enter (N:=26) (al:=[(1,_),(0,_)]) Tryz.func96 (by kernel_rfl) (by kernel_rfl) rfl rfl rfl rfl ?_
 intro B
 refine .seq<|.region rfl<|.z rfl rfl<|.nil<|sq_n<|.seq<|.seq<|.region rfl<|.m rfl rfl<|.q (.lenR rfl rfl rfl e_56 h0_0)<|.m rfl rfl<|.q (.lenR rfl rfl rfl e_56 h1_0)<|.b rfl rfl rfl rfl<|.nil<|sq_n<|.cond rfl (fun h1=>?_) (fun h1=>?_)
 ·have hF:=cT h1 hF
  refine .seq<|.region rfl<|.z rfl rfl<|.nil<|sq_n<|.ret<|sq_r ?_
  obtain rfl:=sI hF
  refine Qaa (Le.refl _) (.tmp rfl .nil) rfl ?_
  rfl
 have kh1:=dT (nF h1)
 have hF:=cF h1 hF
 refine .skip<|sq_n<|.seq<|.seq<|.region rfl<|.m rfl rfl<|.q (.lenR rfl rfl rfl e_56 h0_0)<|.m rfl rfl<|.nil<|sq_n<|.block ?_
 obtain ⟨o1,hF,hG1⟩:=bS hF
 refine .loopx (α:=L_slices_Equal_api_Case_api_Case_1) [(0,_),(1,_),(12,_)] _ (fun fx x=>(13,.i .i64 (x.k1_1:Int)) :: fx) (fun mx _=>mx) (fun x g'=>x.k1_1≤p0.length∧Qad p1 (p0.drop x.k1_1) x.k1_1=some o1) (fun x=>p0.length - x.k1_1) (L_slices_Equal_api_Case_api_Case_1.mk 0) ⟨rfl,rfl,rfl,rfl,trivial⟩ (List.Sublist.refl _) ⟨(by first | omega | (dsimp only;omega)),hF⟩ ?_
 intro x1 gl1 hlo1 hJ1
 obtain ⟨k1_1⟩:=x1
 try dsimp only at hJ1
 obtain ⟨hk1,hF⟩:=hJ1
 refine .al0 [(13,.i .i64 (k1_1:Int)),(0,_),(1,_),(12,_)] ?_
 replace h0_0:=h0_0.mono R_Case.mono hlo1
 replace h1_0:=h1_0.mono R_Case.mono hlo1
 refine .seq<|.region rfl<|.b rfl rfl rfl rfl<|.nil<|sq_n<|.seq<|.cond rfl (fun h2=>?_) (fun h2=>?_)
 ·have kh2:=dT h2
  obtain ⟨y1,hy1⟩:=getK (l:=p0) (k:=k1_1) kh2
  rw [dc hy1,Qad] at hF
  refine .skip<|sq_n<|.seq<|.block<|.seq<|.region rfl<|.m rfl rfl<|.z rfl rfl<|.nil<|sq_n<|.seq<|.draw (tb:=[r0 0 0,r0 0 0,r0 3 0,r0 7 0,r0 0 0,r0 0 0,r0 48 0,r0 112 0,r1 255 0]) rfl (by kernel_rfl) (by kernel_rfl) ?_
  refine .m rfl rfl<|.m rfl rfl<|.ixk (j:=k1_1) .no rfl rfl h0_0 rfl e_56 hy1 ?_
  rintro b3 o3 _ hq3 rfl
  refine .y rfl rfl rfl (.pa 0 (vs:=[_,_,_,_,_,_,_,_,_,_,_,_,_,_,_,_,_]) rfl hq3 rfl a_111 s_111 rfl rfl)<|.m rfl rfl<|.m rfl rfl ?_
  obtain ⟨y4,hy4,hF⟩:=bS hF
  have hj4:=Qaf hy4
  refine .ixk (j:=k1_1) .no rfl rfl h1_0 rfl e_56 hy4 ?_
  rintro b4 o4 _ hq4 rfl
  refine .y rfl rfl rfl (.pa 0 (vs:=[_,_,_,_,_,_,_,_,_,_,_,_,_,_,_,_,_]) rfl hq4 rfl a_111 s_111 rfl rfl)<|.q (.binE rfl rfl (binV_neq (by kernel_rfl) (eq_111 _ _ _ _ _ _ _ _ _ _ _ _ _ _ _ _ _ _ _ _ _ _ _ _ _ _ _ _ _ _ _ _ _ _))) ?_
  refine .nil<|sq_n<|.cond rfl (fun h5=>?_) (fun h5=>?_)
  ·have hF:=cT h5 hF
   refine .seq<|.region rfl<|.z rfl rfl<|.nil<|sq_n<|.ret<|bq_r<|sq_r<|lq_r<|bq_r<|sq_r ?_
   obtain rfl:=sI hF
   have hF:=hG1
   obtain rfl:=sI hF
   refine Qaa hlo1 (.tmp rfl .nil) rfl ?_
   rfl
  have kh5:=(nF h5)
  have hF:=cF h5 hF
  refine .skip<|bq_n<|sq_n<|.region rfl<|.q (.inc1 rfl rfl (by omega))<|.m rfl rfl<|.nil<|Qac (L_slices_Equal_api_Case_api_Case_1.mk (k1_1+1)) ⟨rfl,rfl,rfl,rfl,trivial⟩ (List.Sublist.refl _) (Le.refl _) ?_ ?_
  ·exact ⟨(Qaf hy1),hF⟩
  ·simp only;omega
 have kh2:=dF h2
 rw [dn (by omega),Qad] at hF
 obtain rfl:=sI hF
 have hF:=hG1
 refine .exit<|sq_e<|lq_e<|bq_x rfl<|sq_n<|.seq<|.region rfl<|.z rfl rfl<|.nil<|sq_n<|.ret ?_
 obtain rfl:=sI hF
 refine Qaa hlo1 (.tmp rfl .nil) rfl ?_
 rfl
structure L_code_CheckCases_1 where
 k1_1:Nat
 z1_2:Int
 z1_3:Int
def Qam:List T_Case→Nat→Int→Int→Option ((Int × Int))
 | [],k1_1,z1_2,z1_3=>some ((z1_2,z1_3))
 | y1 :: ys1,k1_1,z1_2,z1_3=>Qam ys1 (k1_1+1) (min z1_2 y1.Tonnages.1) (max z1_3 y1.Tonnages.2)
def Qcr (p0:Code) (p1:Int) (p2:Int) (p3:(List Room)) (p4:(List T_Case)):Option ((Int × Int) × Int):=((Qda p0 p1 p2 p3).bind fun q3=>(cond (!(decide (q3.2=0))) (some ((0,0),q3.2)) (((Qah q3.1 p4).bind fun q5=>(cond (!q5) (some ((0,0),46)) (((q3.1[0]?).bind fun y7=>((Qam q3.1 0 y7.Tonnages.1 y7.Tonnages.2).bind fun ⟨o1_0_1,o1_0_2⟩=>some ((o1_0_1,o1_0_2),0)))))))))
set_option maxHeartbeats 1000000 in
theorem F_code_CheckCases_ok (p0:Code) (p1:Int) (p2:Int) (p3:(List Room)) (p4:(List T_Case)) (v3_0 v4_0:V) (cs0:List V) (g:G) (h0:CodeR g cs0 p0) (h3_0:RS RoomR 6 g v3_0 p3) (h4_0:RS R_Case 17 g v4_0 p4) (r:(Int × Int) × Int) (hF:Qcr p0 p1 p2 p3 p4=some r):Fv Tryz.prog natS (.f 34 [] []) [.agg cs0,.i .i64 p1,.i .i64 p2,v3_0,v4_0] g (.tup [.agg [.i .i64 r.1.1,.i .i64 r.1.2],.i .i64 r.2]):=by
 refine Fw.fv ?_
 unfold Qcr at hF
 obtain ⟨vq0,rfl,hcq0⟩:=h0
 have lh0_1:=hcq0.1
 have lh3_0:=h3_0.1
 have lh4_0:=h4_0.1
 refine Fw.enter (N:=59) (al:=[(4,_),(3,_),(2,_),(1,_),(0,_)]) Tryz.func34 (by kernel_rfl) (by kernel_rfl) rfl rfl rfl rfl ?_
 intro B
 refine .seq<|.region rfl<|.box .no rfl rfl rfl rfl fun b1=>.alloc .no rfl z_27 fun b2=>.z rfl rfl<|.nil<|sq_n<|.seq<|.region rfl<|.w (.a (vs:=[_,_]) rfl (.tl .hd) a_24 s_24 rfl rfl)<|.m rfl rfl<|.m rfl rfl<|.m rfl rfl ?_
 obtain ⟨q3,hq3,hF⟩:=bS hF
 refine .call .no rfl rfl rfl (F_code_Cases_ok p0 p1 p2 p3 _ _ _ ⟨_,rfl,hcq0⟩ h3_0 _ hq3) ?_
 rintro g3 ml3 r3 hle3 ⟨rfl,w3_0_0,rfl,hw3_0_0⟩
 replace h4_0:=h4_0.mono R_Case.mono hle3
 have lhw3_0_0:=hw3_0_0.1
 refine .m rfl rfl<|.q (.ext rfl rfl)<|.q (.ext rfl rfl)<|.z rfl rfl<|.z rfl rfl<|.nil<|sq_n<|.seq<|.seq<|.region rfl<|.m rfl rfl<|.b rfl rfl rfl rfl<|.nil<|sq_n<|.cond rfl (fun h4=>?_) (fun h4=>?_)
 ·have hF:=cT h4 hF
  refine .seq<|.region rfl<|.q (.build (qs:=[]) (cs:=[_,_]) rfl b_27 rfl)<|.m rfl rfl<|.st (cs':=[_,_]) .no rfl rfl rfl rfl s_27 rfl rfl .hd rfl rfl<|.z rfl rfl<|.nil<|sq_n<|.ret<|sq_r ?_
  obtain rfl:=sI hF
  refine Qaa hle3 (.cell (.a (vs:=[_,_]) rfl .hd a_27 s_27 rfl rfl) (.tmp rfl .nil)) rfl ?_
  rfl
 have kh4:=dT (nF h4)
 have hF:=cF h4 hF
 refine .skip<|sq_n<|.seq<|.seq<|.region rfl<|.m rfl rfl<|.m rfl rfl ?_
 obtain ⟨q5,hq5,hF⟩:=bS hF
 refine .callV .no rfl rfl rfl (Qdo q3.1 p4 _ _ _ hw3_0_0 h4_0 _ hq5)<|.q (.not rfl)<|.nil<|sq_n<|.cond rfl (fun h6=>?_) (fun h6=>?_)
 ·have hF:=cT h6 hF
  refine .seq<|.region rfl<|.q (.build (qs:=[]) (cs:=[_,_]) rfl b_27 rfl)<|.st (cs':=[_,_]) .no rfl rfl rfl rfl s_27 rfl rfl .hd rfl rfl<|.z rfl rfl<|.nil<|sq_n<|.ret<|sq_r ?_
  obtain rfl:=sI hF
  refine Qaa hle3 (.cell (.a (vs:=[_,_]) rfl .hd a_27 s_27 rfl rfl) (.tmp rfl .nil)) rfl ?_
  rfl
 have kh6:=h6
 have hF:=cF h6 hF
 refine .skip<|sq_n<|.seq<|.region rfl<|.m rfl rfl ?_
 obtain ⟨y7,hy7,hF⟩:=bS hF
 have hj7:=Qaf hy7
 refine .ixk (j:=0) .no rfl rfl hw3_0_0 rfl e_56 hy7 ?_
 rintro b7 o7 _ hq7 rfl
 refine .q (.fa rfl f_111_2)<|.w (.pa 15 (vs:=[_,_]) rfl hq7 rfl a_27 s_27 rfl rfl)<|.alloc .no rfl z_27 fun b8=>.st (cs':=[_,_]) .no rfl rfl rfl rfl s_27 rfl rfl .hd rfl rfl<|.nil<|sq_n<|.seq<|.seq<|.region rfl<|.m rfl rfl<|.q (.lenR rfl rfl rfl e_56 hw3_0_0)<|.m rfl rfl<|.nil<|sq_n<|.block ?_
 obtain ⟨o1,hF,hG1⟩:=bS hF
 refine .loopx (α:=L_code_CheckCases_1) [(10,_),(14,_),(38,_),(39,_)] [_,_] (fun fx x=>(40,.i .i64 (x.k1_1:Int)) :: fx) (fun mx x=>[.blk b8 (.cells [.i .i64 x.z1_2,.i .i64 x.z1_3] 27),rg mx 0,rg mx 1]) (fun x g'=>x.k1_1≤q3.1.length∧Qam (q3.1.drop x.k1_1) x.k1_1 x.z1_2 x.z1_3=some o1) (fun x=>q3.1.length - x.k1_1) (L_code_CheckCases_1.mk 0 y7.Tonnages.1 y7.Tonnages.2) ⟨rfl,rfl,rfl,rfl,rfl,trivial⟩ (List.Sublist.refl _) ⟨(by first | omega | (dsimp only;omega)),hF⟩ ?_
 intro x1 gl1 hlo1 hJ1
 obtain ⟨k1_1,z1_2,z1_3⟩:=x1
 try dsimp only at hJ1
 obtain ⟨hk1,hF⟩:=hJ1
 refine .al0 [(40,.i .i64 (k1_1:Int)),(10,_),(14,_),(38,_),(39,_)] ?_
 replace hw3_0_0:=hw3_0_0.mono R_Case.mono hlo1
 refine .seq<|.region rfl<|.b rfl rfl rfl rfl<|.nil<|sq_n<|.seq<|.cond rfl (fun h9=>?_) (fun h9=>?_)
 ·have kh9:=dT h9
  obtain ⟨y1,hy1⟩:=getK (l:=q3.1) (k:=k1_1) kh9
  rw [dc hy1,Qam] at hF
  refine .skip<|sq_n<|.seq<|.block<|.seq<|.region rfl<|.ixk (j:=k1_1) .no rfl rfl hw3_0_0 rfl e_56 hy1 ?_
  rintro b10 o10 _ hq10 rfl
  refine .w (.pa 0 (vs:=[_,_,_,_,_,_,_,_,_,_,_,_,_,_,_,_,_]) rfl hq10 rfl a_111 s_111 rfl rfl)<|.alloc .no rfl z_111 fun b11=>.st (cs':=[_,_,_,_,_,_,_,_,_,_,_,_,_,_,_,_,_]) .no rfl rfl rfl rfl s_111 rfl rfl .hd rfl rfl<|.nil<|sq_n<|.region rfl<|.q (.fa rfl Qal)<|.w (.s rfl (.tl .hd) a_3 rfl)<|.q (.fa rfl f_111_2)<|.q (.fa rfl Qal)<|.w (.s rfl .hd a_3 rfl)<|.q (.mn rfl rfl rfl rfl)<|.q (.fa rfl Qak)<|.w (.s rfl (.tl .hd) a_3 rfl)<|.q (.fa rfl f_111_2)<|.q (.fa rfl Qak)<|.w (.s rfl .hd a_3 rfl)<|.q (.mx rfl rfl rfl rfl)<|.q (.build (qs:=[(0,_),(1,_)]) (cs:=[_,_]) rfl b_27 rfl)<|.st (cs':=[_,_]) .no rfl rfl rfl rfl s_27 rfl rfl (.tl .hd) rfl rfl<|.nil<|bq_n<|sq_n<|.region rfl<|.q (.inc1 rfl rfl (by omega))<|.m rfl rfl<|.nil<|Qac (L_code_CheckCases_1.mk (k1_1+1) (min z1_2 y1.Tonnages.1) (max z1_3 y1.Tonnages.2)) ⟨rfl,rfl,rfl,rfl,rfl,trivial⟩ (.cons _ (List.Sublist.refl _)) (Le.refl _) ?_ ?_
  ·exact ⟨(Qaf hy1),hF⟩
  ·simp only;omega
 have kh9:=dF h9
 rw [dn (by omega),Qam] at hF
 obtain rfl:=sI hF
 have hF:=hG1
 refine .exit<|sq_e<|lq_e<|bq_x rfl<|sq_n<|.seq<|.region rfl<|.w (.a (vs:=[_,_]) rfl .hd a_27 s_27 rfl rfl)<|.st (cs':=[_,_]) .no rfl rfl rfl rfl s_27 rfl rfl (.tl .hd) rfl rfl<|.z rfl rfl<|.nil<|sq_n<|.ret ?_
 obtain rfl:=sI hF
 refine Qaa (hle3.trans hlo1) (.cell (.a (vs:=[_,_]) rfl (.tl .hd) a_27 s_27 rfl rfl) (.tmp rfl .nil)) rfl ?_
 rfl
end Go.Proofs.YtjflgemfeofciaaGreatDoor
