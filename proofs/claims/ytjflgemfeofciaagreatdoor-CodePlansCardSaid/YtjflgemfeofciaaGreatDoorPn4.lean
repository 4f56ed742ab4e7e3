import Derived.Test.YtjflgemfeofciaaGreatDoorMY5
namespace Go.Proofs.YtjflgemfeofciaaGreatDoor
open Go Go.Ev
set_option linter.unusedVariables false
set_option linter.unusedSimpArgs false
set_option maxRecDepth 10000
theorem rplan_ok (ver:Version) (idx:Int) (l:List Room) (w:V) (cs:List V) (g:G) (h:VersionR g cs ver) (hr:RS RoomR 6 g w l) (hl20:l.length≤20) (hv:ver.puts.all Put.ok=true):Fw Tryz.prog natS (.f 82 [] []) [.agg cs,.i .i64 idx,w] g [] fun g' ml' r=>∃ cs',ml'=[]∧r= .agg cs'∧PlanR g' cs' idx ver l:=by
 refine Fw.forget (Post:=fun g' ml' r=>∃ cs',List.Sublist [] ml'∧r= .agg cs'∧PlanR g' cs' idx ver l) ?_ (fun g' ml' r _ ⟨cs',h1,h2,h3⟩=>⟨_,h1,cs',rfl,h2,h3⟩)
 obtain ⟨p,lv,rfl,hp,hl⟩:=h
 refine Fw.enter (N:=106) (al:=[(2,_),(1,_),(0,_)]) Tryz.func82 (by kernel_rfl) (by kernel_rfl) rfl rfl rfl rfl ?_
 intro B
 refine .acc 1 3<|.acc 1 3<|.acc 1 3<|.acc 1 3<|.acc 1 3<|.acc 1 3<|.seq<|.region rfl<|.box .no rfl rfl rfl rfl fun b1=>.alloc .no rfl z_85 fun b2=>.nil<|sq_n<|.seq<|.region rfl<|.m rfl rfl<|.q (.build (qs:=[(0,_)]) (cs:=[_,_,_,_,_,_,_,_,_,_,_,_,_,_,_,_,_,_,_,_,_,_]) rfl b_85 rfl)<|.alloc .no rfl z_85 fun b3=>.st (cs':=[_,_,_,_,_,_,_,_,_,_,_,_,_,_,_,_,_,_,_,_,_,_]) .no rfl rfl rfl rfl s_85 rfl rfl .hd rfl rfl<|.nil<|sq_n<|.seq<|.seq<|.region rfl<|.z rfl rfl<|.nil<|sq_n<|.block<|.unroll<|.seq<|.seq<|.region rfl<|.m rfl rfl<|.b rfl rfl rfl rfl ?_
 refine .nil<|sq_n<|.condT rfl (by decide)<|.skip<|sq_n<|.seq<|.block<|.region rfl<|.m rfl rfl<|.q (.subL (c:=0) rfl rfl rfl (by decide))<|.m rfl rfl<|.q (.fa rfl Qak)<|.q (.ixa (j:=0) rfl rfl ae_83 (by decide))<|.q (.fa rfl Qbz)<|.st (cs':=[_,_,_,_,_,_,_,_,_,_,_,_,_,_,_,_,_,_,_,_,_,_]) .no rfl rfl rfl rfl s_3 rfl rfl .hd rfl rfl<|.nil<|bq_n<|sq_n<|.region rfl<|.m rfl rfl<|.q (.addL (c:=2) rfl rfl rfl (by decide))<|.z rfl rfl<|.nil<|sq_n<|.unroll<|.seq<|.seq<|.region rfl<|.m rfl rfl<|.b rfl rfl rfl rfl<|.nil<|sq_n<|.condT rfl (by decide)<|.skip<|sq_n<|.seq<|.block ?_
 refine .region rfl<|.m rfl rfl<|.q (.subL (c:=1) rfl rfl rfl (by decide))<|.m rfl rfl<|.q (.fa rfl Qak)<|.q (.ixa (j:=1) rfl rfl ae_83 (by decide))<|.q (.fa rfl Qbz)<|.st (cs':=[_,_,_,_,_,_,_,_,_,_,_,_,_,_,_,_,_,_,_,_,_,_]) .no rfl rfl rfl rfl s_3 rfl rfl .hd rfl rfl<|.nil<|bq_n<|sq_n<|.region rfl<|.m rfl rfl<|.q (.addL (c:=3) rfl rfl rfl (by decide))<|.z rfl rfl<|.nil<|sq_n<|.unroll<|.seq<|.seq<|.region rfl<|.m rfl rfl<|.b rfl rfl rfl rfl<|.nil<|sq_n<|.condT rfl (by decide)<|.skip<|sq_n<|.seq<|.block<|.region rfl<|.m rfl rfl<|.q (.subL (c:=2) rfl rfl rfl (by decide))<|.m rfl rfl<|.q (.fa rfl Qak) ?_
 refine .q (.ixa (j:=2) rfl rfl ae_83 (by decide))<|.q (.fa rfl Qbz)<|.st (cs':=[_,_,_,_,_,_,_,_,_,_,_,_,_,_,_,_,_,_,_,_,_,_]) .no rfl rfl rfl rfl s_3 rfl rfl .hd rfl rfl<|.nil<|bq_n<|sq_n<|.region rfl<|.m rfl rfl<|.q (.addL (c:=4) rfl rfl rfl (by decide))<|.z rfl rfl<|.nil<|sq_n<|.unroll<|.seq<|.seq<|.region rfl<|.m rfl rfl<|.b rfl rfl rfl rfl<|.nil<|sq_n<|.condT rfl (by decide)<|.skip<|sq_n<|.seq<|.block<|.region rfl<|.m rfl rfl<|.q (.subL (c:=3) rfl rfl rfl (by decide))<|.m rfl rfl<|.q (.fa rfl Qak)<|.q (.ixa (j:=3) rfl rfl ae_83 (by decide))<|.q (.fa rfl Qbz)<|.st (cs':=[_,_,_,_,_,_,_,_,_,_,_,_,_,_,_,_,_,_,_,_,_,_]) .no rfl rfl rfl rfl s_3 rfl rfl .hd rfl rfl<|.nil<|bq_n<|sq_n<|.region rfl ?_
 refine .m rfl rfl<|.q (.addL (c:=5) rfl rfl rfl (by decide))<|.z rfl rfl<|.nil<|sq_n<|.unroll<|.seq<|.seq<|.region rfl<|.m rfl rfl<|.b rfl rfl rfl rfl<|.nil<|sq_n<|.condT rfl (by decide)<|.skip<|sq_n<|.seq<|.block<|.region rfl<|.m rfl rfl<|.q (.subL (c:=4) rfl rfl rfl (by decide))<|.m rfl rfl<|.q (.fa rfl Qak)<|.q (.ixa (j:=4) rfl rfl ae_83 (by decide))<|.q (.fa rfl Qbz)<|.st (cs':=[_,_,_,_,_,_,_,_,_,_,_,_,_,_,_,_,_,_,_,_,_,_]) .no rfl rfl rfl rfl s_3 rfl rfl .hd rfl rfl<|.nil<|bq_n<|sq_n<|.region rfl<|.m rfl rfl<|.q (.addL (c:=6) rfl rfl rfl (by decide))<|.z rfl rfl<|.nil<|sq_n<|.unroll ?_
 refine .seq<|.seq<|.region rfl<|.m rfl rfl<|.b rfl rfl rfl rfl<|.nil<|sq_n<|.condF rfl (by decide)<|.exit<|sq_e<|sq_e<|bq_x rfl<|sq_n<|.seq<|.seq<|.region rfl<|.z rfl rfl<|.nil<|sq_n<|.block<|.loopx (α:=PS) [(2,_),(3,_),(6,_),(7,_)] [_,_] (fun fx x=>(9,.i .i64 (x.k:Int)) :: fx) (fun mx x=>[.blk b3 (.cells [.i .i64 idx,.i .i64 1,x.rv 1,.i .i64 (x.lo 1),.i .i64 (x.hi 1),.i .i64 2,x.rv 2,.i .i64 (x.lo 2),.i .i64 (x.hi 2),.i .i64 3,x.rv 3,.i .i64 (x.lo 3),.i .i64 (x.hi 3),.i .i64 4,x.rv 4,.i .i64 (x.lo 4),.i .i64 (x.hi 4),.i .i64 5,x.rv 5,.i .i64 (x.lo 5),.i .i64 (x.hi 5),x.rv 0] 85),rg mx 0,rg mx 1,.acc (x.rv 0) 1 (x.ids 0) 3,.acc (x.rv 1) 1 (x.ids 1) 3,.acc (x.rv 2) 1 (x.ids 2) 3,.acc (x.rv 3) 1 (x.ids 3) 3,.acc (x.rv 4) 1 (x.ids 4) 3,.acc (x.rv 5) 1 (x.ids 5) 3]) (fun x g'=>PSok ver l x) (fun x=>l.length - x.k) (PS.init) ⟨rfl,rfl,rfl,rfl,rfl,trivial⟩ (List.Sublist.refl _) (PSok.init ver l) ?_
 intro x g5 hle4 hJ
 replace hr:=hr.mono RoomR.mono hle4
 replace hp:=hp.mono PutR.mono hle4
 replace hl:=fun k hk=>(hl k hk).mono PieceR.mono hle4
 refine .seq<|.seq<|.region rfl<|.m rfl rfl<|.m rfl rfl<|.q (.lenR rfl rfl rfl e_25 hr)<|.b rfl rfl rfl rfl<|.nil<|sq_n<|.cond rfl (fun h6=>?_) (fun h6=>?_)
 ·have kh6:=h6;(try simp only [bk] at kh6)
  refine .skip<|sq_n<|.seq<|.block<|.seq<|.draw (tb:=[r0 0 0,r0 0 0,r0 0 0,r0 6 0,r0 14 0,r1 31 0,r1 63 1,r1 127 1,r1 127 1,r1 255 1,r1 1023 1]) rfl (by kernel_rfl) (by kernel_rfl) fun k0=>?_
  refine .y rfl rfl rfl (.a (vs:=[_,_,_,_,_,_,_,_,_,_,_,_]) rfl (.tl (.tl .hd)) a_97 s_97 rfl rfl)<|.m rfl rfl<|.m rfl rfl<|.ixn .no rfl rfl hr rfl e_25 (by omega) ?_
  intro b7 o7 cs7 y7 hy7 hq7 hr7
  obtain rfl:=hr7
  try have hgb7:=Qcm hv y7
  refine .y rfl rfl rfl (.pa 0 (vs:=[_,_,_,_,_,_]) rfl hq7 rfl a_29 s_29 rfl rfl)<|.callV .no rfl rfl rfl rfl rfl (rGroup_ok _ _ _ _ ⟨_,_,rfl,hp,hl⟩ hv)<|.m rfl rfl<|.q (.ext rfl rfl)<|.q (.ext rfl rfl)<|.z rfl rfl<|.z rfl rfl<|.nil<|sq_n<|.seq<|.seq<|.region rfl<|.m rfl rfl<|.b rfl rfl rfl rfl<|.nil<|sq_n<|.cond rfl (fun h8=>?_) (fun h8=>?_)
  ·have kh8:=h8;(try simp only [bk] at kh8)
   refine .seq<|.draw (tb:=[r0 0 0,r0 1 0,r0 0 0,r0 0 0,r0 12 0,r0 28 0,r0 60 0,r0 124 0,r1 255 0,r1 511 1,r1 1023 1]) rfl (by kernel_rfl) (by kernel_rfl) fun k0=>?_
   refine .q (.fa rfl f_85_2)<|.y rfl rfl rfl (.s rfl .hd a_66 rfl)<|.m rfl rfl<|.m rfl rfl<|.ixn .no rfl rfl hr rfl e_25 (by omega) ?_
   intro b9 o9 cs9 y9 hy9 hq9 hr9
   obtain rfl:y7=y9:=Option.some.inj (hy7.symm.trans hy9)
   obtain rfl:=hr9
   try have hgb9:=Qcm hv y9
   refine .q (.fa rfl Qca)<|.y rfl rfl rfl (.ps 0 rfl hq9 rfl a_3 rfl)<|.f .no rfl (.bs (qs:=[(0,_)]) (c:=[_]) rfl sl_66 el_3 (by decide) rfl) fun b10=>.x .no rfl rfl (Qck rfl Qci) (Qbg rfl Qbh) (Qch rfl) (fun _ _=>.all (Qab rfl (Qab rfl rfl))) (.appA (m:=1) (new:=[_]) rfl rfl rfl (.tl (.tl (.tl (.tl .hd)))) sl_66 el_3 (.of rfl .sl sl_66 .hd (Nat.le_of_ble_eq_true rfl) rfl) (by decide) rfl (hJ.app hl20 rfl) rfl) fun v11=>.av (.tl (.tl (.tl (.tl .hd)))) fun av11=>.q (.fa rfl f_85_2)<|.st (cs':=[_,_,_,_,_,_,_,_,_,_,_,_,_,_,_,_,_,_,_,_,_,_]) .no rfl rfl rfl rfl av11.any av11.cells s_66 rfl rfl (.tl .hd) rfl (Qa av11.one rfl) (.all (Qab rfl (Qab rfl rfl)))<|.nil<|sq_n<|.exit<|sq_e<|bq_x rfl<|sq_n<|.region rfl<|.m rfl rfl<|.q (.inc1 rfl rfl (by omega))<|.z rfl rfl<|.nil<|Qac (PS.mk (x.k+1) (upd x.rv 0 _) x.lo x.hi (upd x.ids 0 _)) ⟨rfl,rfl,rfl,rfl,rfl,trivial⟩ (.cons _ (List.Sublist.refl _)) (Le.refl _) ?_ ?_
   ·exact hJ.step0 ‹_› ‹_› ‹_›
   ·simp only;omega
  ·have kh8:=h8;(try simp only [bk] at kh8)
   refine .skip<|sq_n<|.seq<|.draw (tb:=[r0 0 0,r0 1 0,r0 0 0,r0 4 0,r0 0 0,r0 28 0,r0 60 0,r0 124 0,r0 0 0,r0 0 0,r0 768 0,r0 1792 0,r0 3840 0,r0 7936 0,r1 16380 0,r0 0 0,r1 65535 1,r1 131071 1,r1 262143 1]) rfl (by kernel_rfl) (by kernel_rfl) fun k0=>?_
   refine .m rfl rfl<|.q (.sub rfl rfl (by omega))<|.m rfl rfl<|.q (.sub rfl rfl (by omega))<|.q (.fa rfl Qak) ?_
   rcases (case5 (ixg ‹0≤(grp ver _).1∧_› ‹¬ (grp ver _).1=0›)) with e12 | e12 | e12 | e12 | e12
   ·have ke12:=e12
    refine .q (.ixae (q:=0) rfl rfl e12 ae_83 (by decide))<|.q (.fa rfl Qba)<|.y rfl rfl rfl (.s rfl .hd a_66 rfl)<|.m rfl rfl<|.m rfl rfl<|.ixn .no rfl rfl hr rfl e_25 (by omega) ?_
    intro b13 o13 cs13 y13 hy13 hq13 hr13
    obtain rfl:y7=y13:=Option.some.inj (hy7.symm.trans hy13)
    obtain rfl:=hr13
    try have hgb13:=Qcm hv y13
    refine .q (.fa rfl Qca)<|.y rfl rfl rfl (.ps 0 rfl hq13 rfl a_3 rfl)<|.f .no rfl (.bs (qs:=[(0,_)]) (c:=[_]) rfl sl_66 el_3 (by decide) rfl) fun b14=>.x .no rfl rfl (Qck rfl Qci) (Qbg rfl Qbh) (Qch rfl) (fun _ _=>.all (Qab rfl (Qab rfl rfl))) (.appA (m:=1) (new:=[_]) rfl rfl rfl (.tl (.tl (.tl (.tl (.tl .hd))))) sl_66 el_3 (.of rfl .sl sl_66 .hd (Nat.le_of_ble_eq_true rfl) rfl) (by decide) rfl (hJ.app hl20 rfl) rfl) fun v15=>.av (.tl (.tl (.tl (.tl (.tl .hd))))) fun av15=>.q (.fa rfl Qak)<|.q (.ixae (q:=0) rfl rfl e12 ae_83 (by decide))<|.q (.fa rfl Qba)<|.st (cs':=[_,_,_,_,_,_,_,_,_,_,_,_,_,_,_,_,_,_,_,_,_,_]) .no rfl rfl rfl rfl av15.any av15.cells s_66 rfl rfl (.tl .hd) rfl (Qa av15.one rfl) (.all (Qab rfl (Qab rfl rfl)))<|.nil<|sq_n<|.seq<|.draw (tb:=[r0 0 0,r0 1 0,r0 0 0,r0 7 0,r0 15 0,r0 31 0,r0 63 0,r0 0 0,r0 0 0,r0 384 0,r0 896 0,r0 1920 0,r0 3968 0,r1 8191 0,r0 0 0,r1 32767 0,r1 65535 0,r1 131071 0,r1 262143 0]) rfl (by kernel_rfl) (by kernel_rfl) fun k0=>?_
    refine .m rfl rfl<|.q (.sub rfl rfl (by omega))<|.q (.fa rfl Qak)<|.q (.ixae (q:=0) rfl rfl e12 ae_83 (by decide))<|.q (.fa rfl Qaj)<|.q (.fa rfl Qap)<|.y rfl rfl rfl (.s rfl (.tl .hd) a_3 rfl)<|.m rfl rfl<|.m rfl rfl<|.ixn .no rfl rfl hr rfl e_25 (by omega) ?_
    intro b16 o16 cs16 y16 hy16 hq16 hr16
    obtain rfl:y7=y16:=Option.some.inj (hy7.symm.trans hy16)
    obtain rfl:=hr16
    try have hgb16:=Qcm hv y16
    refine .q (.fa rfl Qbe)<|.q (.fa rfl Qap)<|.y rfl rfl rfl (.ps 4 rfl hq16 rfl a_3 rfl)<|.b rfl rfl rfl rfl<|.q (.fa rfl Qak)<|.q (.ixae (q:=0) rfl rfl e12 ae_83 (by decide))<|.q (.fa rfl Qaj)<|.q (.fa rfl Qap)<|.st (cs':=[_,_,_,_,_,_,_,_,_,_,_,_,_,_,_,_,_,_,_,_,_,_]) .no rfl rfl rfl rfl rfl rfl s_3 rfl rfl (.tl .hd) rfl rfl (.all (Qab rfl (Qab rfl rfl)))<|.nil<|sq_n<|.draw (tb:=[r0 0 0,r0 1 0,r0 0 0,r0 7 0,r0 15 0,r0 31 0,r0 63 0,r0 0 0,r0 0 0,r0 384 0,r0 896 0,r0 1920 0,r0 3968 0,r1 8191 0,r0 0 0,r1 32767 0,r1 65535 0,r1 131071 0,r1 262143 0]) rfl (by kernel_rfl) (by kernel_rfl) fun k0=>?_
    refine .m rfl rfl<|.q (.sub rfl rfl (by omega))<|.q (.fa rfl Qak)<|.q (.ixae (q:=0) rfl rfl e12 ae_83 (by decide))<|.q (.fa rfl Qaj)<|.q (.fa rfl Qao)<|.y rfl rfl rfl (.s rfl (.tl .hd) a_3 rfl)<|.m rfl rfl<|.m rfl rfl<|.ixn .no rfl rfl hr rfl e_25 (by omega) ?_
    intro b17 o17 cs17 y17 hy17 hq17 hr17
    obtain rfl:y7=y17:=Option.some.inj (hy7.symm.trans hy17)
    obtain rfl:=hr17
    try have hgb17:=Qcm hv y17
    refine .q (.fa rfl Qbe)<|.q (.fa rfl Qao)<|.y rfl rfl rfl (.ps 5 rfl hq17 rfl a_3 rfl)<|.b rfl rfl rfl rfl<|.q (.fa rfl Qak)<|.q (.ixae (q:=0) rfl rfl e12 ae_83 (by decide))<|.q (.fa rfl Qaj)<|.q (.fa rfl Qao)<|.st (cs':=[_,_,_,_,_,_,_,_,_,_,_,_,_,_,_,_,_,_,_,_,_,_]) .no rfl rfl rfl rfl rfl rfl s_3 rfl rfl (.tl .hd) rfl rfl (.all (Qab rfl (Qab rfl rfl)))<|.nil<|bq_n<|sq_n<|.region rfl<|.m rfl rfl<|.q (.inc1 rfl rfl (by omega))<|.z rfl rfl<|.nil<|Qac (PS.mk (x.k+1) (upd x.rv 1 _) (upd x.lo 1 _) (upd x.hi 1 _) (upd x.ids 1 _)) ⟨rfl,rfl,rfl,rfl,rfl,trivial⟩ (.cons _ (List.Sublist.refl _)) (Le.refl _) ?_ ?_
    ·exact hJ.stepq (q:=1) ‹_› (by omega) (by decide) ‹_›
    ·simp only;omega
   ·have ke12:=e12
    refine .q (.ixae (q:=1) rfl rfl e12 ae_83 (by decide))<|.q (.fa rfl Qba)<|.y rfl rfl rfl (.s rfl .hd a_66 rfl)<|.m rfl rfl<|.m rfl rfl<|.ixn .no rfl rfl hr rfl e_25 (by omega) ?_
    intro b18 o18 cs18 y18 hy18 hq18 hr18
    obtain rfl:y7=y18:=Option.some.inj (hy7.symm.trans hy18)
    obtain rfl:=hr18
    try have hgb18:=Qcm hv y18
    refine .q (.fa rfl Qca)<|.y rfl rfl rfl (.ps 0 rfl hq18 rfl a_3 rfl)<|.f .no rfl (.bs (qs:=[(0,_)]) (c:=[_]) rfl sl_66 el_3 (by decide) rfl) fun b19=>.x .no rfl rfl (Qck rfl Qci) (Qbg rfl Qbh) (Qch rfl) (fun _ _=>.all (Qab rfl (Qab rfl rfl))) (.appA (m:=1) (new:=[_]) rfl rfl rfl (.tl (.tl (.tl (.tl (.tl (.tl .hd)))))) sl_66 el_3 (.of rfl .sl sl_66 .hd (Nat.le_of_ble_eq_true rfl) rfl) (by decide) rfl (hJ.app hl20 rfl) rfl) fun v20=>.av (.tl (.tl (.tl (.tl (.tl (.tl .hd)))))) fun av20=>.q (.fa rfl Qak)<|.q (.ixae (q:=1) rfl rfl e12 ae_83 (by decide))<|.q (.fa rfl Qba)<|.st (cs':=[_,_,_,_,_,_,_,_,_,_,_,_,_,_,_,_,_,_,_,_,_,_]) .no rfl rfl rfl rfl av20.any av20.cells s_66 rfl rfl (.tl .hd) rfl (Qa av20.one rfl) (.all (Qab rfl (Qab rfl rfl)))<|.nil<|sq_n<|.seq<|.draw (tb:=[r0 0 0,r0 1 0,r0 0 0,r0 7 0,r0 15 0,r0 31 0,r0 63 0,r0 0 0,r0 0 0,r0 384 0,r0 896 0,r0 1920 0,r0 3968 0,r1 8191 0,r0 0 0,r1 32767 0,r1 65535 0,r1 131071 0,r1 262143 0]) rfl (by kernel_rfl) (by kernel_rfl) fun k0=>?_
    refine .m rfl rfl<|.q (.sub rfl rfl (by omega))<|.q (.fa rfl Qak)<|.q (.ixae (q:=1) rfl rfl e12 ae_83 (by decide))<|.q (.fa rfl Qaj)<|.q (.fa rfl Qap)<|.y rfl rfl rfl (.s rfl (.tl .hd) a_3 rfl)<|.m rfl rfl<|.m rfl rfl<|.ixn .no rfl rfl hr rfl e_25 (by omega) ?_
    intro b21 o21 cs21 y21 hy21 hq21 hr21
    obtain rfl:y7=y21:=Option.some.inj (hy7.symm.trans hy21)
    obtain rfl:=hr21
    try have hgb21:=Qcm hv y21
    refine .q (.fa rfl Qbe)<|.q (.fa rfl Qap)<|.y rfl rfl rfl (.ps 4 rfl hq21 rfl a_3 rfl)<|.b rfl rfl rfl rfl<|.q (.fa rfl Qak)<|.q (.ixae (q:=1) rfl rfl e12 ae_83 (by decide))<|.q (.fa rfl Qaj)<|.q (.fa rfl Qap)<|.st (cs':=[_,_,_,_,_,_,_,_,_,_,_,_,_,_,_,_,_,_,_,_,_,_]) .no rfl rfl rfl rfl rfl rfl s_3 rfl rfl (.tl .hd) rfl rfl (.all (Qab rfl (Qab rfl rfl)))<|.nil<|sq_n<|.draw (tb:=[r0 0 0,r0 1 0,r0 0 0,r0 7 0,r0 15 0,r0 31 0,r0 63 0,r0 0 0,r0 0 0,r0 384 0,r0 896 0,r0 1920 0,r0 3968 0,r1 8191 0,r0 0 0,r1 32767 0,r1 65535 0,r1 131071 0,r1 262143 0]) rfl (by kernel_rfl) (by kernel_rfl) fun k0=>?_
    refine .m rfl rfl<|.q (.sub rfl rfl (by omega))<|.q (.fa rfl Qak)<|.q (.ixae (q:=1) rfl rfl e12 ae_83 (by decide))<|.q (.fa rfl Qaj)<|.q (.fa rfl Qao)<|.y rfl rfl rfl (.s rfl (.tl .hd) a_3 rfl)<|.m rfl rfl<|.m rfl rfl<|.ixn .no rfl rfl hr rfl e_25 (by omega) ?_
    intro b22 o22 cs22 y22 hy22 hq22 hr22
    obtain rfl:y7=y22:=Option.some.inj (hy7.symm.trans hy22)
    obtain rfl:=hr22
    try have hgb22:=Qcm hv y22
    refine .q (.fa rfl Qbe)<|.q (.fa rfl Qao)<|.y rfl rfl rfl (.ps 5 rfl hq22 rfl a_3 rfl)<|.b rfl rfl rfl rfl<|.q (.fa rfl Qak)<|.q (.ixae (q:=1) rfl rfl e12 ae_83 (by decide))<|.q (.fa rfl Qaj)<|.q (.fa rfl Qao)<|.st (cs':=[_,_,_,_,_,_,_,_,_,_,_,_,_,_,_,_,_,_,_,_,_,_]) .no rfl rfl rfl rfl rfl rfl s_3 rfl rfl (.tl .hd) rfl rfl (.all (Qab rfl (Qab rfl rfl)))<|.nil<|bq_n<|sq_n<|.region rfl<|.m rfl rfl<|.q (.inc1 rfl rfl (by omega))<|.z rfl rfl<|.nil<|Qac (PS.mk (x.k+1) (upd x.rv 2 _) (upd x.lo 2 _) (upd x.hi 2 _) (upd x.ids 2 _)) ⟨rfl,rfl,rfl,rfl,rfl,trivial⟩ (.cons _ (List.Sublist.refl _)) (Le.refl _) ?_ ?_
    ·exact hJ.stepq (q:=2) ‹_› (by omega) (by decide) ‹_›
    ·simp only;omega
   ·have ke12:=e12
    refine .q (.ixae (q:=2) rfl rfl e12 ae_83 (by decide))<|.q (.fa rfl Qba)<|.y rfl rfl rfl (.s rfl .hd a_66 rfl)<|.m rfl rfl<|.m rfl rfl<|.ixn .no rfl rfl hr rfl e_25 (by omega) ?_
    intro b23 o23 cs23 y23 hy23 hq23 hr23
    obtain rfl:y7=y23:=Option.some.inj (hy7.symm.trans hy23)
    obtain rfl:=hr23
    try have hgb23:=Qcm hv y23
    refine .q (.fa rfl Qca)<|.y rfl rfl rfl (.ps 0 rfl hq23 rfl a_3 rfl)<|.f .no rfl (.bs (qs:=[(0,_)]) (c:=[_]) rfl sl_66 el_3 (by decide) rfl) fun b24=>.x .no rfl rfl (Qck rfl Qci) (Qbg rfl Qbh) (Qch rfl) (fun _ _=>.all (Qab rfl (Qab rfl rfl))) (.appA (m:=1) (new:=[_]) rfl rfl rfl (.tl (.tl (.tl (.tl (.tl (.tl (.tl .hd))))))) sl_66 el_3 (.of rfl .sl sl_66 .hd (Nat.le_of_ble_eq_true rfl) rfl) (by decide) rfl (hJ.app hl20 rfl) rfl) fun v25=>.av (.tl (.tl (.tl (.tl (.tl (.tl (.tl .hd))))))) fun av25=>.q (.fa rfl Qak)<|.q (.ixae (q:=2) rfl rfl e12 ae_83 (by decide))<|.q (.fa rfl Qba)<|.st (cs':=[_,_,_,_,_,_,_,_,_,_,_,_,_,_,_,_,_,_,_,_,_,_]) .no rfl rfl rfl rfl av25.any av25.cells s_66 rfl rfl (.tl .hd) rfl (Qa av25.one rfl) (.all (Qab rfl (Qab rfl rfl)))<|.nil<|sq_n<|.seq<|.draw (tb:=[r0 0 0,r0 1 0,r0 0 0,r0 7 0,r0 15 0,r0 31 0,r0 63 0,r0 0 0,r0 0 0,r0 384 0,r0 896 0,r0 1920 0,r0 3968 0,r1 8191 0,r0 0 0,r1 32767 0,r1 65535 0,r1 131071 0,r1 262143 0]) rfl (by kernel_rfl) (by kernel_rfl) fun k0=>?_
    refine .m rfl rfl<|.q (.sub rfl rfl (by omega))<|.q (.fa rfl Qak)<|.q (.ixae (q:=2) rfl rfl e12 ae_83 (by decide))<|.q (.fa rfl Qaj)<|.q (.fa rfl Qap)<|.y rfl rfl rfl (.s rfl (.tl .hd) a_3 rfl)<|.m rfl rfl<|.m rfl rfl<|.ixn .no rfl rfl hr rfl e_25 (by omega) ?_
    intro b26 o26 cs26 y26 hy26 hq26 hr26
    obtain rfl:y7=y26:=Option.some.inj (hy7.symm.trans hy26)
    obtain rfl:=hr26
    try have hgb26:=Qcm hv y26
    refine .q (.fa rfl Qbe)<|.q (.fa rfl Qap)<|.y rfl rfl rfl (.ps 4 rfl hq26 rfl a_3 rfl)<|.b rfl rfl rfl rfl<|.q (.fa rfl Qak)<|.q (.ixae (q:=2) rfl rfl e12 ae_83 (by decide))<|.q (.fa rfl Qaj)<|.q (.fa rfl Qap)<|.st (cs':=[_,_,_,_,_,_,_,_,_,_,_,_,_,_,_,_,_,_,_,_,_,_]) .no rfl rfl rfl rfl rfl rfl s_3 rfl rfl (.tl .hd) rfl rfl (.all (Qab rfl (Qab rfl rfl)))<|.nil<|sq_n<|.draw (tb:=[r0 0 0,r0 1 0,r0 0 0,r0 7 0,r0 15 0,r0 31 0,r0 63 0,r0 0 0,r0 0 0,r0 384 0,r0 896 0,r0 1920 0,r0 3968 0,r1 8191 0,r0 0 0,r1 32767 0,r1 65535 0,r1 131071 0,r1 262143 0]) rfl (by kernel_rfl) (by kernel_rfl) fun k0=>?_
    refine .m rfl rfl<|.q (.sub rfl rfl (by omega))<|.q (.fa rfl Qak)<|.q (.ixae (q:=2) rfl rfl e12 ae_83 (by decide))<|.q (.fa rfl Qaj)<|.q (.fa rfl Qao)<|.y rfl rfl rfl (.s rfl (.tl .hd) a_3 rfl)<|.m rfl rfl<|.m rfl rfl<|.ixn .no rfl rfl hr rfl e_25 (by omega) ?_
    intro b27 o27 cs27 y27 hy27 hq27 hr27
    obtain rfl:y7=y27:=Option.some.inj (hy7.symm.trans hy27)
    obtain rfl:=hr27
    try have hgb27:=Qcm hv y27
    refine .q (.fa rfl Qbe)<|.q (.fa rfl Qao)<|.y rfl rfl rfl (.ps 5 rfl hq27 rfl a_3 rfl)<|.b rfl rfl rfl rfl<|.q (.fa rfl Qak)<|.q (.ixae (q:=2) rfl rfl e12 ae_83 (by decide))<|.q (.fa rfl Qaj)<|.q (.fa rfl Qao)<|.st (cs':=[_,_,_,_,_,_,_,_,_,_,_,_,_,_,_,_,_,_,_,_,_,_]) .no rfl rfl rfl rfl rfl rfl s_3 rfl rfl (.tl .hd) rfl rfl (.all (Qab rfl (Qab rfl rfl)))<|.nil<|bq_n<|sq_n<|.region rfl<|.m rfl rfl<|.q (.inc1 rfl rfl (by omega))<|.z rfl rfl<|.nil<|Qac (PS.mk (x.k+1) (upd x.rv 3 _) (upd x.lo 3 _) (upd x.hi 3 _) (upd x.ids 3 _)) ⟨rfl,rfl,rfl,rfl,rfl,trivial⟩ (.cons _ (List.Sublist.refl _)) (Le.refl _) ?_ ?_
    ·exact hJ.stepq (q:=3) ‹_› (by omega) (by decide) ‹_›
    ·simp only;omega
   ·have ke12:=e12
    refine .q (.ixae (q:=3) rfl rfl e12 ae_83 (by decide))<|.q (.fa rfl Qba)<|.y rfl rfl rfl (.s rfl .hd a_66 rfl)<|.m rfl rfl<|.m rfl rfl<|.ixn .no rfl rfl hr rfl e_25 (by omega) ?_
    intro b28 o28 cs28 y28 hy28 hq28 hr28
    obtain rfl:y7=y28:=Option.some.inj (hy7.symm.trans hy28)
    obtain rfl:=hr28
    try have hgb28:=Qcm hv y28
    refine .q (.fa rfl Qca)<|.y rfl rfl rfl (.ps 0 rfl hq28 rfl a_3 rfl)<|.f .no rfl (.bs (qs:=[(0,_)]) (c:=[_]) rfl sl_66 el_3 (by decide) rfl) fun b29=>.x .no rfl rfl (Qck rfl Qci) (Qbg rfl Qbh) (Qch rfl) (fun _ _=>.all (Qab rfl (Qab rfl rfl))) (.appA (m:=1) (new:=[_]) rfl rfl rfl (.tl (.tl (.tl (.tl (.tl (.tl (.tl (.tl .hd)))))))) sl_66 el_3 (.of rfl .sl sl_66 .hd (Nat.le_of_ble_eq_true rfl) rfl) (by decide) rfl (hJ.app hl20 rfl) rfl) fun v30=>.av (.tl (.tl (.tl (.tl (.tl (.tl (.tl (.tl .hd)))))))) fun av30=>.q (.fa rfl Qak)<|.q (.ixae (q:=3) rfl rfl e12 ae_83 (by decide))<|.q (.fa rfl Qba)<|.st (cs':=[_,_,_,_,_,_,_,_,_,_,_,_,_,_,_,_,_,_,_,_,_,_]) .no rfl rfl rfl rfl av30.any av30.cells s_66 rfl rfl (.tl .hd) rfl (Qa av30.one rfl) (.all (Qab rfl (Qab rfl rfl)))<|.nil<|sq_n<|.seq<|.draw (tb:=[r0 0 0,r0 1 0,r0 0 0,r0 7 0,r0 15 0,r0 31 0,r0 63 0,r0 0 0,r0 0 0,r0 384 0,r0 896 0,r0 1920 0,r0 3968 0,r1 8191 0,r0 0 0,r1 32767 0,r1 65535 0,r1 131071 0,r1 262143 0]) rfl (by kernel_rfl) (by kernel_rfl) fun k0=>?_
    refine .m rfl rfl<|.q (.sub rfl rfl (by omega))<|.q (.fa rfl Qak)<|.q (.ixae (q:=3) rfl rfl e12 ae_83 (by decide))<|.q (.fa rfl Qaj)<|.q (.fa rfl Qap)<|.y rfl rfl rfl (.s rfl (.tl .hd) a_3 rfl)<|.m rfl rfl<|.m rfl rfl<|.ixn .no rfl rfl hr rfl e_25 (by omega) ?_
    intro b31 o31 cs31 y31 hy31 hq31 hr31
    obtain rfl:y7=y31:=Option.some.inj (hy7.symm.trans hy31)
    obtain rfl:=hr31
    try have hgb31:=Qcm hv y31
    refine .q (.fa rfl Qbe)<|.q (.fa rfl Qap)<|.y rfl rfl rfl (.ps 4 rfl hq31 rfl a_3 rfl)<|.b rfl rfl rfl rfl<|.q (.fa rfl Qak)<|.q (.ixae (q:=3) rfl rfl e12 ae_83 (by decide))<|.q (.fa rfl Qaj)<|.q (.fa rfl Qap)<|.st (cs':=[_,_,_,_,_,_,_,_,_,_,_,_,_,_,_,_,_,_,_,_,_,_]) .no rfl rfl rfl rfl rfl rfl s_3 rfl rfl (.tl .hd) rfl rfl (.all (Qab rfl (Qab rfl rfl)))<|.nil<|sq_n<|.draw (tb:=[r0 0 0,r0 1 0,r0 0 0,r0 7 0,r0 15 0,r0 31 0,r0 63 0,r0 0 0,r0 0 0,r0 384 0,r0 896 0,r0 1920 0,r0 3968 0,r1 8191 0,r0 0 0,r1 32767 0,r1 65535 0,r1 131071 0,r1 262143 0]) rfl (by kernel_rfl) (by kernel_rfl) fun k0=>?_
    refine .m rfl rfl<|.q (.sub rfl rfl (by omega))<|.q (.fa rfl Qak)<|.q (.ixae (q:=3) rfl rfl e12 ae_83 (by decide))<|.q (.fa rfl Qaj)<|.q (.fa rfl Qao)<|.y rfl rfl rfl (.s rfl (.tl .hd) a_3 rfl)<|.m rfl rfl<|.m rfl rfl<|.ixn .no rfl rfl hr rfl e_25 (by omega) ?_
    intro b32 o32 cs32 y32 hy32 hq32 hr32
    obtain rfl:y7=y32:=Option.some.inj (hy7.symm.trans hy32)
    obtain rfl:=hr32
    try have hgb32:=Qcm hv y32
    refine .q (.fa rfl Qbe)<|.q (.fa rfl Qao)<|.y rfl rfl rfl (.ps 5 rfl hq32 rfl a_3 rfl)<|.b rfl rfl rfl rfl<|.q (.fa rfl Qak)<|.q (.ixae (q:=3) rfl rfl e12 ae_83 (by decide))<|.q (.fa rfl Qaj)<|.q (.fa rfl Qao)<|.st (cs':=[_,_,_,_,_,_,_,_,_,_,_,_,_,_,_,_,_,_,_,_,_,_]) .no rfl rfl rfl rfl rfl rfl s_3 rfl rfl (.tl .hd) rfl rfl (.all (Qab rfl (Qab rfl rfl)))<|.nil<|bq_n<|sq_n<|.region rfl<|.m rfl rfl<|.q (.inc1 rfl rfl (by omega))<|.z rfl rfl<|.nil<|Qac (PS.mk (x.k+1) (upd x.rv 4 _) (upd x.lo 4 _) (upd x.hi 4 _) (upd x.ids 4 _)) ⟨rfl,rfl,rfl,rfl,rfl,trivial⟩ (.cons _ (List.Sublist.refl _)) (Le.refl _) ?_ ?_
    ·exact hJ.stepq (q:=4) ‹_› (by omega) (by decide) ‹_›
    ·simp only;omega
   ·have ke12:=e12
    refine .q (.ixae (q:=4) rfl rfl e12 ae_83 (by decide))<|.q (.fa rfl Qba)<|.y rfl rfl rfl (.s rfl .hd a_66 rfl)<|.m rfl rfl<|.m rfl rfl<|.ixn .no rfl rfl hr rfl e_25 (by omega) ?_
    intro b33 o33 cs33 y33 hy33 hq33 hr33
    obtain rfl:y7=y33:=Option.some.inj (hy7.symm.trans hy33)
    obtain rfl:=hr33
    try have hgb33:=Qcm hv y33
    refine .q (.fa rfl Qca)<|.y rfl rfl rfl (.ps 0 rfl hq33 rfl a_3 rfl)<|.f .no rfl (.bs (qs:=[(0,_)]) (c:=[_]) rfl sl_66 el_3 (by decide) rfl) fun b34=>.x .no rfl rfl (Qck rfl Qci) (Qbg rfl Qbh) (Qch rfl) (fun _ _=>.all (Qab rfl (Qab rfl rfl))) (.appA (m:=1) (new:=[_]) rfl rfl rfl (.tl (.tl (.tl (.tl (.tl (.tl (.tl (.tl (.tl .hd))))))))) sl_66 el_3 (.of rfl .sl sl_66 .hd (Nat.le_of_ble_eq_true rfl) rfl) (by decide) rfl (hJ.app hl20 rfl) rfl) fun v35=>.av (.tl (.tl (.tl (.tl (.tl (.tl (.tl (.tl (.tl .hd))))))))) fun av35=>.q (.fa rfl Qak)<|.q (.ixae (q:=4) rfl rfl e12 ae_83 (by decide))<|.q (.fa rfl Qba)<|.st (cs':=[_,_,_,_,_,_,_,_,_,_,_,_,_,_,_,_,_,_,_,_,_,_]) .no rfl rfl rfl rfl av35.any av35.cells s_66 rfl rfl (.tl .hd) rfl (Qa av35.one rfl) (.all (Qab rfl (Qab rfl rfl)))<|.nil<|sq_n<|.seq<|.draw (tb:=[r0 0 0,r0 1 0,r0 0 0,r0 7 0,r0 15 0,r0 31 0,r0 63 0,r0 0 0,r0 0 0,r0 384 0,r0 896 0,r0 1920 0,r0 3968 0,r1 8191 0,r0 0 0,r1 32767 0,r1 65535 0,r1 131071 0,r1 262143 0]) rfl (by kernel_rfl) (by kernel_rfl) fun k0=>?_
    refine .m rfl rfl<|.q (.sub rfl rfl (by omega))<|.q (.fa rfl Qak)<|.q (.ixae (q:=4) rfl rfl e12 ae_83 (by decide))<|.q (.fa rfl Qaj)<|.q (.fa rfl Qap)<|.y rfl rfl rfl (.s rfl (.tl .hd) a_3 rfl)<|.m rfl rfl<|.m rfl rfl<|.ixn .no rfl rfl hr rfl e_25 (by omega) ?_
    intro b36 o36 cs36 y36 hy36 hq36 hr36
    obtain rfl:y7=y36:=Option.some.inj (hy7.symm.trans hy36)
    obtain rfl:=hr36
    try have hgb36:=Qcm hv y36
    refine .q (.fa rfl Qbe)<|.q (.fa rfl Qap)<|.y rfl rfl rfl (.ps 4 rfl hq36 rfl a_3 rfl)<|.b rfl rfl rfl rfl<|.q (.fa rfl Qak)<|.q (.ixae (q:=4) rfl rfl e12 ae_83 (by decide))<|.q (.fa rfl Qaj)<|.q (.fa rfl Qap)<|.st (cs':=[_,_,_,_,_,_,_,_,_,_,_,_,_,_,_,_,_,_,_,_,_,_]) .no rfl rfl rfl rfl rfl rfl s_3 rfl rfl (.tl .hd) rfl rfl (.all (Qab rfl (Qab rfl rfl)))<|.nil<|sq_n<|.draw (tb:=[r0 0 0,r0 1 0,r0 0 0,r0 7 0,r0 15 0,r0 31 0,r0 63 0,r0 0 0,r0 0 0,r0 384 0,r0 896 0,r0 1920 0,r0 3968 0,r1 8191 0,r0 0 0,r1 32767 0,r1 65535 0,r1 131071 0,r1 262143 0]) rfl (by kernel_rfl) (by kernel_rfl) fun k0=>?_
    refine .m rfl rfl<|.q (.sub rfl rfl (by omega))<|.q (.fa rfl Qak)<|.q (.ixae (q:=4) rfl rfl e12 ae_83 (by decide))<|.q (.fa rfl Qaj)<|.q (.fa rfl Qao)<|.y rfl rfl rfl (.s rfl (.tl .hd) a_3 rfl)<|.m rfl rfl<|.m rfl rfl<|.ixn .no rfl rfl hr rfl e_25 (by omega) ?_
    intro b37 o37 cs37 y37 hy37 hq37 hr37
    obtain rfl:y7=y37:=Option.some.inj (hy7.symm.trans hy37)
    obtain rfl:=hr37
    try have hgb37:=Qcm hv y37
    refine .q (.fa rfl Qbe)<|.q (.fa rfl Qao)<|.y rfl rfl rfl (.ps 5 rfl hq37 rfl a_3 rfl)<|.b rfl rfl rfl rfl<|.q (.fa rfl Qak)<|.q (.ixae (q:=4) rfl rfl e12 ae_83 (by decide))<|.q (.fa rfl Qaj)<|.q (.fa rfl Qao)<|.st (cs':=[_,_,_,_,_,_,_,_,_,_,_,_,_,_,_,_,_,_,_,_,_,_]) .no rfl rfl rfl rfl rfl rfl s_3 rfl rfl (.tl .hd) rfl rfl (.all (Qab rfl (Qab rfl rfl)))<|.nil<|bq_n<|sq_n<|.region rfl<|.m rfl rfl<|.q (.inc1 rfl rfl (by omega))<|.z rfl rfl<|.nil<|Qac (PS.mk (x.k+1) (upd x.rv 5 _) (upd x.lo 5 _) (upd x.hi 5 _) (upd x.ids 5 _)) ⟨rfl,rfl,rfl,rfl,rfl,trivial⟩ (.cons _ (List.Sublist.refl _)) (Le.refl _) ?_ ?_
    ·exact hJ.stepq (q:=5) ‹_› (by omega) (by decide) ‹_›
    ·simp only;omega
 ·have kh6:=h6;(try simp only [bk] at kh6)
  refine .exit<|sq_e<|lq_e<|bq_x rfl<|sq_n<|.seq<|.region rfl<|.w (.a (vs:=[_,_,_,_,_,_,_,_,_,_,_,_,_,_,_,_,_,_,_,_,_,_]) rfl .hd a_85 s_85 rfl rfl)<|.st (cs':=[_,_,_,_,_,_,_,_,_,_,_,_,_,_,_,_,_,_,_,_,_,_]) .no rfl rfl rfl rfl s_85 rfl rfl (.tl .hd) rfl (Qa rfl (Qa rfl (Qa (hJ.av 1).one (Qa rfl (Qa rfl (Qa rfl (Qa (hJ.av 2).one (Qa rfl (Qa rfl (Qa rfl (Qa (hJ.av 3).one (Qa rfl (Qa rfl (Qa rfl (Qa (hJ.av 4).one (Qa rfl (Qa rfl (Qa rfl (Qa (hJ.av 5).one (Qa rfl (Qa rfl (Qa (hJ.av 0).one rfl))))))))))))))))))))))<|.nil<|sq_n<|.freezeA intC IntR (idsI ver 0 l) (.tl (.tl (.tl .hd))) (by decide) (fun _=>rfl) (hJ.fin (by omega) 0) (Qd hl20 ver 0) (fun _ _ _ _=>rfl) ?_
  intro g38 hle39 hf40
  replace hr:=hr.mono RoomR.mono hle39
  replace hp:=hp.mono PutR.mono hle39
  replace hl:=fun k hk=>(hl k hk).mono PieceR.mono hle39
  refine .freezeA intC IntR (idsI ver 1 l) (.tl (.tl (.tl .hd))) (by decide) (fun _=>rfl) (hJ.fin (by omega) 1) (Qd hl20 ver 1) (fun _ _ _ _=>rfl) ?_
  intro g41 hle42 hf43
  replace hr:=hr.mono RoomR.mono hle42
  replace hp:=hp.mono PutR.mono hle42
  replace hl:=fun k hk=>(hl k hk).mono PieceR.mono hle42
  replace hf40:=hf40.mono IntR.mono hle42
  refine .freezeA intC IntR (idsI ver 2 l) (.tl (.tl (.tl .hd))) (by decide) (fun _=>rfl) (hJ.fin (by omega) 2) (Qd hl20 ver 2) (fun _ _ _ _=>rfl) ?_
  intro g44 hle45 hf46
  replace hr:=hr.mono RoomR.mono hle45
  replace hp:=hp.mono PutR.mono hle45
  replace hl:=fun k hk=>(hl k hk).mono PieceR.mono hle45
  replace hf40:=hf40.mono IntR.mono hle45
  replace hf43:=hf43.mono IntR.mono hle45
  refine .freezeA intC IntR (idsI ver 3 l) (.tl (.tl (.tl .hd))) (by decide) (fun _=>rfl) (hJ.fin (by omega) 3) (Qd hl20 ver 3) (fun _ _ _ _=>rfl) ?_
  intro g47 hle48 hf49
  replace hr:=hr.mono RoomR.mono hle48
  replace hp:=hp.mono PutR.mono hle48
  replace hl:=fun k hk=>(hl k hk).mono PieceR.mono hle48
  replace hf40:=hf40.mono IntR.mono hle48
  replace hf43:=hf43.mono IntR.mono hle48
  replace hf46:=hf46.mono IntR.mono hle48
  refine .freezeA intC IntR (idsI ver 4 l) (.tl (.tl (.tl .hd))) (by decide) (fun _=>rfl) (hJ.fin (by omega) 4) (Qd hl20 ver 4) (fun _ _ _ _=>rfl) ?_
  intro g50 hle51 hf52
  replace hr:=hr.mono RoomR.mono hle51
  replace hp:=hp.mono PutR.mono hle51
  replace hl:=fun k hk=>(hl k hk).mono PieceR.mono hle51
  replace hf40:=hf40.mono IntR.mono hle51
  replace hf43:=hf43.mono IntR.mono hle51
  replace hf46:=hf46.mono IntR.mono hle51
  replace hf49:=hf49.mono IntR.mono hle51
  refine .freezeA intC IntR (idsI ver 5 l) (.tl (.tl (.tl .hd))) (by decide) (fun _=>rfl) (hJ.fin (by omega) 5) (Qd hl20 ver 5) (fun _ _ _ _=>rfl) ?_
  intro g53 hle54 hf55
  replace hr:=hr.mono RoomR.mono hle54
  replace hp:=hp.mono PutR.mono hle54
  replace hl:=fun k hk=>(hl k hk).mono PieceR.mono hle54
  replace hf40:=hf40.mono IntR.mono hle54
  replace hf43:=hf43.mono IntR.mono hle54
  replace hf46:=hf46.mono IntR.mono hle54
  replace hf49:=hf49.mono IntR.mono hle54
  replace hf52:=hf52.mono IntR.mono hle54
  refine .drop (.cons _ (.cons_cons _ (.cons _ (List.Sublist.refl _))))<|.ret<|Qaa ((((((hle4.trans hle39).trans hle42).trans hle45).trans hle48).trans hle51).trans hle54) (.cell (.a (vs:=[_,_,_,_,_,_,_,_,_,_,_,_,_,_,_,_,_,_,_,_,_,_]) rfl .hd a_85 s_85 rfl rfl) .nil) rfl ?_
  exact ⟨_,List.nil_sublist _,rfl,planR_of idx hJ (by omega) ‹_› ‹_› ‹_› ‹_› ‹_› ‹_›⟩
end Go.Proofs.YtjflgemfeofciaaGreatDoor
