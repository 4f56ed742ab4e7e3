import Derived.Test.YtjflgemfeofciaaGreatDoorMY5
namespace Go.Proofs.YtjflgemfeofciaaGreatDoor
open Go Go.Ev
set_option linter.unusedVariables false
set_option linter.unusedSimpArgs false
set_option maxRecDepth 10000
theorem gplan_ok (c:Code) (ver:Version) (idx e:Int) (l:List Room) (w:V) (cs:List V) (b:Nat) (g:G) (hb:g b=some (.cells cs 132)) (h:QR g c ver idx e cs) (hr:RS RoomR 6 g w l) (hl20:l.length≤20) (hv:ver.puts.all Put.ok=true):Fw Tryz.prog natS (.f 80 [] []) [.p b 0,w] g [] fun g' ml' r=>∃ cs',ml'=[]∧r= .agg cs'∧PlanR g' cs' idx ver l:=by
 refine Fw.forget (Post:=fun g' ml' r=>∃ cs',List.Sublist [] ml'∧r= .agg cs'∧PlanR g' cs' idx ver l) ?_ (fun g' ml' r _ ⟨cs',h1,h2,h3⟩=>⟨_,h1,cs',rfl,h2,h3⟩)
 obtain ⟨vv,p,lv,rfl,hvs,hp,hl⟩:=h
 refine Fw.enter (N:=92) (al:=[(1,_),(0,_)]) Tryz.func80 (by kernel_rfl) (by kernel_rfl) rfl rfl rfl rfl ?_
 intro B
 refine .acc 1 3<|.acc 1 3<|.acc 1 3<|.acc 1 3<|.acc 1 3<|.acc 1 3<|.seq<|.region rfl<|.alloc .no rfl z_85 fun b1=>.nil<|sq_n<|.seq<|.region rfl<|.m rfl rfl<|.q (.nil rfl)<|.q (.fa rfl f_132_2)<|.w (.s rfl (.g hb) a_3 rfl)<|.q (.build (qs:=[(0,_)]) (cs:=[_,_,_,_,_,_,_,_,_,_,_,_,_,_,_,_,_,_,_,_,_,_]) rfl b_85 rfl)<|.alloc .no rfl z_85 fun b2=>.st (cs':=[_,_,_,_,_,_,_,_,_,_,_,_,_,_,_,_,_,_,_,_,_,_]) .no rfl rfl rfl rfl s_85 rfl rfl .hd rfl rfl<|.nil<|sq_n<|.seq<|.seq<|.region rfl<|.m rfl rfl<|.nil<|sq_n<|.block<|.unroll<|.seq<|.region rfl<|.b rfl rfl rfl rfl ?_
 refine .nil<|sq_n<|.seq<|.condT rfl (by decide)<|.skip<|sq_n<|.seq<|.block<|.seq<|.region rfl<|.m rfl rfl<|.z rfl rfl<|.nil<|sq_n<|.region rfl<|.m rfl rfl<|.m rfl rfl<|.q (.addL (c:=1) rfl rfl rfl (by decide))<|.q (.fa rfl Qcr)<|.q (.ixa (j:=0) rfl rfl ae_83 (by decide))<|.q (.fa rfl f_82_0)<|.st (cs':=[_,_,_,_,_,_,_,_,_,_,_,_,_,_,_,_,_,_,_,_,_,_]) .no rfl rfl rfl rfl s_3 rfl rfl .hd rfl rfl<|.nil<|bq_n<|sq_n<|.region rfl<|.q (.addL (c:=1) rfl rfl rfl (by decide))<|.m rfl rfl<|.nil<|sq_n<|.unroll<|.seq<|.region rfl<|.b rfl rfl rfl rfl<|.nil<|sq_n<|.seq ?_
 refine .condT rfl (by decide)<|.skip<|sq_n<|.seq<|.block<|.seq<|.region rfl<|.m rfl rfl<|.z rfl rfl<|.nil<|sq_n<|.region rfl<|.m rfl rfl<|.m rfl rfl<|.q (.addL (c:=2) rfl rfl rfl (by decide))<|.q (.fa rfl Qcr)<|.q (.ixa (j:=1) rfl rfl ae_83 (by decide))<|.q (.fa rfl f_82_0)<|.st (cs':=[_,_,_,_,_,_,_,_,_,_,_,_,_,_,_,_,_,_,_,_,_,_]) .no rfl rfl rfl rfl s_3 rfl rfl .hd rfl rfl<|.nil<|bq_n<|sq_n<|.region rfl<|.q (.addL (c:=2) rfl rfl rfl (by decide))<|.m rfl rfl<|.nil<|sq_n<|.unroll<|.seq<|.region rfl<|.b rfl rfl rfl rfl<|.nil<|sq_n<|.seq<|.condT rfl (by decide)<|.skip<|sq_n ?_
 refine .seq<|.block<|.seq<|.region rfl<|.m rfl rfl<|.z rfl rfl<|.nil<|sq_n<|.region rfl<|.m rfl rfl<|.m rfl rfl<|.q (.addL (c:=3) rfl rfl rfl (by decide))<|.q (.fa rfl Qcr)<|.q (.ixa (j:=2) rfl rfl ae_83 (by decide))<|.q (.fa rfl f_82_0)<|.st (cs':=[_,_,_,_,_,_,_,_,_,_,_,_,_,_,_,_,_,_,_,_,_,_]) .no rfl rfl rfl rfl s_3 rfl rfl .hd rfl rfl<|.nil<|bq_n<|sq_n<|.region rfl<|.q (.addL (c:=3) rfl rfl rfl (by decide))<|.m rfl rfl<|.nil<|sq_n<|.unroll<|.seq<|.region rfl<|.b rfl rfl rfl rfl<|.nil<|sq_n<|.seq<|.condT rfl (by decide)<|.skip<|sq_n<|.seq<|.block ?_
 refine .seq<|.region rfl<|.m rfl rfl<|.z rfl rfl<|.nil<|sq_n<|.region rfl<|.m rfl rfl<|.m rfl rfl<|.q (.addL (c:=4) rfl rfl rfl (by decide))<|.q (.fa rfl Qcr)<|.q (.ixa (j:=3) rfl rfl ae_83 (by decide))<|.q (.fa rfl f_82_0)<|.st (cs':=[_,_,_,_,_,_,_,_,_,_,_,_,_,_,_,_,_,_,_,_,_,_]) .no rfl rfl rfl rfl s_3 rfl rfl .hd rfl rfl<|.nil<|bq_n<|sq_n<|.region rfl<|.q (.addL (c:=4) rfl rfl rfl (by decide))<|.m rfl rfl<|.nil<|sq_n<|.unroll<|.seq<|.region rfl<|.b rfl rfl rfl rfl<|.nil<|sq_n<|.seq<|.condT rfl (by decide)<|.skip<|sq_n<|.seq<|.block<|.seq<|.region rfl ?_
 refine .m rfl rfl<|.z rfl rfl<|.nil<|sq_n<|.region rfl<|.m rfl rfl<|.m rfl rfl<|.q (.addL (c:=5) rfl rfl rfl (by decide))<|.q (.fa rfl Qcr)<|.q (.ixa (j:=4) rfl rfl ae_83 (by decide))<|.q (.fa rfl f_82_0)<|.st (cs':=[_,_,_,_,_,_,_,_,_,_,_,_,_,_,_,_,_,_,_,_,_,_]) .no rfl rfl rfl rfl s_3 rfl rfl .hd rfl rfl<|.nil<|bq_n<|sq_n<|.region rfl<|.q (.addL (c:=5) rfl rfl rfl (by decide))<|.m rfl rfl<|.nil<|sq_n<|.unroll<|.seq<|.region rfl<|.b rfl rfl rfl rfl<|.nil<|sq_n<|.seq<|.condF rfl (by decide)<|.exit<|sq_e<|sq_e<|bq_x rfl<|sq_n<|.seq<|.seq<|.region rfl<|.m rfl rfl<|.q (.lenR rfl rfl rfl e_25 hr)<|.m rfl rfl ?_
 refine .nil<|sq_n<|.block<|.loopx (α:=PS) [(0,_),(4,_),(5,_),(27,_),(28,_)] [_] (fun fx x=>(29,.i .i64 (x.k:Int)) :: fx) (fun mx x=>[.blk b2 (.cells [.i .i64 idx,.i .i64 1,x.rv 1,.i .i64 (x.lo 1),.i .i64 (x.hi 1),.i .i64 2,x.rv 2,.i .i64 (x.lo 2),.i .i64 (x.hi 2),.i .i64 3,x.rv 3,.i .i64 (x.lo 3),.i .i64 (x.hi 3),.i .i64 4,x.rv 4,.i .i64 (x.lo 4),.i .i64 (x.hi 4),.i .i64 5,x.rv 5,.i .i64 (x.lo 5),.i .i64 (x.hi 5),x.rv 0] 85),rg mx 0,.acc (x.rv 0) 1 (x.ids 0) 3,.acc (x.rv 1) 1 (x.ids 1) 3,.acc (x.rv 2) 1 (x.ids 2) 3,.acc (x.rv 3) 1 (x.ids 3) 3,.acc (x.rv 4) 1 (x.ids 4) 3,.acc (x.rv 5) 1 (x.ids 5) 3]) (fun x g'=>PSok ver l x) (fun x=>l.length - x.k) (PS.init) ⟨rfl,rfl,rfl,rfl,rfl,rfl,trivial⟩ (List.Sublist.refl _) (PSok.init ver l) ?_
 intro x g4 hle3 hJ
 replace hb:=hle3 _ _ hb
 replace hr:=hr.mono RoomR.mono hle3
 replace hvs:=hvs.mono VersionR.mono hle3
 replace hp:=hp.mono PutR.mono hle3
 replace hl:=fun k hk=>(hl k hk).mono PieceR.mono hle3
 refine .seq<|.region rfl<|.b rfl rfl rfl rfl<|.nil<|sq_n<|.seq<|.cond rfl (fun h5=>?_) (fun h5=>?_)
 ·have kh5:=h5;(try simp only [bk] at kh5)
  refine .skip<|sq_n<|.seq<|.block<|.seq<|.region rfl<|.ixn .no rfl rfl hr rfl e_25 (by omega) ?_
  intro b6 o6 cs6 y6 hy6 hq6 hr6
  obtain rfl:=hr6
  have hgb6:=grp_bd hv y6
  refine .w (.pa 0 (vs:=[_,_,_,_,_,_]) rfl hq6 rfl a_29 s_29 rfl rfl)<|.alloc .no rfl z_29 fun b7=>.st (cs':=[_,_,_,_,_,_]) .no rfl rfl rfl rfl s_29 rfl rfl .hd rfl rfl<|.nil<|sq_n<|.seq<|.draw (tb:=[r0 0 0,r0 1 0,r0 3 0,r0 7 0,r0 0 0,r1 31 0,r1 63 1,r1 127 1,r1 127 1,r1 255 1,r1 1023 1]) rfl (by kernel_rfl) (by kernel_rfl) ?_
  refine .m rfl rfl<|.q (.nil rfl)<|.q (.fa rfl Qc)<|.y rfl rfl rfl (.a (vs:=[_,_,_,_,_,_,_,_,_,_,_,_]) rfl (.g hb) a_97 s_97 rfl rfl)<|.y rfl rfl rfl (.a (vs:=[_,_,_,_,_,_]) rfl .hd a_29 s_29 rfl rfl)<|.callV .no rfl rfl rfl rfl rfl (group_ok _ _ _ _ ⟨_,_,rfl,hp,hl⟩ hv)<|.m rfl rfl<|.q (.ext rfl rfl)<|.q (.ext rfl rfl)<|.z rfl rfl<|.z rfl rfl<|.nil<|sq_n<|.seq<|.seq<|.region rfl<|.m rfl rfl<|.b rfl rfl rfl rfl<|.nil<|sq_n<|.cond rfl (fun h8=>?_) (fun h8=>?_)
  ·have kh8:=h8;(try simp only [bk] at kh8)
   refine .seq<|.region rfl<|.q (.fa rfl f_85_2)<|.w (.s rfl (.tl .hd) a_66 rfl)<|.q (.fa rfl Qeo)<|.w (.s rfl .hd a_3 rfl)<|.bs .no rfl (qs:=[(0,_)]) (c:=[_]) rfl sl_66 el_3 (by decide) rfl fun b9=>.x .no rfl (.appA (m:=1) (new:=[_]) rfl rfl rfl (.tl (.tl (.tl (.tl .hd)))) sl_66 el_3 (.of rfl .sl sl_66 .hd (Nat.le_of_ble_eq_true rfl) rfl) (by decide) rfl (hJ.app hl20 rfl) rfl) fun v10=>.av (.tl (.tl (.tl (.tl .hd)))) fun av10=>.q (.fa rfl f_85_2)<|.st (cs':=[_,_,_,_,_,_,_,_,_,_,_,_,_,_,_,_,_,_,_,_,_,_]) .no rfl rfl av10.any av10.cells s_66 rfl rfl (.tl (.tl .hd)) rfl (Qa av10.one rfl)<|.nil<|sq_n<|.exit<|sq_e<|bq_x rfl<|sq_n<|.region rfl<|.q (.inc1 rfl rfl (by omega))<|.m rfl rfl<|.nil<|Qac (PS.mk (x.k+1) (upd x.rv 0 _) x.lo x.hi (upd x.ids 0 _)) ⟨rfl,rfl,rfl,rfl,rfl,rfl,trivial⟩ (.cons _ (.cons _ (List.Sublist.refl _))) (Le.refl _) ?_ ?_
   ·exact hJ.step0 ‹_› ‹_› ‹_›
   ·simp only;omega
  ·have kh8:=h8;(try simp only [bk] at kh8)
   refine .skip<|sq_n<|.seq<|.region rfl<|.m rfl rfl<|.q (.sub rfl rfl (by omega))<|.q (.fa rfl Qcr) ?_
   rcases (case5 (ixg ‹0≤(grp ver _).1∧_› ‹¬ (grp ver _).1=0›)) with e11 | e11 | e11 | e11 | e11
   ·have ke11:=e11
    refine .q (.ixae (q:=0) rfl rfl e11 ae_83 (by decide))<|.z rfl rfl<|.nil<|sq_n<|.seq<|.draw (tb:=[r0 0 0,r0 0 0,r0 2 0,r0 6 0,r0 14 0,r0 0 0,r0 32 0,r0 96 0,r1 254 0,r1 511 1,r1 1023 1,r1 2047 1]) rfl (by kernel_rfl) (by kernel_rfl) ?_
    refine .m rfl rfl<|.m rfl rfl<|.q (.nil rfl)<|.q (.fa rfl Qdk)<|.y rfl rfl rfl (.s rfl (.tl .hd) a_66 rfl)<|.q (.fa rfl Qeo)<|.y rfl rfl rfl (.s rfl .hd a_3 rfl)<|.f .no rfl (.bs (qs:=[(0,_)]) (c:=[_]) rfl sl_66 el_3 (by decide) rfl) fun b12=>.x .no rfl rfl (Qch rfl Qci) (Qbp rfl Qbo) (Qcq rfl) (fun _ _=>.all (Qaa rfl (Qaa rfl rfl))) (.appA (m:=1) (new:=[_]) rfl rfl rfl (.tl (.tl (.tl (.tl (.tl .hd))))) sl_66 el_3 (.of rfl .sl sl_66 .hd (Nat.le_of_ble_eq_true rfl) rfl) (by decide) rfl (hJ.app hl20 rfl) rfl) fun v13=>.av (.tl (.tl (.tl (.tl (.tl .hd))))) fun av13=>.q (.nil rfl)<|.q (.fa rfl Qdk)<|.st (cs':=[_,_,_,_,_,_,_,_,_,_,_,_,_,_,_,_,_,_,_,_,_,_]) .no rfl rfl rfl rfl av13.any av13.cells s_66 rfl rfl (.tl (.tl .hd)) rfl (Qa av13.one rfl) (.all (Qaa rfl (Qaa rfl rfl)))<|.nil<|sq_n<|.seq<|.draw (tb:=[r0 0 0,r0 1 0,r0 3 0,r0 7 0,r0 15 0,r0 0 0,r0 32 0,r0 96 0,r1 255 0,r1 511 0,r1 1023 0,r1 2047 0,r1 4095 0]) rfl (by kernel_rfl) (by kernel_rfl) ?_
    refine .m rfl rfl<|.q (.nil rfl)<|.q (.fa rfl Qal)<|.q (.fa rfl Qao)<|.y rfl rfl rfl (.s rfl (.tl (.tl .hd)) a_3 rfl)<|.q (.fa rfl Qbk)<|.q (.fa rfl Qao)<|.y rfl rfl rfl (.s rfl (.tl .hd) a_3 rfl)<|.b rfl rfl rfl rfl<|.q (.nil rfl)<|.q (.fa rfl Qal)<|.q (.fa rfl Qao)<|.st (cs':=[_,_,_,_,_,_,_,_,_,_,_,_,_,_,_,_,_,_,_,_,_,_]) .no rfl rfl rfl rfl rfl rfl s_3 rfl rfl (.tl (.tl .hd)) rfl rfl (.all (Qaa rfl (Qaa rfl rfl)))<|.nil<|sq_n<|.draw (tb:=[r0 0 0,r0 1 0,r0 3 0,r0 7 0,r0 15 0,r0 0 0,r0 32 0,r0 96 0,r1 255 0,r1 511 0,r1 1023 0,r1 2047 0,r1 4095 0]) rfl (by kernel_rfl) (by kernel_rfl) ?_
    refine .m rfl rfl<|.q (.nil rfl)<|.q (.fa rfl Qal)<|.q (.fa rfl Qap)<|.y rfl rfl rfl (.s rfl (.tl (.tl .hd)) a_3 rfl)<|.q (.fa rfl Qbk)<|.q (.fa rfl Qap)<|.y rfl rfl rfl (.s rfl (.tl .hd) a_3 rfl)<|.b rfl rfl rfl rfl<|.q (.nil rfl)<|.q (.fa rfl Qal)<|.q (.fa rfl Qap)<|.st (cs':=[_,_,_,_,_,_,_,_,_,_,_,_,_,_,_,_,_,_,_,_,_,_]) .no rfl rfl rfl rfl rfl rfl s_3 rfl rfl (.tl (.tl .hd)) rfl rfl (.all (Qaa rfl (Qaa rfl rfl)))<|.nil<|bq_n<|sq_n<|.region rfl<|.q (.inc1 rfl rfl (by omega))<|.m rfl rfl<|.nil<|Qac (PS.mk (x.k+1) (upd x.rv 1 _) (upd x.lo 1 _) (upd x.hi 1 _) (upd x.ids 1 _)) ⟨rfl,rfl,rfl,rfl,rfl,rfl,trivial⟩ (.cons _ (.cons _ (List.Sublist.refl _))) (Le.refl _) ?_ ?_
    ·exact hJ.stepq (q:=1) ‹_› (by omega) (by decide) ‹_›
    ·simp only;omega
   ·have ke11:=e11
    refine .q (.ixae (q:=1) rfl rfl e11 ae_83 (by decide))<|.z rfl rfl<|.nil<|sq_n<|.seq<|.draw (tb:=[r0 0 0,r0 0 0,r0 2 0,r0 6 0,r0 14 0,r0 0 0,r0 32 0,r0 96 0,r1 254 0,r1 511 1,r1 1023 1,r1 2047 1]) rfl (by kernel_rfl) (by kernel_rfl) ?_
    refine .m rfl rfl<|.m rfl rfl<|.q (.nil rfl)<|.q (.fa rfl Qdk)<|.y rfl rfl rfl (.s rfl (.tl .hd) a_66 rfl)<|.q (.fa rfl Qeo)<|.y rfl rfl rfl (.s rfl .hd a_3 rfl)<|.f .no rfl (.bs (qs:=[(0,_)]) (c:=[_]) rfl sl_66 el_3 (by decide) rfl) fun b14=>.x .no rfl rfl (Qch rfl Qci) (Qbp rfl Qbo) (Qcq rfl) (fun _ _=>.all (Qaa rfl (Qaa rfl rfl))) (.appA (m:=1) (new:=[_]) rfl rfl rfl (.tl (.tl (.tl (.tl (.tl (.tl .hd)))))) sl_66 el_3 (.of rfl .sl sl_66 .hd (Nat.le_of_ble_eq_true rfl) rfl) (by decide) rfl (hJ.app hl20 rfl) rfl) fun v15=>.av (.tl (.tl (.tl (.tl (.tl (.tl .hd)))))) fun av15=>.q (.nil rfl)<|.q (.fa rfl Qdk)<|.st (cs':=[_,_,_,_,_,_,_,_,_,_,_,_,_,_,_,_,_,_,_,_,_,_]) .no rfl rfl rfl rfl av15.any av15.cells s_66 rfl rfl (.tl (.tl .hd)) rfl (Qa av15.one rfl) (.all (Qaa rfl (Qaa rfl rfl)))<|.nil<|sq_n<|.seq<|.draw (tb:=[r0 0 0,r0 1 0,r0 3 0,r0 7 0,r0 15 0,r0 0 0,r0 32 0,r0 96 0,r1 255 0,r1 511 0,r1 1023 0,r1 2047 0,r1 4095 0]) rfl (by kernel_rfl) (by kernel_rfl) ?_
    refine .m rfl rfl<|.q (.nil rfl)<|.q (.fa rfl Qal)<|.q (.fa rfl Qao)<|.y rfl rfl rfl (.s rfl (.tl (.tl .hd)) a_3 rfl)<|.q (.fa rfl Qbk)<|.q (.fa rfl Qao)<|.y rfl rfl rfl (.s rfl (.tl .hd) a_3 rfl)<|.b rfl rfl rfl rfl<|.q (.nil rfl)<|.q (.fa rfl Qal)<|.q (.fa rfl Qao)<|.st (cs':=[_,_,_,_,_,_,_,_,_,_,_,_,_,_,_,_,_,_,_,_,_,_]) .no rfl rfl rfl rfl rfl rfl s_3 rfl rfl (.tl (.tl .hd)) rfl rfl (.all (Qaa rfl (Qaa rfl rfl)))<|.nil<|sq_n<|.draw (tb:=[r0 0 0,r0 1 0,r0 3 0,r0 7 0,r0 15 0,r0 0 0,r0 32 0,r0 96 0,r1 255 0,r1 511 0,r1 1023 0,r1 2047 0,r1 4095 0]) rfl (by kernel_rfl) (by kernel_rfl) ?_
    refine .m rfl rfl<|.q (.nil rfl)<|.q (.fa rfl Qal)<|.q (.fa rfl Qap)<|.y rfl rfl rfl (.s rfl (.tl (.tl .hd)) a_3 rfl)<|.q (.fa rfl Qbk)<|.q (.fa rfl Qap)<|.y rfl rfl rfl (.s rfl (.tl .hd) a_3 rfl)<|.b rfl rfl rfl rfl<|.q (.nil rfl)<|.q (.fa rfl Qal)<|.q (.fa rfl Qap)<|.st (cs':=[_,_,_,_,_,_,_,_,_,_,_,_,_,_,_,_,_,_,_,_,_,_]) .no rfl rfl rfl rfl rfl rfl s_3 rfl rfl (.tl (.tl .hd)) rfl rfl (.all (Qaa rfl (Qaa rfl rfl)))<|.nil<|bq_n<|sq_n<|.region rfl<|.q (.inc1 rfl rfl (by omega))<|.m rfl rfl<|.nil<|Qac (PS.mk (x.k+1) (upd x.rv 2 _) (upd x.lo 2 _) (upd x.hi 2 _) (upd x.ids 2 _)) ⟨rfl,rfl,rfl,rfl,rfl,rfl,trivial⟩ (.cons _ (.cons _ (List.Sublist.refl _))) (Le.refl _) ?_ ?_
    ·exact hJ.stepq (q:=2) ‹_› (by omega) (by decide) ‹_›
    ·simp only;omega
   ·have ke11:=e11
    refine .q (.ixae (q:=2) rfl rfl e11 ae_83 (by decide))<|.z rfl rfl<|.nil<|sq_n<|.seq<|.draw (tb:=[r0 0 0,r0 0 0,r0 2 0,r0 6 0,r0 14 0,r0 0 0,r0 32 0,r0 96 0,r1 254 0,r1 511 1,r1 1023 1,r1 2047 1]) rfl (by kernel_rfl) (by kernel_rfl) ?_
    refine .m rfl rfl<|.m rfl rfl<|.q (.nil rfl)<|.q (.fa rfl Qdk)<|.y rfl rfl rfl (.s rfl (.tl .hd) a_66 rfl)<|.q (.fa rfl Qeo)<|.y rfl rfl rfl (.s rfl .hd a_3 rfl)<|.f .no rfl (.bs (qs:=[(0,_)]) (c:=[_]) rfl sl_66 el_3 (by decide) rfl) fun b16=>.x .no rfl rfl (Qch rfl Qci) (Qbp rfl Qbo) (Qcq rfl) (fun _ _=>.all (Qaa rfl (Qaa rfl rfl))) (.appA (m:=1) (new:=[_]) rfl rfl rfl (.tl (.tl (.tl (.tl (.tl (.tl (.tl .hd))))))) sl_66 el_3 (.of rfl .sl sl_66 .hd (Nat.le_of_ble_eq_true rfl) rfl) (by decide) rfl (hJ.app hl20 rfl) rfl) fun v17=>.av (.tl (.tl (.tl (.tl (.tl (.tl (.tl .hd))))))) fun av17=>.q (.nil rfl)<|.q (.fa rfl Qdk)<|.st (cs':=[_,_,_,_,_,_,_,_,_,_,_,_,_,_,_,_,_,_,_,_,_,_]) .no rfl rfl rfl rfl av17.any av17.cells s_66 rfl rfl (.tl (.tl .hd)) rfl (Qa av17.one rfl) (.all (Qaa rfl (Qaa rfl rfl)))<|.nil<|sq_n<|.seq<|.draw (tb:=[r0 0 0,r0 1 0,r0 3 0,r0 7 0,r0 15 0,r0 0 0,r0 32 0,r0 96 0,r1 255 0,r1 511 0,r1 1023 0,r1 2047 0,r1 4095 0]) rfl (by kernel_rfl) (by kernel_rfl) ?_
    refine .m rfl rfl<|.q (.nil rfl)<|.q (.fa rfl Qal)<|.q (.fa rfl Qao)<|.y rfl rfl rfl (.s rfl (.tl (.tl .hd)) a_3 rfl)<|.q (.fa rfl Qbk)<|.q (.fa rfl Qao)<|.y rfl rfl rfl (.s rfl (.tl .hd) a_3 rfl)<|.b rfl rfl rfl rfl<|.q (.nil rfl)<|.q (.fa rfl Qal)<|.q (.fa rfl Qao)<|.st (cs':=[_,_,_,_,_,_,_,_,_,_,_,_,_,_,_,_,_,_,_,_,_,_]) .no rfl rfl rfl rfl rfl rfl s_3 rfl rfl (.tl (.tl .hd)) rfl rfl (.all (Qaa rfl (Qaa rfl rfl)))<|.nil<|sq_n<|.draw (tb:=[r0 0 0,r0 1 0,r0 3 0,r0 7 0,r0 15 0,r0 0 0,r0 32 0,r0 96 0,r1 255 0,r1 511 0,r1 1023 0,r1 2047 0,r1 4095 0]) rfl (by kernel_rfl) (by kernel_rfl) ?_
    refine .m rfl rfl<|.q (.nil rfl)<|.q (.fa rfl Qal)<|.q (.fa rfl Qap)<|.y rfl rfl rfl (.s rfl (.tl (.tl .hd)) a_3 rfl)<|.q (.fa rfl Qbk)<|.q (.fa rfl Qap)<|.y rfl rfl rfl (.s rfl (.tl .hd) a_3 rfl)<|.b rfl rfl rfl rfl<|.q (.nil rfl)<|.q (.fa rfl Qal)<|.q (.fa rfl Qap)<|.st (cs':=[_,_,_,_,_,_,_,_,_,_,_,_,_,_,_,_,_,_,_,_,_,_]) .no rfl rfl rfl rfl rfl rfl s_3 rfl rfl (.tl (.tl .hd)) rfl rfl (.all (Qaa rfl (Qaa rfl rfl)))<|.nil<|bq_n<|sq_n<|.region rfl<|.q (.inc1 rfl rfl (by omega))<|.m rfl rfl<|.nil<|Qac (PS.mk (x.k+1) (upd x.rv 3 _) (upd x.lo 3 _) (upd x.hi 3 _) (upd x.ids 3 _)) ⟨rfl,rfl,rfl,rfl,rfl,rfl,trivial⟩ (.cons _ (.cons _ (List.Sublist.refl _))) (Le.refl _) ?_ ?_
    ·exact hJ.stepq (q:=3) ‹_› (by omega) (by decide) ‹_›
    ·simp only;omega
   ·have ke11:=e11
    refine .q (.ixae (q:=3) rfl rfl e11 ae_83 (by decide))<|.z rfl rfl<|.nil<|sq_n<|.seq<|.draw (tb:=[r0 0 0,r0 0 0,r0 2 0,r0 6 0,r0 14 0,r0 0 0,r0 32 0,r0 96 0,r1 254 0,r1 511 1,r1 1023 1,r1 2047 1]) rfl (by kernel_rfl) (by kernel_rfl) ?_
    refine .m rfl rfl<|.m rfl rfl<|.q (.nil rfl)<|.q (.fa rfl Qdk)<|.y rfl rfl rfl (.s rfl (.tl .hd) a_66 rfl)<|.q (.fa rfl Qeo)<|.y rfl rfl rfl (.s rfl .hd a_3 rfl)<|.f .no rfl (.bs (qs:=[(0,_)]) (c:=[_]) rfl sl_66 el_3 (by decide) rfl) fun b18=>.x .no rfl rfl (Qch rfl Qci) (Qbp rfl Qbo) (Qcq rfl) (fun _ _=>.all (Qaa rfl (Qaa rfl rfl))) (.appA (m:=1) (new:=[_]) rfl rfl rfl (.tl (.tl (.tl (.tl (.tl (.tl (.tl (.tl .hd)))))))) sl_66 el_3 (.of rfl .sl sl_66 .hd (Nat.le_of_ble_eq_true rfl) rfl) (by decide) rfl (hJ.app hl20 rfl) rfl) fun v19=>.av (.tl (.tl (.tl (.tl (.tl (.tl (.tl (.tl .hd)))))))) fun av19=>.q (.nil rfl)<|.q (.fa rfl Qdk)<|.st (cs':=[_,_,_,_,_,_,_,_,_,_,_,_,_,_,_,_,_,_,_,_,_,_]) .no rfl rfl rfl rfl av19.any av19.cells s_66 rfl rfl (.tl (.tl .hd)) rfl (Qa av19.one rfl) (.all (Qaa rfl (Qaa rfl rfl)))<|.nil<|sq_n<|.seq<|.draw (tb:=[r0 0 0,r0 1 0,r0 3 0,r0 7 0,r0 15 0,r0 0 0,r0 32 0,r0 96 0,r1 255 0,r1 511 0,r1 1023 0,r1 2047 0,r1 4095 0]) rfl (by kernel_rfl) (by kernel_rfl) ?_
    refine .m rfl rfl<|.q (.nil rfl)<|.q (.fa rfl Qal)<|.q (.fa rfl Qao)<|.y rfl rfl rfl (.s rfl (.tl (.tl .hd)) a_3 rfl)<|.q (.fa rfl Qbk)<|.q (.fa rfl Qao)<|.y rfl rfl rfl (.s rfl (.tl .hd) a_3 rfl)<|.b rfl rfl rfl rfl<|.q (.nil rfl)<|.q (.fa rfl Qal)<|.q (.fa rfl Qao)<|.st (cs':=[_,_,_,_,_,_,_,_,_,_,_,_,_,_,_,_,_,_,_,_,_,_]) .no rfl rfl rfl rfl rfl rfl s_3 rfl rfl (.tl (.tl .hd)) rfl rfl (.all (Qaa rfl (Qaa rfl rfl)))<|.nil<|sq_n<|.draw (tb:=[r0 0 0,r0 1 0,r0 3 0,r0 7 0,r0 15 0,r0 0 0,r0 32 0,r0 96 0,r1 255 0,r1 511 0,r1 1023 0,r1 2047 0,r1 4095 0]) rfl (by kernel_rfl) (by kernel_rfl) ?_
    refine .m rfl rfl<|.q (.nil rfl)<|.q (.fa rfl Qal)<|.q (.fa rfl Qap)<|.y rfl rfl rfl (.s rfl (.tl (.tl .hd)) a_3 rfl)<|.q (.fa rfl Qbk)<|.q (.fa rfl Qap)<|.y rfl rfl rfl (.s rfl (.tl .hd) a_3 rfl)<|.b rfl rfl rfl rfl<|.q (.nil rfl)<|.q (.fa rfl Qal)<|.q (.fa rfl Qap)<|.st (cs':=[_,_,_,_,_,_,_,_,_,_,_,_,_,_,_,_,_,_,_,_,_,_]) .no rfl rfl rfl rfl rfl rfl s_3 rfl rfl (.tl (.tl .hd)) rfl rfl (.all (Qaa rfl (Qaa rfl rfl)))<|.nil<|bq_n<|sq_n<|.region rfl<|.q (.inc1 rfl rfl (by omega))<|.m rfl rfl<|.nil<|Qac (PS.mk (x.k+1) (upd x.rv 4 _) (upd x.lo 4 _) (upd x.hi 4 _) (upd x.ids 4 _)) ⟨rfl,rfl,rfl,rfl,rfl,rfl,trivial⟩ (.cons _ (.cons _ (List.Sublist.refl _))) (Le.refl _) ?_ ?_
    ·exact hJ.stepq (q:=4) ‹_› (by omega) (by decide) ‹_›
    ·simp only;omega
   ·have ke11:=e11
    refine .q (.ixae (q:=4) rfl rfl e11 ae_83 (by decide))<|.z rfl rfl<|.nil<|sq_n<|.seq<|.draw (tb:=[r0 0 0,r0 0 0,r0 2 0,r0 6 0,r0 14 0,r0 0 0,r0 32 0,r0 96 0,r1 254 0,r1 511 1,r1 1023 1,r1 2047 1]) rfl (by kernel_rfl) (by kernel_rfl) ?_
    refine .m rfl rfl<|.m rfl rfl<|.q (.nil rfl)<|.q (.fa rfl Qdk)<|.y rfl rfl rfl (.s rfl (.tl .hd) a_66 rfl)<|.q (.fa rfl Qeo)<|.y rfl rfl rfl (.s rfl .hd a_3 rfl)<|.f .no rfl (.bs (qs:=[(0,_)]) (c:=[_]) rfl sl_66 el_3 (by decide) rfl) fun b20=>.x .no rfl rfl (Qch rfl Qci) (Qbp rfl Qbo) (Qcq rfl) (fun _ _=>.all (Qaa rfl (Qaa rfl rfl))) (.appA (m:=1) (new:=[_]) rfl rfl rfl (.tl (.tl (.tl (.tl (.tl (.tl (.tl (.tl (.tl .hd))))))))) sl_66 el_3 (.of rfl .sl sl_66 .hd (Nat.le_of_ble_eq_true rfl) rfl) (by decide) rfl (hJ.app hl20 rfl) rfl) fun v21=>.av (.tl (.tl (.tl (.tl (.tl (.tl (.tl (.tl (.tl .hd))))))))) fun av21=>.q (.nil rfl)<|.q (.fa rfl Qdk)<|.st (cs':=[_,_,_,_,_,_,_,_,_,_,_,_,_,_,_,_,_,_,_,_,_,_]) .no rfl rfl rfl rfl av21.any av21.cells s_66 rfl rfl (.tl (.tl .hd)) rfl (Qa av21.one rfl) (.all (Qaa rfl (Qaa rfl rfl)))<|.nil<|sq_n<|.seq<|.draw (tb:=[r0 0 0,r0 1 0,r0 3 0,r0 7 0,r0 15 0,r0 0 0,r0 32 0,r0 96 0,r1 255 0,r1 511 0,r1 1023 0,r1 2047 0,r1 4095 0]) rfl (by kernel_rfl) (by kernel_rfl) ?_
    refine .m rfl rfl<|.q (.nil rfl)<|.q (.fa rfl Qal)<|.q (.fa rfl Qao)<|.y rfl rfl rfl (.s rfl (.tl (.tl .hd)) a_3 rfl)<|.q (.fa rfl Qbk)<|.q (.fa rfl Qao)<|.y rfl rfl rfl (.s rfl (.tl .hd) a_3 rfl)<|.b rfl rfl rfl rfl<|.q (.nil rfl)<|.q (.fa rfl Qal)<|.q (.fa rfl Qao)<|.st (cs':=[_,_,_,_,_,_,_,_,_,_,_,_,_,_,_,_,_,_,_,_,_,_]) .no rfl rfl rfl rfl rfl rfl s_3 rfl rfl (.tl (.tl .hd)) rfl rfl (.all (Qaa rfl (Qaa rfl rfl)))<|.nil<|sq_n<|.draw (tb:=[r0 0 0,r0 1 0,r0 3 0,r0 7 0,r0 15 0,r0 0 0,r0 32 0,r0 96 0,r1 255 0,r1 511 0,r1 1023 0,r1 2047 0,r1 4095 0]) rfl (by kernel_rfl) (by kernel_rfl) ?_
    refine .m rfl rfl<|.q (.nil rfl)<|.q (.fa rfl Qal)<|.q (.fa rfl Qap)<|.y rfl rfl rfl (.s rfl (.tl (.tl .hd)) a_3 rfl)<|.q (.fa rfl Qbk)<|.q (.fa rfl Qap)<|.y rfl rfl rfl (.s rfl (.tl .hd) a_3 rfl)<|.b rfl rfl rfl rfl<|.q (.nil rfl)<|.q (.fa rfl Qal)<|.q (.fa rfl Qap)<|.st (cs':=[_,_,_,_,_,_,_,_,_,_,_,_,_,_,_,_,_,_,_,_,_,_]) .no rfl rfl rfl rfl rfl rfl s_3 rfl rfl (.tl (.tl .hd)) rfl rfl (.all (Qaa rfl (Qaa rfl rfl)))<|.nil<|bq_n<|sq_n<|.region rfl<|.q (.inc1 rfl rfl (by omega))<|.m rfl rfl<|.nil<|Qac (PS.mk (x.k+1) (upd x.rv 5 _) (upd x.lo 5 _) (upd x.hi 5 _) (upd x.ids 5 _)) ⟨rfl,rfl,rfl,rfl,rfl,rfl,trivial⟩ (.cons _ (.cons _ (List.Sublist.refl _))) (Le.refl _) ?_ ?_
    ·exact hJ.stepq (q:=5) ‹_› (by omega) (by decide) ‹_›
    ·simp only;omega
 ·have kh5:=h5;(try simp only [bk] at kh5)
  refine .exit<|sq_e<|lq_e<|bq_x rfl<|sq_n<|.seq<|.region rfl<|.w (.a (vs:=[_,_,_,_,_,_,_,_,_,_,_,_,_,_,_,_,_,_,_,_,_,_]) rfl .hd a_85 s_85 rfl rfl)<|.st (cs':=[_,_,_,_,_,_,_,_,_,_,_,_,_,_,_,_,_,_,_,_,_,_]) .no rfl rfl rfl rfl s_85 rfl rfl (.tl .hd) rfl (Qa rfl (Qa rfl (Qa (hJ.av 1).one (Qa rfl (Qa rfl (Qa rfl (Qa (hJ.av 2).one (Qa rfl (Qa rfl (Qa rfl (Qa (hJ.av 3).one (Qa rfl (Qa rfl (Qa rfl (Qa (hJ.av 4).one (Qa rfl (Qa rfl (Qa rfl (Qa (hJ.av 5).one (Qa rfl (Qa rfl (Qa (hJ.av 0).one rfl))))))))))))))))))))))<|.nil<|sq_n<|.freezeA intC IntR (idsI ver 0 l) (.tl (.tl .hd)) (by decide) (fun _=>rfl) (hJ.fin (by omega) 0) (Qed hl20 ver 0) (fun _ _ _ _=>rfl) ?_
  intro g22 hle23 hf24
  replace hb:=hle23 _ _ hb
  replace hr:=hr.mono RoomR.mono hle23
  replace hvs:=hvs.mono VersionR.mono hle23
  replace hp:=hp.mono PutR.mono hle23
  replace hl:=fun k hk=>(hl k hk).mono PieceR.mono hle23
  refine .freezeA intC IntR (idsI ver 1 l) (.tl (.tl .hd)) (by decide) (fun _=>rfl) (hJ.fin (by omega) 1) (Qed hl20 ver 1) (fun _ _ _ _=>rfl) ?_
  intro g25 hle26 hf27
  replace hb:=hle26 _ _ hb
  replace hr:=hr.mono RoomR.mono hle26
  replace hvs:=hvs.mono VersionR.mono hle26
  replace hp:=hp.mono PutR.mono hle26
  replace hl:=fun k hk=>(hl k hk).mono PieceR.mono hle26
  replace hf24:=hf24.mono IntR.mono hle26
  refine .freezeA intC IntR (idsI ver 2 l) (.tl (.tl .hd)) (by decide) (fun _=>rfl) (hJ.fin (by omega) 2) (Qed hl20 ver 2) (fun _ _ _ _=>rfl) ?_
  intro g28 hle29 hf30
  replace hb:=hle29 _ _ hb
  replace hr:=hr.mono RoomR.mono hle29
  replace hvs:=hvs.mono VersionR.mono hle29
  replace hp:=hp.mono PutR.mono hle29
  replace hl:=fun k hk=>(hl k hk).mono PieceR.mono hle29
  replace hf24:=hf24.mono IntR.mono hle29
  replace hf27:=hf27.mono IntR.mono hle29
  refine .freezeA intC IntR (idsI ver 3 l) (.tl (.tl .hd)) (by decide) (fun _=>rfl) (hJ.fin (by omega) 3) (Qed hl20 ver 3) (fun _ _ _ _=>rfl) ?_
  intro g31 hle32 hf33
  replace hb:=hle32 _ _ hb
  replace hr:=hr.mono RoomR.mono hle32
  replace hvs:=hvs.mono VersionR.mono hle32
  replace hp:=hp.mono PutR.mono hle32
  replace hl:=fun k hk=>(hl k hk).mono PieceR.mono hle32
  replace hf24:=hf24.mono IntR.mono hle32
  replace hf27:=hf27.mono IntR.mono hle32
  replace hf30:=hf30.mono IntR.mono hle32
  refine .freezeA intC IntR (idsI ver 4 l) (.tl (.tl .hd)) (by decide) (fun _=>rfl) (hJ.fin (by omega) 4) (Qed hl20 ver 4) (fun _ _ _ _=>rfl) ?_
  intro g34 hle35 hf36
  replace hb:=hle35 _ _ hb
  replace hr:=hr.mono RoomR.mono hle35
  replace hvs:=hvs.mono VersionR.mono hle35
  replace hp:=hp.mono PutR.mono hle35
  replace hl:=fun k hk=>(hl k hk).mono PieceR.mono hle35
  replace hf24:=hf24.mono IntR.mono hle35
  replace hf27:=hf27.mono IntR.mono hle35
  replace hf30:=hf30.mono IntR.mono hle35
  replace hf33:=hf33.mono IntR.mono hle35
  refine .freezeA intC IntR (idsI ver 5 l) (.tl (.tl .hd)) (by decide) (fun _=>rfl) (hJ.fin (by omega) 5) (Qed hl20 ver 5) (fun _ _ _ _=>rfl) ?_
  intro g37 hle38 hf39
  replace hb:=hle38 _ _ hb
  replace hr:=hr.mono RoomR.mono hle38
  replace hvs:=hvs.mono VersionR.mono hle38
  replace hp:=hp.mono PutR.mono hle38
  replace hl:=fun k hk=>(hl k hk).mono PieceR.mono hle38
  replace hf24:=hf24.mono IntR.mono hle38
  replace hf27:=hf27.mono IntR.mono hle38
  replace hf30:=hf30.mono IntR.mono hle38
  replace hf33:=hf33.mono IntR.mono hle38
  replace hf36:=hf36.mono IntR.mono hle38
  refine .drop (.cons _ (List.Sublist.refl _))<|.ret<|Qab ((((((hle3.trans hle23).trans hle26).trans hle29).trans hle32).trans hle35).trans hle38) (.cell (.a (vs:=[_,_,_,_,_,_,_,_,_,_,_,_,_,_,_,_,_,_,_,_,_,_]) rfl .hd a_85 s_85 rfl rfl) .nil) rfl ?_
  exact ⟨_,List.nil_sublist _,rfl,planR_of idx hJ (by omega) ‹_› ‹_› ‹_› ‹_› ‹_› ‹_›⟩
end Go.Proofs.YtjflgemfeofciaaGreatDoor
