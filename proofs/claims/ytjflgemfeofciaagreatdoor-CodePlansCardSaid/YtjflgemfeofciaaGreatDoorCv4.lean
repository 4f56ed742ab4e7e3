import Derived.Test.YtjflgemfeofciaaGreatDoorCl4
namespace Go.Proofs.YtjflgemfeofciaaGreatDoor
open Go Go.Ev
set_option linter.unusedVariables false
set_option linter.unusedSimpArgs false
set_option maxRecDepth 10000
def Version.ok (v:Version):Bool:=Qae v.fr 0 100000 && (decide (v.puts.length≤20) && (v.puts.all Put.ok && allR (fun k=>lineB (v.ln k)) 10))
theorem isVersion1_ok (p:Put) (cs:List V) (g:G) (h:PutR g cs p):Fv Tryz.prog natS (.f 126 [] []) [.agg cs] g (.b (!p.ok)):=by
 obtain ⟨v,rfl,h⟩:=h
 refine Fw.fv ?_
 refine Fw.enter (N:=6) (al:=[(0,_)]) Tryz.func126 (by kernel_rfl) (by kernel_rfl) rfl rfl rfl rfl ?_
 intro B
 refine .seq<|.region rfl<|.box .no rfl rfl rfl rfl fun b1=>.z rfl rfl<|.nil<|sq_n<|.seq<|.region rfl<|.w (.a (vs:=[_,_]) rfl .hd a_170 s_170 rfl rfl)<|.callV .no rfl rfl rfl (isPut_ok _ _ _ ⟨_,rfl,h⟩)<|.q (.not rfl)<|.z rfl rfl<|.nil<|sq_n<|.ret<|Qaa (Le.refl _) (.tmp rfl .nil) rfl ?_
 rfl
theorem IndexFuncP_ok (l:List Put) (v f:V) (p:Put→Bool) (hf:∀ t cs g,PutR g cs t→Fv Tryz.prog natS f [.agg cs] g (.b (p t))) (g:G) (h:RS PutR 2 g v l):Fv Tryz.prog natS (.f 162 [] []) [v,f] g (.i .i64 (fidx p l 0)):=by
 refine Fw.fv ?_
 have hlen:=h.1
 refine Fw.enter (N:=19) (al:=[(1,_),(0,_)]) Tryz.func162 (by kernel_rfl) (by kernel_rfl) rfl rfl rfl rfl ?_
 intro B
 refine .seq<|.region rfl<|.z rfl rfl<|.nil<|sq_n<|.seq<|.seq<|.region rfl<|.m rfl rfl<|.q (.lenR rfl rfl rfl e_92 h)<|.m rfl rfl<|.nil<|sq_n<|.block<|.loopx (α:=Nat) [(0,_),(1,_),(7,_)] _ (fun fx k=>(8,.i .i64 (k:Int)) :: fx) (fun mx _=>mx) (fun k g'=>k≤l.length∧fidx p (l.drop k) k=fidx p l 0) (fun k=>l.length - k) (0) ⟨rfl,rfl,rfl,rfl,trivial⟩ (List.Sublist.refl _) ⟨by omega,rfl⟩ ?_
 intro k g2 hle1 hJ
 obtain ⟨hk,hg⟩:=hJ
 replace h:=h.mono PutR.mono hle1
 refine .seq<|.region rfl<|.b rfl rfl rfl rfl<|.nil<|sq_n<|.seq<|.cond rfl (fun h3=>?_) (fun h3=>?_)
 ·have kh3:=h3;(try simp only [bk] at kh3)
  refine .skip<|sq_n<|.seq<|.block<|.seq<|.region rfl<|.m rfl rfl<|.z rfl rfl<|.nil<|sq_n<|.seq<|.region rfl<|.m rfl rfl<|.m rfl rfl<|.m rfl rfl<|.ixn .no rfl rfl h rfl e_92 (by omega) ?_
  intro b4 o4 cs4 y4 hy4 hq4 hr4
  obtain ⟨v4,rfl,ht4⟩:=hr4
  refine .w (.pa 0 (vs:=[_,_]) rfl hq4 rfl a_170 s_170 rfl rfl)<|.callV .no rfl rfl rfl (hf _ _ _ ⟨_,rfl,ht4⟩)<|.nil<|sq_n<|.cond rfl (fun h5=>?_) (fun h5=>?_)
  ·have kh5:=h5;(try simp only [bk] at kh5)
   refine .seq<|.region rfl<|.m rfl rfl<|.z rfl rfl<|.nil<|sq_n<|.ret<|bq_r<|sq_r<|lq_r<|bq_r<|sq_r<|Qaa hle1 (.tmp rfl .nil) rfl ?_
   first | (rw [←hg,dc (k:=k) ‹_›];simp_all [fidx];done) | (rw [←hg,dn (by omega)];rfl)
  ·have kh5:=h5;(try simp only [bk] at kh5)
   refine .skip<|bq_n<|sq_n<|.region rfl<|.q (.inc1 rfl rfl (by omega))<|.m rfl rfl<|.nil<|Qac (k+1) ⟨rfl,rfl,rfl,rfl,trivial⟩ (List.Sublist.refl _) (Le.refl _) ?_ ?_
   ·refine ⟨by omega,?_⟩;rw [←hg,dc (k:=k) ‹_›];simp_all [fidx]
   ·omega
 ·have kh3:=h3;(try simp only [bk] at kh3)
  refine .exit<|sq_e<|lq_e<|bq_x rfl<|sq_n<|.seq<|.region rfl<|.z rfl rfl<|.nil<|sq_n<|.ret<|Qaa hle1 (.tmp rfl .nil) rfl ?_
  first | (rw [←hg,dc (k:=k) ‹_›];simp_all [fidx];done) | (rw [←hg,dn (by omega)];rfl)
theorem ContainsFuncP_ok (l:List Put) (v f:V) (p:Put→Bool) (hf:∀ t cs g,PutR g cs t→Fv Tryz.prog natS f [.agg cs] g (.b (p t))) (g:G) (h:RS PutR 2 g v l):Fv Tryz.prog natS (.f 125 [] []) [v,f] g (.b (l.any p)):=by
 refine Fw.fv ?_
 refine Fw.enter (N:=9) (al:=[(1,_),(0,_)]) Tryz.func125 (by kernel_rfl) (by kernel_rfl) rfl rfl rfl rfl ?_
 intro B
 refine .seq<|.region rfl<|.z rfl rfl<|.nil<|sq_n<|.seq<|.region rfl<|.m rfl rfl<|.m rfl rfl<|.callV .no rfl rfl rfl (IndexFuncP_ok _ _ _ p hf _ h)<|.b rfl rfl rfl rfl<|.z rfl rfl<|.nil<|sq_n<|.ret<|Qaa (Le.refl _) (.tmp rfl .nil) rfl ?_
 rw [←fidx_any p l 0]
theorem isVersion_ok (v:Version) (cs:List V) (g:G) (h:VersionR g cs v):Fv Tryz.prog natS (.f 68 [] []) [.agg cs] g (.b v.ok):=by
 obtain ⟨p,lv,rfl,hp,hl⟩:=h
 refine Fw.fv ?_
 refine Fw.enter (N:=36) (al:=[(0,_)]) Tryz.func68 (by kernel_rfl) (by kernel_rfl) rfl rfl rfl rfl ?_
 intro B
 refine .seq<|.region rfl<|.box .no rfl rfl rfl rfl fun b1=>.z rfl rfl<|.nil<|sq_n<|.seq<|.seq<|.region rfl<|.q (.fa rfl f_97_0)<|.w (.s rfl .hd a_3 rfl)<|.callV .no rfl rfl rfl (Qai _ _ _ _)<|.q (.not rfl)<|.m rfl rfl<|.split (t:=11) rfl (fun h2=>?_) (fun h2=>?_)
 ·refine .k h2<|.k h2<|.k h2<|.k h2<|.q (.pickT rfl h2 rfl)<|.m rfl rfl<|.k rfl<|.k rfl<|.k rfl<|.q (.pickT rfl rfl rfl)<|.nil<|sq_n<|.condT rfl rfl<|.seq<|.region rfl<|.z rfl rfl<|.nil<|sq_n<|.ret<|sq_r<|Qaa (Le.refl _) (.tmp rfl .nil) rfl<|congrArg V.b ?_;simp only [Version.ok,allR];grind
 ·refine .py h2 (.fa rfl f_97_1)<|.wy h2 (.s rfl .hd a_92 rfl)<|.py h2 (.lenR rfl rfl rfl e_92 hp)<|.py h2 (.bin rfl rfl rfl)<|.q (.pickF rfl h2 rfl)<|.m rfl rfl<|.split (t:=17) rfl (fun h3=>?_) (fun h3=>?_)
  ·refine .k h3<|.k h3<|.k h3<|.q (.pickT rfl h3 rfl)<|.nil<|sq_n<|.condT rfl rfl<|.seq<|.region rfl<|.z rfl rfl<|.nil<|sq_n<|.ret<|sq_r<|Qaa (Le.refl _) (.tmp rfl .nil) rfl<|congrArg V.b ?_;simp only [Version.ok,allR];grind
  ·refine .py h3 (.fa rfl f_97_1)<|.wy h3 (.s rfl .hd a_92 rfl)<|.callV (.yes rfl rfl h3) rfl rfl rfl (ContainsFuncP_ok _ _ _ _ isVersion1_ok _ hp)<|.q (.pickF rfl h3 rfl)<|.nil<|sq_n<|.cond rfl (fun h4=>?_) (fun h4=>?_)
   ·refine .seq<|.region rfl<|.z rfl rfl<|.nil<|sq_n<|.ret<|sq_r<|Qaa (Le.refl _) (.tmp rfl .nil) rfl<|congrArg V.b ?_;simp only [Version.ok,allR];grind
   ·refine .skip<|sq_n<|.seq<|.seq<|.region rfl<|.q (.fa rfl f_97_2)<|.w (.a (vs:=[_,_,_,_,_,_,_,_,_,_]) rfl .hd a_95 s_95 rfl rfl)<|.m rfl rfl<|.nil<|sq_n<|.block<|.unroll<|.seq<|.region rfl<|.b rfl rfl rfl rfl<|.nil<|sq_n<|.seq<|.condT rfl (by decide)<|.skip<|sq_n<|.seq<|.block<|.seq<|.region rfl<|.q (.ixv (j:=0) rfl rfl ar_95 s_94 (by decide) (by rfl)) ?_
    refine .alloc .no rfl z_94 fun b5=>.st (cs':=[_,_,_,_,_]) .no rfl rfl rfl rfl s_94 rfl rfl .hd rfl (Qa (hl 0 (by decide)).one (Qa (hl 1 (by decide)).one (Qa (hl 2 (by decide)).one (Qa (hl 3 (by decide)).one (Qa (hl 4 (by decide)).one rfl)))))<|.nil<|sq_n<|.seq<|.region rfl<|.w (.a (vs:=[_,_,_,_,_]) rfl .hd a_94 s_94 rfl rfl)<|.m rfl rfl<|.nil<|sq_n<|.block<|.unroll<|.seq<|.region rfl<|.b rfl rfl rfl rfl<|.nil<|sq_n<|.seq<|.condT rfl (by decide)<|.skip<|sq_n<|.seq<|.block<|.seq<|.region rfl<|.q (.ixv (j:=0) rfl rfl ar_94 s_93 (by decide) (by rfl)) ?_
    refine .z rfl rfl<|.nil<|sq_n<|.seq<|.region rfl<|.m rfl rfl<|.callV .no rfl rfl rfl (Qbs _ _ _ (hl 0 (by decide)))<|.q (.not rfl)<|.nil<|sq_n<|.cond rfl (fun h6=>?_) (fun h6=>?_)
    ·refine .seq<|.region rfl<|.z rfl rfl<|.nil<|sq_n<|.ret<|bq_r<|sq_r<|sq_r<|bq_r<|bq_r<|sq_r<|sq_r<|bq_r<|sq_r<|Qaa (Le.refl _) (.tmp rfl .nil) rfl<|congrArg V.b ?_;simp only [Version.ok,allR];grind
    ·refine .skip<|bq_n<|sq_n<|.region rfl<|.q (.addL (c:=1) rfl rfl rfl (by decide))<|.m rfl rfl<|.nil<|sq_n<|.unroll<|.seq<|.region rfl<|.b rfl rfl rfl rfl<|.nil<|sq_n<|.seq<|.condT rfl (by decide)<|.skip<|sq_n<|.seq<|.block<|.seq<|.region rfl<|.q (.ixv (j:=1) rfl rfl ar_94 s_93 (by decide) (by rfl)) ?_
     refine .z rfl rfl<|.nil<|sq_n<|.seq<|.region rfl<|.m rfl rfl<|.callV .no rfl rfl rfl (Qbs _ _ _ (hl 1 (by decide)))<|.q (.not rfl)<|.nil<|sq_n<|.cond rfl (fun h7=>?_) (fun h7=>?_)
     ·refine .seq<|.region rfl<|.z rfl rfl<|.nil<|sq_n<|.ret<|bq_r<|sq_r<|sq_r<|bq_r<|bq_r<|sq_r<|sq_r<|bq_r<|sq_r<|Qaa (Le.refl _) (.tmp rfl .nil) rfl<|congrArg V.b ?_;simp only [Version.ok,allR];grind
     ·refine .skip<|bq_n<|sq_n<|.region rfl<|.q (.addL (c:=2) rfl rfl rfl (by decide))<|.m rfl rfl<|.nil<|sq_n<|.unroll<|.seq<|.region rfl<|.b rfl rfl rfl rfl<|.nil<|sq_n<|.seq<|.condT rfl (by decide)<|.skip<|sq_n<|.seq<|.block<|.seq<|.region rfl<|.q (.ixv (j:=2) rfl rfl ar_94 s_93 (by decide) (by rfl)) ?_
      refine .z rfl rfl<|.nil<|sq_n<|.seq<|.region rfl<|.m rfl rfl<|.callV .no rfl rfl rfl (Qbs _ _ _ (hl 2 (by decide)))<|.q (.not rfl)<|.nil<|sq_n<|.cond rfl (fun h8=>?_) (fun h8=>?_)
      ·refine .seq<|.region rfl<|.z rfl rfl<|.nil<|sq_n<|.ret<|bq_r<|sq_r<|sq_r<|bq_r<|bq_r<|sq_r<|sq_r<|bq_r<|sq_r<|Qaa (Le.refl _) (.tmp rfl .nil) rfl<|congrArg V.b ?_;simp only [Version.ok,allR];grind
      ·refine .skip<|bq_n<|sq_n<|.region rfl<|.q (.addL (c:=3) rfl rfl rfl (by decide))<|.m rfl rfl<|.nil<|sq_n<|.unroll<|.seq<|.region rfl<|.b rfl rfl rfl rfl<|.nil<|sq_n<|.seq<|.condT rfl (by decide)<|.skip<|sq_n<|.seq<|.block<|.seq<|.region rfl<|.q (.ixv (j:=3) rfl rfl ar_94 s_93 (by decide) (by rfl)) ?_
       refine .z rfl rfl<|.nil<|sq_n<|.seq<|.region rfl<|.m rfl rfl<|.callV .no rfl rfl rfl (Qbs _ _ _ (hl 3 (by decide)))<|.q (.not rfl)<|.nil<|sq_n<|.cond rfl (fun h9=>?_) (fun h9=>?_)
       ·refine .seq<|.region rfl<|.z rfl rfl<|.nil<|sq_n<|.ret<|bq_r<|sq_r<|sq_r<|bq_r<|bq_r<|sq_r<|sq_r<|bq_r<|sq_r<|Qaa (Le.refl _) (.tmp rfl .nil) rfl<|congrArg V.b ?_;simp only [Version.ok,allR];grind
       ·refine .skip<|bq_n<|sq_n<|.region rfl<|.q (.addL (c:=4) rfl rfl rfl (by decide))<|.m rfl rfl<|.nil<|sq_n<|.unroll<|.seq<|.region rfl<|.b rfl rfl rfl rfl<|.nil<|sq_n<|.seq<|.condT rfl (by decide)<|.skip<|sq_n<|.seq<|.block<|.seq<|.region rfl<|.q (.ixv (j:=4) rfl rfl ar_94 s_93 (by decide) (by rfl)) ?_
        refine .z rfl rfl<|.nil<|sq_n<|.seq<|.region rfl<|.m rfl rfl<|.callV .no rfl rfl rfl (Qbs _ _ _ (hl 4 (by decide)))<|.q (.not rfl)<|.nil<|sq_n<|.cond rfl (fun h10=>?_) (fun h10=>?_)
        ·refine .seq<|.region rfl<|.z rfl rfl<|.nil<|sq_n<|.ret<|bq_r<|sq_r<|sq_r<|bq_r<|bq_r<|sq_r<|sq_r<|bq_r<|sq_r<|Qaa (Le.refl _) (.tmp rfl .nil) rfl<|congrArg V.b ?_;simp only [Version.ok,allR];grind
        ·refine .skip<|bq_n<|sq_n<|.region rfl<|.q (.addL (c:=5) rfl rfl rfl (by decide))<|.m rfl rfl<|.nil<|sq_n<|.unroll<|.seq<|.region rfl<|.b rfl rfl rfl rfl<|.nil<|sq_n<|.seq<|.condF rfl (by decide)<|.exit<|sq_e<|sq_e<|bq_x rfl<|bq_n<|sq_n<|.region rfl<|.q (.addL (c:=1) rfl rfl rfl (by decide))<|.m rfl rfl<|.nil<|sq_n<|.unroll<|.seq<|.region rfl<|.b rfl rfl rfl rfl<|.nil<|sq_n<|.seq<|.condT rfl (by decide)<|.skip<|sq_n<|.seq<|.block<|.seq<|.region rfl<|.q (.ixv (j:=1) rfl rfl ar_95 s_94 (by decide) (by rfl)) ?_
         refine .alloc .no rfl z_94 fun b11=>.st (cs':=[_,_,_,_,_]) .no rfl rfl rfl rfl s_94 rfl rfl .hd rfl (Qa (hl 5 (by decide)).one (Qa (hl 6 (by decide)).one (Qa (hl 7 (by decide)).one (Qa (hl 8 (by decide)).one (Qa (hl 9 (by decide)).one rfl)))))<|.nil<|sq_n<|.seq<|.region rfl<|.w (.a (vs:=[_,_,_,_,_]) rfl .hd a_94 s_94 rfl rfl)<|.m rfl rfl<|.nil<|sq_n<|.block<|.unroll<|.seq<|.region rfl<|.b rfl rfl rfl rfl<|.nil<|sq_n<|.seq<|.condT rfl (by decide)<|.skip<|sq_n<|.seq<|.block<|.seq<|.region rfl<|.q (.ixv (j:=0) rfl rfl ar_94 s_93 (by decide) (by rfl)) ?_
         refine .z rfl rfl<|.nil<|sq_n<|.seq<|.region rfl<|.m rfl rfl<|.callV .no rfl rfl rfl (Qbs _ _ _ (hl 5 (by decide)))<|.q (.not rfl)<|.nil<|sq_n<|.cond rfl (fun h12=>?_) (fun h12=>?_)
         ·refine .seq<|.region rfl<|.z rfl rfl<|.nil<|sq_n<|.ret<|bq_r<|sq_r<|sq_r<|bq_r<|bq_r<|sq_r<|sq_r<|bq_r<|sq_r<|Qaa (Le.refl _) (.tmp rfl .nil) rfl<|congrArg V.b ?_;simp only [Version.ok,allR];grind
         ·refine .skip<|bq_n<|sq_n<|.region rfl<|.q (.addL (c:=1) rfl rfl rfl (by decide))<|.m rfl rfl<|.nil<|sq_n<|.unroll<|.seq<|.region rfl<|.b rfl rfl rfl rfl<|.nil<|sq_n<|.seq<|.condT rfl (by decide)<|.skip<|sq_n<|.seq<|.block<|.seq<|.region rfl<|.q (.ixv (j:=1) rfl rfl ar_94 s_93 (by decide) (by rfl)) ?_
          refine .z rfl rfl<|.nil<|sq_n<|.seq<|.region rfl<|.m rfl rfl<|.callV .no rfl rfl rfl (Qbs _ _ _ (hl 6 (by decide)))<|.q (.not rfl)<|.nil<|sq_n<|.cond rfl (fun h13=>?_) (fun h13=>?_)
          ·refine .seq<|.region rfl<|.z rfl rfl<|.nil<|sq_n<|.ret<|bq_r<|sq_r<|sq_r<|bq_r<|bq_r<|sq_r<|sq_r<|bq_r<|sq_r<|Qaa (Le.refl _) (.tmp rfl .nil) rfl<|congrArg V.b ?_;simp only [Version.ok,allR];grind
          ·refine .skip<|bq_n<|sq_n<|.region rfl<|.q (.addL (c:=2) rfl rfl rfl (by decide))<|.m rfl rfl<|.nil<|sq_n<|.unroll<|.seq<|.region rfl<|.b rfl rfl rfl rfl<|.nil<|sq_n<|.seq<|.condT rfl (by decide)<|.skip<|sq_n<|.seq<|.block<|.seq<|.region rfl<|.q (.ixv (j:=2) rfl rfl ar_94 s_93 (by decide) (by rfl)) ?_
           refine .z rfl rfl<|.nil<|sq_n<|.seq<|.region rfl<|.m rfl rfl<|.callV .no rfl rfl rfl (Qbs _ _ _ (hl 7 (by decide)))<|.q (.not rfl)<|.nil<|sq_n<|.cond rfl (fun h14=>?_) (fun h14=>?_)
           ·refine .seq<|.region rfl<|.z rfl rfl<|.nil<|sq_n<|.ret<|bq_r<|sq_r<|sq_r<|bq_r<|bq_r<|sq_r<|sq_r<|bq_r<|sq_r<|Qaa (Le.refl _) (.tmp rfl .nil) rfl<|congrArg V.b ?_;simp only [Version.ok,allR];grind
           ·refine .skip<|bq_n<|sq_n<|.region rfl<|.q (.addL (c:=3) rfl rfl rfl (by decide))<|.m rfl rfl<|.nil<|sq_n<|.unroll<|.seq<|.region rfl<|.b rfl rfl rfl rfl<|.nil<|sq_n<|.seq<|.condT rfl (by decide)<|.skip<|sq_n<|.seq<|.block<|.seq<|.region rfl<|.q (.ixv (j:=3) rfl rfl ar_94 s_93 (by decide) (by rfl)) ?_
            refine .z rfl rfl<|.nil<|sq_n<|.seq<|.region rfl<|.m rfl rfl<|.callV .no rfl rfl rfl (Qbs _ _ _ (hl 8 (by decide)))<|.q (.not rfl)<|.nil<|sq_n<|.cond rfl (fun h15=>?_) (fun h15=>?_)
            ·refine .seq<|.region rfl<|.z rfl rfl<|.nil<|sq_n<|.ret<|bq_r<|sq_r<|sq_r<|bq_r<|bq_r<|sq_r<|sq_r<|bq_r<|sq_r<|Qaa (Le.refl _) (.tmp rfl .nil) rfl<|congrArg V.b ?_;simp only [Version.ok,allR];grind
            ·refine .skip<|bq_n<|sq_n<|.region rfl<|.q (.addL (c:=4) rfl rfl rfl (by decide))<|.m rfl rfl<|.nil<|sq_n<|.unroll<|.seq<|.region rfl<|.b rfl rfl rfl rfl<|.nil<|sq_n<|.seq<|.condT rfl (by decide)<|.skip<|sq_n<|.seq<|.block<|.seq<|.region rfl<|.q (.ixv (j:=4) rfl rfl ar_94 s_93 (by decide) (by rfl)) ?_
             refine .z rfl rfl<|.nil<|sq_n<|.seq<|.region rfl<|.m rfl rfl<|.callV .no rfl rfl rfl (Qbs _ _ _ (hl 9 (by decide)))<|.q (.not rfl)<|.nil<|sq_n<|.cond rfl (fun h16=>?_) (fun h16=>?_)
             ·refine .seq<|.region rfl<|.z rfl rfl<|.nil<|sq_n<|.ret<|bq_r<|sq_r<|sq_r<|bq_r<|bq_r<|sq_r<|sq_r<|bq_r<|sq_r<|Qaa (Le.refl _) (.tmp rfl .nil) rfl<|congrArg V.b ?_;simp only [Version.ok,allR];grind
             ·refine .skip<|bq_n<|sq_n<|.region rfl<|.q (.addL (c:=5) rfl rfl rfl (by decide))<|.m rfl rfl<|.nil<|sq_n<|.unroll<|.seq<|.region rfl<|.b rfl rfl rfl rfl<|.nil<|sq_n<|.seq<|.condF rfl (by decide)<|.exit<|sq_e<|sq_e<|bq_x rfl<|bq_n<|sq_n<|.region rfl<|.q (.addL (c:=2) rfl rfl rfl (by decide))<|.m rfl rfl<|.nil<|sq_n<|.unroll<|.seq<|.region rfl<|.b rfl rfl rfl rfl<|.nil<|sq_n<|.seq<|.condF rfl (by decide)<|.exit<|sq_e<|sq_e<|bq_x rfl<|sq_n<|.seq<|.region rfl<|.z rfl rfl<|.nil<|sq_n<|.ret ?_
              refine Qaa (Le.refl _) (.tmp rfl .nil) rfl<|congrArg V.b ?_;simp only [Version.ok,allR];grind
theorem rIsVersion_ok (v:Version) (cs:List V) (g:G) (h:VersionR g cs v):Fv Tryz.prog natS (.f 71 [] []) [.agg cs] g (.b v.ok):=by
 obtain ⟨p,lv,rfl,hp,hl⟩:=h
 refine Fw.fv ?_
 have hlen:=hp.1
 refine Fw.enter (N:=46) (al:=[(0,_)]) Tryz.func71 (by kernel_rfl) (by kernel_rfl) rfl rfl rfl rfl ?_
 intro B
 refine .seq<|.region rfl<|.box .no rfl rfl rfl rfl fun b1=>.z rfl rfl<|.nil<|sq_n<|.seq<|.seq<|.region rfl<|.q (.fa rfl f_97_0)<|.w (.s rfl .hd a_3 rfl)<|.callV .no rfl rfl rfl (in_ok _ _ _ _)<|.q (.not rfl)<|.m rfl rfl<|.split (t:=10) rfl (fun h2=>?_) (fun h2=>?_)
 ·refine .k h2<|.k h2<|.k h2<|.k h2<|.q (.pickT rfl h2 rfl)<|.nil<|sq_n<|.condT rfl rfl<|.seq<|.region rfl<|.z rfl rfl<|.nil<|sq_n<|.ret<|sq_r<|Qaa (Le.refl _) (.tmp rfl .nil) rfl<|congrArg V.b ?_;simp only [Version.ok,allR]
  first
   | grind
 ·have kh2:=h2;(try simp only [bk] at kh2)
  refine .py h2 (.fa rfl f_97_1)<|.wy h2 (.s rfl .hd a_92 rfl)<|.py h2 (.lenR rfl rfl rfl e_92 hp)<|.py h2 (.bin rfl rfl rfl)<|.q (.pickF rfl h2 rfl)<|.nil<|sq_n<|.cond rfl (fun h3=>?_) (fun h3=>?_)
  ·refine .seq<|.region rfl<|.z rfl rfl<|.nil<|sq_n<|.ret<|sq_r<|Qaa (Le.refl _) (.tmp rfl .nil) rfl<|congrArg V.b ?_;simp only [Version.ok,allR]
   first
    | grind
  ·have kh3:=h3;(try simp only [bk] at kh3)
   refine .skip<|sq_n<|.seq<|.seq<|.region rfl<|.z rfl rfl<|.nil<|sq_n<|.block<|.loopx (α:=Nat) [(1,_)] _ (fun fx k=>(3,.i .i64 (k:Int)) :: fx) (fun mx _=>mx) (fun k g'=>k≤v.puts.length∧Qae v.fr 0 100000=true∧v.puts.length≤20∧(v.puts.drop k).all Put.ok=v.puts.all Put.ok) (fun k=>v.puts.length - k) (0) ⟨rfl,rfl,trivial⟩ (List.Sublist.refl _) ⟨by omega,by simp_all,by omega,rfl⟩ ?_
   intro k g5 hle4 hJ
   obtain ⟨hk,h1,h2,hg⟩:=hJ
   replace hp:=hp.mono PutR.mono hle4
   replace hl:=fun k hk=>(hl k hk).mono PieceR.mono hle4
   refine .seq<|.seq<|.region rfl<|.m rfl rfl<|.q (.fa rfl f_97_1)<|.w (.s rfl .hd a_92 rfl)<|.q (.lenR rfl rfl rfl e_92 hp)<|.b rfl rfl rfl rfl<|.nil<|sq_n<|.cond rfl (fun h6=>?_) (fun h6=>?_)
   ·have kh6:=h6;(try simp only [bk] at kh6)
    refine .skip<|sq_n<|.seq<|.block<|.seq<|.region rfl<|.q (.fa rfl f_97_1)<|.w (.s rfl .hd a_92 rfl)<|.m rfl rfl<|.ixn .no rfl rfl hp rfl e_92 (by omega) ?_
    intro b7 o7 cs7 y7 hy7 hq7 hr7
    obtain ⟨v7,rfl,ht7⟩:=hr7
    refine .w (.pa 0 (vs:=[_,_]) rfl hq7 rfl a_170 s_170 rfl rfl)<|.callV .no rfl rfl rfl (rIsPut_ok _ _ _ ⟨_,rfl,ht7⟩)<|.q (.not rfl)<|.nil<|sq_n<|.cond rfl (fun h8=>?_) (fun h8=>?_)
    ·refine .seq<|.region rfl<|.z rfl rfl<|.nil<|sq_n<|.ret<|bq_r<|sq_r<|lq_r<|bq_r<|sq_r<|Qaa hle4 (.tmp rfl .nil) rfl<|congrArg V.b ?_;simp only [Version.ok,allR]
     first
      | grind
    ·have kh8:=h8;(try simp only [bk] at kh8)
     refine .skip<|bq_n<|sq_n<|.region rfl<|.m rfl rfl<|.q (.inc1 rfl rfl (by omega))<|.z rfl rfl<|.nil<|Qac (k+1) ⟨rfl,rfl,trivial⟩ (List.Sublist.refl _) (Le.refl _) ?_ ?_
     ·refine ⟨by omega,h1,h2,?_⟩;rw [←hg,dc (k:=k) ‹_›];simp_all
     ·omega
   ·refine .exit<|sq_e<|lq_e<|bq_x rfl<|sq_n<|.seq<|.seq<|.region rfl<|.z rfl rfl<|.nil<|sq_n<|.block<|.unroll<|.seq<|.seq<|.region rfl<|.m rfl rfl<|.b rfl rfl rfl rfl<|.nil<|sq_n<|.condT rfl (by decide)<|.skip<|sq_n<|.seq<|.block<|.seq<|.region rfl<|.z rfl rfl<|.nil<|sq_n<|.block<|.unroll<|.seq<|.seq<|.region rfl<|.m rfl rfl<|.b rfl rfl rfl rfl<|.nil<|sq_n ?_
    refine .condT rfl (by decide)<|.skip<|sq_n<|.seq<|.block<|.seq<|.region rfl<|.m rfl rfl<|.m rfl rfl<|.q (.fa rfl f_97_2)<|.q (.ixa (j:=0) rfl rfl ae_95 (by decide))<|.q (.ixa (j:=0) rfl rfl ae_94 (by decide))<|.w (.s rfl .hd a_93 rfl)<|.callV .no rfl rfl rfl (Qbj _ _ _ (hl 0 (by decide)))<|.q (.not rfl)<|.nil<|sq_n<|.cond rfl (fun h9=>?_) (fun h9=>?_)
    ·refine .seq<|.region rfl<|.z rfl rfl<|.nil<|sq_n<|.ret<|bq_r<|sq_r<|sq_r<|bq_r<|bq_r<|sq_r<|sq_r<|bq_r<|sq_r<|Qaa hle4 (.tmp rfl .nil) rfl<|congrArg V.b ?_;simp only [Version.ok,allR]
     first
      | grind
    ·refine .skip<|bq_n<|sq_n<|.region rfl<|.m rfl rfl<|.q (.addL (c:=1) rfl rfl rfl (by decide))<|.z rfl rfl<|.nil<|sq_n<|.unroll<|.seq<|.seq<|.region rfl<|.m rfl rfl<|.b rfl rfl rfl rfl<|.nil<|sq_n<|.condT rfl (by decide)<|.skip<|sq_n<|.seq<|.block<|.seq<|.region rfl<|.m rfl rfl<|.m rfl rfl<|.q (.fa rfl f_97_2)<|.q (.ixa (j:=0) rfl rfl ae_95 (by decide))<|.q (.ixa (j:=1) rfl rfl ae_94 (by decide))<|.w (.s rfl .hd a_93 rfl)<|.callV .no rfl rfl rfl (Qbj _ _ _ (hl 1 (by decide)))<|.q (.not rfl)<|.nil<|sq_n<|.cond rfl (fun h10=>?_) (fun h10=>?_)
     ·refine .seq<|.region rfl<|.z rfl rfl<|.nil<|sq_n<|.ret<|bq_r<|sq_r<|sq_r<|bq_r<|bq_r<|sq_r<|sq_r<|bq_r<|sq_r<|Qaa hle4 (.tmp rfl .nil) rfl<|congrArg V.b ?_;simp only [Version.ok,allR]
      first
       | grind
     ·refine .skip<|bq_n<|sq_n<|.region rfl<|.m rfl rfl<|.q (.addL (c:=2) rfl rfl rfl (by decide))<|.z rfl rfl<|.nil<|sq_n<|.unroll<|.seq<|.seq<|.region rfl<|.m rfl rfl<|.b rfl rfl rfl rfl<|.nil<|sq_n<|.condT rfl (by decide)<|.skip<|sq_n<|.seq<|.block<|.seq<|.region rfl<|.m rfl rfl<|.m rfl rfl<|.q (.fa rfl f_97_2)<|.q (.ixa (j:=0) rfl rfl ae_95 (by decide))<|.q (.ixa (j:=2) rfl rfl ae_94 (by decide))<|.w (.s rfl .hd a_93 rfl)<|.callV .no rfl rfl rfl (Qbj _ _ _ (hl 2 (by decide)))<|.q (.not rfl)<|.nil<|sq_n<|.cond rfl (fun h11=>?_) (fun h11=>?_)
      ·refine .seq<|.region rfl<|.z rfl rfl<|.nil<|sq_n<|.ret<|bq_r<|sq_r<|sq_r<|bq_r<|bq_r<|sq_r<|sq_r<|bq_r<|sq_r<|Qaa hle4 (.tmp rfl .nil) rfl<|congrArg V.b ?_;simp only [Version.ok,allR]
       first
        | grind
      ·refine .skip<|bq_n<|sq_n<|.region rfl<|.m rfl rfl<|.q (.addL (c:=3) rfl rfl rfl (by decide))<|.z rfl rfl<|.nil<|sq_n<|.unroll<|.seq<|.seq<|.region rfl<|.m rfl rfl<|.b rfl rfl rfl rfl<|.nil<|sq_n<|.condT rfl (by decide)<|.skip<|sq_n<|.seq<|.block<|.seq<|.region rfl<|.m rfl rfl<|.m rfl rfl<|.q (.fa rfl f_97_2)<|.q (.ixa (j:=0) rfl rfl ae_95 (by decide))<|.q (.ixa (j:=3) rfl rfl ae_94 (by decide))<|.w (.s rfl .hd a_93 rfl)<|.callV .no rfl rfl rfl (Qbj _ _ _ (hl 3 (by decide)))<|.q (.not rfl)<|.nil<|sq_n<|.cond rfl (fun h12=>?_) (fun h12=>?_)
       ·refine .seq<|.region rfl<|.z rfl rfl<|.nil<|sq_n<|.ret<|bq_r<|sq_r<|sq_r<|bq_r<|bq_r<|sq_r<|sq_r<|bq_r<|sq_r<|Qaa hle4 (.tmp rfl .nil) rfl<|congrArg V.b ?_;simp only [Version.ok,allR]
        first
         | grind
       ·refine .skip<|bq_n<|sq_n<|.region rfl<|.m rfl rfl<|.q (.addL (c:=4) rfl rfl rfl (by decide))<|.z rfl rfl<|.nil<|sq_n<|.unroll<|.seq<|.seq<|.region rfl<|.m rfl rfl<|.b rfl rfl rfl rfl<|.nil<|sq_n<|.condT rfl (by decide)<|.skip<|sq_n<|.seq<|.block<|.seq<|.region rfl<|.m rfl rfl<|.m rfl rfl<|.q (.fa rfl f_97_2)<|.q (.ixa (j:=0) rfl rfl ae_95 (by decide))<|.q (.ixa (j:=4) rfl rfl ae_94 (by decide))<|.w (.s rfl .hd a_93 rfl)<|.callV .no rfl rfl rfl (Qbj _ _ _ (hl 4 (by decide)))<|.q (.not rfl)<|.nil<|sq_n<|.cond rfl (fun h13=>?_) (fun h13=>?_)
        ·refine .seq<|.region rfl<|.z rfl rfl<|.nil<|sq_n<|.ret<|bq_r<|sq_r<|sq_r<|bq_r<|bq_r<|sq_r<|sq_r<|bq_r<|sq_r<|Qaa hle4 (.tmp rfl .nil) rfl<|congrArg V.b ?_;simp only [Version.ok,allR]
         first
          | grind
        ·refine .skip<|bq_n<|sq_n<|.region rfl<|.m rfl rfl<|.q (.addL (c:=5) rfl rfl rfl (by decide))<|.z rfl rfl<|.nil<|sq_n<|.unroll<|.seq<|.seq<|.region rfl<|.m rfl rfl<|.b rfl rfl rfl rfl<|.nil<|sq_n<|.condF rfl (by decide)<|.exit<|sq_e<|sq_e<|bq_x rfl<|bq_n<|sq_n<|.region rfl<|.m rfl rfl<|.q (.addL (c:=1) rfl rfl rfl (by decide))<|.z rfl rfl<|.nil<|sq_n<|.unroll<|.seq<|.seq<|.region rfl<|.m rfl rfl<|.b rfl rfl rfl rfl<|.nil<|sq_n<|.condT rfl (by decide)<|.skip<|sq_n<|.seq ?_
         refine .block<|.seq<|.region rfl<|.z rfl rfl<|.nil<|sq_n<|.block<|.unroll<|.seq<|.seq<|.region rfl<|.m rfl rfl<|.b rfl rfl rfl rfl<|.nil<|sq_n<|.condT rfl (by decide)<|.skip<|sq_n<|.seq<|.block<|.seq<|.region rfl<|.m rfl rfl<|.m rfl rfl<|.q (.fa rfl f_97_2)<|.q (.ixa (j:=1) rfl rfl ae_95 (by decide))<|.q (.ixa (j:=0) rfl rfl ae_94 (by decide))<|.w (.s rfl .hd a_93 rfl)<|.callV .no rfl rfl rfl (Qbj _ _ _ (hl 5 (by decide)))<|.q (.not rfl)<|.nil<|sq_n<|.cond rfl (fun h14=>?_) (fun h14=>?_)
         ·refine .seq<|.region rfl<|.z rfl rfl<|.nil<|sq_n<|.ret<|bq_r<|sq_r<|sq_r<|bq_r<|bq_r<|sq_r<|sq_r<|bq_r<|sq_r<|Qaa hle4 (.tmp rfl .nil) rfl<|congrArg V.b ?_;simp only [Version.ok,allR]
          first
           | grind
         ·refine .skip<|bq_n<|sq_n<|.region rfl<|.m rfl rfl<|.q (.addL (c:=1) rfl rfl rfl (by decide))<|.z rfl rfl<|.nil<|sq_n<|.unroll<|.seq<|.seq<|.region rfl<|.m rfl rfl<|.b rfl rfl rfl rfl<|.nil<|sq_n<|.condT rfl (by decide)<|.skip<|sq_n<|.seq<|.block<|.seq<|.region rfl<|.m rfl rfl<|.m rfl rfl<|.q (.fa rfl f_97_2)<|.q (.ixa (j:=1) rfl rfl ae_95 (by decide))<|.q (.ixa (j:=1) rfl rfl ae_94 (by decide))<|.w (.s rfl .hd a_93 rfl)<|.callV .no rfl rfl rfl (Qbj _ _ _ (hl 6 (by decide)))<|.q (.not rfl)<|.nil<|sq_n<|.cond rfl (fun h15=>?_) (fun h15=>?_)
          ·refine .seq<|.region rfl<|.z rfl rfl<|.nil<|sq_n<|.ret<|bq_r<|sq_r<|sq_r<|bq_r<|bq_r<|sq_r<|sq_r<|bq_r<|sq_r<|Qaa hle4 (.tmp rfl .nil) rfl<|congrArg V.b ?_;simp only [Version.ok,allR]
           first
            | grind
          ·refine .skip<|bq_n<|sq_n<|.region rfl<|.m rfl rfl<|.q (.addL (c:=2) rfl rfl rfl (by decide))<|.z rfl rfl<|.nil<|sq_n<|.unroll<|.seq<|.seq<|.region rfl<|.m rfl rfl<|.b rfl rfl rfl rfl<|.nil<|sq_n<|.condT rfl (by decide)<|.skip<|sq_n<|.seq<|.block<|.seq<|.region rfl<|.m rfl rfl<|.m rfl rfl<|.q (.fa rfl f_97_2)<|.q (.ixa (j:=1) rfl rfl ae_95 (by decide))<|.q (.ixa (j:=2) rfl rfl ae_94 (by decide))<|.w (.s rfl .hd a_93 rfl)<|.callV .no rfl rfl rfl (Qbj _ _ _ (hl 7 (by decide)))<|.q (.not rfl)<|.nil<|sq_n<|.cond rfl (fun h16=>?_) (fun h16=>?_)
           ·refine .seq<|.region rfl<|.z rfl rfl<|.nil<|sq_n<|.ret<|bq_r<|sq_r<|sq_r<|bq_r<|bq_r<|sq_r<|sq_r<|bq_r<|sq_r<|Qaa hle4 (.tmp rfl .nil) rfl<|congrArg V.b ?_;simp only [Version.ok,allR]
            first
             | grind
           ·refine .skip<|bq_n<|sq_n<|.region rfl<|.m rfl rfl<|.q (.addL (c:=3) rfl rfl rfl (by decide))<|.z rfl rfl<|.nil<|sq_n<|.unroll<|.seq<|.seq<|.region rfl<|.m rfl rfl<|.b rfl rfl rfl rfl<|.nil<|sq_n<|.condT rfl (by decide)<|.skip<|sq_n<|.seq<|.block<|.seq<|.region rfl<|.m rfl rfl<|.m rfl rfl<|.q (.fa rfl f_97_2)<|.q (.ixa (j:=1) rfl rfl ae_95 (by decide))<|.q (.ixa (j:=3) rfl rfl ae_94 (by decide))<|.w (.s rfl .hd a_93 rfl)<|.callV .no rfl rfl rfl (Qbj _ _ _ (hl 8 (by decide)))<|.q (.not rfl)<|.nil<|sq_n<|.cond rfl (fun h17=>?_) (fun h17=>?_)
            ·refine .seq<|.region rfl<|.z rfl rfl<|.nil<|sq_n<|.ret<|bq_r<|sq_r<|sq_r<|bq_r<|bq_r<|sq_r<|sq_r<|bq_r<|sq_r<|Qaa hle4 (.tmp rfl .nil) rfl<|congrArg V.b ?_;simp only [Version.ok,allR]
             first
              | grind
            ·refine .skip<|bq_n<|sq_n<|.region rfl<|.m rfl rfl<|.q (.addL (c:=4) rfl rfl rfl (by decide))<|.z rfl rfl<|.nil<|sq_n<|.unroll<|.seq<|.seq<|.region rfl<|.m rfl rfl<|.b rfl rfl rfl rfl<|.nil<|sq_n<|.condT rfl (by decide)<|.skip<|sq_n<|.seq<|.block<|.seq<|.region rfl<|.m rfl rfl<|.m rfl rfl<|.q (.fa rfl f_97_2)<|.q (.ixa (j:=1) rfl rfl ae_95 (by decide))<|.q (.ixa (j:=4) rfl rfl ae_94 (by decide))<|.w (.s rfl .hd a_93 rfl)<|.callV .no rfl rfl rfl (Qbj _ _ _ (hl 9 (by decide)))<|.q (.not rfl)<|.nil<|sq_n<|.cond rfl (fun h18=>?_) (fun h18=>?_)
             ·refine .seq<|.region rfl<|.z rfl rfl<|.nil<|sq_n<|.ret<|bq_r<|sq_r<|sq_r<|bq_r<|bq_r<|sq_r<|sq_r<|bq_r<|sq_r<|Qaa hle4 (.tmp rfl .nil) rfl<|congrArg V.b ?_;simp only [Version.ok,allR]
              first
               | grind
             ·refine .skip<|bq_n<|sq_n<|.region rfl<|.m rfl rfl<|.q (.addL (c:=5) rfl rfl rfl (by decide))<|.z rfl rfl<|.nil<|sq_n<|.unroll<|.seq<|.seq<|.region rfl<|.m rfl rfl<|.b rfl rfl rfl rfl<|.nil<|sq_n<|.condF rfl (by decide)<|.exit<|sq_e<|sq_e<|bq_x rfl<|bq_n<|sq_n<|.region rfl<|.m rfl rfl<|.q (.addL (c:=2) rfl rfl rfl (by decide))<|.z rfl rfl<|.nil<|sq_n<|.unroll<|.seq<|.seq<|.region rfl<|.m rfl rfl<|.b rfl rfl rfl rfl<|.nil<|sq_n<|.condF rfl (by decide)<|.exit<|sq_e<|sq_e<|bq_x rfl<|sq_n<|.seq ?_
              refine .region rfl<|.z rfl rfl<|.nil<|sq_n<|.ret<|Qaa hle4 (.tmp rfl .nil) rfl<|congrArg V.b ?_;simp only [Version.ok,allR]
              first
               | grind
end Go.Proofs.YtjflgemfeofciaaGreatDoor
