import Derived.Test.YtjflgemfeofciaaGreatDoorGr4
import Derived.Test.YtjflgemfeofciaaGreatDoorVb4
import Derived.Test.YtjflgemfeofciaaGreatDoorQu4
import Derived.Test.YtjflgemfeofciaaGreatDoorMX3
namespace Go.Proofs.YtjflgemfeofciaaGreatDoor
open Go Go.Ev
set_option linter.unusedVariables false
set_option linter.unusedSimpArgs false
set_option maxRecDepth 10000
def intC (n:Int):List V:=[.i .i64 n]
theorem grpF_bd {r:Room}:∀ {l:List Put} {k:Nat},l.all Put.ok=true→0≤(grpF r l k).1∧(grpF r l k).1≤5
 | [],k,h=>by unfold grpF;simp
 | p :: l,k,h=>by
   rw [List.all_cons,Bool.and_eq_true] at h
   unfold grpF
   split
   ·have:=h.1
    unfold Put.ok Qae at this
    simp only [Bool.and_eq_true,decide_eq_true_eq] at this
    exact this.1
   ·exact grpF_bd h.2
theorem Qcm {v:Version} (h:v.puts.all Put.ok=true) (r:Room):0≤(grp v r).1∧(grp v r).1≤5:=grpF_bd h
theorem ixg {n:Int} (h:0≤n∧n≤5) (h0: ¬ n=0):0≤n - 1∧n - 1 < 5:=by omega
def idsI (v:Version) (i:Nat) (l:List Room):List Int:=(l.filter fun r=>decide ((grp v r).1=(i:Int))).map Room.id
def litI (v:Version) (f:Room→Int) (i:Nat) (l:List Room):Int:=l.foldl (fun a r=>if (grp v r).1=(i:Int) then wadd a (f r) else a) 0
def upd {α:Type} (f:Nat→α) (i:Nat) (a:α):Nat→α:=fun j=>bif Nat.beq j i then a else f j
structure PS where
 k:Nat
 rv:Nat→V
 lo:Nat→Int
 hi:Nat→Int
 ids:Nat→List V
def PS.init:PS:=⟨0,fun _=>.sn,fun _=>0,fun _=>0,fun _=>[]⟩
structure PSok (v:Version) (l:List Room) (x:PS):Prop where
 hk:x.k≤l.length
 ids:∀ i,x.ids i=(idsI v i (l.take x.k)).flatMap intC
 lo:∀ i,0 < i→x.lo i=litI v Room.lo i (l.take x.k)
 hi:∀ i,0 < i→x.hi i=litI v Room.hi i (l.take x.k)
 av:∀ i,Av (x.rv i)
theorem PSok.init (v:Version) (l:List Room):PSok v l .init:=⟨Nat.zero_le _,fun _=>rfl,fun _ _=>rfl,fun _ _=>rfl,fun _=>.nil⟩
theorem take_s {α:Type} {l:List α} {k:Nat} {y:α} (h:l[k]? =some y):l.take (k+1)=l.take k ++ [y]:=by
 rw [List.take_add_one,h];rfl
theorem idsI_s {v:Version} {i:Nat} {l:List Room} {k:Nat} {y:Room} (h:l[k]? =some y):idsI v i (l.take (k+1))=idsI v i (l.take k) ++ if (grp v y).1=(i:Int) then [y.id] else []:=by
 unfold idsI
 rw [take_s h,List.filter_append,List.map_append]
 congr 1
 by_cases e:(grp v y).1=(i:Int) <;> simp [e]
theorem litI_s {v:Version} {f:Room→Int} {i:Nat} {l:List Room} {k:Nat} {y:Room} (h:l[k]? =some y):litI v f i (l.take (k+1))=if (grp v y).1=(i:Int) then wadd (litI v f i (l.take k)) (f y) else litI v f i (l.take k):=by
 unfold litI
 rw [take_s h,List.foldl_append]
 rfl
theorem upd_at {α:Type} {f:Nat→α} {q j:Nat} {a:α}:upd f q a j=if j=q then a else f j:=by
 unfold upd
 by_cases e:j=q
 ·rw [if_pos e,e,Nat.beq_refl];rfl
 ·rw [if_neg e]
  have:Nat.beq j q=false:=by
   cases h:Nat.beq j q with
   | false=>rfl
   | true=>exact absurd (Nat.eq_of_beq_eq_true h) e
  rw [this];rfl
theorem PSok.step0 {v:Version} {l:List Room} {x:PS} {y:Room} {w:V} (h:PSok v l x) (hy:l[x.k]? =some y) (hq:(grp v y).1=0) (hw:Av w):PSok v l ⟨x.k+1,upd x.rv 0 w,x.lo,x.hi,upd x.ids 0 (x.ids 0 ++ [.i .i64 y.id])⟩:=by
 refine ⟨(List.getElem?_eq_some_iff.1 hy).1,fun i=>?_,fun i hi=>?_,fun i hi=>?_,fun i=>?_⟩
 ·simp only [upd_at,idsI_s hy,List.flatMap_append, ←h.ids]
  by_cases e:i=0
  ·subst e;rw [if_pos rfl,if_pos (by rw [hq];rfl)];rfl
  ·rw [if_neg e,if_neg (by rw [hq];omega)];simp
 ·rw [litI_s hy,if_neg (by rw [hq];omega)];exact h.lo i hi
 ·rw [litI_s hy,if_neg (by rw [hq];omega)];exact h.hi i hi
 ·simp only [upd_at];split
  ·exact hw
  ·exact h.av i
theorem PSok.stepq {v:Version} {l:List Room} {x:PS} {y:Room} {w:V} {q:Nat} (h:PSok v l x) (hy:l[x.k]? =some y) (hq:(grp v y).1=(q:Int)) (h0:0 < q) (hw:Av w):PSok v l ⟨x.k+1,upd x.rv q w,upd x.lo q (wadd (x.lo q) y.lo),upd x.hi q (wadd (x.hi q) y.hi),upd x.ids q (x.ids q ++ [.i .i64 y.id])⟩:=by
 refine ⟨(List.getElem?_eq_some_iff.1 hy).1,fun i=>?_,fun i hi=>?_,fun i hi=>?_,fun i=>?_⟩
 ·simp only [upd_at,idsI_s hy,List.flatMap_append, ←h.ids]
  by_cases e:i=q
  ·subst e;rw [if_pos rfl,if_pos hq];rfl
  ·rw [if_neg e,if_neg (by rw [hq];omega)];simp
 ·simp only [upd_at,litI_s hy, ←h.lo i hi]
  by_cases e:i=q
  ·subst e;rw [if_pos rfl,if_pos hq]
  ·rw [if_neg e,if_neg (by rw [hq];omega)]
 ·simp only [upd_at,litI_s hy, ←h.hi i hi]
  by_cases e:i=q
  ·subst e;rw [if_pos rfl,if_pos hq]
  ·rw [if_neg e,if_neg (by rw [hq];omega)]
 ·simp only [upd_at];split
  ·exact hw
  ·exact h.av i
theorem idsI_len (v:Version) (i:Nat) (l:List Room):(idsI v i l).length≤l.length:=by unfold idsI;rw [List.length_map];exact List.length_filter_le _ _
def PlanR (g:G) (cs:List V) (idx:Int) (v:Version) (l:List Room):Prop:=∃ rv:Nat→V,cs=[.i .i64 idx,.i .i64 1,rv 1,.i .i64 (litI v Room.lo 1 l),.i .i64 (litI v Room.hi 1 l),.i .i64 2,rv 2,.i .i64 (litI v Room.lo 2 l),.i .i64 (litI v Room.hi 2 l),.i .i64 3,rv 3,.i .i64 (litI v Room.lo 3 l),.i .i64 (litI v Room.hi 3 l),.i .i64 4,rv 4,.i .i64 (litI v Room.lo 4 l),.i .i64 (litI v Room.hi 4 l),.i .i64 5,rv 5,.i .i64 (litI v Room.lo 5 l),.i .i64 (litI v Room.hi 5 l),rv 0]∧∀ i,i < 6→RS IntR 1 g (rv i) (idsI v i l)
theorem PSok.app {v:Version} {l:List Room} {x:PS} (h:PSok v l x) (hl:l.length≤20) {i:Nat} {new:List V} (hn:new.length=1):(x.ids i).length+new.length≤1000000 * 1:=by
 rw [h.ids,flat_len (f:=intC) (s:=1) (fun _=>rfl),hn]
 have:=idsI_len v i (l.take x.k)
 rw [List.length_take] at this
 omega
theorem PSok.tk {v:Version} {l:List Room} {x:PS} (h:PSok v l x) (hk:l.length≤x.k):l.take x.k=l:=List.take_of_length_le hk
theorem PSok.fin {v:Version} {l:List Room} {x:PS} (h:PSok v l x) (hk:l.length≤x.k) (i:Nat):x.ids i=(idsI v i l).flatMap intC:=by rw [h.ids,h.tk hk]
theorem Qd {l:List Room} (hl:l.length≤20) (v:Version) (i:Nat):(idsI v i l).length≤9223372036854775807:=Nat.le_trans (idsI_len v i l) (by omega)
theorem planR_of {v:Version} {l:List Room} {x:PS} {g:G} (idx:Int) (h:PSok v l x) (hk:l.length≤x.k) (h0:RS IntR 1 g (x.rv 0) (idsI v 0 l)) (h1:RS IntR 1 g (x.rv 1) (idsI v 1 l)) (h2:RS IntR 1 g (x.rv 2) (idsI v 2 l)) (h3:RS IntR 1 g (x.rv 3) (idsI v 3 l)) (h4:RS IntR 1 g (x.rv 4) (idsI v 4 l)) (h5:RS IntR 1 g (x.rv 5) (idsI v 5 l)):
  PlanR g [.i .i64 idx,.i .i64 1,x.rv 1,.i .i64 (x.lo 1),.i .i64 (x.hi 1),.i .i64 2,x.rv 2,.i .i64 (x.lo 2),.i .i64 (x.hi 2),.i .i64 3,x.rv 3,.i .i64 (x.lo 3),.i .i64 (x.hi 3),.i .i64 4,x.rv 4,.i .i64 (x.lo 4),.i .i64 (x.hi 4),.i .i64 5,x.rv 5,.i .i64 (x.lo 5),.i .i64 (x.hi 5),x.rv 0] idx v l:=by
 refine ⟨x.rv,?_,fun i hi=>?_⟩
 ·rw [h.lo 1 (by decide),h.lo 2 (by decide),h.lo 3 (by decide),h.lo 4 (by decide),h.lo 5 (by decide),h.hi 1 (by decide),h.hi 2 (by decide),h.hi 3 (by decide),h.hi 4 (by decide),h.hi 5 (by decide),h.tk hk]
 ·match i,hi with
  | 0,_=>exact h0
  | 1,_=>exact h1
  | 2,_=>exact h2
  | 3,_=>exact h3
  | 4,_=>exact h4
  | 5,_=>exact h5
  | n+6,hi=>omega
end Go.Proofs.YtjflgemfeofciaaGreatDoor
namespace Go.Proofs.YtjflgemfeofciaaGreatDoor
open Go Go.Ev
set_option linter.unusedVariables false
set_option linter.unusedSimpArgs false
set_option maxRecDepth 10000
theorem qplan_ok (c:Code) (ver:Version) (idx e:Int) (l:List Room) (w:V) (cs:List V) (b:Nat) (g:G) (h:QR g c ver idx e cs) (hr:RS RoomR 6 g w l) (hl20:l.length≤20) (hv:ver.puts.all Put.ok=true):Fw Tryz.prog natS (.f 80 [] []) [.p b 0,w] g [.blk b (.cells cs 132)] fun g' ml' r=>∃ cs',ml'=[.blk b (.cells cs 132)]∧r= .agg cs'∧PlanR g' cs' idx ver l:=by
 refine Fw.forget (Post:=fun g' ml' r=>∃ cs',[Res.blk b (.cells cs 132)].Sublist ml'∧r= .agg cs'∧PlanR g' cs' idx ver l) ?_ (fun g' ml' r _ ⟨cs',h1,h2,h3⟩=>⟨_,h1,cs',rfl,h2,h3⟩)
 obtain ⟨vv,p,lv,rfl,hvs,hp,hl⟩:=h
 refine Fw.enter (N:=92) (al:=[(1,_),(0,_)]) Tryz.func80 (by kernel_rfl) (by kernel_rfl) rfl rfl rfl rfl ?_
 intro B
 refine .acc 1 3<|.acc 1 3<|.acc 1 3<|.acc 1 3<|.acc 1 3<|.acc 1 3<|.seq<|.region rfl<|.alloc .no rfl z_85 fun b1=>.nil<|sq_n<|.seq<|.region rfl<|.m rfl rfl<|.q (.nil rfl)<|.q (.fa rfl f_132_2)<|.w (.s rfl (.tl (.tl (.tl (.tl (.tl (.tl (.tl .hd))))))) a_3 rfl)<|.q (.build (qs:=[(0,_)]) (cs:=[_,_,_,_,_,_,_,_,_,_,_,_,_,_,_,_,_,_,_,_,_,_]) rfl b_85 rfl)<|.alloc .no rfl z_85 fun b2=>.st (cs':=[_,_,_,_,_,_,_,_,_,_,_,_,_,_,_,_,_,_,_,_,_,_]) .no rfl rfl rfl rfl s_85 rfl rfl .hd rfl rfl<|.nil<|sq_n<|.seq<|.seq<|.region rfl<|.m rfl rfl<|.nil<|sq_n<|.block<|.unroll<|.seq<|.region rfl<|.b rfl rfl rfl rfl ?_
 refine .nil<|sq_n<|.seq<|.condT rfl (by decide)<|.skip<|sq_n<|.seq<|.block<|.seq<|.region rfl<|.m rfl rfl<|.z rfl rfl<|.nil<|sq_n<|.region rfl<|.m rfl rfl<|.m rfl rfl<|.q (.addL (c:=1) rfl rfl rfl (by decide))<|.q (.fa rfl Qak)<|.q (.ixa (j:=0) rfl rfl ae_83 (by decide))<|.q (.fa rfl Qbz)<|.st (cs':=[_,_,_,_,_,_,_,_,_,_,_,_,_,_,_,_,_,_,_,_,_,_]) .no rfl rfl rfl rfl s_3 rfl rfl .hd rfl rfl<|.nil<|bq_n<|sq_n<|.region rfl<|.q (.addL (c:=1) rfl rfl rfl (by decide))<|.m rfl rfl<|.nil<|sq_n<|.unroll<|.seq<|.region rfl<|.b rfl rfl rfl rfl<|.nil<|sq_n<|.seq ?_
 refine .condT rfl (by decide)<|.skip<|sq_n<|.seq<|.block<|.seq<|.region rfl<|.m rfl rfl<|.z rfl rfl<|.nil<|sq_n<|.region rfl<|.m rfl rfl<|.m rfl rfl<|.q (.addL (c:=2) rfl rfl rfl (by decide))<|.q (.fa rfl Qak)<|.q (.ixa (j:=1) rfl rfl ae_83 (by decide))<|.q (.fa rfl Qbz)<|.st (cs':=[_,_,_,_,_,_,_,_,_,_,_,_,_,_,_,_,_,_,_,_,_,_]) .no rfl rfl rfl rfl s_3 rfl rfl .hd rfl rfl<|.nil<|bq_n<|sq_n<|.region rfl<|.q (.addL (c:=2) rfl rfl rfl (by decide))<|.m rfl rfl<|.nil<|sq_n<|.unroll<|.seq<|.region rfl<|.b rfl rfl rfl rfl<|.nil<|sq_n<|.seq<|.condT rfl (by decide)<|.skip<|sq_n ?_
 refine .seq<|.block<|.seq<|.region rfl<|.m rfl rfl<|.z rfl rfl<|.nil<|sq_n<|.region rfl<|.m rfl rfl<|.m rfl rfl<|.q (.addL (c:=3) rfl rfl rfl (by decide))<|.q (.fa rfl Qak)<|.q (.ixa (j:=2) rfl rfl ae_83 (by decide))<|.q (.fa rfl Qbz)<|.st (cs':=[_,_,_,_,_,_,_,_,_,_,_,_,_,_,_,_,_,_,_,_,_,_]) .no rfl rfl rfl rfl s_3 rfl rfl .hd rfl rfl<|.nil<|bq_n<|sq_n<|.region rfl<|.q (.addL (c:=3) rfl rfl rfl (by decide))<|.m rfl rfl<|.nil<|sq_n<|.unroll<|.seq<|.region rfl<|.b rfl rfl rfl rfl<|.nil<|sq_n<|.seq<|.condT rfl (by decide)<|.skip<|sq_n<|.seq<|.block ?_
 refine .seq<|.region rfl<|.m rfl rfl<|.z rfl rfl<|.nil<|sq_n<|.region rfl<|.m rfl rfl<|.m rfl rfl<|.q (.addL (c:=4) rfl rfl rfl (by decide))<|.q (.fa rfl Qak)<|.q (.ixa (j:=3) rfl rfl ae_83 (by decide))<|.q (.fa rfl Qbz)<|.st (cs':=[_,_,_,_,_,_,_,_,_,_,_,_,_,_,_,_,_,_,_,_,_,_]) .no rfl rfl rfl rfl s_3 rfl rfl .hd rfl rfl<|.nil<|bq_n<|sq_n<|.region rfl<|.q (.addL (c:=4) rfl rfl rfl (by decide))<|.m rfl rfl<|.nil<|sq_n<|.unroll<|.seq<|.region rfl<|.b rfl rfl rfl rfl<|.nil<|sq_n<|.seq<|.condT rfl (by decide)<|.skip<|sq_n<|.seq<|.block<|.seq<|.region rfl ?_
 refine .m rfl rfl<|.z rfl rfl<|.nil<|sq_n<|.region rfl<|.m rfl rfl<|.m rfl rfl<|.q (.addL (c:=5) rfl rfl rfl (by decide))<|.q (.fa rfl Qak)<|.q (.ixa (j:=4) rfl rfl ae_83 (by decide))<|.q (.fa rfl Qbz)<|.st (cs':=[_,_,_,_,_,_,_,_,_,_,_,_,_,_,_,_,_,_,_,_,_,_]) .no rfl rfl rfl rfl s_3 rfl rfl .hd rfl rfl<|.nil<|bq_n<|sq_n<|.region rfl<|.q (.addL (c:=5) rfl rfl rfl (by decide))<|.m rfl rfl<|.nil<|sq_n<|.unroll<|.seq<|.region rfl<|.b rfl rfl rfl rfl<|.nil<|sq_n<|.seq<|.condF rfl (by decide)<|.exit<|sq_e<|sq_e<|bq_x rfl<|sq_n<|.seq<|.seq<|.region rfl<|.m rfl rfl<|.q (.lenR rfl rfl rfl e_25 hr)<|.m rfl rfl ?_
 refine .nil<|sq_n<|.block<|.loopx (α:=PS) [(0,_),(4,_),(5,_),(27,_),(28,_)] [_,_] (fun fx x=>(29,.i .i64 (x.k:Int)) :: fx) (fun mx x=>[.blk b2 (.cells [.i .i64 idx,.i .i64 1,x.rv 1,.i .i64 (x.lo 1),.i .i64 (x.hi 1),.i .i64 2,x.rv 2,.i .i64 (x.lo 2),.i .i64 (x.hi 2),.i .i64 3,x.rv 3,.i .i64 (x.lo 3),.i .i64 (x.hi 3),.i .i64 4,x.rv 4,.i .i64 (x.lo 4),.i .i64 (x.hi 4),.i .i64 5,x.rv 5,.i .i64 (x.lo 5),.i .i64 (x.hi 5),x.rv 0] 85),rg mx 0,.acc (x.rv 0) 1 (x.ids 0) 3,.acc (x.rv 1) 1 (x.ids 1) 3,.acc (x.rv 2) 1 (x.ids 2) 3,.acc (x.rv 3) 1 (x.ids 3) 3,.acc (x.rv 4) 1 (x.ids 4) 3,.acc (x.rv 5) 1 (x.ids 5) 3,rg mx 1]) (fun x g'=>PSok ver l x) (fun x=>l.length - x.k) (PS.init) ⟨rfl,rfl,rfl,rfl,rfl,rfl,trivial⟩ (List.Sublist.refl _) (PSok.init ver l) ?_
 intro x g4 hle3 hJ
 replace hr:=hr.mono RoomR.mono hle3
 replace hvs:=hvs.mono VersionR.mono hle3
 replace hp:=hp.mono PutR.mono hle3
 replace hl:=fun k hk=>(hl k hk).mono PieceR.mono hle3
 refine .seq<|.region rfl<|.b rfl rfl rfl rfl<|.nil<|sq_n<|.seq<|.cond rfl (fun h5=>?_) (fun h5=>?_)
 ·have kh5:=h5;(try simp only [bk] at kh5)
  refine .skip<|sq_n<|.seq<|.block<|.seq<|.region rfl<|.ixn .no rfl rfl hr rfl e_25 (by omega) ?_
  intro b6 o6 cs6 y6 hy6 hq6 hr6
  obtain rfl:=hr6
  have hgb6:=Qcm hv y6
  refine .w (.pa 0 (vs:=[_,_,_,_,_,_]) rfl hq6 rfl a_29 s_29 rfl rfl)<|.alloc .no rfl z_29 fun b7=>.st (cs':=[_,_,_,_,_,_]) .no rfl rfl rfl rfl s_29 rfl rfl .hd rfl rfl<|.nil<|sq_n<|.seq<|.draw (tb:=[r0 0 0,r0 1 0,r0 3 0,r0 7 0,r0 0 0,r1 31 0,r1 63 1,r1 127 1,r1 127 1,r1 255 1,r1 1023 1]) rfl (by kernel_rfl) (by kernel_rfl) fun k0=>?_
  refine .m rfl rfl<|.q (.nil rfl)<|.q (.fa rfl f_132_1)<|.y rfl rfl rfl (.a (vs:=[_,_,_,_,_,_,_,_,_,_,_,_]) rfl (.tl (.tl (.tl (.tl (.tl (.tl (.tl (.tl (.tl .hd))))))))) a_97 s_97 rfl rfl)<|.y rfl rfl rfl (.a (vs:=[_,_,_,_,_,_]) rfl .hd a_29 s_29 rfl rfl)<|.callV .no rfl rfl rfl rfl rfl (group_ok _ _ _ _ ⟨_,_,rfl,hp,hl⟩ hv)<|.m rfl rfl<|.q (.ext rfl rfl)<|.q (.ext rfl rfl)<|.z rfl rfl<|.z rfl rfl<|.nil<|sq_n<|.seq<|.seq<|.region rfl<|.m rfl rfl<|.b rfl rfl rfl rfl<|.nil<|sq_n<|.cond rfl (fun h8=>?_) (fun h8=>?_)
  ·have kh8:=h8;(try simp only [bk] at kh8)
   refine .seq<|.region rfl<|.q (.fa rfl f_85_2)<|.w (.s rfl (.tl .hd) a_66 rfl)<|.q (.fa rfl Qca)<|.w (.s rfl .hd a_3 rfl)<|.bs .no rfl (qs:=[(0,_)]) (c:=[_]) rfl sl_66 el_3 (by decide) rfl fun b9=>.x .no rfl (.appA (m:=1) (new:=[_]) rfl rfl rfl (.tl (.tl (.tl (.tl .hd)))) sl_66 el_3 (.of rfl .sl sl_66 .hd (Nat.le_of_ble_eq_true rfl) rfl) (by decide) rfl (hJ.app hl20 rfl) rfl) fun v10=>.av (.tl (.tl (.tl (.tl .hd)))) fun av10=>.q (.fa rfl f_85_2)<|.st (cs':=[_,_,_,_,_,_,_,_,_,_,_,_,_,_,_,_,_,_,_,_,_,_]) .no rfl rfl av10.any av10.cells s_66 rfl rfl (.tl (.tl .hd)) rfl (Qa av10.one rfl)<|.nil<|sq_n<|.exit<|sq_e<|bq_x rfl<|sq_n<|.region rfl<|.q (.inc1 rfl rfl (by omega))<|.m rfl rfl<|.nil<|Qac (PS.mk (x.k+1) (upd x.rv 0 _) x.lo x.hi (upd x.ids 0 _)) ⟨rfl,rfl,rfl,rfl,rfl,rfl,trivial⟩ (.cons _ (.cons _ (List.Sublist.refl _))) (Le.refl _) ?_ ?_
   ·exact hJ.step0 ‹_› ‹_› ‹_›
   ·simp only;omega
  ·have kh8:=h8;(try simp only [bk] at kh8)
   refine .skip<|sq_n<|.seq<|.region rfl<|.m rfl rfl<|.q (.sub rfl rfl (by omega))<|.q (.fa rfl Qak) ?_
   rcases (case5 (ixg ‹0≤(grp ver _).1∧_› ‹¬ (grp ver _).1=0›)) with e11 | e11 | e11 | e11 | e11
   ·have ke11:=e11
    refine .q (.ixae (q:=0) rfl rfl e11 ae_83 (by decide))<|.z rfl rfl<|.nil<|sq_n<|.seq<|.draw (tb:=[r0 0 0,r0 0 0,r0 2 0,r0 6 0,r0 14 0,r0 0 0,r0 32 0,r0 96 0,r1 254 0,r1 511 1,r1 1023 1,r1 2047 1]) rfl (by kernel_rfl) (by kernel_rfl) fun k0=>?_
    refine .m rfl rfl<|.m rfl rfl<|.q (.nil rfl)<|.q (.fa rfl Qba)<|.y rfl rfl rfl (.s rfl (.tl .hd) a_66 rfl)<|.q (.fa rfl Qca)<|.y rfl rfl rfl (.s rfl .hd a_3 rfl)<|.f .no rfl (.bs (qs:=[(0,_)]) (c:=[_]) rfl sl_66 el_3 (by decide) rfl) fun b12=>.x .no rfl rfl (Qck rfl Qci) (Qbg rfl Qbh) (Qch rfl) (fun _ _=>.all (Qab rfl (Qab rfl rfl))) (.appA (m:=1) (new:=[_]) rfl rfl rfl (.tl (.tl (.tl (.tl (.tl .hd))))) sl_66 el_3 (.of rfl .sl sl_66 .hd (Nat.le_of_ble_eq_true rfl) rfl) (by decide) rfl (hJ.app hl20 rfl) rfl) fun v13=>.av (.tl (.tl (.tl (.tl (.tl .hd))))) fun av13=>.q (.nil rfl)<|.q (.fa rfl Qba)<|.st (cs':=[_,_,_,_,_,_,_,_,_,_,_,_,_,_,_,_,_,_,_,_,_,_]) .no rfl rfl rfl rfl av13.any av13.cells s_66 rfl rfl (.tl (.tl .hd)) rfl (Qa av13.one rfl) (.all (Qab rfl (Qab rfl rfl)))<|.nil<|sq_n<|.seq<|.draw (tb:=[r0 0 0,r0 1 0,r0 3 0,r0 7 0,r0 15 0,r0 0 0,r0 32 0,r0 96 0,r1 255 0,r1 511 0,r1 1023 0,r1 2047 0,r1 4095 0]) rfl (by kernel_rfl) (by kernel_rfl) fun k0=>?_
    refine .m rfl rfl<|.q (.nil rfl)<|.q (.fa rfl Qaj)<|.q (.fa rfl Qap)<|.y rfl rfl rfl (.s rfl (.tl (.tl .hd)) a_3 rfl)<|.q (.fa rfl Qbe)<|.q (.fa rfl Qap)<|.y rfl rfl rfl (.s rfl (.tl .hd) a_3 rfl)<|.b rfl rfl rfl rfl<|.q (.nil rfl)<|.q (.fa rfl Qaj)<|.q (.fa rfl Qap)<|.st (cs':=[_,_,_,_,_,_,_,_,_,_,_,_,_,_,_,_,_,_,_,_,_,_]) .no rfl rfl rfl rfl rfl rfl s_3 rfl rfl (.tl (.tl .hd)) rfl rfl (.all (Qab rfl (Qab rfl rfl)))<|.nil<|sq_n<|.draw (tb:=[r0 0 0,r0 1 0,r0 3 0,r0 7 0,r0 15 0,r0 0 0,r0 32 0,r0 96 0,r1 255 0,r1 511 0,r1 1023 0,r1 2047 0,r1 4095 0]) rfl (by kernel_rfl) (by kernel_rfl) fun k0=>?_
    refine .m rfl rfl<|.q (.nil rfl)<|.q (.fa rfl Qaj)<|.q (.fa rfl Qao)<|.y rfl rfl rfl (.s rfl (.tl (.tl .hd)) a_3 rfl)<|.q (.fa rfl Qbe)<|.q (.fa rfl Qao)<|.y rfl rfl rfl (.s rfl (.tl .hd) a_3 rfl)<|.b rfl rfl rfl rfl<|.q (.nil rfl)<|.q (.fa rfl Qaj)<|.q (.fa rfl Qao)<|.st (cs':=[_,_,_,_,_,_,_,_,_,_,_,_,_,_,_,_,_,_,_,_,_,_]) .no rfl rfl rfl rfl rfl rfl s_3 rfl rfl (.tl (.tl .hd)) rfl rfl (.all (Qab rfl (Qab rfl rfl)))<|.nil<|bq_n<|sq_n<|.region rfl<|.q (.inc1 rfl rfl (by omega))<|.m rfl rfl<|.nil<|Qac (PS.mk (x.k+1) (upd x.rv 1 _) (upd x.lo 1 _) (upd x.hi 1 _) (upd x.ids 1 _)) ⟨rfl,rfl,rfl,rfl,rfl,rfl,trivial⟩ (.cons _ (.cons _ (List.Sublist.refl _))) (Le.refl _) ?_ ?_
    ·exact hJ.stepq (q:=1) ‹_› (by omega) (by decide) ‹_›
    ·simp only;omega
   ·have ke11:=e11
    refine .q (.ixae (q:=1) rfl rfl e11 ae_83 (by decide))<|.z rfl rfl<|.nil<|sq_n<|.seq<|.draw (tb:=[r0 0 0,r0 0 0,r0 2 0,r0 6 0,r0 14 0,r0 0 0,r0 32 0,r0 96 0,r1 254 0,r1 511 1,r1 1023 1,r1 2047 1]) rfl (by kernel_rfl) (by kernel_rfl) fun k0=>?_
    refine .m rfl rfl<|.m rfl rfl<|.q (.nil rfl)<|.q (.fa rfl Qba)<|.y rfl rfl rfl (.s rfl (.tl .hd) a_66 rfl)<|.q (.fa rfl Qca)<|.y rfl rfl rfl (.s rfl .hd a_3 rfl)<|.f .no rfl (.bs (qs:=[(0,_)]) (c:=[_]) rfl sl_66 el_3 (by decide) rfl) fun b14=>.x .no rfl rfl (Qck rfl Qci) (Qbg rfl Qbh) (Qch rfl) (fun _ _=>.all (Qab rfl (Qab rfl rfl))) (.appA (m:=1) (new:=[_]) rfl rfl rfl (.tl (.tl (.tl (.tl (.tl (.tl .hd)))))) sl_66 el_3 (.of rfl .sl sl_66 .hd (Nat.le_of_ble_eq_true rfl) rfl) (by decide) rfl (hJ.app hl20 rfl) rfl) fun v15=>.av (.tl (.tl (.tl (.tl (.tl (.tl .hd)))))) fun av15=>.q (.nil rfl)<|.q (.fa rfl Qba)<|.st (cs':=[_,_,_,_,_,_,_,_,_,_,_,_,_,_,_,_,_,_,_,_,_,_]) .no rfl rfl rfl rfl av15.any av15.cells s_66 rfl rfl (.tl (.tl .hd)) rfl (Qa av15.one rfl) (.all (Qab rfl (Qab rfl rfl)))<|.nil<|sq_n<|.seq<|.draw (tb:=[r0 0 0,r0 1 0,r0 3 0,r0 7 0,r0 15 0,r0 0 0,r0 32 0,r0 96 0,r1 255 0,r1 511 0,r1 1023 0,r1 2047 0,r1 4095 0]) rfl (by kernel_rfl) (by kernel_rfl) fun k0=>?_
    refine .m rfl rfl<|.q (.nil rfl)<|.q (.fa rfl Qaj)<|.q (.fa rfl Qap)<|.y rfl rfl rfl (.s rfl (.tl (.tl .hd)) a_3 rfl)<|.q (.fa rfl Qbe)<|.q (.fa rfl Qap)<|.y rfl rfl rfl (.s rfl (.tl .hd) a_3 rfl)<|.b rfl rfl rfl rfl<|.q (.nil rfl)<|.q (.fa rfl Qaj)<|.q (.fa rfl Qap)<|.st (cs':=[_,_,_,_,_,_,_,_,_,_,_,_,_,_,_,_,_,_,_,_,_,_]) .no rfl rfl rfl rfl rfl rfl s_3 rfl rfl (.tl (.tl .hd)) rfl rfl (.all (Qab rfl (Qab rfl rfl)))<|.nil<|sq_n<|.draw (tb:=[r0 0 0,r0 1 0,r0 3 0,r0 7 0,r0 15 0,r0 0 0,r0 32 0,r0 96 0,r1 255 0,r1 511 0,r1 1023 0,r1 2047 0,r1 4095 0]) rfl (by kernel_rfl) (by kernel_rfl) fun k0=>?_
    refine .m rfl rfl<|.q (.nil rfl)<|.q (.fa rfl Qaj)<|.q (.fa rfl Qao)<|.y rfl rfl rfl (.s rfl (.tl (.tl .hd)) a_3 rfl)<|.q (.fa rfl Qbe)<|.q (.fa rfl Qao)<|.y rfl rfl rfl (.s rfl (.tl .hd) a_3 rfl)<|.b rfl rfl rfl rfl<|.q (.nil rfl)<|.q (.fa rfl Qaj)<|.q (.fa rfl Qao)<|.st (cs':=[_,_,_,_,_,_,_,_,_,_,_,_,_,_,_,_,_,_,_,_,_,_]) .no rfl rfl rfl rfl rfl rfl s_3 rfl rfl (.tl (.tl .hd)) rfl rfl (.all (Qab rfl (Qab rfl rfl)))<|.nil<|bq_n<|sq_n<|.region rfl<|.q (.inc1 rfl rfl (by omega))<|.m rfl rfl<|.nil<|Qac (PS.mk (x.k+1) (upd x.rv 2 _) (upd x.lo 2 _) (upd x.hi 2 _) (upd x.ids 2 _)) ⟨rfl,rfl,rfl,rfl,rfl,rfl,trivial⟩ (.cons _ (.cons _ (List.Sublist.refl _))) (Le.refl _) ?_ ?_
    ·exact hJ.stepq (q:=2) ‹_› (by omega) (by decide) ‹_›
    ·simp only;omega
   ·have ke11:=e11
    refine .q (.ixae (q:=2) rfl rfl e11 ae_83 (by decide))<|.z rfl rfl<|.nil<|sq_n<|.seq<|.draw (tb:=[r0 0 0,r0 0 0,r0 2 0,r0 6 0,r0 14 0,r0 0 0,r0 32 0,r0 96 0,r1 254 0,r1 511 1,r1 1023 1,r1 2047 1]) rfl (by kernel_rfl) (by kernel_rfl) fun k0=>?_
    refine .m rfl rfl<|.m rfl rfl<|.q (.nil rfl)<|.q (.fa rfl Qba)<|.y rfl rfl rfl (.s rfl (.tl .hd) a_66 rfl)<|.q (.fa rfl Qca)<|.y rfl rfl rfl (.s rfl .hd a_3 rfl)<|.f .no rfl (.bs (qs:=[(0,_)]) (c:=[_]) rfl sl_66 el_3 (by decide) rfl) fun b16=>.x .no rfl rfl (Qck rfl Qci) (Qbg rfl Qbh) (Qch rfl) (fun _ _=>.all (Qab rfl (Qab rfl rfl))) (.appA (m:=1) (new:=[_]) rfl rfl rfl (.tl (.tl (.tl (.tl (.tl (.tl (.tl .hd))))))) sl_66 el_3 (.of rfl .sl sl_66 .hd (Nat.le_of_ble_eq_true rfl) rfl) (by decide) rfl (hJ.app hl20 rfl) rfl) fun v17=>.av (.tl (.tl (.tl (.tl (.tl (.tl (.tl .hd))))))) fun av17=>.q (.nil rfl)<|.q (.fa rfl Qba)<|.st (cs':=[_,_,_,_,_,_,_,_,_,_,_,_,_,_,_,_,_,_,_,_,_,_]) .no rfl rfl rfl rfl av17.any av17.cells s_66 rfl rfl (.tl (.tl .hd)) rfl (Qa av17.one rfl) (.all (Qab rfl (Qab rfl rfl)))<|.nil<|sq_n<|.seq<|.draw (tb:=[r0 0 0,r0 1 0,r0 3 0,r0 7 0,r0 15 0,r0 0 0,r0 32 0,r0 96 0,r1 255 0,r1 511 0,r1 1023 0,r1 2047 0,r1 4095 0]) rfl (by kernel_rfl) (by kernel_rfl) fun k0=>?_
    refine .m rfl rfl<|.q (.nil rfl)<|.q (.fa rfl Qaj)<|.q (.fa rfl Qap)<|.y rfl rfl rfl (.s rfl (.tl (.tl .hd)) a_3 rfl)<|.q (.fa rfl Qbe)<|.q (.fa rfl Qap)<|.y rfl rfl rfl (.s rfl (.tl .hd) a_3 rfl)<|.b rfl rfl rfl rfl<|.q (.nil rfl)<|.q (.fa rfl Qaj)<|.q (.fa rfl Qap)<|.st (cs':=[_,_,_,_,_,_,_,_,_,_,_,_,_,_,_,_,_,_,_,_,_,_]) .no rfl rfl rfl rfl rfl rfl s_3 rfl rfl (.tl (.tl .hd)) rfl rfl (.all (Qab rfl (Qab rfl rfl)))<|.nil<|sq_n<|.draw (tb:=[r0 0 0,r0 1 0,r0 3 0,r0 7 0,r0 15 0,r0 0 0,r0 32 0,r0 96 0,r1 255 0,r1 511 0,r1 1023 0,r1 2047 0,r1 4095 0]) rfl (by kernel_rfl) (by kernel_rfl) fun k0=>?_
    refine .m rfl rfl<|.q (.nil rfl)<|.q (.fa rfl Qaj)<|.q (.fa rfl Qao)<|.y rfl rfl rfl (.s rfl (.tl (.tl .hd)) a_3 rfl)<|.q (.fa rfl Qbe)<|.q (.fa rfl Qao)<|.y rfl rfl rfl (.s rfl (.tl .hd) a_3 rfl)<|.b rfl rfl rfl rfl<|.q (.nil rfl)<|.q (.fa rfl Qaj)<|.q (.fa rfl Qao)<|.st (cs':=[_,_,_,_,_,_,_,_,_,_,_,_,_,_,_,_,_,_,_,_,_,_]) .no rfl rfl rfl rfl rfl rfl s_3 rfl rfl (.tl (.tl .hd)) rfl rfl (.all (Qab rfl (Qab rfl rfl)))<|.nil<|bq_n<|sq_n<|.region rfl<|.q (.inc1 rfl rfl (by omega))<|.m rfl rfl<|.nil<|Qac (PS.mk (x.k+1) (upd x.rv 3 _) (upd x.lo 3 _) (upd x.hi 3 _) (upd x.ids 3 _)) ⟨rfl,rfl,rfl,rfl,rfl,rfl,trivial⟩ (.cons _ (.cons _ (List.Sublist.refl _))) (Le.refl _) ?_ ?_
    ·exact hJ.stepq (q:=3) ‹_› (by omega) (by decide) ‹_›
    ·simp only;omega
   ·have ke11:=e11
    refine .q (.ixae (q:=3) rfl rfl e11 ae_83 (by decide))<|.z rfl rfl<|.nil<|sq_n<|.seq<|.draw (tb:=[r0 0 0,r0 0 0,r0 2 0,r0 6 0,r0 14 0,r0 0 0,r0 32 0,r0 96 0,r1 254 0,r1 511 1,r1 1023 1,r1 2047 1]) rfl (by kernel_rfl) (by kernel_rfl) fun k0=>?_
    refine .m rfl rfl<|.m rfl rfl<|.q (.nil rfl)<|.q (.fa rfl Qba)<|.y rfl rfl rfl (.s rfl (.tl .hd) a_66 rfl)<|.q (.fa rfl Qca)<|.y rfl rfl rfl (.s rfl .hd a_3 rfl)<|.f .no rfl (.bs (qs:=[(0,_)]) (c:=[_]) rfl sl_66 el_3 (by decide) rfl) fun b18=>.x .no rfl rfl (Qck rfl Qci) (Qbg rfl Qbh) (Qch rfl) (fun _ _=>.all (Qab rfl (Qab rfl rfl))) (.appA (m:=1) (new:=[_]) rfl rfl rfl (.tl (.tl (.tl (.tl (.tl (.tl (.tl (.tl .hd)))))))) sl_66 el_3 (.of rfl .sl sl_66 .hd (Nat.le_of_ble_eq_true rfl) rfl) (by decide) rfl (hJ.app hl20 rfl) rfl) fun v19=>.av (.tl (.tl (.tl (.tl (.tl (.tl (.tl (.tl .hd)))))))) fun av19=>.q (.nil rfl)<|.q (.fa rfl Qba)<|.st (cs':=[_,_,_,_,_,_,_,_,_,_,_,_,_,_,_,_,_,_,_,_,_,_]) .no rfl rfl rfl rfl av19.any av19.cells s_66 rfl rfl (.tl (.tl .hd)) rfl (Qa av19.one rfl) (.all (Qab rfl (Qab rfl rfl)))<|.nil<|sq_n<|.seq<|.draw (tb:=[r0 0 0,r0 1 0,r0 3 0,r0 7 0,r0 15 0,r0 0 0,r0 32 0,r0 96 0,r1 255 0,r1 511 0,r1 1023 0,r1 2047 0,r1 4095 0]) rfl (by kernel_rfl) (by kernel_rfl) fun k0=>?_
    refine .m rfl rfl<|.q (.nil rfl)<|.q (.fa rfl Qaj)<|.q (.fa rfl Qap)<|.y rfl rfl rfl (.s rfl (.tl (.tl .hd)) a_3 rfl)<|.q (.fa rfl Qbe)<|.q (.fa rfl Qap)<|.y rfl rfl rfl (.s rfl (.tl .hd) a_3 rfl)<|.b rfl rfl rfl rfl<|.q (.nil rfl)<|.q (.fa rfl Qaj)<|.q (.fa rfl Qap)<|.st (cs':=[_,_,_,_,_,_,_,_,_,_,_,_,_,_,_,_,_,_,_,_,_,_]) .no rfl rfl rfl rfl rfl rfl s_3 rfl rfl (.tl (.tl .hd)) rfl rfl (.all (Qab rfl (Qab rfl rfl)))<|.nil<|sq_n<|.draw (tb:=[r0 0 0,r0 1 0,r0 3 0,r0 7 0,r0 15 0,r0 0 0,r0 32 0,r0 96 0,r1 255 0,r1 511 0,r1 1023 0,r1 2047 0,r1 4095 0]) rfl (by kernel_rfl) (by kernel_rfl) fun k0=>?_
    refine .m rfl rfl<|.q (.nil rfl)<|.q (.fa rfl Qaj)<|.q (.fa rfl Qao)<|.y rfl rfl rfl (.s rfl (.tl (.tl .hd)) a_3 rfl)<|.q (.fa rfl Qbe)<|.q (.fa rfl Qao)<|.y rfl rfl rfl (.s rfl (.tl .hd) a_3 rfl)<|.b rfl rfl rfl rfl<|.q (.nil rfl)<|.q (.fa rfl Qaj)<|.q (.fa rfl Qao)<|.st (cs':=[_,_,_,_,_,_,_,_,_,_,_,_,_,_,_,_,_,_,_,_,_,_]) .no rfl rfl rfl rfl rfl rfl s_3 rfl rfl (.tl (.tl .hd)) rfl rfl (.all (Qab rfl (Qab rfl rfl)))<|.nil<|bq_n<|sq_n<|.region rfl<|.q (.inc1 rfl rfl (by omega))<|.m rfl rfl<|.nil<|Qac (PS.mk (x.k+1) (upd x.rv 4 _) (upd x.lo 4 _) (upd x.hi 4 _) (upd x.ids 4 _)) ⟨rfl,rfl,rfl,rfl,rfl,rfl,trivial⟩ (.cons _ (.cons _ (List.Sublist.refl _))) (Le.refl _) ?_ ?_
    ·exact hJ.stepq (q:=4) ‹_› (by omega) (by decide) ‹_›
    ·simp only;omega
   ·have ke11:=e11
    refine .q (.ixae (q:=4) rfl rfl e11 ae_83 (by decide))<|.z rfl rfl<|.nil<|sq_n<|.seq<|.draw (tb:=[r0 0 0,r0 0 0,r0 2 0,r0 6 0,r0 14 0,r0 0 0,r0 32 0,r0 96 0,r1 254 0,r1 511 1,r1 1023 1,r1 2047 1]) rfl (by kernel_rfl) (by kernel_rfl) fun k0=>?_
    refine .m rfl rfl<|.m rfl rfl<|.q (.nil rfl)<|.q (.fa rfl Qba)<|.y rfl rfl rfl (.s rfl (.tl .hd) a_66 rfl)<|.q (.fa rfl Qca)<|.y rfl rfl rfl (.s rfl .hd a_3 rfl)<|.f .no rfl (.bs (qs:=[(0,_)]) (c:=[_]) rfl sl_66 el_3 (by decide) rfl) fun b20=>.x .no rfl rfl (Qck rfl Qci) (Qbg rfl Qbh) (Qch rfl) (fun _ _=>.all (Qab rfl (Qab rfl rfl))) (.appA (m:=1) (new:=[_]) rfl rfl rfl (.tl (.tl (.tl (.tl (.tl (.tl (.tl (.tl (.tl .hd))))))))) sl_66 el_3 (.of rfl .sl sl_66 .hd (Nat.le_of_ble_eq_true rfl) rfl) (by decide) rfl (hJ.app hl20 rfl) rfl) fun v21=>.av (.tl (.tl (.tl (.tl (.tl (.tl (.tl (.tl (.tl .hd))))))))) fun av21=>.q (.nil rfl)<|.q (.fa rfl Qba)<|.st (cs':=[_,_,_,_,_,_,_,_,_,_,_,_,_,_,_,_,_,_,_,_,_,_]) .no rfl rfl rfl rfl av21.any av21.cells s_66 rfl rfl (.tl (.tl .hd)) rfl (Qa av21.one rfl) (.all (Qab rfl (Qab rfl rfl)))<|.nil<|sq_n<|.seq<|.draw (tb:=[r0 0 0,r0 1 0,r0 3 0,r0 7 0,r0 15 0,r0 0 0,r0 32 0,r0 96 0,r1 255 0,r1 511 0,r1 1023 0,r1 2047 0,r1 4095 0]) rfl (by kernel_rfl) (by kernel_rfl) fun k0=>?_
    refine .m rfl rfl<|.q (.nil rfl)<|.q (.fa rfl Qaj)<|.q (.fa rfl Qap)<|.y rfl rfl rfl (.s rfl (.tl (.tl .hd)) a_3 rfl)<|.q (.fa rfl Qbe)<|.q (.fa rfl Qap)<|.y rfl rfl rfl (.s rfl (.tl .hd) a_3 rfl)<|.b rfl rfl rfl rfl<|.q (.nil rfl)<|.q (.fa rfl Qaj)<|.q (.fa rfl Qap)<|.st (cs':=[_,_,_,_,_,_,_,_,_,_,_,_,_,_,_,_,_,_,_,_,_,_]) .no rfl rfl rfl rfl rfl rfl s_3 rfl rfl (.tl (.tl .hd)) rfl rfl (.all (Qab rfl (Qab rfl rfl)))<|.nil<|sq_n<|.draw (tb:=[r0 0 0,r0 1 0,r0 3 0,r0 7 0,r0 15 0,r0 0 0,r0 32 0,r0 96 0,r1 255 0,r1 511 0,r1 1023 0,r1 2047 0,r1 4095 0]) rfl (by kernel_rfl) (by kernel_rfl) fun k0=>?_
    refine .m rfl rfl<|.q (.nil rfl)<|.q (.fa rfl Qaj)<|.q (.fa rfl Qao)<|.y rfl rfl rfl (.s rfl (.tl (.tl .hd)) a_3 rfl)<|.q (.fa rfl Qbe)<|.q (.fa rfl Qao)<|.y rfl rfl rfl (.s rfl (.tl .hd) a_3 rfl)<|.b rfl rfl rfl rfl<|.q (.nil rfl)<|.q (.fa rfl Qaj)<|.q (.fa rfl Qao)<|.st (cs':=[_,_,_,_,_,_,_,_,_,_,_,_,_,_,_,_,_,_,_,_,_,_]) .no rfl rfl rfl rfl rfl rfl s_3 rfl rfl (.tl (.tl .hd)) rfl rfl (.all (Qab rfl (Qab rfl rfl)))<|.nil<|bq_n<|sq_n<|.region rfl<|.q (.inc1 rfl rfl (by omega))<|.m rfl rfl<|.nil<|Qac (PS.mk (x.k+1) (upd x.rv 5 _) (upd x.lo 5 _) (upd x.hi 5 _) (upd x.ids 5 _)) ⟨rfl,rfl,rfl,rfl,rfl,rfl,trivial⟩ (.cons _ (.cons _ (List.Sublist.refl _))) (Le.refl _) ?_ ?_
    ·exact hJ.stepq (q:=5) ‹_› (by omega) (by decide) ‹_›
    ·simp only;omega
 ·have kh5:=h5;(try simp only [bk] at kh5)
  refine .exit<|sq_e<|lq_e<|bq_x rfl<|sq_n<|.seq<|.region rfl<|.w (.a (vs:=[_,_,_,_,_,_,_,_,_,_,_,_,_,_,_,_,_,_,_,_,_,_]) rfl .hd a_85 s_85 rfl rfl)<|.st (cs':=[_,_,_,_,_,_,_,_,_,_,_,_,_,_,_,_,_,_,_,_,_,_]) .no rfl rfl rfl rfl s_85 rfl rfl (.tl .hd) rfl (Qa rfl (Qa rfl (Qa (hJ.av 1).one (Qa rfl (Qa rfl (Qa rfl (Qa (hJ.av 2).one (Qa rfl (Qa rfl (Qa rfl (Qa (hJ.av 3).one (Qa rfl (Qa rfl (Qa rfl (Qa (hJ.av 4).one (Qa rfl (Qa rfl (Qa rfl (Qa (hJ.av 5).one (Qa rfl (Qa rfl (Qa (hJ.av 0).one rfl))))))))))))))))))))))<|.nil<|sq_n<|.freezeA intC IntR (idsI ver 0 l) (.tl (.tl .hd)) (by decide) (fun _=>rfl) (hJ.fin (by omega) 0) (Qd hl20 ver 0) (fun _ _ _ _=>rfl) ?_
  intro g22 hle23 hf24
  replace hr:=hr.mono RoomR.mono hle23
  replace hvs:=hvs.mono VersionR.mono hle23
  replace hp:=hp.mono PutR.mono hle23
  replace hl:=fun k hk=>(hl k hk).mono PieceR.mono hle23
  refine .freezeA intC IntR (idsI ver 1 l) (.tl (.tl .hd)) (by decide) (fun _=>rfl) (hJ.fin (by omega) 1) (Qd hl20 ver 1) (fun _ _ _ _=>rfl) ?_
  intro g25 hle26 hf27
  replace hr:=hr.mono RoomR.mono hle26
  replace hvs:=hvs.mono VersionR.mono hle26
  replace hp:=hp.mono PutR.mono hle26
  replace hl:=fun k hk=>(hl k hk).mono PieceR.mono hle26
  replace hf24:=hf24.mono IntR.mono hle26
  refine .freezeA intC IntR (idsI ver 2 l) (.tl (.tl .hd)) (by decide) (fun _=>rfl) (hJ.fin (by omega) 2) (Qd hl20 ver 2) (fun _ _ _ _=>rfl) ?_
  intro g28 hle29 hf30
  replace hr:=hr.mono RoomR.mono hle29
  replace hvs:=hvs.mono VersionR.mono hle29
  replace hp:=hp.mono PutR.mono hle29
  replace hl:=fun k hk=>(hl k hk).mono PieceR.mono hle29
  replace hf24:=hf24.mono IntR.mono hle29
  replace hf27:=hf27.mono IntR.mono hle29
  refine .freezeA intC IntR (idsI ver 3 l) (.tl (.tl .hd)) (by decide) (fun _=>rfl) (hJ.fin (by omega) 3) (Qd hl20 ver 3) (fun _ _ _ _=>rfl) ?_
  intro g31 hle32 hf33
  replace hr:=hr.mono RoomR.mono hle32
  replace hvs:=hvs.mono VersionR.mono hle32
  replace hp:=hp.mono PutR.mono hle32
  replace hl:=fun k hk=>(hl k hk).mono PieceR.mono hle32
  replace hf24:=hf24.mono IntR.mono hle32
  replace hf27:=hf27.mono IntR.mono hle32
  replace hf30:=hf30.mono IntR.mono hle32
  refine .freezeA intC IntR (idsI ver 4 l) (.tl (.tl .hd)) (by decide) (fun _=>rfl) (hJ.fin (by omega) 4) (Qd hl20 ver 4) (fun _ _ _ _=>rfl) ?_
  intro g34 hle35 hf36
  replace hr:=hr.mono RoomR.mono hle35
  replace hvs:=hvs.mono VersionR.mono hle35
  replace hp:=hp.mono PutR.mono hle35
  replace hl:=fun k hk=>(hl k hk).mono PieceR.mono hle35
  replace hf24:=hf24.mono IntR.mono hle35
  replace hf27:=hf27.mono IntR.mono hle35
  replace hf30:=hf30.mono IntR.mono hle35
  replace hf33:=hf33.mono IntR.mono hle35
  refine .freezeA intC IntR (idsI ver 5 l) (.tl (.tl .hd)) (by decide) (fun _=>rfl) (hJ.fin (by omega) 5) (Qd hl20 ver 5) (fun _ _ _ _=>rfl) ?_
  intro g37 hle38 hf39
  replace hr:=hr.mono RoomR.mono hle38
  replace hvs:=hvs.mono VersionR.mono hle38
  replace hp:=hp.mono PutR.mono hle38
  replace hl:=fun k hk=>(hl k hk).mono PieceR.mono hle38
  replace hf24:=hf24.mono IntR.mono hle38
  replace hf27:=hf27.mono IntR.mono hle38
  replace hf30:=hf30.mono IntR.mono hle38
  replace hf33:=hf33.mono IntR.mono hle38
  replace hf36:=hf36.mono IntR.mono hle38
  refine .drop (.cons _ (List.Sublist.refl _))<|.ret<|Qaa ((((((hle3.trans hle23).trans hle26).trans hle29).trans hle32).trans hle35).trans hle38) (.cell (.a (vs:=[_,_,_,_,_,_,_,_,_,_,_,_,_,_,_,_,_,_,_,_,_,_]) rfl .hd a_85 s_85 rfl rfl) .nil) rfl ?_
  exact ⟨_,.cons _ (List.Sublist.refl _),rfl,planR_of idx hJ (by omega) ‹_› ‹_› ‹_› ‹_› ‹_› ‹_›⟩
end Go.Proofs.YtjflgemfeofciaaGreatDoor
