import Derived.Test.YtjflgemfeofciaaGreatDoorPn4
namespace Go.Proofs.YtjflgemfeofciaaGreatDoor
open Go Go.Ev
set_option linter.unusedVariables false
set_option linter.unusedSimpArgs false
set_option maxRecDepth 10000
def rngC (x:Int × Int):List V:=[.i .i64 x.1,.i .i64 x.2]
def RngR (g:G) (cs:List V) (x:Int × Int):Prop:=cs=rngC x
theorem RngR.mono:∀ g g' cs x,Le g g'→RngR g cs x→RngR g' cs x:=fun _ _ _ _ _ h=>h
def NatR (g:G) (cs:List V) (i:Nat):Prop:=cs=intC (i:Int)
theorem NatR.mono:∀ g g' cs x,Le g g'→NatR g cs x→NatR g' cs x:=fun _ _ _ _ _ h=>h
def frA (l:List Piece) (i:Nat):Int:=match l[i]? with | some p=>p.fr | none=>0
def cellA (l:List Piece) (lo hi:Int) (i:Nat):Int × Int:=(if i < l.length then max lo (frA l i) else lo,if i+1 < l.length then min hi (frA l (i+1) - 1) else hi)
def cellB (l:List Piece) (lo hi:Int) (i:Nat):Bool:=decide ((cellA l lo hi i).1≤(cellA l lo hi i).2)
def cellN (l:List Piece) (lo hi:Int) (k:Nat):List Nat:=(List.range k).filter (cellB l lo hi)
theorem cellN_s (l:List Piece) (lo hi:Int) (k:Nat):cellN l lo hi (k+1)=cellN l lo hi k ++ if cellB l lo hi k=true then [k] else []:=by
 unfold cellN
 rw [List.range_succ,List.filter_append]
 congr 1
 cases h:cellB l lo hi k <;> simp [h]
theorem cellN_len (l:List Piece) (lo hi:Int) (k:Nat):(cellN l lo hi k).length≤k:=by
 unfold cellN
 have:=List.length_filter_le (cellB l lo hi) (List.range k)
 rw [List.length_range] at this
 exact this
structure CSt where
 k:Nat
 p:V
 q:V
 ps:List V
 qs:List V
structure CSok (l:List Piece) (lo hi:Int) (n:Nat) (x:CSt):Prop where
 hk:x.k≤n
 ps:x.ps=(cellN l lo hi x.k).flatMap fun (i:Nat)=>intC (i:Int)
 qs:x.qs=(cellN l lo hi x.k).flatMap fun i=>rngC (cellA l lo hi i)
 ap:Av x.p
 aq:Av x.q
theorem CSok.init (l:List Piece) (lo hi:Int) (n:Nat):CSok l lo hi n ⟨0,.sn,.sn,[],[]⟩:=⟨Nat.zero_le _,rfl,rfl,.nil,.nil⟩
theorem CSok.no {l:List Piece} {lo hi:Int} {n:Nat} {x:CSt} (h:CSok l lo hi n x) (hk:x.k < n) (hb:cellB l lo hi x.k=false):CSok l lo hi n ⟨x.k+1,x.p,x.q,x.ps,x.qs⟩:=by
 refine ⟨hk,?_,?_,h.ap,h.aq⟩
 ·rw [cellN_s,hb];simp [h.ps]
 ·rw [cellN_s,hb];simp [h.qs]
theorem CSok.yes {l:List Piece} {lo hi:Int} {n:Nat} {x:CSt} {a b:V} {y z:Int} (h:CSok l lo hi n x) (hk:x.k < n) (hc:cellA l lo hi x.k=(y,z)) (hyz:y≤z) (ha:Av a) (hb:Av b):CSok l lo hi n ⟨x.k+1,a,b,x.ps ++ [.i .i64 x.k],x.qs ++ [.i .i64 y,.i .i64 z]⟩:=by
 have e:cellB l lo hi x.k=true:=by unfold cellB;rw [hc];exact decide_eq_true hyz
 refine ⟨hk,?_,?_,ha,hb⟩
 ·rw [cellN_s,if_pos e,List.flatMap_append, ←h.ps];rfl
 ·rw [cellN_s,if_pos e,List.flatMap_append, ←h.qs];simp [hc,rngC]
theorem CSok.ap1 {l:List Piece} {lo hi:Int} {n:Nat} {x:CSt} (h:CSok l lo hi n x) (hn:n≤8) {new:List V} (e:new.length=1):x.ps.length+new.length≤1000000 * 1:=by
 rw [h.ps,flat_len (f:=fun (i:Nat)=>intC (i:Int)) (s:=1) (fun _=>rfl),e]
 have:=cellN_len l lo hi x.k
 have:=h.hk
 omega
theorem CSok.ap2 {l:List Piece} {lo hi:Int} {n:Nat} {x:CSt} (h:CSok l lo hi n x) (hn:n≤8) {new:List V} (e:new.length=2):x.qs.length+new.length≤1000000 * 2:=by
 rw [h.qs,flat_len (f:=fun (i:Nat)=>rngC (cellA l lo hi i)) (s:=2) (fun _=>rfl),e]
 have:=cellN_len l lo hi x.k
 have:=h.hk
 omega
theorem cellA_of {l:List Piece} {lo hi:Int} {k:Nat} {y z:Int} (h1:y=if k < l.length then max lo (frA l k) else lo) (h2:z=if k+1 < l.length then min hi (frA l (k+1) - 1) else hi):cellA l lo hi k=(y,z):=by
 subst h1 h2;rfl
theorem line_fr {l:List Piece} {k:Nat} {y:Piece} (h:lineB l=true) (hy:l[k]? =some y):0≤y.fr∧y.fr≤20000000000:=by
 unfold lineB at h
 rw [Bool.and_eq_true] at h
 have:=allR_get h.2 (List.getElem?_eq_some_iff.1 hy).1
 unfold pgood Qae at this
 rw [hy] at this
 simp only [Bool.and_eq_true,decide_eq_true_eq] at this
 exact this.1
theorem line_len {l:List Piece} (h:lineB l=true):l.length≤8:=by
 unfold lineB at h
 rw [Bool.and_eq_true,decide_eq_true_eq] at h
 exact h.1
theorem Qc {l:List Piece} {k:Nat} {y:Piece} (hy:l[k]? =some y):frA l k=y.fr:=by unfold frA;rw [hy]
def nCell (l:List Piece):Nat:=max l.length 1
theorem CSok.fp {l:List Piece} {lo hi:Int} {n:Nat} {x:CSt} (h:CSok l lo hi n x) (hk:n≤x.k):x.ps=(cellN l lo hi n).flatMap fun (i:Nat)=>intC (i:Int):=by
 rw [h.ps,Nat.le_antisymm h.hk hk]
theorem CSok.fq {l:List Piece} {lo hi:Int} {n:Nat} {x:CSt} (h:CSok l lo hi n x) (hk:n≤x.k):x.qs=((cellN l lo hi n).map (cellA l lo hi)).flatMap rngC:=by
 rw [h.qs,Nat.le_antisymm h.hk hk,List.flatMap_map]
theorem Qds (l:List Piece) (lo hi:Int) (v:V) (g:G) (h:RS PieceR 3 g v l) (hln:lineB l=true):Fw Tryz.prog natS (.f 92 [] []) [v,.agg [.i .i64 lo,.i .i64 hi]] g [] fun g' ml' r=>∃ a b,ml'=[]∧r= .tup [a,b]∧RS NatR 1 g' a (cellN l lo hi (nCell l))∧RS RngR 2 g' b ((cellN l lo hi (nCell l)).map (cellA l lo hi)):=by
 refine Fw.forget (Post:=fun g' ml' r=>∃ a b,List.Sublist [] ml'∧r= .tup [a,b]∧RS NatR 1 g' a (cellN l lo hi (nCell l))∧RS RngR 2 g' b ((cellN l lo hi (nCell l)).map (cellA l lo hi))) ?_ (fun g' ml' r _ ⟨a,b,h1,h2,h3,h4⟩=>⟨_,h1,a,b,rfl,h2,h3,h4⟩)
 have hl8:=line_len hln
 have hn8:nCell l≤8:=by unfold nCell;omega
 refine Fw.enter (N:=60) (al:=[(1,_),(0,_)]) Tryz.func92 (by kernel_rfl) (by kernel_rfl) rfl rfl rfl rfl ?_
 intro B
 refine .acc 2 27<|.acc 1 3<|.seq<|.region rfl<|.box .no rfl rfl rfl rfl fun b1=>.z rfl rfl<|.z rfl rfl<|.nil<|sq_n<|.seq<|.seq<|.region rfl<|.m rfl rfl<|.q (.lenR rfl rfl rfl e_93 h)<|.q (.mx rfl rfl rfl rfl)<|.m rfl rfl<|.nil<|sq_n<|.block<|.loopx (α:=CSt) [(0,_),(3,_),(10,_)] [_] (fun fx x=>(4,x.p) :: (5,x.q) :: (11,.i .i64 (x.k:Int)) :: fx) (fun mx x=>[rg mx 0,.acc x.p 1 x.ps 3,.acc x.q 2 x.qs 27]) (fun x g'=>CSok l lo hi (nCell l) x) (fun x=>nCell l - x.k) (⟨0,.sn,.sn,[],[]⟩) ⟨rfl,rfl,rfl,rfl,rfl,rfl,trivial⟩ (List.Sublist.refl _) (CSok.init l lo hi _) ?_
 intro x g3 hle2 hJ
 replace h:=h.mono PieceR.mono hle2
 refine .seq<|.region rfl<|.b rfl rfl rfl rfl<|.nil<|sq_n<|.seq<|.cond rfl (fun h4=>?_) (fun h4=>?_)
 ·have kh4:=h4;(try simp only [bk] at kh4)
  refine .skip<|sq_n<|.seq<|.block<|.seq<|.region rfl<|.m rfl rfl<|.z rfl rfl<|.nil<|sq_n<|.seq<|.region rfl<|.w (.a (vs:=[_,_]) rfl .hd a_27 s_27 rfl rfl)<|.alloc .no rfl z_27 fun b5=>.st (cs':=[_,_]) .no rfl rfl rfl rfl s_27 rfl rfl .hd rfl rfl<|.nil<|sq_n<|.seq<|.seq<|.region rfl<|.m rfl rfl<|.m rfl rfl<|.q (.lenR rfl rfl rfl e_93 h)<|.b rfl rfl rfl rfl<|.nil<|sq_n<|.cond rfl (fun h6=>?_) (fun h6=>?_)
  ·have kh6:=h6;(try simp only [bk] at kh6)
   refine .draw (tb:=[r0 0 0,r0 1 0,r0 0 0,r0 0 0,r0 12 0,r0 28 0,r0 60 0,r1 127 0,r1 255 0,r1 511 0]) rfl (by kernel_rfl) (by kernel_rfl) fun k0=>?_
   refine .q (.fa rfl Qap)<|.y rfl rfl rfl (.s rfl .hd a_3 rfl)<|.m rfl rfl<|.m rfl rfl<|.ixn .no rfl rfl h rfl e_93 (by omega) ?_
   intro b7 o7 cs7 y7 hy7 hq7 hr7
   obtain rfl:=hr7
   have hfr7:=line_fr hln hy7
   refine .q (.fa rfl Qbp)<|.y rfl rfl rfl (.ps 0 rfl hq7 rfl a_3 rfl)<|.q (.mx rfl rfl rfl rfl)<|.q (.fa rfl Qap)<|.st (cs':=[_,_]) .no rfl rfl rfl rfl rfl rfl s_3 rfl rfl .hd rfl rfl (.all (Qab rfl (Qab rfl rfl)))<|.nil<|sq_n<|.seq<|.seq<|.region rfl<|.m rfl rfl<|.q (.inc1 rfl rfl (by omega))<|.m rfl rfl<|.q (.lenR rfl rfl rfl e_93 h)<|.b rfl rfl rfl rfl<|.nil<|sq_n<|.cond rfl (fun h8=>?_) (fun h8=>?_)
   ·have kh8:=h8;(try simp only [bk] at kh8)
    refine .draw (tb:=[r0 0 0,r0 1 0,r0 0 0,r0 0 0,r0 8 0,r0 28 0,r0 60 0,r0 124 0,r0 252 0,r1 511 0,r1 1023 0,r1 2047 0]) rfl (by kernel_rfl) (by kernel_rfl) fun k0=>?_
    refine .q (.fa rfl Qao)<|.y rfl rfl rfl (.s rfl .hd a_3 rfl)<|.m rfl rfl<|.m rfl rfl<|.q (.inc1 rfl rfl (by omega))<|.ixn .no rfl rfl h rfl e_93 (by omega) ?_
    intro b9 o9 cs9 y9 hy9 hq9 hr9
    obtain rfl:=hr9
    have hfr9:=line_fr hln hy9
    refine .q (.fa rfl Qbp)<|.y rfl rfl rfl (.ps 0 rfl hq9 rfl a_3 rfl)<|.q (.sub rfl rfl (by omega))<|.q (.mn rfl rfl rfl rfl)<|.q (.fa rfl Qao)<|.st (cs':=[_,_]) .no rfl rfl rfl rfl rfl rfl s_3 rfl rfl .hd rfl rfl (.all (Qab rfl (Qab rfl rfl)))<|.nil<|sq_n<|.seq<|.region rfl<|.q (.fa rfl Qap)<|.w (.s rfl .hd a_3 rfl)<|.q (.fa rfl Qao)<|.w (.s rfl .hd a_3 rfl)<|.b rfl rfl rfl rfl<|.nil<|sq_n<|.cond rfl (fun h10=>?_) (fun h10=>?_)
    ·have kh10:=h10;(try simp only [bk] at kh10)
     refine .draw (tb:=[r0 0 0,r0 0 0,r0 2 0,r0 7 0,r0 0 0,r1 0 0,r1 32 0,r1 127 1,r1 255 2,r1 511 2]) rfl (by kernel_rfl) (by kernel_rfl) fun k0=>?_
     refine .m rfl rfl<|.m rfl rfl<|.f .no rfl (.bs (qs:=[(0,_)]) (c:=[_]) rfl sl_66 el_3 (by decide) rfl) fun b11=>.ne (.tl (.tl .hd)) .hd fun hn12_b5=>.x .no rfl rfl (Qck rfl Qci) (Qbg rfl Qbh) (Qch rfl) (fun _ _=>.all rfl) (.appA (m:=1) (new:=[_]) rfl rfl rfl (.tl (.tl (.tl .hd))) sl_66 el_3 (.of rfl .sl sl_66 .hd (Nat.le_of_ble_eq_true rfl) rfl) (by decide) rfl (hJ.ap1 hn8 rfl) rfl) fun v12=>.av (.tl (.tl (.tl .hd))) fun av12=>.m rfl rfl<|.ld (k:=1) .no rfl rfl rfl (FrS.cons hn12_b5 trivial) (.a (vs:=[_,_]) rfl .hd a_27 s_27 rfl rfl)<|.f .no rfl (.bs (qs:=[(0,_)]) (c:=[_,_]) rfl sl_148 el_27 (by decide) rfl) fun b13=>.x .no rfl rfl (Qck rfl Qci) (Qbg rfl Qbh) (Qch rfl) (fun _ _=>.all (Qab rfl rfl)) (.appA (m:=1) (new:=[_,_]) rfl rfl rfl (.tl (.tl (.tl (.tl (.tl .hd))))) sl_148 el_27 (.of rfl .sl sl_148 .hd (Nat.le_of_ble_eq_true rfl) rfl) (by decide) rfl (hJ.ap2 hn8 rfl) rfl) fun v14=>.av (.tl (.tl (.tl (.tl (.tl .hd))))) fun av14=>.z rfl rfl<|.z rfl rfl<|.nil<|bq_n<|sq_n<|.region rfl<|.q (.inc1 rfl rfl (by omega))<|.m rfl rfl<|.nil<|Qac (CSt.mk (x.k+1) _ _ _ _) ⟨rfl,rfl,rfl,rfl,rfl,rfl,trivial⟩ (.cons _ (.cons _ (.cons _ (List.Sublist.refl _)))) (Le.refl _) ?_ ?_
     ·first
       | exact hJ.yes (by unfold nCell;omega) (cellA_of (by first | rw [if_pos (by omega),Qc ‹l[x.k]? =some _›] | rw [if_neg (by omega)]) (by first | rw [if_pos (by omega),Qc ‹l[x.k+1]? =some _›] | rw [if_neg (by omega)])) ‹_› ‹_› ‹_›
     ·simp only;unfold nCell;omega
    ·have kh10:=h10;(try simp only [bk] at kh10)
     refine .skip<|bq_n<|sq_n<|.region rfl<|.q (.inc1 rfl rfl (by omega))<|.m rfl rfl<|.nil<|Qac (CSt.mk (x.k+1) _ _ _ _) ⟨rfl,rfl,rfl,rfl,rfl,rfl,trivial⟩ (.cons _ (List.Sublist.refl _)) (Le.refl _) ?_ ?_
     ·first
       | (refine hJ.no (by unfold nCell;omega) ?_
          unfold cellB cellA
          refine decide_eq_false ?_
          first
           | (rw [if_pos (show x.k < l.length by omega),if_pos (show x.k+1 < l.length by omega),Qc ‹l[x.k]? =some _›,Qc ‹l[x.k+1]? =some _›];omega)
           | (rw [if_pos (show x.k < l.length by omega),if_neg (show ¬ x.k+1 < l.length by omega),Qc ‹l[x.k]? =some _›];omega)
           | (rw [if_neg (show ¬ x.k < l.length by omega),if_neg (show ¬ x.k+1 < l.length by omega)];omega))
     ·simp only;unfold nCell;omega
   ·have kh8:=h8;(try simp only [bk] at kh8)
    refine .skip<|sq_n<|.seq<|.region rfl<|.q (.fa rfl Qap)<|.w (.s rfl .hd a_3 rfl)<|.q (.fa rfl Qao)<|.w (.s rfl .hd a_3 rfl)<|.b rfl rfl rfl rfl<|.nil<|sq_n<|.cond rfl (fun h15=>?_) (fun h15=>?_)
    ·have kh15:=h15;(try simp only [bk] at kh15)
     refine .draw (tb:=[r0 0 0,r0 0 0,r0 2 0,r0 7 0,r0 0 0,r1 0 0,r1 32 0,r1 127 1,r1 255 2,r1 511 2]) rfl (by kernel_rfl) (by kernel_rfl) fun k0=>?_
     refine .m rfl rfl<|.m rfl rfl<|.f .no rfl (.bs (qs:=[(0,_)]) (c:=[_]) rfl sl_66 el_3 (by decide) rfl) fun b16=>.ne (.tl (.tl .hd)) .hd fun hn17_b5=>.x .no rfl rfl (Qck rfl Qci) (Qbg rfl Qbh) (Qch rfl) (fun _ _=>.all rfl) (.appA (m:=1) (new:=[_]) rfl rfl rfl (.tl (.tl (.tl .hd))) sl_66 el_3 (.of rfl .sl sl_66 .hd (Nat.le_of_ble_eq_true rfl) rfl) (by decide) rfl (hJ.ap1 hn8 rfl) rfl) fun v17=>.av (.tl (.tl (.tl .hd))) fun av17=>.m rfl rfl<|.ld (k:=1) .no rfl rfl rfl (FrS.cons hn17_b5 trivial) (.a (vs:=[_,_]) rfl .hd a_27 s_27 rfl rfl)<|.f .no rfl (.bs (qs:=[(0,_)]) (c:=[_,_]) rfl sl_148 el_27 (by decide) rfl) fun b18=>.x .no rfl rfl (Qck rfl Qci) (Qbg rfl Qbh) (Qch rfl) (fun _ _=>.all (Qab rfl rfl)) (.appA (m:=1) (new:=[_,_]) rfl rfl rfl (.tl (.tl (.tl (.tl (.tl .hd))))) sl_148 el_27 (.of rfl .sl sl_148 .hd (Nat.le_of_ble_eq_true rfl) rfl) (by decide) rfl (hJ.ap2 hn8 rfl) rfl) fun v19=>.av (.tl (.tl (.tl (.tl (.tl .hd))))) fun av19=>.z rfl rfl<|.z rfl rfl<|.nil<|bq_n<|sq_n<|.region rfl<|.q (.inc1 rfl rfl (by omega))<|.m rfl rfl<|.nil<|Qac (CSt.mk (x.k+1) _ _ _ _) ⟨rfl,rfl,rfl,rfl,rfl,rfl,trivial⟩ (.cons _ (.cons _ (.cons _ (List.Sublist.refl _)))) (Le.refl _) ?_ ?_
     ·first
       | exact hJ.yes (by unfold nCell;omega) (cellA_of (by first | rw [if_pos (by omega),Qc ‹l[x.k]? =some _›] | rw [if_neg (by omega)]) (by first | rw [if_pos (by omega),Qc ‹l[x.k+1]? =some _›] | rw [if_neg (by omega)])) ‹_› ‹_› ‹_›
     ·simp only;unfold nCell;omega
    ·have kh15:=h15;(try simp only [bk] at kh15)
     refine .skip<|bq_n<|sq_n<|.region rfl<|.q (.inc1 rfl rfl (by omega))<|.m rfl rfl<|.nil<|Qac (CSt.mk (x.k+1) _ _ _ _) ⟨rfl,rfl,rfl,rfl,rfl,rfl,trivial⟩ (.cons _ (List.Sublist.refl _)) (Le.refl _) ?_ ?_
     ·first
       | (refine hJ.no (by unfold nCell;omega) ?_
          unfold cellB cellA
          refine decide_eq_false ?_
          first
           | (rw [if_pos (show x.k < l.length by omega),if_pos (show x.k+1 < l.length by omega),Qc ‹l[x.k]? =some _›,Qc ‹l[x.k+1]? =some _›];omega)
           | (rw [if_pos (show x.k < l.length by omega),if_neg (show ¬ x.k+1 < l.length by omega),Qc ‹l[x.k]? =some _›];omega)
           | (rw [if_neg (show ¬ x.k < l.length by omega),if_neg (show ¬ x.k+1 < l.length by omega)];omega))
     ·simp only;unfold nCell;omega
  ·have kh6:=h6;(try simp only [bk] at kh6)
   refine .skip<|sq_n<|.seq<|.seq<|.region rfl<|.m rfl rfl<|.q (.inc1 rfl rfl (by omega))<|.m rfl rfl<|.q (.lenR rfl rfl rfl e_93 h)<|.b rfl rfl rfl rfl<|.nil<|sq_n<|.cond rfl (fun h20=>?_) (fun h20=>?_)
   ·have kh20:=h20;(try simp only [bk] at kh20)
    refine .draw (tb:=[r0 0 0,r0 1 0,r0 0 0,r0 0 0,r0 8 0,r0 28 0,r0 60 0,r0 124 0,r0 252 0,r1 511 0,r1 1023 0,r1 2047 0]) rfl (by kernel_rfl) (by kernel_rfl) fun k0=>?_
    refine .q (.fa rfl Qao)<|.y rfl rfl rfl (.s rfl .hd a_3 rfl)<|.m rfl rfl<|.m rfl rfl<|.q (.inc1 rfl rfl (by omega))<|.ixn .no rfl rfl h rfl e_93 (by omega) ?_
    intro b21 o21 cs21 y21 hy21 hq21 hr21
    obtain rfl:=hr21
    have hfr21:=line_fr hln hy21
    refine .q (.fa rfl Qbp)<|.y rfl rfl rfl (.ps 0 rfl hq21 rfl a_3 rfl)<|.q (.sub rfl rfl (by omega))<|.q (.mn rfl rfl rfl rfl)<|.q (.fa rfl Qao)<|.st (cs':=[_,_]) .no rfl rfl rfl rfl rfl rfl s_3 rfl rfl .hd rfl rfl (.all (Qab rfl (Qab rfl rfl)))<|.nil<|sq_n<|.seq<|.region rfl<|.q (.fa rfl Qap)<|.w (.s rfl .hd a_3 rfl)<|.q (.fa rfl Qao)<|.w (.s rfl .hd a_3 rfl)<|.b rfl rfl rfl rfl<|.nil<|sq_n<|.cond rfl (fun h22=>?_) (fun h22=>?_)
    ·have kh22:=h22;(try simp only [bk] at kh22)
     refine .draw (tb:=[r0 0 0,r0 0 0,r0 2 0,r0 7 0,r0 0 0,r1 0 0,r1 32 0,r1 127 1,r1 255 2,r1 511 2]) rfl (by kernel_rfl) (by kernel_rfl) fun k0=>?_
     refine .m rfl rfl<|.m rfl rfl<|.f .no rfl (.bs (qs:=[(0,_)]) (c:=[_]) rfl sl_66 el_3 (by decide) rfl) fun b23=>.ne (.tl (.tl .hd)) .hd fun hn24_b5=>.x .no rfl rfl (Qck rfl Qci) (Qbg rfl Qbh) (Qch rfl) (fun _ _=>.all rfl) (.appA (m:=1) (new:=[_]) rfl rfl rfl (.tl (.tl (.tl .hd))) sl_66 el_3 (.of rfl .sl sl_66 .hd (Nat.le_of_ble_eq_true rfl) rfl) (by decide) rfl (hJ.ap1 hn8 rfl) rfl) fun v24=>.av (.tl (.tl (.tl .hd))) fun av24=>.m rfl rfl<|.ld (k:=1) .no rfl rfl rfl (FrS.cons hn24_b5 trivial) (.a (vs:=[_,_]) rfl .hd a_27 s_27 rfl rfl)<|.f .no rfl (.bs (qs:=[(0,_)]) (c:=[_,_]) rfl sl_148 el_27 (by decide) rfl) fun b25=>.x .no rfl rfl (Qck rfl Qci) (Qbg rfl Qbh) (Qch rfl) (fun _ _=>.all (Qab rfl rfl)) (.appA (m:=1) (new:=[_,_]) rfl rfl rfl (.tl (.tl (.tl (.tl (.tl .hd))))) sl_148 el_27 (.of rfl .sl sl_148 .hd (Nat.le_of_ble_eq_true rfl) rfl) (by decide) rfl (hJ.ap2 hn8 rfl) rfl) fun v26=>.av (.tl (.tl (.tl (.tl (.tl .hd))))) fun av26=>.z rfl rfl<|.z rfl rfl<|.nil<|bq_n<|sq_n<|.region rfl<|.q (.inc1 rfl rfl (by omega))<|.m rfl rfl<|.nil<|Qac (CSt.mk (x.k+1) _ _ _ _) ⟨rfl,rfl,rfl,rfl,rfl,rfl,trivial⟩ (.cons _ (.cons _ (.cons _ (List.Sublist.refl _)))) (Le.refl _) ?_ ?_
     ·first
       | exact hJ.yes (by unfold nCell;omega) (cellA_of (by first | rw [if_pos (by omega),Qc ‹l[x.k]? =some _›] | rw [if_neg (by omega)]) (by first | rw [if_pos (by omega),Qc ‹l[x.k+1]? =some _›] | rw [if_neg (by omega)])) ‹_› ‹_› ‹_›
     ·simp only;unfold nCell;omega
    ·have kh22:=h22;(try simp only [bk] at kh22)
     refine .skip<|bq_n<|sq_n<|.region rfl<|.q (.inc1 rfl rfl (by omega))<|.m rfl rfl<|.nil<|Qac (CSt.mk (x.k+1) _ _ _ _) ⟨rfl,rfl,rfl,rfl,rfl,rfl,trivial⟩ (.cons _ (List.Sublist.refl _)) (Le.refl _) ?_ ?_
     ·first
       | (refine hJ.no (by unfold nCell;omega) ?_
          unfold cellB cellA
          refine decide_eq_false ?_
          first
           | (rw [if_pos (show x.k < l.length by omega),if_pos (show x.k+1 < l.length by omega),Qc ‹l[x.k]? =some _›,Qc ‹l[x.k+1]? =some _›];omega)
           | (rw [if_pos (show x.k < l.length by omega),if_neg (show ¬ x.k+1 < l.length by omega),Qc ‹l[x.k]? =some _›];omega)
           | (rw [if_neg (show ¬ x.k < l.length by omega),if_neg (show ¬ x.k+1 < l.length by omega)];omega))
     ·simp only;unfold nCell;omega
   ·have kh20:=h20;(try simp only [bk] at kh20)
    refine .skip<|sq_n<|.seq<|.region rfl<|.q (.fa rfl Qap)<|.w (.s rfl .hd a_3 rfl)<|.q (.fa rfl Qao)<|.w (.s rfl .hd a_3 rfl)<|.b rfl rfl rfl rfl<|.nil<|sq_n<|.cond rfl (fun h27=>?_) (fun h27=>?_)
    ·have kh27:=h27;(try simp only [bk] at kh27)
     refine .draw (tb:=[r0 0 0,r0 0 0,r0 2 0,r0 7 0,r0 0 0,r1 0 0,r1 32 0,r1 127 1,r1 255 2,r1 511 2]) rfl (by kernel_rfl) (by kernel_rfl) fun k0=>?_
     refine .m rfl rfl<|.m rfl rfl<|.f .no rfl (.bs (qs:=[(0,_)]) (c:=[_]) rfl sl_66 el_3 (by decide) rfl) fun b28=>.ne (.tl (.tl .hd)) .hd fun hn29_b5=>.x .no rfl rfl (Qck rfl Qci) (Qbg rfl Qbh) (Qch rfl) (fun _ _=>.all rfl) (.appA (m:=1) (new:=[_]) rfl rfl rfl (.tl (.tl (.tl .hd))) sl_66 el_3 (.of rfl .sl sl_66 .hd (Nat.le_of_ble_eq_true rfl) rfl) (by decide) rfl (hJ.ap1 hn8 rfl) rfl) fun v29=>.av (.tl (.tl (.tl .hd))) fun av29=>.m rfl rfl<|.ld (k:=1) .no rfl rfl rfl (FrS.cons hn29_b5 trivial) (.a (vs:=[_,_]) rfl .hd a_27 s_27 rfl rfl)<|.f .no rfl (.bs (qs:=[(0,_)]) (c:=[_,_]) rfl sl_148 el_27 (by decide) rfl) fun b30=>.x .no rfl rfl (Qck rfl Qci) (Qbg rfl Qbh) (Qch rfl) (fun _ _=>.all (Qab rfl rfl)) (.appA (m:=1) (new:=[_,_]) rfl rfl rfl (.tl (.tl (.tl (.tl (.tl .hd))))) sl_148 el_27 (.of rfl .sl sl_148 .hd (Nat.le_of_ble_eq_true rfl) rfl) (by decide) rfl (hJ.ap2 hn8 rfl) rfl) fun v31=>.av (.tl (.tl (.tl (.tl (.tl .hd))))) fun av31=>.z rfl rfl<|.z rfl rfl<|.nil<|bq_n<|sq_n<|.region rfl<|.q (.inc1 rfl rfl (by omega))<|.m rfl rfl<|.nil<|Qac (CSt.mk (x.k+1) _ _ _ _) ⟨rfl,rfl,rfl,rfl,rfl,rfl,trivial⟩ (.cons _ (.cons _ (.cons _ (List.Sublist.refl _)))) (Le.refl _) ?_ ?_
     ·first
       | exact hJ.yes (by unfold nCell;omega) (cellA_of (by first | rw [if_pos (by omega),Qc ‹l[x.k]? =some _›] | rw [if_neg (by omega)]) (by first | rw [if_pos (by omega),Qc ‹l[x.k+1]? =some _›] | rw [if_neg (by omega)])) ‹_› ‹_› ‹_›
     ·simp only;unfold nCell;omega
    ·have kh27:=h27;(try simp only [bk] at kh27)
     refine .skip<|bq_n<|sq_n<|.region rfl<|.q (.inc1 rfl rfl (by omega))<|.m rfl rfl<|.nil<|Qac (CSt.mk (x.k+1) _ _ _ _) ⟨rfl,rfl,rfl,rfl,rfl,rfl,trivial⟩ (.cons _ (List.Sublist.refl _)) (Le.refl _) ?_ ?_
     ·first
       | (refine hJ.no (by unfold nCell;omega) ?_
          unfold cellB cellA
          refine decide_eq_false ?_
          first
           | (rw [if_pos (show x.k < l.length by omega),if_pos (show x.k+1 < l.length by omega),Qc ‹l[x.k]? =some _›,Qc ‹l[x.k+1]? =some _›];omega)
           | (rw [if_pos (show x.k < l.length by omega),if_neg (show ¬ x.k+1 < l.length by omega),Qc ‹l[x.k]? =some _›];omega)
           | (rw [if_neg (show ¬ x.k < l.length by omega),if_neg (show ¬ x.k+1 < l.length by omega)];omega))
     ·simp only;unfold nCell;omega
 ·have kh4:=h4;(try simp only [bk] at kh4)
  refine .exit<|sq_e<|lq_e<|bq_x rfl<|sq_n<|.seq<|.region rfl<|.m rfl rfl<|.m rfl rfl<|.z rfl rfl<|.z rfl rfl<|.nil<|sq_n<|.freezeA (fun (i:Nat)=>intC (i:Int)) NatR (cellN l lo hi (nCell l)) (.tl .hd) (by decide) (fun _=>rfl) (hJ.fp (by unfold nCell;omega)) (Nat.le_trans (cellN_len l lo hi _) (by omega)) (fun _ _ _ _=>rfl) ?_
  intro g32 hle33 hf34
  replace h:=h.mono PieceR.mono hle33
  refine .freezeA rngC RngR ((cellN l lo hi (nCell l)).map (cellA l lo hi)) (.tl .hd) (by decide) (fun _=>rfl) (hJ.fq (by unfold nCell;omega)) (by rw [List.length_map];exact Nat.le_trans (cellN_len l lo hi _) (by omega)) (fun _ _ _ _=>rfl) ?_
  intro g35 hle36 hf37
  replace h:=h.mono PieceR.mono hle36
  replace hf34:=hf34.mono NatR.mono hle36
  refine .ret<|Qaa ((hle2.trans hle33).trans hle36) (.tmp rfl (.tmp rfl .nil)) rfl ?_
  exact ⟨_,_,List.nil_sublist _,rfl,‹_›,‹_›⟩
end Go.Proofs.YtjflgemfeofciaaGreatDoor
