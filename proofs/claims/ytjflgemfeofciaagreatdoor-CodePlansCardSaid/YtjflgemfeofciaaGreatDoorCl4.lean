import Derived.Test.YtjflgemfeofciaaGreatDoorMU1
namespace Go.Proofs.YtjflgemfeofciaaGreatDoor
open Go Go.Ev
set_option linter.unusedVariables false
set_option linter.unusedSimpArgs false
set_option maxRecDepth 10000
def pgood (l:List Piece) (j:Nat):Bool:=match l[j]? with
 | some p=>Qae p.fr 0 20000000000 && (Qae p.base (-1000000000000) 1000000000000 && (Qae p.rate (-1000000) 1000000 && (if j=0 then decide (p.fr=0) else match l[j - 1]? with | some q=>decide (q.fr < p.fr) | none=>true)))
 | none=>true
theorem pgood_no {l:List Piece} {k:Nat} {y z:Piece} (hy:l[k]? =some y) (hz:l[k - 1]? =some z) (hk:0 < k) (h:y.fr≤z.fr):pgood l k=false:=by
 unfold pgood
 rw [hy,hz]
 simp only []
 rw [if_neg (by omega),decide_eq_false (by omega)]
 simp
theorem pgood_w {l:List Piece} {k:Nat} {y:Piece} (hy:l[k]? =some y) (h:Qae y.fr 0 20000000000=false∨Qae y.base (-1000000000000) 1000000000000=false∨Qae y.rate (-1000000) 1000000=false):pgood l k=false:=by
 unfold pgood
 rw [hy]
 rcases h with h | h | h <;> simp [h]
theorem pgood_z {l:List Piece} {y:Piece} (hy:l[0]? =some y) (h:y.fr≠0):pgood l 0=false:=by
 unfold pgood
 rw [hy]
 simp [h]
theorem Qct {l:List Piece} {k:Nat} {y:Piece} (hy:l[k]? =some y) (h1:Qae y.fr 0 20000000000=true) (h2:Qae y.base (-1000000000000) 1000000000000=true) (h3:Qae y.rate (-1000000) 1000000=true) (h4:k=0→y.fr=0) (h5:0 < k→∃ z,l[k - 1]? =some z∧z.fr < y.fr):pgood l k=true:=by
 unfold pgood
 rw [hy]
 simp only [h1,h2,h3,Bool.true_and]
 by_cases e:k=0
 ·rw [if_pos e,decide_eq_true (h4 e)]
 ·obtain ⟨z,a,b⟩:=h5 (by omega)
  rw [if_neg e,a]
  simp [b]
def lineB (l:List Piece):Bool:=decide (l.length≤8) && allR (pgood l) l.length
theorem Qcs {l:List Piece} {k:Nat} (hk:k < l.length) (h:pgood l k=false):false=lineB l:=by
 unfold lineB;rw [allR_no hk h,Bool.and_false]
theorem Qbs (l:List Piece) (v:V) (g:G) (h:RS PieceR 3 g v l):Fv Tryz.prog natS (.f 128 [] []) [v] g (.b (lineB l)):=by
 refine Fw.fv ?_
 have hlen:=h.1
 refine Fw.enter (N:=59) (al:=[(0,_)]) Tryz.func128 (by kernel_rfl) (by kernel_rfl) rfl rfl rfl rfl ?_
 intro B
 refine .seq<|.region rfl<|.z rfl rfl<|.nil<|sq_n<|.seq<|.seq<|.region rfl<|.m rfl rfl<|.q (.lenR rfl rfl rfl e_93 h)<|.b rfl rfl rfl rfl<|.m rfl rfl<|.split (t:=8) rfl (fun h1=>?_) (fun h1=>?_)
 ·have kh1:=h1;(try simp only [bk] at kh1)
  refine .k h1<|.k h1<|.k h1<|.k h1<|.ku<|.ku<|.ku<|.ku<|.ku<|.k h1<|.q (.pickT rfl h1 rfl)<|.nil<|sq_n<|.condT rfl rfl<|.seq<|.region rfl<|.z rfl rfl<|.nil<|sq_n<|.ret<|sq_r<|Qaa (Le.refl _) (.tmp rfl .nil) rfl ?_
  first
   | (refine congrArg V.b ?_;unfold lineB;rw [decide_eq_false (by omega)];rfl)
 ·have kh1:=h1;(try simp only [bk] at kh1)
  refine .py h1 (.move rfl)<|.py h1 (.lenR rfl rfl rfl e_93 h)<|.py h1 (.bin rfl rfl rfl)<|.py h1 (.move rfl)<|.split (t:=12) rfl (fun h2=>?_) (fun h2=>?_)
  ·have kh2:=h2;(try simp only [bk] at kh2)
   refine .py h2 (.move rfl)<|.ixi (.yes rfl rfl h2) rfl rfl h rfl e_93 (by omega) ?_
   intro b3 o3 cs3 y3 hy3 hq3 hr3
   obtain rfl:=hr3
   refine .py h2 (.fa rfl Qbp)<|.wy h2 (.ps 0 rfl hq3 rfl a_3 rfl)<|.py h2 (.bin rfl rfl rfl)<|.py h1 (.pickT rfl h2 rfl)<|.q (.pickF rfl h1 rfl)<|.nil<|sq_n<|.cond rfl (fun h4=>?_) (fun h4=>?_)
   ·have kh4:=h4;(try simp only [bk] at kh4)
    refine .seq<|.region rfl<|.z rfl rfl<|.nil<|sq_n<|.ret<|sq_r<|Qaa (Le.refl _) (.tmp rfl .nil) rfl ?_
    first
     | (refine congrArg V.b (Qcs (k:=0) (by omega) (pgood_z (by assumption) ‹_›)))
   ·have kh4:=h4;(try simp only [bk] at kh4)
    refine .skip<|sq_n<|.seq<|.seq<|.region rfl<|.m rfl rfl<|.q (.lenR rfl rfl rfl e_93 h)<|.m rfl rfl<|.nil<|sq_n<|.block<|.loopx (α:=Nat) [(0,_),(20,_),(21,_)] _ (fun fx k=>(22,.i .i64 (k:Int)) :: fx) (fun mx _=>mx) (fun k g'=>k≤l.length∧allR (pgood l) k=true∧l.length≤8∧∀ q,l[0]? =some q→q.fr=0) (fun k=>l.length - k) (0) ⟨rfl,rfl,rfl,rfl,trivial⟩ (List.Sublist.refl _) ⟨by omega,rfl,(by omega),(by intro q hq;first | (have:=(List.getElem?_eq_some_iff.1 hq).1;omega) | simp_all)⟩ ?_
    intro k g6 hle5 hJ
    obtain ⟨hk,hg,hl,h0⟩:=hJ
    replace h:=h.mono PieceR.mono hle5
    replace hq3:=hq3.mono hle5
    have e1:((k:Int) - 1).toNat=k - 1:=by omega
    refine .seq<|.region rfl<|.b rfl rfl rfl rfl<|.nil<|sq_n<|.seq<|.cond rfl (fun h7=>?_) (fun h7=>?_)
    ·have kh7:=h7;(try simp only [bk] at kh7)
     refine .skip<|sq_n<|.seq<|.block<|.seq<|.region rfl<|.m rfl rfl<|.ixn .no rfl rfl h rfl e_93 (by omega) ?_
     intro b8 o8 cs8 y8 hy8 hq8 hr8
     obtain rfl:=hr8
     refine .w (.pa 0 (vs:=[_,_,_]) rfl hq8 rfl a_157 s_157 rfl rfl)<|.alloc .no rfl z_157 fun b9=>.z rfl rfl<|.st (cs':=[_,_,_]) .no rfl rfl rfl rfl s_157 rfl rfl .hd rfl rfl<|.nil<|sq_n<|.seq<|.draw (tb:=[r1 0 0,r1 1 0,r1 3 0,r1 7 1,r1 15 1,r1 31 1,r1 63 1,r1 127 1,r1 255 2,r1 511 2,r1 1023 2,r1 2047 2,r1 4095 2,r1 8191 2,r1 16383 3,r1 32767 3,r1 65535 3,r1 131071 3,r1 262143 3,r1 524287 3,r0 1048575 3,r0 1048575 3,r0 3145727 3,r0 8388607 3,r0 16777215 3,r0 33554431 3,r0 1048575 3,r0 68157439 3,r1 268435455 3,r1 536870911 3,r1 1073741823 3]) rfl (by kernel_rfl) (by kernel_rfl) fun k0=>?_
     refine .q (.fa rfl Qbp)<|.y rfl rfl rfl (.s rfl .hd a_3 rfl)<|.callV .no rfl rfl rfl rfl rfl (Qai _ _ _ _)<|.q (.not rfl)<|.m rfl rfl<|.split (t:=31) rfl (fun h10=>?_) (fun h10=>?_)
     ·have kh10:=h10;(try simp only [bk] at kh10)
      refine .k h10<|.k h10<|.skipE (.yes rfl rfl h10) rfl rfl<|.k h10<|.q (.pickT rfl h10 rfl)<|.m rfl rfl<|.k rfl<|.k rfl<|.skipE (.yes rfl rfl rfl) rfl rfl<|.k rfl<|.q (.pickT rfl rfl rfl)<|.m rfl rfl<|.k rfl<|.k rfl<|.k rfl<|.ku<|.ku<|.ku<|.ku<|.ku<|.ku<|.ku<|.ku<|.ku<|.k rfl<|.q (.pickT rfl rfl rfl)<|.nil<|sq_n<|.condT rfl rfl<|.seq<|.region rfl ?_
      refine .z rfl rfl<|.nil<|sq_n<|.ret<|bq_r<|sq_r<|lq_r<|bq_r<|sq_r<|Qaa hle5 (.tmp rfl .nil) rfl ?_
      first
       | (refine congrArg V.b (Qcs (k:=k) (by omega) (pgood_w ‹_› (.inl ‹_›))))
     ·have kh10:=h10;(try simp only [bk] at kh10)
      refine .py h10 (.fa rfl f_157_1)<|.ld (k:=0) (.yes rfl rfl h10) rfl rfl rfl trivial (.s rfl .hd a_3 rfl)<|.callV (.yes rfl rfl h10) rfl rfl rfl rfl rfl (Qai _ _ _ _)<|.py h10 (.not rfl)<|.q (.pickF rfl h10 rfl)<|.m rfl rfl<|.split (t:=37) rfl (fun h11=>?_) (fun h11=>?_)
      ·have kh11:=h11;(try simp only [bk] at kh11)
       refine .k h11<|.k h11<|.skipE (.yes rfl rfl h11) rfl rfl<|.k h11<|.q (.pickT rfl h11 rfl)<|.m rfl rfl<|.k rfl<|.k rfl<|.k rfl<|.ku<|.ku<|.ku<|.ku<|.ku<|.ku<|.ku<|.ku<|.ku<|.k rfl<|.q (.pickT rfl rfl rfl)<|.nil<|sq_n<|.condT rfl rfl<|.seq<|.region rfl<|.z rfl rfl<|.nil<|sq_n<|.ret<|bq_r<|sq_r<|lq_r<|bq_r<|sq_r<|Qaa hle5 (.tmp rfl .nil) rfl ?_
       first
        | (refine congrArg V.b (Qcs (k:=k) (by omega) (pgood_w ‹_› (.inr (.inl ‹_›)))))
      ·have kh11:=h11;(try simp only [bk] at kh11)
       refine .py h11 (.fa rfl f_157_2)<|.ld (k:=0) (.yes rfl rfl h11) rfl rfl rfl trivial (.s rfl .hd a_3 rfl)<|.callV (.yes rfl rfl h11) rfl rfl rfl rfl rfl (Qai _ _ _ _)<|.py h11 (.not rfl)<|.q (.pickF rfl h11 rfl)<|.m rfl rfl<|.split (t:=43) rfl (fun h12=>?_) (fun h12=>?_)
       ·have kh12:=h12;(try simp only [bk] at kh12)
        refine .k h12<|.k h12<|.k h12<|.ku<|.ku<|.ku<|.ku<|.ku<|.ku<|.ku<|.ku<|.ku<|.k h12<|.q (.pickT rfl h12 rfl)<|.nil<|sq_n<|.condT rfl rfl<|.seq<|.region rfl<|.z rfl rfl<|.nil<|sq_n<|.ret<|bq_r<|sq_r<|lq_r<|bq_r<|sq_r<|Qaa hle5 (.tmp rfl .nil) rfl ?_
        first
         | (refine congrArg V.b (Qcs (k:=k) (by omega) (pgood_w ‹_› (.inr (.inr ‹_›)))))
       ·have kh12:=h12;(try simp only [bk] at kh12)
        refine .py h12 (.move rfl)<|.py h12 (.bin rfl rfl rfl)<|.py h12 (.move rfl)<|.split (t:=46) rfl (fun h13=>?_) (fun h13=>?_)
        ·have kh13:=h13;(try simp only [bk] at kh13)
         refine .py h13 (.move rfl)<|.py h13 (.move rfl)<|.py h13 (.sub rfl rfl (by omega))<|.ixi (.yes rfl rfl h13) rfl rfl h rfl e_93 (by omega) ?_
         intro b14 o14 cs14 y14 hy14 hq14 hr14
         obtain rfl:=hr14
         refine .py h13 (.fa rfl Qbp)<|.ld (k:=0) (.yes rfl rfl h13) rfl rfl rfl trivial (.ps 0 rfl hq14 rfl a_3 rfl)<|.py h13 (.fa rfl Qbp)<|.ld (k:=0) (.yes rfl rfl h13) rfl rfl rfl trivial (.s rfl .hd a_3 rfl)<|.py h13 (.bin rfl rfl rfl)<|.py h12 (.pickT rfl h13 rfl)<|.q (.pickF rfl h12 rfl)<|.nil<|sq_n<|.cond rfl (fun h15=>?_) (fun h15=>?_)
         ·have kh15:=h15;(try simp only [bk] at kh15)
          refine .seq<|.region rfl<|.z rfl rfl<|.nil<|sq_n<|.ret<|bq_r<|sq_r<|lq_r<|bq_r<|sq_r<|Qaa hle5 (.tmp rfl .nil) rfl ?_
          first
           | (refine congrArg V.b (Qcs (k:=k) (by omega) (pgood_no ‹l[k]? =some _› (by rw [←e1];assumption) (by omega) ‹_›)))
         ·have kh15:=h15;(try simp only [bk] at kh15)
          refine .skip<|bq_n<|sq_n<|.region rfl<|.q (.inc1 rfl rfl (by omega))<|.m rfl rfl<|.nil<|Qac (k+1) ⟨rfl,rfl,rfl,rfl,trivial⟩ (.cons _ (List.Sublist.refl _)) (Le.refl _) ?_ ?_
          ·refine ⟨by omega,?_,hl,h0⟩
           have e:(pgood l) k=true:=by first
            | exact Qct ‹_› ‹_› ‹_› ‹_› (fun e=>absurd e (by omega)) (fun _=>⟨_,by rw [←e1];assumption,by omega⟩)
           simp only [allR,hg,e,Bool.and_self]
          ·omega
        ·have kh13:=h13;(try simp only [bk] at kh13)
         refine .k h13<|.k h13<|.k h13<|.k h13<|.k h13<|.k h13<|.k h13<|.k h13<|.k h13<|.py h12 (.pickF rfl h13 rfl)<|.q (.pickF rfl h12 rfl)<|.nil<|sq_n<|.condF rfl rfl<|.skip<|bq_n<|sq_n<|.region rfl<|.q (.inc1 rfl rfl (by omega))<|.m rfl rfl<|.nil<|Qac (k+1) ⟨rfl,rfl,rfl,rfl,trivial⟩ (.cons _ (List.Sublist.refl _)) (Le.refl _) ?_ ?_
         ·refine ⟨by omega,?_,hl,h0⟩
          have e:(pgood l) k=true:=by first
           | exact Qct ‹_› ‹_› ‹_› ‹_› (fun e=>h0 _ (by rw [←e];assumption)) (fun e=>absurd e (by omega))
          simp only [allR,hg,e,Bool.and_self]
         ·omega
    ·have kh7:=h7;(try simp only [bk] at kh7)
     refine .exit<|sq_e<|lq_e<|bq_x rfl<|sq_n<|.seq<|.region rfl<|.z rfl rfl<|.nil<|sq_n<|.ret<|Qaa hle5 (.tmp rfl .nil) rfl ?_
     first
      | (refine congrArg V.b ?_;unfold lineB;obtain rfl:k=l.length:=by omega
         rw [hg,decide_eq_true hl];rfl)
  ·have kh2:=h2;(try simp only [bk] at kh2)
   refine .k h2<|.k h2<|.k h2<|.k h2<|.k h2<|.py h1 (.pickF rfl h2 rfl)<|.q (.pickF rfl h1 rfl)<|.nil<|sq_n<|.condF rfl rfl<|.skip<|sq_n<|.seq<|.seq<|.region rfl<|.m rfl rfl<|.q (.lenR rfl rfl rfl e_93 h)<|.m rfl rfl<|.nil<|sq_n<|.block<|.loopx (α:=Nat) [(0,_),(20,_),(21,_)] _ (fun fx k=>(22,.i .i64 (k:Int)) :: fx) (fun mx _=>mx) (fun k g'=>k≤l.length∧allR (pgood l) k=true∧l.length≤8∧∀ q,l[0]? =some q→q.fr=0) (fun k=>l.length - k) (0) ⟨rfl,rfl,rfl,rfl,trivial⟩ (List.Sublist.refl _) ⟨by omega,rfl,(by omega),(by intro q hq;first | (have:=(List.getElem?_eq_some_iff.1 hq).1;omega) | simp_all)⟩ ?_
   intro k g17 hle16 hJ
   obtain ⟨hk,hg,hl,h0⟩:=hJ
   replace h:=h.mono PieceR.mono hle16
   have e1:((k:Int) - 1).toNat=k - 1:=by omega
   refine .seq<|.region rfl<|.b rfl rfl rfl rfl<|.nil<|sq_n<|.seq<|.cond rfl (fun h18=>?_) (fun h18=>?_)
   ·have kh18:=h18;(try simp only [bk] at kh18)
    refine .skip<|sq_n<|.seq<|.block<|.seq<|.region rfl<|.m rfl rfl<|.ixn .no rfl rfl h rfl e_93 (by omega) ?_
    intro b19 o19 cs19 y19 hy19 hq19 hr19
    obtain rfl:=hr19
    refine .w (.pa 0 (vs:=[_,_,_]) rfl hq19 rfl a_157 s_157 rfl rfl)<|.alloc .no rfl z_157 fun b20=>.z rfl rfl<|.st (cs':=[_,_,_]) .no rfl rfl rfl rfl s_157 rfl rfl .hd rfl rfl<|.nil<|sq_n<|.seq<|.draw (tb:=[r1 0 0,r1 1 0,r1 3 0,r1 7 1,r1 15 1,r1 31 1,r1 63 1,r1 127 1,r1 255 2,r1 511 2,r1 1023 2,r1 2047 2,r1 4095 2,r1 8191 2,r1 16383 3,r1 32767 3,r1 65535 3,r1 131071 3,r1 262143 3,r1 524287 3,r0 1048575 3,r0 1048575 3,r0 3145727 3,r0 8388607 3,r0 16777215 3,r0 33554431 3,r0 1048575 3,r0 68157439 3,r1 268435455 3,r1 536870911 3,r1 1073741823 3]) rfl (by kernel_rfl) (by kernel_rfl) fun k0=>?_
    refine .q (.fa rfl Qbp)<|.y rfl rfl rfl (.s rfl .hd a_3 rfl)<|.callV .no rfl rfl rfl rfl rfl (Qai _ _ _ _)<|.q (.not rfl)<|.m rfl rfl<|.split (t:=31) rfl (fun h21=>?_) (fun h21=>?_)
    ·have kh21:=h21;(try simp only [bk] at kh21)
     refine .k h21<|.k h21<|.skipE (.yes rfl rfl h21) rfl rfl<|.k h21<|.q (.pickT rfl h21 rfl)<|.m rfl rfl<|.k rfl<|.k rfl<|.skipE (.yes rfl rfl rfl) rfl rfl<|.k rfl<|.q (.pickT rfl rfl rfl)<|.m rfl rfl<|.k rfl<|.k rfl<|.k rfl<|.ku<|.ku<|.ku<|.ku<|.ku<|.ku<|.ku<|.ku<|.ku<|.k rfl<|.q (.pickT rfl rfl rfl)<|.nil<|sq_n<|.condT rfl rfl<|.seq<|.region rfl ?_
     refine .z rfl rfl<|.nil<|sq_n<|.ret<|bq_r<|sq_r<|lq_r<|bq_r<|sq_r<|Qaa hle16 (.tmp rfl .nil) rfl ?_
     first
      | (refine congrArg V.b ?_;unfold lineB;rw [decide_eq_false (by omega)];rfl)
    ·have kh21:=h21;(try simp only [bk] at kh21)
     refine .py h21 (.fa rfl f_157_1)<|.ld (k:=0) (.yes rfl rfl h21) rfl rfl rfl trivial (.s rfl .hd a_3 rfl)<|.callV (.yes rfl rfl h21) rfl rfl rfl rfl rfl (Qai _ _ _ _)<|.py h21 (.not rfl)<|.q (.pickF rfl h21 rfl)<|.m rfl rfl<|.split (t:=37) rfl (fun h22=>?_) (fun h22=>?_)
     ·have kh22:=h22;(try simp only [bk] at kh22)
      refine .k h22<|.k h22<|.skipE (.yes rfl rfl h22) rfl rfl<|.k h22<|.q (.pickT rfl h22 rfl)<|.m rfl rfl<|.k rfl<|.k rfl<|.k rfl<|.ku<|.ku<|.ku<|.ku<|.ku<|.ku<|.ku<|.ku<|.ku<|.k rfl<|.q (.pickT rfl rfl rfl)<|.nil<|sq_n<|.condT rfl rfl<|.seq<|.region rfl<|.z rfl rfl<|.nil<|sq_n<|.ret<|bq_r<|sq_r<|lq_r<|bq_r<|sq_r<|Qaa hle16 (.tmp rfl .nil) rfl ?_
      first
       | (refine congrArg V.b ?_;unfold lineB;rw [decide_eq_false (by omega)];rfl)
     ·have kh22:=h22;(try simp only [bk] at kh22)
      refine .py h22 (.fa rfl f_157_2)<|.ld (k:=0) (.yes rfl rfl h22) rfl rfl rfl trivial (.s rfl .hd a_3 rfl)<|.callV (.yes rfl rfl h22) rfl rfl rfl rfl rfl (Qai _ _ _ _)<|.py h22 (.not rfl)<|.q (.pickF rfl h22 rfl)<|.m rfl rfl<|.split (t:=43) rfl (fun h23=>?_) (fun h23=>?_)
      ·have kh23:=h23;(try simp only [bk] at kh23)
       refine .k h23<|.k h23<|.k h23<|.ku<|.ku<|.ku<|.ku<|.ku<|.ku<|.ku<|.ku<|.ku<|.k h23<|.q (.pickT rfl h23 rfl)<|.nil<|sq_n<|.condT rfl rfl<|.seq<|.region rfl<|.z rfl rfl<|.nil<|sq_n<|.ret<|bq_r<|sq_r<|lq_r<|bq_r<|sq_r<|Qaa hle16 (.tmp rfl .nil) rfl ?_
       first
        | (refine congrArg V.b ?_;unfold lineB;rw [decide_eq_false (by omega)];rfl)
      ·have kh23:=h23;(try simp only [bk] at kh23)
       refine .py h23 (.move rfl)<|.py h23 (.bin rfl rfl rfl)<|.py h23 (.move rfl)<|.split (t:=46) rfl (fun h24=>?_) (fun h24=>?_)
       ·have kh24:=h24;(try simp only [bk] at kh24)
        refine .py h24 (.move rfl)<|.py h24 (.move rfl)<|.py h24 (.sub rfl rfl (by omega))<|.ixi (.yes rfl rfl h24) rfl rfl h rfl e_93 (by omega) ?_
        intro b25 o25 cs25 y25 hy25 hq25 hr25
        obtain rfl:=hr25
        refine .py h24 (.fa rfl Qbp)<|.ld (k:=0) (.yes rfl rfl h24) rfl rfl rfl trivial (.ps 0 rfl hq25 rfl a_3 rfl)<|.py h24 (.fa rfl Qbp)<|.ld (k:=0) (.yes rfl rfl h24) rfl rfl rfl trivial (.s rfl .hd a_3 rfl)<|.py h24 (.bin rfl rfl rfl)<|.py h23 (.pickT rfl h24 rfl)<|.q (.pickF rfl h23 rfl)<|.nil<|sq_n<|.cond rfl (fun h26=>?_) (fun h26=>?_)
        ·have kh26:=h26;(try simp only [bk] at kh26)
         refine .seq<|.region rfl<|.z rfl rfl<|.nil<|sq_n<|.ret<|bq_r<|sq_r<|lq_r<|bq_r<|sq_r<|Qaa hle16 (.tmp rfl .nil) rfl ?_
         first
          | (refine congrArg V.b ?_;unfold lineB;rw [decide_eq_false (by omega)];rfl)
        ·have kh26:=h26;(try simp only [bk] at kh26)
         refine .skip<|bq_n<|sq_n<|.region rfl<|.q (.inc1 rfl rfl (by omega))<|.m rfl rfl<|.nil<|Qac (k+1) ⟨rfl,rfl,rfl,rfl,trivial⟩ (.cons _ (List.Sublist.refl _)) (Le.refl _) ?_ ?_
         ·refine ⟨by omega,?_,hl,h0⟩
          have e:(pgood l) k=true:=by first
           | exact Qct ‹_› ‹_› ‹_› ‹_› (fun e=>h0 _ (by rw [←e];assumption)) (fun e=>absurd e (by omega))
          simp only [allR,hg,e,Bool.and_self]
         ·omega
       ·have kh24:=h24;(try simp only [bk] at kh24)
        refine .k h24<|.k h24<|.k h24<|.k h24<|.k h24<|.k h24<|.k h24<|.k h24<|.k h24<|.py h23 (.pickF rfl h24 rfl)<|.q (.pickF rfl h23 rfl)<|.nil<|sq_n<|.condF rfl rfl<|.skip<|bq_n<|sq_n<|.region rfl<|.q (.inc1 rfl rfl (by omega))<|.m rfl rfl<|.nil<|Qac (k+1) ⟨rfl,rfl,rfl,rfl,trivial⟩ (.cons _ (List.Sublist.refl _)) (Le.refl _) ?_ ?_
        ·refine ⟨by omega,?_,hl,h0⟩
         have e:(pgood l) k=true:=by first
          | exact Qct ‹_› ‹_› ‹_› ‹_› (fun e=>h0 _ (by rw [←e];assumption)) (fun e=>absurd e (by omega))
         simp only [allR,hg,e,Bool.and_self]
        ·omega
   ·have kh18:=h18;(try simp only [bk] at kh18)
    refine .exit<|sq_e<|lq_e<|bq_x rfl<|sq_n<|.seq<|.region rfl<|.z rfl rfl<|.nil<|sq_n<|.ret<|Qaa hle16 (.tmp rfl .nil) rfl ?_
    first
     | (refine congrArg V.b ?_;unfold lineB;obtain rfl:k=l.length:=by omega
        rw [hg,decide_eq_true hl];rfl)
theorem Qbj (l:List Piece) (v:V) (g:G) (h:RS PieceR 3 g v l):Fv Tryz.prog natS (.f 130 [] []) [v] g (.b (lineB l)):=by
 refine Fw.fv ?_
 have hlen:=h.1
 refine Fw.enter (N:=58) (al:=[(0,_)]) Tryz.func130 (by kernel_rfl) (by kernel_rfl) rfl rfl rfl rfl ?_
 intro B
 refine .seq<|.region rfl<|.z rfl rfl<|.nil<|sq_n<|.seq<|.seq<|.region rfl<|.m rfl rfl<|.q (.lenR rfl rfl rfl e_93 h)<|.b rfl rfl rfl rfl<|.nil<|sq_n<|.cond rfl (fun h1=>?_) (fun h1=>?_)
 ·have kh1:=h1;(try simp only [bk] at kh1)
  refine .seq<|.region rfl<|.z rfl rfl<|.nil<|sq_n<|.ret<|sq_r<|Qaa (Le.refl _) (.tmp rfl .nil) rfl ?_
  first
   | (refine congrArg V.b ?_;unfold lineB;rw [decide_eq_false (by omega)];rfl)
 ·have kh1:=h1;(try simp only [bk] at kh1)
  refine .skip<|sq_n<|.seq<|.seq<|.region rfl<|.z rfl rfl<|.nil<|sq_n<|.block<|.loopx (α:=Nat) [(0,_)] _ (fun fx k=>(3,.i .i64 (k:Int)) :: fx) (fun mx _=>mx) (fun k g'=>k≤l.length∧allR (pgood l) k=true∧l.length≤8) (fun k=>l.length - k) (0) ⟨rfl,rfl,trivial⟩ (List.Sublist.refl _) ⟨by omega,rfl,(by omega)⟩ ?_
  intro k g3 hle2 hJ
  obtain ⟨hk,hg,hl⟩:=hJ
  replace h:=h.mono PieceR.mono hle2
  have e1:((k:Int) - 1).toNat=k - 1:=by omega
  refine .seq<|.seq<|.region rfl<|.m rfl rfl<|.m rfl rfl<|.q (.lenR rfl rfl rfl e_93 h)<|.b rfl rfl rfl rfl<|.nil<|sq_n<|.cond rfl (fun h4=>?_) (fun h4=>?_)
  ·have kh4:=h4;(try simp only [bk] at kh4)
   refine .skip<|sq_n<|.seq<|.block<|.seq<|.region rfl<|.m rfl rfl<|.m rfl rfl<|.ixn .no rfl rfl h rfl e_93 (by omega) ?_
   intro b5 o5 cs5 y5 hy5 hq5 hr5
   obtain rfl:=hr5
   refine .w (.pa 0 (vs:=[_,_,_]) rfl hq5 rfl a_157 s_157 rfl rfl)<|.alloc .no rfl z_157 fun b6=>.st (cs':=[_,_,_]) .no rfl rfl rfl rfl s_157 rfl rfl .hd rfl rfl<|.nil<|sq_n<|.seq<|.draw (tb:=[r1 0 0,r1 1 0,r1 3 0,r1 7 1,r1 15 1,r1 31 1,r1 63 1,r1 127 1,r1 255 2,r1 511 2,r1 1023 2,r1 2047 2,r1 4095 2,r1 8191 2,r1 16383 3,r1 32767 3,r1 65535 3,r1 131071 3,r1 262143 3,r1 524287 3,r1 1048575 3,r1 2097151 3,r1 4194303 3,r1 8388607 3,r1 16777215 3,r1 33554431 3,r1 67108863 3,r1 134217727 3,r1 268435455 3,r0 536870911 3,r0 536870911 3,r0 1610612735 3,r0 4294967295 3,r0 8589934591 3,r0 17179869183 3,r0 536870911 3,r0 34896609279 3,r1 137438953471 3,r1 274877906943 3,r1 549755813887 3]) rfl (by kernel_rfl) (by kernel_rfl) fun k0=>?_
   refine .q (.fa rfl Qbp)<|.y rfl rfl rfl (.s rfl .hd a_3 rfl)<|.callV .no rfl rfl rfl rfl rfl (in_ok _ _ _ _)<|.q (.not rfl)<|.m rfl rfl<|.split (t:=22) rfl (fun h7=>?_) (fun h7=>?_)
   ·have kh7:=h7;(try simp only [bk] at kh7)
    refine .k h7<|.k h7<|.skipE (.yes rfl rfl h7) rfl rfl<|.k h7<|.q (.pickT rfl h7 rfl)<|.m rfl rfl<|.k rfl<|.k rfl<|.skipE (.yes rfl rfl rfl) rfl rfl<|.k rfl<|.q (.pickT rfl rfl rfl)<|.m rfl rfl<|.k rfl<|.k rfl<|.k rfl<|.ku<|.ku<|.ku<|.k rfl<|.q (.pickT rfl rfl rfl)<|.m rfl rfl<|.k rfl<|.k rfl<|.k rfl<|.ku<|.ku<|.ku<|.ku<|.ku<|.ku ?_
    refine .ku<|.ku<|.ku<|.k rfl<|.q (.pickT rfl rfl rfl)<|.nil<|sq_n<|.condT rfl rfl<|.seq<|.region rfl<|.z rfl rfl<|.nil<|sq_n<|.ret<|bq_r<|sq_r<|lq_r<|bq_r<|sq_r<|Qaa hle2 (.tmp rfl .nil) rfl ?_
    first
     | (refine congrArg V.b (Qcs (k:=k) (by omega) (pgood_w ‹_› (.inl ‹_›))))
   ·have kh7:=h7;(try simp only [bk] at kh7)
    refine .py h7 (.fa rfl f_157_1)<|.ld (k:=0) (.yes rfl rfl h7) rfl rfl rfl trivial (.s rfl .hd a_3 rfl)<|.callV (.yes rfl rfl h7) rfl rfl rfl rfl rfl (in_ok _ _ _ _)<|.py h7 (.not rfl)<|.q (.pickF rfl h7 rfl)<|.m rfl rfl<|.split (t:=28) rfl (fun h8=>?_) (fun h8=>?_)
    ·have kh8:=h8;(try simp only [bk] at kh8)
     refine .k h8<|.k h8<|.skipE (.yes rfl rfl h8) rfl rfl<|.k h8<|.q (.pickT rfl h8 rfl)<|.m rfl rfl<|.k rfl<|.k rfl<|.k rfl<|.ku<|.ku<|.ku<|.k rfl<|.q (.pickT rfl rfl rfl)<|.m rfl rfl<|.k rfl<|.k rfl<|.k rfl<|.ku<|.ku<|.ku<|.ku<|.ku<|.ku<|.ku<|.ku<|.ku<|.k rfl<|.q (.pickT rfl rfl rfl)<|.nil<|sq_n ?_
     refine .condT rfl rfl<|.seq<|.region rfl<|.z rfl rfl<|.nil<|sq_n<|.ret<|bq_r<|sq_r<|lq_r<|bq_r<|sq_r<|Qaa hle2 (.tmp rfl .nil) rfl ?_
     first
      | (refine congrArg V.b (Qcs (k:=k) (by omega) (pgood_w ‹_› (.inr (.inl ‹_›)))))
    ·have kh8:=h8;(try simp only [bk] at kh8)
     refine .py h8 (.fa rfl f_157_2)<|.ld (k:=0) (.yes rfl rfl h8) rfl rfl rfl trivial (.s rfl .hd a_3 rfl)<|.callV (.yes rfl rfl h8) rfl rfl rfl rfl rfl (in_ok _ _ _ _)<|.py h8 (.not rfl)<|.q (.pickF rfl h8 rfl)<|.m rfl rfl<|.split (t:=34) rfl (fun h9=>?_) (fun h9=>?_)
     ·have kh9:=h9;(try simp only [bk] at kh9)
      refine .k h9<|.k h9<|.k h9<|.ku<|.ku<|.ku<|.k h9<|.q (.pickT rfl h9 rfl)<|.m rfl rfl<|.k rfl<|.k rfl<|.k rfl<|.ku<|.ku<|.ku<|.ku<|.ku<|.ku<|.ku<|.ku<|.ku<|.k rfl<|.q (.pickT rfl rfl rfl)<|.nil<|sq_n<|.condT rfl rfl<|.seq<|.region rfl<|.z rfl rfl<|.nil<|sq_n<|.ret<|bq_r<|sq_r<|lq_r<|bq_r<|sq_r ?_
      refine Qaa hle2 (.tmp rfl .nil) rfl ?_
      first
       | (refine congrArg V.b (Qcs (k:=k) (by omega) (pgood_w ‹_› (.inr (.inr ‹_›)))))
     ·have kh9:=h9;(try simp only [bk] at kh9)
      refine .py h9 (.move rfl)<|.py h9 (.bin rfl rfl rfl)<|.py h9 (.move rfl)<|.split (t:=37) rfl (fun h10=>?_) (fun h10=>?_)
      ·have kh10:=h10;(try simp only [bk] at kh10)
       refine .py h10 (.fa rfl Qbp)<|.ld (k:=0) (.yes rfl rfl h10) rfl rfl rfl trivial (.s rfl .hd a_3 rfl)<|.py h10 (.bin rfl rfl rfl)<|.py h9 (.pickT rfl h10 rfl)<|.q (.pickF rfl h9 rfl)<|.m rfl rfl<|.split (t:=43) rfl (fun h11=>?_) (fun h11=>?_)
       ·have kh11:=h11;(try simp only [bk] at kh11)
        refine .k h11<|.k h11<|.k h11<|.ku<|.ku<|.ku<|.ku<|.ku<|.ku<|.ku<|.ku<|.ku<|.k h11<|.q (.pickT rfl h11 rfl)<|.nil<|sq_n<|.condT rfl rfl<|.seq<|.region rfl<|.z rfl rfl<|.nil<|sq_n<|.ret<|bq_r<|sq_r<|lq_r<|bq_r<|sq_r<|Qaa hle2 (.tmp rfl .nil) rfl ?_
        first
         | (refine congrArg V.b (Qcs (k:=0) (by omega) (pgood_z (by rw [←(by omega:k=0)];assumption) ‹_›)))
       ·have kh11:=h11;(try simp only [bk] at kh11)
        refine .py h11 (.move rfl)<|.py h11 (.bin rfl rfl rfl)<|.py h11 (.move rfl)<|.split (t:=46) rfl (fun h12=>?_) (fun h12=>?_)
        ·have kh12:=h12;(try simp only [bk] at kh12)
         refine .py h12 (.move rfl)<|.py h12 (.move rfl)<|.py h12 (.sub rfl rfl (by omega))<|.ixi (.yes rfl rfl h12) rfl rfl h rfl e_93 (by omega) ?_
         intro b13 o13 cs13 y13 hy13 hq13 hr13
         obtain rfl:=hr13
         refine .py h12 (.fa rfl Qbp)<|.ld (k:=0) (.yes rfl rfl h12) rfl rfl rfl trivial (.ps 0 rfl hq13 rfl a_3 rfl)<|.py h12 (.fa rfl Qbp)<|.ld (k:=0) (.yes rfl rfl h12) rfl rfl rfl trivial (.s rfl .hd a_3 rfl)<|.py h12 (.bin rfl rfl rfl)<|.py h11 (.pickT rfl h12 rfl)<|.q (.pickF rfl h11 rfl)<|.nil<|sq_n<|.cond rfl (fun h14=>?_) (fun h14=>?_)
         ·have kh14:=h14;(try simp only [bk] at kh14)
          refine .seq<|.region rfl<|.z rfl rfl<|.nil<|sq_n<|.ret<|bq_r<|sq_r<|lq_r<|bq_r<|sq_r<|Qaa hle2 (.tmp rfl .nil) rfl ?_
          first
           | (refine congrArg V.b ?_;unfold lineB;rw [decide_eq_false (by omega)];rfl)
         ·have kh14:=h14;(try simp only [bk] at kh14)
          refine .skip<|bq_n<|sq_n<|.region rfl<|.m rfl rfl<|.q (.inc1 rfl rfl (by omega))<|.z rfl rfl<|.nil<|Qac (k+1) ⟨rfl,rfl,trivial⟩ (.cons _ (List.Sublist.refl _)) (Le.refl _) ?_ ?_
          ·refine ⟨by omega,?_,hl⟩
           have e:(pgood l) k=true:=by first
            | exact Qct ‹_› ‹_› ‹_› ‹_› (fun e=>by omega) (fun e=>absurd e (by omega))
           simp only [allR,hg,e,Bool.and_self]
          ·omega
        ·have kh12:=h12;(try simp only [bk] at kh12)
         refine .k h12<|.k h12<|.k h12<|.k h12<|.k h12<|.k h12<|.k h12<|.k h12<|.k h12<|.py h11 (.pickF rfl h12 rfl)<|.q (.pickF rfl h11 rfl)<|.nil<|sq_n<|.condF rfl rfl<|.skip<|bq_n<|sq_n<|.region rfl<|.m rfl rfl<|.q (.inc1 rfl rfl (by omega))<|.z rfl rfl<|.nil<|Qac (k+1) ⟨rfl,rfl,trivial⟩ (.cons _ (List.Sublist.refl _)) (Le.refl _) ?_ ?_
         ·refine ⟨by omega,?_,hl⟩
          have e:(pgood l) k=true:=by first
           | exact Qct ‹_› ‹_› ‹_› ‹_› (fun e=>by omega) (fun e=>absurd e (by omega))
          simp only [allR,hg,e,Bool.and_self]
         ·omega
      ·have kh10:=h10;(try simp only [bk] at kh10)
       refine .k h10<|.k h10<|.k h10<|.py h9 (.pickF rfl h10 rfl)<|.q (.pickF rfl h9 rfl)<|.m rfl rfl<|.py rfl (.move rfl)<|.py rfl (.bin rfl rfl rfl)<|.py rfl (.move rfl)<|.split (t:=46) rfl (fun h15=>?_) (fun h15=>?_)
       ·have kh15:=h15;(try simp only [bk] at kh15)
        refine .py h15 (.move rfl)<|.py h15 (.move rfl)<|.py h15 (.sub rfl rfl (by omega))<|.ixi (.yes rfl rfl h15) rfl rfl h rfl e_93 (by omega) ?_
        intro b16 o16 cs16 y16 hy16 hq16 hr16
        obtain rfl:=hr16
        refine .py h15 (.fa rfl Qbp)<|.ld (k:=0) (.yes rfl rfl h15) rfl rfl rfl trivial (.ps 0 rfl hq16 rfl a_3 rfl)<|.py h15 (.fa rfl Qbp)<|.ld (k:=0) (.yes rfl rfl h15) rfl rfl rfl trivial (.s rfl .hd a_3 rfl)<|.py h15 (.bin rfl rfl rfl)<|.py rfl (.pickT rfl h15 rfl)<|.q (.pickF rfl rfl rfl)<|.nil<|sq_n<|.cond rfl (fun h17=>?_) (fun h17=>?_)
        ·have kh17:=h17;(try simp only [bk] at kh17)
         refine .seq<|.region rfl<|.z rfl rfl<|.nil<|sq_n<|.ret<|bq_r<|sq_r<|lq_r<|bq_r<|sq_r<|Qaa hle2 (.tmp rfl .nil) rfl ?_
         first
          | (refine congrArg V.b (Qcs (k:=k) (by omega) (pgood_no ‹l[k]? =some _› (by rw [←e1];assumption) (by omega) ‹_›)))
        ·have kh17:=h17;(try simp only [bk] at kh17)
         refine .skip<|bq_n<|sq_n<|.region rfl<|.m rfl rfl<|.q (.inc1 rfl rfl (by omega))<|.z rfl rfl<|.nil<|Qac (k+1) ⟨rfl,rfl,trivial⟩ (.cons _ (List.Sublist.refl _)) (Le.refl _) ?_ ?_
         ·refine ⟨by omega,?_,hl⟩
          have e:(pgood l) k=true:=by first
           | exact Qct ‹_› ‹_› ‹_› ‹_› (fun e=>absurd e (by omega)) (fun _=>⟨_,by rw [←e1];assumption,by omega⟩)
          simp only [allR,hg,e,Bool.and_self]
         ·omega
       ·have kh15:=h15;(try simp only [bk] at kh15)
        refine .k h15<|.k h15<|.k h15<|.k h15<|.k h15<|.k h15<|.k h15<|.k h15<|.k h15<|.py rfl (.pickF rfl h15 rfl)<|.q (.pickF rfl rfl rfl)<|.nil<|sq_n<|.condF rfl rfl<|.skip<|bq_n<|sq_n<|.region rfl<|.m rfl rfl<|.q (.inc1 rfl rfl (by omega))<|.z rfl rfl<|.nil<|Qac (k+1) ⟨rfl,rfl,trivial⟩ (.cons _ (List.Sublist.refl _)) (Le.refl _) ?_ ?_
        ·refine ⟨by omega,?_,hl⟩
         have e:(pgood l) k=true:=by first
          | exact Qct ‹_› ‹_› ‹_› ‹_› (fun e=>by omega) (fun e=>absurd e (by omega))
         simp only [allR,hg,e,Bool.and_self]
        ·omega
  ·have kh4:=h4;(try simp only [bk] at kh4)
   refine .exit<|sq_e<|lq_e<|bq_x rfl<|sq_n<|.seq<|.region rfl<|.z rfl rfl<|.nil<|sq_n<|.ret<|Qaa hle2 (.tmp rfl .nil) rfl ?_
   first
    | (refine congrArg V.b ?_;unfold lineB;obtain rfl:k=l.length:=by omega
       rw [hg,decide_eq_true hl];rfl)
end Go.Proofs.YtjflgemfeofciaaGreatDoor
