import Derived.Test.YtjflgemfeofciaaGreatDoorMU1
import Derived.Test.YtjflgemfeofciaaGreatDoorMX2
import Derived.Test.YtjflgemfeofciaaGreatDoorLawF
import Derived.Test.YtjflgemfeofciaaGreatDoorCv4
namespace Go.Proofs.YtjflgemfeofciaaGreatDoor
open Go Go.Ev Go.ChangeShapes Go.WideShapes
set_option linter.unusedVariables false
set_option linter.unusedSimpArgs false
set_option maxRecDepth 10000
section
variable {H:Type} {enc:TypeId × Value→H} {W:World} {cs:List Value}
end
end Go.Proofs.YtjflgemfeofciaaGreatDoor
namespace Go.Proofs.YtjflgemfeofciaaGreatDoor
open Go Go.Ev
set_option linter.unusedVariables false
set_option linter.unusedSimpArgs false
set_option maxRecDepth 10000
set_option maxHeartbeats 400000
def letB (c:UInt8):Bool:=decide (97≤(c.toNat:Int)) && decide ((c.toNat:Int)≤122)
def digB (c:UInt8):Bool:=decide (48≤(c.toNat:Int)) && decide ((c.toNat:Int)≤57)
def ngood (s:List UInt8) (j:Nat):Bool:=match s[j]? with
 | some c=>letB c || (decide (j≠0) && digB c)
 | none=>true
def nameB (s:List UInt8):Bool:=decide (1≤s.length) && (decide (s.length≤12) && allR (ngood s) s.length)
theorem Qbv {s:List UInt8} {k:Nat} (hk:k < s.length) (h:ngood s k=false):false=nameB s:=by unfold nameB;rw [allR_no hk h];simp
theorem Qaz {s:List UInt8} {k:Nat} (hk:k < s.length):ngood s k=(letB s[k] || (decide (k≠0) && digB s[k])):=by unfold ngood;rw [List.getElem?_eq_getElem hk]
theorem isName_ok (s:List UInt8) (g:G):Fv Tryz.prog natS (.f 66 [] []) [.s s] g (.b (nameB s)):=by
 refine Fw.fv ?_
 refine Fw.enter (N:=43) (al:=[(0,_)]) Tryz.func66 (by kernel_rfl) (by kernel_rfl) rfl rfl rfl rfl ?_
 intro B
 refine .seq<|.region rfl<|.z rfl rfl<|.nil<|sq_n<|.seq<|.seq<|.region rfl<|.m rfl rfl<|.q (.len rfl rfl rfl (lenV_s str_9))<|.callV .no rfl rfl rfl (Qai _ _ _ _)<|.q (.not rfl)<|.nil<|sq_n<|.cond rfl (fun h1=>?_) (fun h1=>?_)
 ·have kh1:=h1;(try simp only [bk] at kh1)
  refine .seq<|.region rfl<|.z rfl rfl<|.nil<|sq_n<|.ret<|sq_r<|Qaa (Le.refl _) (.tmp rfl .nil) rfl<|congrArg V.b ?_
  first
   | (unfold nameB;unfold Qae at *; grind)
 ·have kh1:=h1;(try simp only [bk] at kh1)
  refine .skip<|sq_n<|.seq<|.seq<|.region rfl<|.m rfl rfl<|.q (.len rfl rfl rfl (lenV_s str_9))<|.m rfl rfl<|.nil<|sq_n<|.block<|.loopx (α:=Nat) [(0,_),(10,_)] _ (fun fx k=>(11,.i .i64 (k:Int)) :: fx) (fun mx _=>mx) (fun k g'=>k≤s.length∧allR (ngood s) k=true∧s.length≤12∧1≤s.length) (fun k=>s.length - k) (0) ⟨rfl,rfl,rfl,trivial⟩ (List.Sublist.refl _) ⟨by omega,rfl,(by simp_all [Qae];try omega),(by simp_all [Qae];try omega)⟩ ?_
  intro k g3 hle2 hJ
  obtain ⟨hk,hg,hl,h1⟩:=hJ
  have e1:((k:Int) - 1).toNat=k - 1:=by omega
  refine .seq<|.region rfl<|.b rfl rfl rfl rfl<|.nil<|sq_n<|.seq<|.cond rfl (fun h4=>?_) (fun h4=>?_)
  ·have kh4:=h4;(try simp only [bk] at kh4)
   refine .skip<|sq_n<|.seq<|.block<|.seq<|.region rfl<|.m rfl rfl<|.z rfl rfl<|.nil<|sq_n<|.seq<|.region rfl<|.m rfl rfl<|.m rfl rfl<|.q (.ixs rfl rfl str_9 (by omega))<|.b rfl rfl rfl rfl<|.m rfl rfl<|.split (t:=18) rfl (fun h5=>?_) (fun h5=>?_)
   ·have kh5:=h5;(try simp only [bk] at kh5)
    refine .py h5 (.move rfl)<|.py h5 (.move rfl)<|.py h5 (.ixs rfl rfl str_9 (by omega))<|.py h5 (.bin rfl rfl rfl)<|.q (.pickT rfl h5 rfl)<|.z rfl rfl<|.nil<|sq_n<|.seq<|.region rfl<|.m rfl rfl<|.q (.not rfl)<|.m rfl rfl<|.split (t:=26) rfl (fun h6=>?_) (fun h6=>?_)
    ·have kh6:=h6;(try simp only [bk] at kh6)
     refine .py h6 (.move rfl)<|.py h6 (.bin rfl rfl rfl)<|.py h6 (.move rfl)<|.split (t:=29) rfl (fun h7=>?_) (fun h7=>?_)
     ·have kh7:=h7;(try simp only [bk] at kh7)
      refine .k h7<|.k h7<|.k h7<|.k h7<|.py h6 (.pickT rfl h7 rfl)<|.py h6 (.move rfl)<|.k rfl<|.k rfl<|.k rfl<|.k rfl<|.py h6 (.pickT rfl rfl rfl)<|.q (.pickT rfl h6 rfl)<|.nil<|sq_n<|.condT rfl rfl<|.seq<|.region rfl<|.z rfl rfl<|.nil<|sq_n<|.ret<|bq_r<|sq_r<|lq_r<|bq_r<|sq_r<|Qaa hle2 (.tmp rfl .nil) rfl<|congrArg V.b ?_
      first
       | (refine Qbv (k:=k) (by omega) ?_;rw [Qaz (by omega)];simp only [letB,digB];grind)
     ·have kh7:=h7;(try simp only [bk] at kh7)
      refine .py h7 (.move rfl)<|.py h7 (.move rfl)<|.py h7 (.ixs rfl rfl str_9 (by omega))<|.py h7 (.bin rfl rfl rfl)<|.py h6 (.pickF rfl h7 rfl)<|.py h6 (.move rfl)<|.split (t:=35) rfl (fun h8=>?_) (fun h8=>?_)
      ·have kh8:=h8;(try simp only [bk] at kh8)
       refine .k h8<|.k h8<|.k h8<|.k h8<|.py h6 (.pickT rfl h8 rfl)<|.q (.pickT rfl h6 rfl)<|.nil<|sq_n<|.condT rfl rfl<|.seq<|.region rfl<|.z rfl rfl<|.nil<|sq_n<|.ret<|bq_r<|sq_r<|lq_r<|bq_r<|sq_r<|Qaa hle2 (.tmp rfl .nil) rfl<|congrArg V.b ?_
       first
        | (refine Qbv (k:=k) (by omega) ?_;rw [Qaz (by omega)];simp only [letB,digB];grind)
      ·have kh8:=h8;(try simp only [bk] at kh8)
       refine .py h8 (.move rfl)<|.py h8 (.move rfl)<|.py h8 (.ixs rfl rfl str_9 (by omega))<|.py h8 (.bin rfl rfl rfl)<|.py h6 (.pickF rfl h8 rfl)<|.q (.pickT rfl h6 rfl)<|.nil<|sq_n<|.cond rfl (fun h9=>?_) (fun h9=>?_)
       ·have kh9:=h9;(try simp only [bk] at kh9)
        refine .seq<|.region rfl<|.z rfl rfl<|.nil<|sq_n<|.ret<|bq_r<|sq_r<|lq_r<|bq_r<|sq_r<|Qaa hle2 (.tmp rfl .nil) rfl<|congrArg V.b ?_
        first
         | (refine Qbv (k:=k) (by omega) ?_;rw [Qaz (by omega)];simp only [letB,digB];grind)
       ·have kh9:=h9;(try simp only [bk] at kh9)
        refine .skip<|bq_n<|sq_n<|.region rfl<|.q (.inc1 rfl rfl (by omega))<|.m rfl rfl<|.nil<|Qac (k+1) ⟨rfl,rfl,rfl,trivial⟩ (List.Sublist.refl _) (Le.refl _) ?_ ?_
        ·refine ⟨by omega,?_,hl,h1⟩
         have e:(ngood s) k=true:=by rw [Qaz (by omega)];simp only [letB,digB];grind
         simp only [allR,hg,e,Bool.and_self]
        ·omega
    ·have kh6:=h6;(try simp only [bk] at kh6)
     refine .k h6<|.k h6<|.k h6<|.ku<|.ku<|.ku<|.ku<|.k h6<|.k h6<|.ku<|.ku<|.ku<|.ku<|.k h6<|.q (.pickF rfl h6 rfl)<|.nil<|sq_n<|.condF rfl rfl<|.skip<|bq_n<|sq_n<|.region rfl<|.q (.inc1 rfl rfl (by omega))<|.m rfl rfl<|.nil<|Qac (k+1) ⟨rfl,rfl,rfl,trivial⟩ (List.Sublist.refl _) (Le.refl _) ?_ ?_
     ·refine ⟨by omega,?_,hl,h1⟩
      have e:(ngood s) k=true:=by rw [Qaz (by omega)];simp only [letB,digB];grind
      simp only [allR,hg,e,Bool.and_self]
     ·omega
   ·have kh5:=h5;(try simp only [bk] at kh5)
    refine .k h5<|.k h5<|.k h5<|.k h5<|.q (.pickF rfl h5 rfl)<|.z rfl rfl<|.nil<|sq_n<|.seq<|.region rfl<|.m rfl rfl<|.q (.not rfl)<|.m rfl rfl<|.py rfl (.move rfl)<|.py rfl (.bin rfl rfl rfl)<|.py rfl (.move rfl)<|.split (t:=29) rfl (fun h10=>?_) (fun h10=>?_)
    ·have kh10:=h10;(try simp only [bk] at kh10)
     refine .k h10<|.k h10<|.k h10<|.k h10<|.py rfl (.pickT rfl h10 rfl)<|.py rfl (.move rfl)<|.k rfl<|.k rfl<|.k rfl<|.k rfl<|.py rfl (.pickT rfl rfl rfl)<|.q (.pickT rfl rfl rfl)<|.nil<|sq_n<|.condT rfl rfl<|.seq<|.region rfl<|.z rfl rfl<|.nil<|sq_n<|.ret<|bq_r<|sq_r<|lq_r<|bq_r<|sq_r<|Qaa hle2 (.tmp rfl .nil) rfl<|congrArg V.b ?_
     first
      | (refine Qbv (k:=k) (by omega) ?_;rw [Qaz (by omega)];simp only [letB,digB];grind)
    ·have kh10:=h10;(try simp only [bk] at kh10)
     refine .py h10 (.move rfl)<|.py h10 (.move rfl)<|.py h10 (.ixs rfl rfl str_9 (by omega))<|.py h10 (.bin rfl rfl rfl)<|.py rfl (.pickF rfl h10 rfl)<|.py rfl (.move rfl)<|.split (t:=35) rfl (fun h11=>?_) (fun h11=>?_)
     ·have kh11:=h11;(try simp only [bk] at kh11)
      refine .k h11<|.k h11<|.k h11<|.k h11<|.py rfl (.pickT rfl h11 rfl)<|.q (.pickT rfl rfl rfl)<|.nil<|sq_n<|.condT rfl rfl<|.seq<|.region rfl<|.z rfl rfl<|.nil<|sq_n<|.ret<|bq_r<|sq_r<|lq_r<|bq_r<|sq_r<|Qaa hle2 (.tmp rfl .nil) rfl<|congrArg V.b ?_
      first
       | (refine Qbv (k:=k) (by omega) ?_;rw [Qaz (by omega)];simp only [letB,digB];grind)
     ·have kh11:=h11;(try simp only [bk] at kh11)
      refine .py h11 (.move rfl)<|.py h11 (.move rfl)<|.py h11 (.ixs rfl rfl str_9 (by omega))<|.py h11 (.bin rfl rfl rfl)<|.py rfl (.pickF rfl h11 rfl)<|.q (.pickT rfl rfl rfl)<|.nil<|sq_n<|.cond rfl (fun h12=>?_) (fun h12=>?_)
      ·have kh12:=h12;(try simp only [bk] at kh12)
       refine .seq<|.region rfl<|.z rfl rfl<|.nil<|sq_n<|.ret<|bq_r<|sq_r<|lq_r<|bq_r<|sq_r<|Qaa hle2 (.tmp rfl .nil) rfl<|congrArg V.b ?_
       first
        | (refine Qbv (k:=k) (by omega) ?_;rw [Qaz (by omega)];simp only [letB,digB];grind)
      ·have kh12:=h12;(try simp only [bk] at kh12)
       refine .skip<|bq_n<|sq_n<|.region rfl<|.q (.inc1 rfl rfl (by omega))<|.m rfl rfl<|.nil<|Qac (k+1) ⟨rfl,rfl,rfl,trivial⟩ (List.Sublist.refl _) (Le.refl _) ?_ ?_
       ·refine ⟨by omega,?_,hl,h1⟩
        have e:(ngood s) k=true:=by rw [Qaz (by omega)];simp only [letB,digB];grind
        simp only [allR,hg,e,Bool.and_self]
       ·omega
  ·have kh4:=h4;(try simp only [bk] at kh4)
   refine .exit<|sq_e<|lq_e<|bq_x rfl<|sq_n<|.seq<|.region rfl<|.z rfl rfl<|.nil<|sq_n<|.ret<|Qaa hle2 (.tmp rfl .nil) rfl<|congrArg V.b ?_
   first
    | (unfold nameB;obtain rfl:k=s.length:=by omega
       rw [hg];grind)
theorem rIsName_ok (s:List UInt8) (g:G):Fv Tryz.prog natS (.f 69 [] []) [.s s] g (.b (nameB s)):=by
 refine Fw.fv ?_
 refine Fw.enter (N:=50) (al:=[(0,_)]) Tryz.func69 (by kernel_rfl) (by kernel_rfl) rfl rfl rfl rfl ?_
 intro B
 refine .seq<|.region rfl<|.z rfl rfl<|.nil<|sq_n<|.seq<|.seq<|.region rfl<|.m rfl rfl<|.q (.len rfl rfl rfl (lenV_s str_9))<|.b rfl rfl rfl rfl<|.m rfl rfl<|.split (t:=7) rfl (fun h1=>?_) (fun h1=>?_)
 ·refine .k h1<|.k h1<|.k h1<|.q (.pickT rfl h1 rfl)<|.m rfl rfl<|.k rfl<|.k rfl<|.k rfl<|.q (.pickT rfl rfl rfl)<|.m rfl rfl<|.k rfl<|.k rfl<|.k rfl<|.q (.pickT rfl rfl rfl)<|.nil<|sq_n<|.condT rfl rfl<|.seq<|.region rfl<|.z rfl rfl<|.nil<|sq_n<|.ret<|sq_r<|Qaa (Le.refl _) (.tmp rfl .nil) rfl<|congrArg V.b ?_
  first
   | (unfold nameB;grind)
 ·have kh1:=h1;(try simp only [bk] at kh1)
  refine .py h1 (.move rfl)<|.py h1 (.len rfl rfl rfl (lenV_s str_9))<|.py h1 (.bin rfl rfl rfl)<|.q (.pickF rfl h1 rfl)<|.m rfl rfl<|.split (t:=12) rfl (fun h2=>?_) (fun h2=>?_)
  ·refine .k h2<|.k h2<|.k h2<|.q (.pickT rfl h2 rfl)<|.m rfl rfl<|.k rfl<|.k rfl<|.k rfl<|.q (.pickT rfl rfl rfl)<|.nil<|sq_n<|.condT rfl rfl<|.seq<|.region rfl<|.z rfl rfl<|.nil<|sq_n<|.ret<|sq_r<|Qaa (Le.refl _) (.tmp rfl .nil) rfl<|congrArg V.b ?_
   first
    | (unfold nameB;grind)
  ·have kh2:=h2;(try simp only [bk] at kh2)
   refine .py h2 (.move rfl)<|.py h2 (.ixs (j:=0) rfl rfl str_9 (by omega))<|.py h2 (.bin rfl rfl rfl)<|.q (.pickF rfl h2 rfl)<|.m rfl rfl<|.split (t:=17) rfl (fun h3=>?_) (fun h3=>?_)
   ·have kh3:=h3;(try simp only [bk] at kh3)
    refine .k h3<|.k h3<|.k h3<|.q (.pickT rfl h3 rfl)<|.nil<|sq_n<|.condT rfl rfl<|.seq<|.region rfl<|.z rfl rfl<|.nil<|sq_n<|.ret<|sq_r<|Qaa (Le.refl _) (.tmp rfl .nil) rfl<|congrArg V.b ?_
    first
     | (refine Qbv (k:=0) (by omega) ?_;rw [Qaz (by omega)];simp only [letB,digB] at *; grind)
   ·have kh3:=h3;(try simp only [bk] at kh3)
    refine .py h3 (.move rfl)<|.py h3 (.ixs (j:=0) rfl rfl str_9 (by omega))<|.py h3 (.bin rfl rfl rfl)<|.q (.pickF rfl h3 rfl)<|.nil<|sq_n<|.cond rfl (fun h4=>?_) (fun h4=>?_)
    ·have kh4:=h4;(try simp only [bk] at kh4)
     refine .seq<|.region rfl<|.z rfl rfl<|.nil<|sq_n<|.ret<|sq_r<|Qaa (Le.refl _) (.tmp rfl .nil) rfl<|congrArg V.b ?_
     first
      | (refine Qbv (k:=0) (by omega) ?_;rw [Qaz (by omega)];simp only [letB,digB] at *; grind)
    ·have kh4:=h4;(try simp only [bk] at kh4)
     refine .skip<|sq_n<|.seq<|.seq<|.region rfl<|.z rfl rfl<|.nil<|sq_n<|.block<|.loopx (α:=Nat) [(0,_)] _ (fun fx k=>(3,.i .i64 (k:Int)) :: fx) (fun mx _=>mx) (fun k g'=>k≤s.length∧allR (ngood s) k=true∧s.length≤12∧1≤s.length∧∀ h:0 < s.length,letB s[0]=true) (fun k=>s.length - k) (0) ⟨rfl,rfl,trivial⟩ (List.Sublist.refl _) ⟨by omega,rfl,(by omega),(by omega),(by simp only [letB];grind)⟩ ?_
     intro k g6 hle5 hJ
     obtain ⟨hk,hg,hl,h1,h2⟩:=hJ
     have e1:((k:Int) - 1).toNat=k - 1:=by omega
     refine .seq<|.seq<|.region rfl<|.m rfl rfl<|.m rfl rfl<|.q (.len rfl rfl rfl (lenV_s str_9))<|.b rfl rfl rfl rfl<|.nil<|sq_n<|.cond rfl (fun h7=>?_) (fun h7=>?_)
     ·have kh7:=h7;(try simp only [bk] at kh7)
      refine .skip<|sq_n<|.seq<|.block<|.seq<|.region rfl<|.m rfl rfl<|.m rfl rfl<|.q (.ixs rfl rfl str_9 (by omega))<|.b rfl rfl rfl rfl<|.m rfl rfl<|.split (t:=32) rfl (fun h8=>?_) (fun h8=>?_)
      ·have kh8:=h8;(try simp only [bk] at kh8)
       refine .k h8<|.k h8<|.k h8<|.k h8<|.q (.pickT rfl h8 rfl)<|.m rfl rfl<|.py rfl (.move rfl)<|.py rfl (.move rfl)<|.py rfl (.ixs rfl rfl str_9 (by omega))<|.py rfl (.bin rfl rfl rfl)<|.py rfl (.move rfl)<|.split (t:=43) rfl (fun h9=>?_) (fun h9=>?_)
       ·have kh9:=h9;(try simp only [bk] at kh9)
        refine .k h9<|.k h9<|.k h9<|.k h9<|.py rfl (.pickT rfl h9 rfl)<|.q (.pickT rfl rfl rfl)<|.nil<|sq_n<|.condT rfl rfl<|.seq<|.region rfl<|.z rfl rfl<|.nil<|sq_n<|.ret<|bq_r<|sq_r<|lq_r<|bq_r<|sq_r<|Qaa hle5 (.tmp rfl .nil) rfl<|congrArg V.b ?_
        first
         | (refine Qbv (k:=k) (by omega) ?_;rw [Qaz (by omega)];simp only [letB,digB] at *; grind)
       ·have kh9:=h9;(try simp only [bk] at kh9)
        refine .py h9 (.move rfl)<|.py h9 (.move rfl)<|.py h9 (.ixs rfl rfl str_9 (by omega))<|.py h9 (.bin rfl rfl rfl)<|.py rfl (.pickF rfl h9 rfl)<|.q (.pickT rfl rfl rfl)<|.nil<|sq_n<|.cond rfl (fun h10=>?_) (fun h10=>?_)
        ·have kh10:=h10;(try simp only [bk] at kh10)
         refine .seq<|.region rfl<|.z rfl rfl<|.nil<|sq_n<|.ret<|bq_r<|sq_r<|lq_r<|bq_r<|sq_r<|Qaa hle5 (.tmp rfl .nil) rfl<|congrArg V.b ?_
         first
          | (refine Qbv (k:=k) (by omega) ?_;rw [Qaz (by omega)];simp only [letB,digB] at *; grind)
        ·have kh10:=h10;(try simp only [bk] at kh10)
         refine .skip<|bq_n<|sq_n<|.region rfl<|.m rfl rfl<|.q (.inc1 rfl rfl (by omega))<|.z rfl rfl<|.nil<|Qac (k+1) ⟨rfl,rfl,trivial⟩ (List.Sublist.refl _) (Le.refl _) ?_ ?_
         ·refine ⟨by omega,?_,hl,h1,h2⟩
          have e:(ngood s) k=true:=by rw [Qaz (by omega)];simp only [letB,digB] at *; grind
          simp only [allR,hg,e,Bool.and_self]
         ·omega
      ·have kh8:=h8;(try simp only [bk] at kh8)
       refine .py h8 (.move rfl)<|.py h8 (.move rfl)<|.py h8 (.ixs rfl rfl str_9 (by omega))<|.py h8 (.bin rfl rfl rfl)<|.q (.pickF rfl h8 rfl)<|.m rfl rfl<|.split (t:=38) rfl (fun h11=>?_) (fun h11=>?_)
       ·have kh11:=h11;(try simp only [bk] at kh11)
        refine .py h11 (.move rfl)<|.py h11 (.move rfl)<|.py h11 (.ixs rfl rfl str_9 (by omega))<|.py h11 (.bin rfl rfl rfl)<|.py h11 (.move rfl)<|.split (t:=43) rfl (fun h12=>?_) (fun h12=>?_)
        ·have kh12:=h12;(try simp only [bk] at kh12)
         refine .k h12<|.k h12<|.k h12<|.k h12<|.py h11 (.pickT rfl h12 rfl)<|.q (.pickT rfl h11 rfl)<|.nil<|sq_n<|.condT rfl rfl<|.seq<|.region rfl<|.z rfl rfl<|.nil<|sq_n<|.ret<|bq_r<|sq_r<|lq_r<|bq_r<|sq_r<|Qaa hle5 (.tmp rfl .nil) rfl<|congrArg V.b ?_
         first
          | (refine Qbv (k:=k) (by omega) ?_;rw [Qaz (by omega)];simp only [letB,digB] at *; grind)
        ·have kh12:=h12;(try simp only [bk] at kh12)
         refine .py h12 (.move rfl)<|.py h12 (.move rfl)<|.py h12 (.ixs rfl rfl str_9 (by omega))<|.py h12 (.bin rfl rfl rfl)<|.py h11 (.pickF rfl h12 rfl)<|.q (.pickT rfl h11 rfl)<|.nil<|sq_n<|.cond rfl (fun h13=>?_) (fun h13=>?_)
         ·have kh13:=h13;(try simp only [bk] at kh13)
          refine .seq<|.region rfl<|.z rfl rfl<|.nil<|sq_n<|.ret<|bq_r<|sq_r<|lq_r<|bq_r<|sq_r<|Qaa hle5 (.tmp rfl .nil) rfl<|congrArg V.b ?_
          first
           | (refine Qbv (k:=k) (by omega) ?_;rw [Qaz (by omega)];simp only [letB,digB] at *; grind)
         ·have kh13:=h13;(try simp only [bk] at kh13)
          refine .skip<|bq_n<|sq_n<|.region rfl<|.m rfl rfl<|.q (.inc1 rfl rfl (by omega))<|.z rfl rfl<|.nil<|Qac (k+1) ⟨rfl,rfl,trivial⟩ (List.Sublist.refl _) (Le.refl _) ?_ ?_
          ·refine ⟨by omega,?_,hl,h1,h2⟩
           have e:(ngood s) k=true:=by rw [Qaz (by omega)];simp only [letB,digB] at *; grind
           simp only [allR,hg,e,Bool.and_self]
          ·omega
       ·have kh11:=h11;(try simp only [bk] at kh11)
        refine .k h11<|.k h11<|.k h11<|.k h11<|.k h11<|.ku<|.ku<|.ku<|.ku<|.k h11<|.q (.pickF rfl h11 rfl)<|.nil<|sq_n<|.condF rfl rfl<|.skip<|bq_n<|sq_n<|.region rfl<|.m rfl rfl<|.q (.inc1 rfl rfl (by omega))<|.z rfl rfl<|.nil<|Qac (k+1) ⟨rfl,rfl,trivial⟩ (List.Sublist.refl _) (Le.refl _) ?_ ?_
        ·refine ⟨by omega,?_,hl,h1,h2⟩
         have e:(ngood s) k=true:=by rw [Qaz (by omega)];simp only [letB,digB] at *; grind
         simp only [allR,hg,e,Bool.and_self]
        ·omega
     ·have kh7:=h7;(try simp only [bk] at kh7)
      refine .exit<|sq_e<|lq_e<|bq_x rfl<|sq_n<|.seq<|.region rfl<|.z rfl rfl<|.nil<|sq_n<|.ret<|Qaa hle5 (.tmp rfl .nil) rfl<|congrArg V.b ?_
      first
       | (unfold nameB;obtain rfl:k=s.length:=by omega
          rw [hg];grind)
end Go.Proofs.YtjflgemfeofciaaGreatDoor
namespace Go.Proofs.YtjflgemfeofciaaGreatDoor
open Go Go.Ev
set_option linter.unusedVariables false
set_option linter.unusedSimpArgs false
set_option maxRecDepth 10000
set_option maxHeartbeats 400000
def vgood (l:List Version) (j:Nat):Bool:=match l[j]? with
 | some v=>v.ok && (decide (j=0) || match l[j - 1]? with | some q=>decide (q.fr < v.fr) | none=>true)
 | none=>true
theorem vgood_w {l:List Version} {k:Nat} {y:Version} (hy:l[k]? =some y) (h:y.ok=false):vgood l k=false:=by unfold vgood;rw [hy];simp [h]
theorem vgood_no {l:List Version} {k:Nat} {y z:Version} (hy:l[k]? =some y) (hz:l[k - 1]? =some z) (hk:0 < k) (h:y.fr≤z.fr):vgood l k=false:=by
 unfold vgood;rw [hy,hz];simp only [];rw [decide_eq_false (by omega),decide_eq_false (by omega)];simp
theorem vgood_yes0 {l:List Version} {k:Nat} {y:Version} (hy:l[k]? =some y) (h:y.ok=true) (hk:k=0):vgood l k=true:=by unfold vgood;rw [hy];simp [h,hk]
theorem vgood_yes {l:List Version} {k:Nat} {y z:Version} (hy:l[k]? =some y) (h:y.ok=true) (hz:l[k - 1]? =some z) (hl:z.fr < y.fr):vgood l k=true:=by unfold vgood;rw [hy,hz];simp [h,hl]
def Code.ok (c:Code):Bool:=nameB c.name && (Qae c.vs.length 1 12 && allR (vgood c.vs) c.vs.length)
def Code.err (c:Code):Int:=if c.ok then 0 else 41
theorem err_no {c:Code} {k:Nat} (hk:k < c.vs.length) (h:vgood c.vs k=false):41=c.err:=by unfold Code.err Code.ok;rw [allR_no hk h];simp
theorem Check_ok (c:Code) (cs:List V) (g:G) (h:CodeR g cs c):Fv Tryz.prog natS (.f 15 [] []) [.agg cs] g (.i .i64 c.err):=by
 obtain ⟨v,rfl,h⟩:=h
 refine Fw.fv ?_
 have hlen:=h.1
 refine Fw.enter (N:=44) (al:=[(0,_)]) Tryz.func15 (by kernel_rfl) (by kernel_rfl) rfl rfl rfl rfl ?_
 intro B
 refine .seq<|.region rfl<|.box .no rfl rfl rfl rfl fun b1=>.z rfl rfl<|.nil<|sq_n<|.seq<|.seq<|.region rfl<|.q (.fa rfl f_24_0)<|.w (.s rfl .hd a_9 rfl)<|.callV .no rfl rfl rfl (isName_ok _ _)<|.q (.not rfl)<|.m rfl rfl<|.split (t:=9) rfl (fun h2=>?_) (fun h2=>?_)
 ·have kh2:=h2;(try simp only [bk] at kh2)
  refine .k h2<|.k h2<|.k h2<|.k h2<|.k h2<|.q (.pickT rfl h2 rfl)<|.nil<|sq_n<|.condT rfl rfl<|.seq<|.region rfl<|.z rfl rfl<|.nil<|sq_n<|.ret<|sq_r<|Qaa (Le.refl _) (.tmp rfl .nil) rfl<|congrArg (V.i .i64) ?_
  first
   | (unfold Code.err Code.ok;rw [show nameB c.name=false from ‹_›];rfl)
 ·have kh2:=h2;(try simp only [bk] at kh2)
  refine .py h2 (.fa rfl Qbu)<|.wy h2 (.s rfl .hd a_22 rfl)<|.py h2 (.lenR rfl rfl rfl e_22 h)<|.callV (.yes rfl rfl h2) rfl rfl rfl (Qai _ _ _ _)<|.py h2 (.not rfl)<|.q (.pickF rfl h2 rfl)<|.nil<|sq_n<|.cond rfl (fun h3=>?_) (fun h3=>?_)
  ·have kh3:=h3;(try simp only [bk] at kh3)
   refine .seq<|.region rfl<|.z rfl rfl<|.nil<|sq_n<|.ret<|sq_r<|Qaa (Le.refl _) (.tmp rfl .nil) rfl<|congrArg (V.i .i64) ?_
   first
    | (unfold Code.err Code.ok;rw [show Qae c.vs.length 1 12=false from ‹_›,Bool.false_and,Bool.and_false];rfl)
  ·have kh3:=h3;(try simp only [bk] at kh3)
   refine .skip<|sq_n<|.seq<|.seq<|.region rfl<|.q (.fa rfl Qbu)<|.w (.s rfl .hd a_22 rfl)<|.q (.lenR rfl rfl rfl e_22 h)<|.m rfl rfl<|.nil<|sq_n<|.block<|.loopx (α:=Nat) [(1,_),(17,_),(18,_)] _ (fun fx k=>(19,.i .i64 (k:Int)) :: fx) (fun mx _=>mx) (fun k g'=>k≤c.vs.length∧allR (vgood c.vs) k=true∧nameB c.name=true∧Qae c.vs.length 1 12=true) (fun k=>c.vs.length - k) (0) ⟨rfl,rfl,rfl,rfl,trivial⟩ (List.Sublist.refl _) ⟨by omega,rfl,(by assumption),(by assumption)⟩ ?_
   intro k g5 hle4 hJ
   obtain ⟨hk,hg,hn,hw⟩:=hJ
   replace h:=h.mono VersionR.mono hle4
   have e1:((k:Int) - 1).toNat=k - 1:=by omega
   refine .seq<|.region rfl<|.b rfl rfl rfl rfl<|.nil<|sq_n<|.seq<|.cond rfl (fun h6=>?_) (fun h6=>?_)
   ·have kh6:=h6;(try simp only [bk] at kh6)
    refine .skip<|sq_n<|.seq<|.block<|.seq<|.region rfl<|.m rfl rfl<|.ixn .no rfl rfl h rfl e_22 (by omega) ?_
    intro b7 o7 cs7 y7 hy7 hq7 hr7
    obtain ⟨p7,lv7,rfl,hp7,hl7⟩:=hr7
    refine .w (.pa 0 (vs:=[_,_,_,_,_,_,_,_,_,_,_,_]) rfl hq7 rfl a_97 s_97 rfl rfl)<|.alloc .no rfl z_97 fun b8=>.z rfl rfl<|.st (cs':=[_,_,_,_,_,_,_,_,_,_,_,_]) .no rfl rfl rfl rfl s_97 rfl rfl .hd rfl (Qa rfl (Qa hp7.one (Qa (hl7 0 (by decide)).one (Qa (hl7 1 (by decide)).one (Qa (hl7 2 (by decide)).one (Qa (hl7 3 (by decide)).one (Qa (hl7 4 (by decide)).one (Qa (hl7 5 (by decide)).one (Qa (hl7 6 (by decide)).one (Qa (hl7 7 (by decide)).one (Qa (hl7 8 (by decide)).one (Qa (hl7 9 (by decide)).one rfl))))))))))))<|.nil<|sq_n<|.seq<|.draw (tb:=[r1 0 0,r1 1 0,r1 3 1,r1 7 1,r1 15 1,r1 31 1,r1 63 1,r0 127 1,r0 255 1,r0 127 1,r0 639 1,r0 2047 1,r0 4095 1,r0 8191 1,r0 127 1,r0 16511 1,r1 65535 1,r1 131071 1,r1 262143 1]) rfl (by kernel_rfl) (by kernel_rfl) fun k0=>?_
    refine .y rfl rfl rfl (.a (vs:=[_,_,_,_,_,_,_,_,_,_,_,_]) rfl .hd a_97 s_97 rfl rfl)<|.callV .no rfl rfl rfl rfl rfl (isVersion_ok _ _ _ ⟨_,_,rfl,hp7,hl7⟩)<|.q (.not rfl)<|.m rfl rfl<|.split (t:=27) rfl (fun h9=>?_) (fun h9=>?_)
    ·have kh9:=h9;(try simp only [bk] at kh9)
     refine .k h9<|.k h9<|.k h9<|.ku<|.ku<|.ku<|.ku<|.ku<|.ku<|.ku<|.ku<|.ku<|.ku<|.k h9<|.q (.pickT rfl h9 rfl)<|.nil<|sq_n<|.condT rfl rfl<|.seq<|.region rfl<|.z rfl rfl<|.nil<|sq_n<|.ret<|bq_r<|sq_r<|lq_r<|bq_r<|sq_r<|Qaa hle4 (.tmp rfl .nil) rfl<|congrArg (V.i .i64) ?_
     first
      | exact err_no (k:=k) (by omega) (vgood_w ‹_› ‹_›)
    ·have kh9:=h9;(try simp only [bk] at kh9)
     refine .py h9 (.move rfl)<|.py h9 (.bin rfl rfl rfl)<|.py h9 (.move rfl)<|.split (t:=30) rfl (fun h10=>?_) (fun h10=>?_)
     ·have kh10:=h10;(try simp only [bk] at kh10)
      refine .py h10 (.fa rfl Qbu)<|.ld (k:=0) (.yes rfl rfl h10) rfl rfl rfl trivial (.s rfl (.tl .hd) a_22 rfl)<|.py h10 (.move rfl)<|.py h10 (.sub rfl rfl (by omega))<|.ixi (.yes rfl rfl h10) rfl rfl h rfl e_22 (by omega) ?_
      intro b11 o11 cs11 y11 hy11 hq11 hr11
      obtain ⟨p11,lv11,rfl,hp11,hl11⟩:=hr11
      refine .py h10 (.fa rfl f_97_0)<|.ld (k:=0) (.yes rfl rfl h10) rfl rfl rfl trivial (.ps 0 rfl hq11 rfl a_3 rfl)<|.py h10 (.fa rfl f_97_0)<|.ld (k:=0) (.yes rfl rfl h10) rfl rfl rfl trivial (.s rfl .hd a_3 rfl)<|.py h10 (.bin rfl rfl rfl)<|.py h9 (.pickT rfl h10 rfl)<|.q (.pickF rfl h9 rfl)<|.nil<|sq_n<|.cond rfl (fun h12=>?_) (fun h12=>?_)
      ·have kh12:=h12;(try simp only [bk] at kh12)
       refine .seq<|.region rfl<|.z rfl rfl<|.nil<|sq_n<|.ret<|bq_r<|sq_r<|lq_r<|bq_r<|sq_r<|Qaa hle4 (.tmp rfl .nil) rfl<|congrArg (V.i .i64) ?_
       first
        | exact err_no (k:=k) (by omega) (vgood_no ‹_› (by rw [←e1];assumption) (by omega) ‹_›)
      ·have kh12:=h12;(try simp only [bk] at kh12)
       refine .skip<|bq_n<|sq_n<|.region rfl<|.q (.inc1 rfl rfl (by omega))<|.m rfl rfl<|.nil<|Qac (k+1) ⟨rfl,rfl,rfl,rfl,trivial⟩ (.cons _ (List.Sublist.refl _)) (Le.refl _) ?_ ?_
       ·refine ⟨by omega,?_,hn,hw⟩
        have e:(vgood c.vs) k=true:=by first | exact vgood_yes0 ‹_› ‹_› (by omega) | exact vgood_yes ‹_› ‹_› (by rw [←e1];assumption) ‹_›
        simp only [allR,hg,e,Bool.and_self]
       ·omega
     ·have kh10:=h10;(try simp only [bk] at kh10)
      refine .k h10<|.k h10<|.k h10<|.k h10<|.k h10<|.k h10<|.k h10<|.k h10<|.k h10<|.k h10<|.py h9 (.pickF rfl h10 rfl)<|.q (.pickF rfl h9 rfl)<|.nil<|sq_n<|.condF rfl rfl<|.skip<|bq_n<|sq_n<|.region rfl<|.q (.inc1 rfl rfl (by omega))<|.m rfl rfl<|.nil<|Qac (k+1) ⟨rfl,rfl,rfl,rfl,trivial⟩ (.cons _ (List.Sublist.refl _)) (Le.refl _) ?_ ?_
      ·refine ⟨by omega,?_,hn,hw⟩
       have e:(vgood c.vs) k=true:=by first | exact vgood_yes0 ‹_› ‹_› (by omega) | exact vgood_yes ‹_› ‹_› (by rw [←e1];assumption) ‹_›
       simp only [allR,hg,e,Bool.and_self]
      ·omega
   ·have kh6:=h6;(try simp only [bk] at kh6)
    refine .exit<|sq_e<|lq_e<|bq_x rfl<|sq_n<|.seq<|.region rfl<|.z rfl rfl<|.nil<|sq_n<|.ret<|Qaa hle4 (.tmp rfl .nil) rfl<|congrArg (V.i .i64) ?_
    first
     | (unfold Code.err Code.ok;obtain rfl:k=c.vs.length:=by omega
        rw [hg,hn,hw];rfl)
theorem rCheck_ok (c:Code) (cs:List V) (g:G) (h:CodeR g cs c):Fv Tryz.prog natS (.f 16 [] []) [.agg cs] g (.i .i64 c.err):=by
 obtain ⟨v,rfl,h⟩:=h
 refine Fw.fv ?_
 have hlen:=h.1
 refine Fw.enter (N:=49) (al:=[(0,_)]) Tryz.func16 (by kernel_rfl) (by kernel_rfl) rfl rfl rfl rfl ?_
 intro B
 refine .seq<|.region rfl<|.box .no rfl rfl rfl rfl fun b1=>.z rfl rfl<|.nil<|sq_n<|.seq<|.seq<|.region rfl<|.q (.fa rfl f_24_0)<|.w (.s rfl .hd a_9 rfl)<|.callV .no rfl rfl rfl (rIsName_ok _ _)<|.q (.not rfl)<|.m rfl rfl<|.split (t:=8) rfl (fun h2=>?_) (fun h2=>?_)
 ·have kh2:=h2;(try simp only [bk] at kh2)
  refine .k h2<|.k h2<|.k h2<|.k h2<|.k h2<|.q (.pickT rfl h2 rfl)<|.nil<|sq_n<|.condT rfl rfl<|.seq<|.region rfl<|.z rfl rfl<|.nil<|sq_n<|.ret<|sq_r<|Qaa (Le.refl _) (.tmp rfl .nil) rfl<|congrArg (V.i .i64) ?_
  first
   | (unfold Code.err Code.ok;rw [show nameB c.name=false from ‹_›];rfl)
 ·have kh2:=h2;(try simp only [bk] at kh2)
  refine .py h2 (.fa rfl Qbu)<|.wy h2 (.s rfl .hd a_22 rfl)<|.py h2 (.lenR rfl rfl rfl e_22 h)<|.callV (.yes rfl rfl h2) rfl rfl rfl (in_ok _ _ _ _)<|.py h2 (.not rfl)<|.q (.pickF rfl h2 rfl)<|.nil<|sq_n<|.cond rfl (fun h3=>?_) (fun h3=>?_)
  ·have kh3:=h3;(try simp only [bk] at kh3)
   refine .seq<|.region rfl<|.z rfl rfl<|.nil<|sq_n<|.ret<|sq_r<|Qaa (Le.refl _) (.tmp rfl .nil) rfl<|congrArg (V.i .i64) ?_
   first
    | (unfold Code.err Code.ok;rw [show Qae c.vs.length 1 12=false from ‹_›,Bool.false_and,Bool.and_false];rfl)
  ·have kh3:=h3;(try simp only [bk] at kh3)
   refine .skip<|sq_n<|.seq<|.seq<|.region rfl<|.z rfl rfl<|.nil<|sq_n<|.block<|.loopx (α:=Nat) [(1,_)] _ (fun fx k=>(3,.i .i64 (k:Int)) :: fx) (fun mx _=>mx) (fun k g'=>k≤c.vs.length∧allR (vgood c.vs) k=true∧nameB c.name=true∧Qae c.vs.length 1 12=true) (fun k=>c.vs.length - k) (0) ⟨rfl,rfl,trivial⟩ (List.Sublist.refl _) ⟨by omega,rfl,(by assumption),(by assumption)⟩ ?_
   intro k g5 hle4 hJ
   obtain ⟨hk,hg,hn,hw⟩:=hJ
   replace h:=h.mono VersionR.mono hle4
   have e1:((k:Int) - 1).toNat=k - 1:=by omega
   refine .seq<|.seq<|.region rfl<|.m rfl rfl<|.q (.fa rfl Qbu)<|.w (.s rfl .hd a_22 rfl)<|.q (.lenR rfl rfl rfl e_22 h)<|.b rfl rfl rfl rfl<|.nil<|sq_n<|.cond rfl (fun h6=>?_) (fun h6=>?_)
   ·have kh6:=h6;(try simp only [bk] at kh6)
    refine .skip<|sq_n<|.seq<|.block<|.seq<|.draw (tb:=[r1 0 0,r1 1 0,r0 0 0,r1 7 0,r1 15 0,r1 31 0,r1 63 1,r1 127 1,r1 255 1,r1 511 1,r1 1023 1,r0 2047 1,r0 4095 1,r0 2047 1,r0 10239 1,r0 32767 1,r0 65535 1,r0 131071 1,r0 2047 1,r0 264191 1,r0 2047 1,r0 1837055 1,r0 3934207 1,r0 8128511 1,r1 16777215 1,r1 33554431 1,r1 67108863 1]) rfl (by kernel_rfl) (by kernel_rfl) fun k0=>?_
    refine .q (.fa rfl Qbu)<|.y rfl rfl rfl (.s rfl .hd a_22 rfl)<|.m rfl rfl<|.ixn .no rfl rfl h rfl e_22 (by omega) ?_
    intro b7 o7 cs7 y7 hy7 hq7 hr7
    obtain ⟨p7,lv7,rfl,hp7,hl7⟩:=hr7
    refine .y rfl rfl rfl (.pa 0 (vs:=[_,_,_,_,_,_,_,_,_,_,_,_]) rfl hq7 rfl a_97 s_97 rfl rfl)<|.callV .no rfl rfl rfl rfl rfl (rIsVersion_ok _ _ _ ⟨_,_,rfl,hp7,hl7⟩)<|.q (.not rfl)<|.m rfl rfl<|.split (t:=29) rfl (fun h8=>?_) (fun h8=>?_)
    ·have kh8:=h8;(try simp only [bk] at kh8)
     refine .k h8<|.k h8<|.k h8<|.ku<|.ku<|.ku<|.ku<|.ku<|.ku<|.ku<|.ku<|.ku<|.ku<|.ku<|.ku<|.ku<|.ku<|.k h8<|.q (.pickT rfl h8 rfl)<|.nil<|sq_n<|.condT rfl rfl<|.seq<|.region rfl<|.z rfl rfl<|.nil<|sq_n<|.ret<|bq_r<|sq_r<|lq_r<|bq_r<|sq_r<|Qaa hle4 (.tmp rfl .nil) rfl<|congrArg (V.i .i64) ?_
     first
      | exact err_no (k:=k) (by omega) (vgood_w ‹_› ‹_›)
    ·have kh8:=h8;(try simp only [bk] at kh8)
     refine .py h8 (.move rfl)<|.py h8 (.bin rfl rfl rfl)<|.py h8 (.move rfl)<|.split (t:=32) rfl (fun h9=>?_) (fun h9=>?_)
     ·have kh9:=h9;(try simp only [bk] at kh9)
      refine .py h9 (.fa rfl Qbu)<|.ld (k:=0) (.yes rfl rfl h9) rfl rfl rfl trivial (.s rfl .hd a_22 rfl)<|.py h9 (.move rfl)<|.py h9 (.sub rfl rfl (by omega))<|.ixi (.yes rfl rfl h9) rfl rfl h rfl e_22 (by omega) ?_
      intro b10 o10 cs10 y10 hy10 hq10 hr10
      obtain ⟨p10,lv10,rfl,hp10,hl10⟩:=hr10
      refine .py h9 (.fa rfl f_97_0)<|.ld (k:=0) (.yes rfl rfl h9) rfl rfl rfl trivial (.ps 0 rfl hq10 rfl a_3 rfl)<|.py h9 (.fa rfl Qbu)<|.ld (k:=0) (.yes rfl rfl h9) rfl rfl rfl trivial (.s rfl .hd a_22 rfl)<|.py h9 (.move rfl)<|.ixn (.yes rfl rfl h9) rfl rfl h rfl e_22 (by omega) ?_
      intro b11 o11 cs11 y11 hy11 hq11 hr11
      obtain rfl:y7=y11:=Option.some.inj (hy7.symm.trans hy11)
      obtain ⟨p11,lv11,rfl,hp11,hl11⟩:=hr11
      refine .py h9 (.fa rfl f_97_0)<|.ld (k:=0) (.yes rfl rfl h9) rfl rfl rfl trivial (.ps 0 rfl hq11 rfl a_3 rfl)<|.py h9 (.bin rfl rfl rfl)<|.py h8 (.pickT rfl h9 rfl)<|.q (.pickF rfl h8 rfl)<|.nil<|sq_n<|.cond rfl (fun h12=>?_) (fun h12=>?_)
      ·have kh12:=h12;(try simp only [bk] at kh12)
       refine .seq<|.region rfl<|.z rfl rfl<|.nil<|sq_n<|.ret<|bq_r<|sq_r<|lq_r<|bq_r<|sq_r<|Qaa hle4 (.tmp rfl .nil) rfl<|congrArg (V.i .i64) ?_
       first
        | exact err_no (k:=k) (by omega) (vgood_no ‹_› (by rw [←e1];assumption) (by omega) ‹_›)
      ·have kh12:=h12;(try simp only [bk] at kh12)
       refine .skip<|bq_n<|sq_n<|.region rfl<|.m rfl rfl<|.q (.inc1 rfl rfl (by omega))<|.z rfl rfl<|.nil<|Qac (k+1) ⟨rfl,rfl,trivial⟩ (List.Sublist.refl _) (Le.refl _) ?_ ?_
       ·refine ⟨by omega,?_,hn,hw⟩
        have e:(vgood c.vs) k=true:=by first | exact vgood_yes0 ‹_› ‹_› (by omega) | exact vgood_yes ‹_› ‹_› (by rw [←e1];assumption) ‹_›
        simp only [allR,hg,e,Bool.and_self]
       ·omega
     ·have kh9:=h9;(try simp only [bk] at kh9)
      refine .k h9<|.k h9<|.k h9<|.k h9<|.k h9<|.k h9<|.k h9<|.k h9<|.k h9<|.k h9<|.k h9<|.k h9<|.k h9<|.k h9<|.py h8 (.pickF rfl h9 rfl)<|.q (.pickF rfl h8 rfl)<|.nil<|sq_n<|.condF rfl rfl<|.skip<|bq_n<|sq_n<|.region rfl<|.m rfl rfl<|.q (.inc1 rfl rfl (by omega))<|.z rfl rfl<|.nil<|Qac (k+1) ⟨rfl,rfl,trivial⟩ (List.Sublist.refl _) (Le.refl _) ?_ ?_
      ·refine ⟨by omega,?_,hn,hw⟩
       have e:(vgood c.vs) k=true:=by first | exact vgood_yes0 ‹_› ‹_› (by omega) | exact vgood_yes ‹_› ‹_› (by rw [←e1];assumption) ‹_›
       simp only [allR,hg,e,Bool.and_self]
      ·omega
   ·have kh6:=h6;(try simp only [bk] at kh6)
    refine .exit<|sq_e<|lq_e<|bq_x rfl<|sq_n<|.seq<|.region rfl<|.z rfl rfl<|.nil<|sq_n<|.ret<|Qaa hle4 (.tmp rfl .nil) rfl<|congrArg (V.i .i64) ?_
    first
     | (unfold Code.err Code.ok;obtain rfl:k=c.vs.length:=by omega
        rw [hg,hn,hw];rfl)
theorem rgood_w {l:List Room} {k:Nat} {y:Room} (hy:l[k]? =some y) (h: ¬ roomE y=0):rgood l k=false:=by
 have:y.ok=false:=by cases e:y.ok with
  | false=>rfl
  | true=>exact absurd ((Qdu y).2 e) h
 unfold rgood;rw [hy];simp [this]
theorem rgood_no {l:List Room} {k:Nat} {y z:Room} (hy:l[k]? =some y) (hz:l[k - 1]? =some z) (hk:0 < k) (h:y.id≤z.id):rgood l k=false:=by
 unfold rgood;rw [hy,hz];simp only [];rw [decide_eq_false (by omega),decide_eq_false (by omega)];simp
theorem rgood_yes0 {l:List Room} {k:Nat} {y:Room} (hy:l[k]? =some y) (h:roomE y=0) (hk:k=0):rgood l k=true:=by unfold rgood;rw [hy];simp [(Qdu y).1 h,hk]
theorem rgood_yes {l:List Room} {k:Nat} {y z:Room} (hy:l[k]? =some y) (h:roomE y=0) (hz:l[k - 1]? =some z) (hl:z.id < y.id):rgood l k=true:=by unfold rgood;rw [hy,hz];simp [(Qdu y).1 h,hl]
theorem rCheckRooms_ok (l:List Room) (v:V) (g:G) (h:RS RoomR 6 g v l):Fv Tryz.prog natS (.f 18 [] []) [v] g (.i .i64 (Qcp l)):=by
 refine Fw.fv ?_
 have hlen:=h.1
 refine Fw.enter (N:=37) (al:=[(0,_)]) Tryz.func18 (by kernel_rfl) (by kernel_rfl) rfl rfl rfl rfl ?_
 intro B
 refine .seq<|.region rfl<|.z rfl rfl<|.nil<|sq_n<|.seq<|.seq<|.region rfl<|.m rfl rfl<|.q (.lenR rfl rfl rfl e_25 h)<|.b rfl rfl rfl rfl<|.nil<|sq_n<|.cond rfl (fun h1=>?_) (fun h1=>?_)
 ·have kh1:=h1;(try simp only [bk] at kh1)
  refine .seq<|.region rfl<|.z rfl rfl<|.nil<|sq_n<|.ret<|sq_r<|Qaa (Le.refl _) (.tmp rfl .nil) rfl<|congrArg (V.i .i64) ?_
  first
   | (unfold Qcp;rw [if_neg (by omega)];done)
 ·have kh1:=h1;(try simp only [bk] at kh1)
  refine .skip<|sq_n<|.seq<|.seq<|.region rfl<|.z rfl rfl<|.nil<|sq_n<|.block<|.loopx (α:=Nat) [(0,_)] _ (fun fx k=>(3,.i .i64 (k:Int)) :: fx) (fun mx _=>mx) (fun k g'=>k≤l.length∧allR (rgood l) k=true∧l.length≤20) (fun k=>l.length - k) (0) ⟨rfl,rfl,trivial⟩ (List.Sublist.refl _) ⟨by omega,rfl,(by omega)⟩ ?_
  intro k g3 hle2 hJ
  obtain ⟨hk,hg,hl⟩:=hJ
  replace h:=h.mono RoomR.mono hle2
  have e1:((k:Int) - 1).toNat=k - 1:=by omega
  refine .seq<|.seq<|.region rfl<|.m rfl rfl<|.m rfl rfl<|.q (.lenR rfl rfl rfl e_25 h)<|.b rfl rfl rfl rfl<|.nil<|sq_n<|.cond rfl (fun h4=>?_) (fun h4=>?_)
  ·have kh4:=h4;(try simp only [bk] at kh4)
   refine .skip<|sq_n<|.seq<|.block<|.seq<|.draw (tb:=[r1 0 0,r1 0 0,r1 3 0,r1 7 0,r1 15 0,r1 31 1,r1 63 1,r1 127 1,r1 255 1,r1 511 1,r0 1023 1,r0 1023 1,r0 3071 1,r0 8191 1,r0 16383 1,r0 32767 1,r0 1023 1,r0 1023 1,r0 197631 1,r0 459775 1,r0 984063 1,r1 2097151 1,r1 4194303 1,r1 8388607 1]) rfl (by kernel_rfl) (by kernel_rfl) fun k0=>?_
   refine .m rfl rfl<|.m rfl rfl<|.ixn .no rfl rfl h rfl e_25 (by omega) ?_
   intro b5 o5 cs5 y5 hy5 hq5 hr5
   obtain rfl:=hr5
   refine .y rfl rfl rfl (.pa 0 (vs:=[_,_,_,_,_,_]) rfl hq5 rfl a_29 s_29 rfl rfl)<|.callV .no rfl rfl rfl rfl rfl (rCheckRoom_ok _ _)<|.b rfl rfl rfl rfl<|.m rfl rfl<|.split (t:=19) rfl (fun h6=>?_) (fun h6=>?_)
   ·have kh6:=h6;(try simp only [bk] at kh6)
    refine .k h6<|.k h6<|.k h6<|.ku<|.ku<|.ku<|.ku<|.ku<|.ku<|.ku<|.ku<|.ku<|.ku<|.ku<|.ku<|.k h6<|.q (.pickT rfl h6 rfl)<|.nil<|sq_n<|.condT rfl rfl<|.seq<|.region rfl<|.z rfl rfl<|.nil<|sq_n<|.ret<|bq_r<|sq_r<|lq_r<|bq_r<|sq_r<|Qaa hle2 (.tmp rfl .nil) rfl<|congrArg (V.i .i64) ?_
    first
     | exact roomsE_no (k:=k) (by omega) (rgood_w ‹_› ‹_›)
   ·have kh6:=h6;(try simp only [bk] at kh6)
    refine .py h6 (.move rfl)<|.py h6 (.bin rfl rfl rfl)<|.py h6 (.move rfl)<|.split (t:=22) rfl (fun h7=>?_) (fun h7=>?_)
    ·have kh7:=h7;(try simp only [bk] at kh7)
     refine .py h7 (.move rfl)<|.py h7 (.move rfl)<|.py h7 (.sub rfl rfl (by omega))<|.ixi (.yes rfl rfl h7) rfl rfl h rfl e_25 (by omega) ?_
     intro b8 o8 cs8 y8 hy8 hq8 hr8
     obtain rfl:=hr8
     refine .py h7 (.fa rfl Qca)<|.ld (k:=0) (.yes rfl rfl h7) rfl rfl rfl trivial (.ps 0 rfl hq8 rfl a_3 rfl)<|.py h7 (.move rfl)<|.py h7 (.move rfl)<|.ixn (.yes rfl rfl h7) rfl rfl h rfl e_25 (by omega) ?_
     intro b9 o9 cs9 y9 hy9 hq9 hr9
     obtain rfl:y5=y9:=Option.some.inj (hy5.symm.trans hy9)
     obtain rfl:=hr9
     refine .py h7 (.fa rfl Qca)<|.ld (k:=0) (.yes rfl rfl h7) rfl rfl rfl trivial (.ps 0 rfl hq9 rfl a_3 rfl)<|.py h7 (.bin rfl rfl rfl)<|.py h6 (.pickT rfl h7 rfl)<|.q (.pickF rfl h6 rfl)<|.nil<|sq_n<|.cond rfl (fun h10=>?_) (fun h10=>?_)
     ·have kh10:=h10;(try simp only [bk] at kh10)
      refine .seq<|.region rfl<|.z rfl rfl<|.nil<|sq_n<|.ret<|bq_r<|sq_r<|lq_r<|bq_r<|sq_r<|Qaa hle2 (.tmp rfl .nil) rfl<|congrArg (V.i .i64) ?_
      first
       | exact roomsE_no (k:=k) (by omega) (rgood_no ‹_› (by rw [←e1];assumption) (by omega) ‹_›)
     ·have kh10:=h10;(try simp only [bk] at kh10)
      refine .skip<|bq_n<|sq_n<|.region rfl<|.m rfl rfl<|.q (.inc1 rfl rfl (by omega))<|.z rfl rfl<|.nil<|Qac (k+1) ⟨rfl,rfl,trivial⟩ (List.Sublist.refl _) (Le.refl _) ?_ ?_
      ·refine ⟨by omega,?_,hl⟩
       have e:(rgood l) k=true:=by first | exact rgood_yes0 ‹_› ‹_› (by omega) | exact rgood_yes ‹_› ‹_› (by rw [←e1];assumption) ‹_›
       simp only [allR,hg,e,Bool.and_self]
      ·omega
    ·have kh7:=h7;(try simp only [bk] at kh7)
     refine .k h7<|.k h7<|.k h7<|.k h7<|.k h7<|.k h7<|.k h7<|.k h7<|.k h7<|.k h7<|.k h7<|.k h7<|.py h6 (.pickF rfl h7 rfl)<|.q (.pickF rfl h6 rfl)<|.nil<|sq_n<|.condF rfl rfl<|.skip<|bq_n<|sq_n<|.region rfl<|.m rfl rfl<|.q (.inc1 rfl rfl (by omega))<|.z rfl rfl<|.nil<|Qac (k+1) ⟨rfl,rfl,trivial⟩ (List.Sublist.refl _) (Le.refl _) ?_ ?_
     ·refine ⟨by omega,?_,hl⟩
      have e:(rgood l) k=true:=by first | exact rgood_yes0 ‹_› ‹_› (by omega) | exact rgood_yes ‹_› ‹_› (by rw [←e1];assumption) ‹_›
      simp only [allR,hg,e,Bool.and_self]
     ·omega
  ·have kh4:=h4;(try simp only [bk] at kh4)
   refine .exit<|sq_e<|lq_e<|bq_x rfl<|sq_n<|.seq<|.region rfl<|.z rfl rfl<|.nil<|sq_n<|.ret<|Qaa hle2 (.tmp rfl .nil) rfl<|congrArg (V.i .i64) ?_
   first
    | (unfold Qcp;obtain rfl:k=l.length:=by omega
       rw [if_pos ⟨hl,hg⟩])
end Go.Proofs.YtjflgemfeofciaaGreatDoor
