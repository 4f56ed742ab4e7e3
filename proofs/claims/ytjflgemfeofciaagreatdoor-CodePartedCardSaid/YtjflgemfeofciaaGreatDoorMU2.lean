import Derived.Test.YtjflgemfeofciaaGreatDoorMU1
import Derived.Test.YtjflgemfeofciaaGreatDoorMX2
import Derived.Test.YtjflgemfeofciaaGreatDoorLawF
import Derived.Test.YtjflgemfeofciaaGreatDoorCv4
namespace Go.Proofs.YtjflgemfeofciaaGreatDoor
open Go Go.Ev Go.ChangeShapes Go.WideShapes
set_option linter.unusedVariables false
set_option linter.unusedSimpArgs false
set_option maxRecDepth 10000
section
variable {H:Type} {enc:TypeId × Value→H} {W:World} {cs:List Value}
end
end Go.Proofs.YtjflgemfeofciaaGreatDoor
namespace Go.Proofs.YtjflgemfeofciaaGreatDoor
open Go Go.Ev
set_option linter.unusedVariables false
set_option linter.unusedSimpArgs false
set_option maxRecDepth 10000
set_option maxHeartbeats 400000
def letB (c:UInt8):Bool:=decide (97≤(c.toNat:Int)) && decide ((c.toNat:Int)≤122)
def digB (c:UInt8):Bool:=decide (48≤(c.toNat:Int)) && decide ((c.toNat:Int)≤57)
def ngood (s:List UInt8) (j:Nat):Bool:=match s[j]? with
 | some c=>letB c || (decide (j≠0) && digB c)
 | none=>true
def nameB (s:List UInt8):Bool:=decide (1≤s.length) && (decide (s.length≤12) && allR (ngood s) s.length)
theorem Qfd {s:List UInt8} {k:Nat} (hk:k < s.length) (h:ngood s k=false):false=nameB s:=by unfold nameB;rw [allR_no hk h];simp
theorem Qdn {s:List UInt8} {k:Nat} (hk:k < s.length):ngood s k=(letB s[k] || (decide (k≠0) && digB s[k])):=by unfold ngood;rw [List.getElem?_eq_getElem hk]
theorem isName_ok (s : List UInt8) (g : G) : Fv Tryz.prog natS (.f 66 [] []) [.s s] g (.b (nameB s)) := by
  refine Fw.fv ?_
  refine Fw.enter (N := 43) (al := [(0, _)]) Tryz.func66 (by kernel_rfl) (by kernel_rfl) rfl rfl rfl rfl ?_
  intro B
  refine .seq <| .region rfl <| .z rfl rfl <| .nil <| sq_n <| .seq <| .seq <| .region rfl <| .m rfl rfl <| .q (.len rfl rfl rfl (lenV_s str_9)) <| .callV .no rfl rfl rfl (Qan _ _ _ _) <| .q (.not rfl) <| .nil <| sq_n <| .cond rfl (fun h1 => ?_) (fun h1 => ?_)
  ·have kh1 := h1; (try simp only [bk] at kh1)
   refine .seq <| .region rfl <| .z rfl rfl <| .nil <| sq_n <| .ret <| sq_r <| Qab (Le.refl _) (.tmp rfl .nil) rfl <| congrArg V.b ?_
   first
    | (refine Qfd (k := k) (by omega) ?_; rw [Qdn (by omega)]; simp only [letB, digB]; grind)
    | (unfold nameB; obtain rfl : k = s.length := by omega
       rw [hg]; grind)
    | (unfold nameB; unfold Qag at *; grind)
  ·have kh1 := h1; (try simp only [bk] at kh1)
   refine .skip <| sq_n <| .seq <| .seq <| .region rfl <| .m rfl rfl <| .q (.len rfl rfl rfl (lenV_s str_9)) <| .m rfl rfl <| .nil <| sq_n <| .block <| .loopx (α := Nat) [(0, _), (10, _)] _ (fun fx k => (11, .i .i64 (k : Int)) :: fx) (fun mx _ => mx) (fun k g' => k ≤ s.length ∧ allR (ngood s) k = true ∧ s.length ≤ 12 ∧ 1 ≤ s.length) (fun k => s.length - k) (0) ⟨rfl, rfl, rfl, trivial⟩ (List.Sublist.refl _) ⟨by omega, rfl, (by simp_all [Qag]; try omega), (by simp_all [Qag]; try omega)⟩ ?_
   intro k g3 hle2 hJ
   obtain ⟨hk, hg, hl, h1⟩ := hJ
   have e1 : ((k : Int) - 1).toNat = k - 1 := by omega
   refine .seq <| .region rfl <| .b rfl rfl rfl rfl <| .nil <| sq_n <| .seq <| .cond rfl (fun h4 => ?_) (fun h4 => ?_)
   ·have kh4 := h4; (try simp only [bk] at kh4)
    refine .skip <| sq_n <| .seq <| .block <| .seq <| .region rfl <| .m rfl rfl <| .z rfl rfl <| .nil <| sq_n <| .seq <| .region rfl <| .m rfl rfl <| .m rfl rfl <| .q (.ixs rfl rfl str_9 (by omega)) <| .b rfl rfl rfl rfl <| .m rfl rfl <| .split (t := 18) rfl (fun h5 => ?_) (fun h5 => ?_)
    ·have kh5 := h5; (try simp only [bk] at kh5)
     refine .py h5 (.move rfl) <| .py h5 (.move rfl) <| .py h5 (.ixs rfl rfl str_9 (by omega)) <| .py h5 (.bin rfl rfl rfl) <| .q (.pickT rfl h5 rfl) <| .z rfl rfl <| .nil <| sq_n <| .seq <| .region rfl <| .m rfl rfl <| .q (.not rfl) <| .m rfl rfl <| .split (t := 26) rfl (fun h6 => ?_) (fun h6 => ?_)
     ·have kh6 := h6; (try simp only [bk] at kh6)
      refine .py h6 (.move rfl) <| .py h6 (.bin rfl rfl rfl) <| .py h6 (.move rfl) <| .split (t := 29) rfl (fun h7 => ?_) (fun h7 => ?_)
      ·have kh7 := h7; (try simp only [bk] at kh7)
       refine .k h7 <| .k h7 <| .k h7 <| .k h7 <| .py h6 (.pickT rfl h7 rfl) <| .py h6 (.move rfl) <| .k rfl <| .k rfl <| .k rfl <| .k rfl <| .py h6 (.pickT rfl rfl rfl) <| .q (.pickT rfl h6 rfl) <| .nil <| sq_n <| .condT rfl rfl <| .seq <| .region rfl <| .z rfl rfl <| .nil <| sq_n <| .ret <| bq_r <| sq_r <| lq_r <| bq_r <| sq_r <| Qab hle2 (.tmp rfl .nil) rfl <| congrArg V.b ?_
       first
        | (refine Qfd (k := k) (by omega) ?_; rw [Qdn (by omega)]; simp only [letB, digB]; grind)
        | (unfold nameB; obtain rfl : k = s.length := by omega
           rw [hg]; grind)
        | (unfold nameB; unfold Qag at *; grind)
      ·have kh7 := h7; (try simp only [bk] at kh7)
       refine .py h7 (.move rfl) <| .py h7 (.move rfl) <| .py h7 (.ixs rfl rfl str_9 (by omega)) <| .py h7 (.bin rfl rfl rfl) <| .py h6 (.pickF rfl h7 rfl) <| .py h6 (.move rfl) <| .split (t := 35) rfl (fun h8 => ?_) (fun h8 => ?_)
       ·have kh8 := h8; (try simp only [bk] at kh8)
        refine .k h8 <| .k h8 <| .k h8 <| .k h8 <| .py h6 (.pickT rfl h8 rfl) <| .q (.pickT rfl h6 rfl) <| .nil <| sq_n <| .condT rfl rfl <| .seq <| .region rfl <| .z rfl rfl <| .nil <| sq_n <| .ret <| bq_r <| sq_r <| lq_r <| bq_r <| sq_r <| Qab hle2 (.tmp rfl .nil) rfl <| congrArg V.b ?_
        first
         | (refine Qfd (k := k) (by omega) ?_; rw [Qdn (by omega)]; simp only [letB, digB]; grind)
         | (unfold nameB; obtain rfl : k = s.length := by omega
            rw [hg]; grind)
         | (unfold nameB; unfold Qag at *; grind)
       ·have kh8 := h8; (try simp only [bk] at kh8)
        refine .py h8 (.move rfl) <| .py h8 (.move rfl) <| .py h8 (.ixs rfl rfl str_9 (by omega)) <| .py h8 (.bin rfl rfl rfl) <| .py h6 (.pickF rfl h8 rfl) <| .q (.pickT rfl h6 rfl) <| .nil <| sq_n <| .cond rfl (fun h9 => ?_) (fun h9 => ?_)
        ·have kh9 := h9; (try simp only [bk] at kh9)
         refine .seq <| .region rfl <| .z rfl rfl <| .nil <| sq_n <| .ret <| bq_r <| sq_r <| lq_r <| bq_r <| sq_r <| Qab hle2 (.tmp rfl .nil) rfl <| congrArg V.b ?_
         first
          | (refine Qfd (k := k) (by omega) ?_; rw [Qdn (by omega)]; simp only [letB, digB]; grind)
          | (unfold nameB; obtain rfl : k = s.length := by omega
             rw [hg]; grind)
          | (unfold nameB; unfold Qag at *; grind)
        ·have kh9 := h9; (try simp only [bk] at kh9)
         refine .skip <| bq_n <| sq_n <| .region rfl <| .q (.inc1 rfl rfl (by omega)) <| .m rfl rfl <| .nil <| Qac (k + 1) ⟨rfl, rfl, rfl, trivial⟩ (List.Sublist.refl _) (Le.refl _) ?_ ?_
         ·refine ⟨by omega, ?_, hl, h1⟩
          have e : (ngood s) k = true := by rw [Qdn (by omega)]; simp only [letB, digB]; grind
          simp only [allR, hg, e, Bool.and_self]
         ·omega
     ·have kh6 := h6; (try simp only [bk] at kh6)
      refine .k h6 <| .k h6 <| .k h6 <| .ku <| .ku <| .ku <| .ku <| .k h6 <| .k h6 <| .ku <| .ku <| .ku <| .ku <| .k h6 <| .q (.pickF rfl h6 rfl) <| .nil <| sq_n <| .condF rfl rfl <| .skip <| bq_n <| sq_n <| .region rfl <| .q (.inc1 rfl rfl (by omega)) <| .m rfl rfl <| .nil <| Qac (k + 1) ⟨rfl, rfl, rfl, trivial⟩ (List.Sublist.refl _) (Le.refl _) ?_ ?_
      ·refine ⟨by omega, ?_, hl, h1⟩
       have e : (ngood s) k = true := by rw [Qdn (by omega)]; simp only [letB, digB]; grind
       simp only [allR, hg, e, Bool.and_self]
      ·omega
    ·have kh5 := h5; (try simp only [bk] at kh5)
     refine .k h5 <| .k h5 <| .k h5 <| .k h5 <| .q (.pickF rfl h5 rfl) <| .z rfl rfl <| .nil <| sq_n <| .seq <| .region rfl <| .m rfl rfl <| .q (.not rfl) <| .m rfl rfl <| .py rfl (.move rfl) <| .py rfl (.bin rfl rfl rfl) <| .py rfl (.move rfl) <| .split (t := 29) rfl (fun h10 => ?_) (fun h10 => ?_)
     ·have kh10 := h10; (try simp only [bk] at kh10)
      refine .k h10 <| .k h10 <| .k h10 <| .k h10 <| .py rfl (.pickT rfl h10 rfl) <| .py rfl (.move rfl) <| .k rfl <| .k rfl <| .k rfl <| .k rfl <| .py rfl (.pickT rfl rfl rfl) <| .q (.pickT rfl rfl rfl) <| .nil <| sq_n <| .condT rfl rfl <| .seq <| .region rfl <| .z rfl rfl <| .nil <| sq_n <| .ret <| bq_r <| sq_r <| lq_r <| bq_r <| sq_r <| Qab hle2 (.tmp rfl .nil) rfl <| congrArg V.b ?_
      first
       | (refine Qfd (k := k) (by omega) ?_; rw [Qdn (by omega)]; simp only [letB, digB]; grind)
       | (unfold nameB; obtain rfl : k = s.length := by omega
          rw [hg]; grind)
       | (unfold nameB; unfold Qag at *; grind)
     ·have kh10 := h10; (try simp only [bk] at kh10)
      refine .py h10 (.move rfl) <| .py h10 (.move rfl) <| .py h10 (.ixs rfl rfl str_9 (by omega)) <| .py h10 (.bin rfl rfl rfl) <| .py rfl (.pickF rfl h10 rfl) <| .py rfl (.move rfl) <| .split (t := 35) rfl (fun h11 => ?_) (fun h11 => ?_)
      ·have kh11 := h11; (try simp only [bk] at kh11)
       refine .k h11 <| .k h11 <| .k h11 <| .k h11 <| .py rfl (.pickT rfl h11 rfl) <| .q (.pickT rfl rfl rfl) <| .nil <| sq_n <| .condT rfl rfl <| .seq <| .region rfl <| .z rfl rfl <| .nil <| sq_n <| .ret <| bq_r <| sq_r <| lq_r <| bq_r <| sq_r <| Qab hle2 (.tmp rfl .nil) rfl <| congrArg V.b ?_
       first
        | (refine Qfd (k := k) (by omega) ?_; rw [Qdn (by omega)]; simp only [letB, digB]; grind)
        | (unfold nameB; obtain rfl : k = s.length := by omega
           rw [hg]; grind)
        | (unfold nameB; unfold Qag at *; grind)
      ·have kh11 := h11; (try simp only [bk] at kh11)
       refine .py h11 (.move rfl) <| .py h11 (.move rfl) <| .py h11 (.ixs rfl rfl str_9 (by omega)) <| .py h11 (.bin rfl rfl rfl) <| .py rfl (.pickF rfl h11 rfl) <| .q (.pickT rfl rfl rfl) <| .nil <| sq_n <| .cond rfl (fun h12 => ?_) (fun h12 => ?_)
       ·have kh12 := h12; (try simp only [bk] at kh12)
        refine .seq <| .region rfl <| .z rfl rfl <| .nil <| sq_n <| .ret <| bq_r <| sq_r <| lq_r <| bq_r <| sq_r <| Qab hle2 (.tmp rfl .nil) rfl <| congrArg V.b ?_
        first
         | (refine Qfd (k := k) (by omega) ?_; rw [Qdn (by omega)]; simp only [letB, digB]; grind)
         | (unfold nameB; obtain rfl : k = s.length := by omega
            rw [hg]; grind)
         | (unfold nameB; unfold Qag at *; grind)
       ·have kh12 := h12; (try simp only [bk] at kh12)
        refine .skip <| bq_n <| sq_n <| .region rfl <| .q (.inc1 rfl rfl (by omega)) <| .m rfl rfl <| .nil <| Qac (k + 1) ⟨rfl, rfl, rfl, trivial⟩ (List.Sublist.refl _) (Le.refl _) ?_ ?_
        ·refine ⟨by omega, ?_, hl, h1⟩
         have e : (ngood s) k = true := by rw [Qdn (by omega)]; simp only [letB, digB]; grind
         simp only [allR, hg, e, Bool.and_self]
        ·omega
   ·have kh4 := h4; (try simp only [bk] at kh4)
    refine .exit <| sq_e <| lq_e <| bq_x rfl <| sq_n <| .seq <| .region rfl <| .z rfl rfl <| .nil <| sq_n <| .ret <| Qab hle2 (.tmp rfl .nil) rfl <| congrArg V.b ?_
    first
     | (refine Qfd (k := k) (by omega) ?_; rw [Qdn (by omega)]; simp only [letB, digB]; grind)
     | (unfold nameB; obtain rfl : k = s.length := by omega
        rw [hg]; grind)
     | (unfold nameB; unfold Qag at *; grind)
end Go.Proofs.YtjflgemfeofciaaGreatDoor
namespace Go.Proofs.YtjflgemfeofciaaGreatDoor
open Go Go.Ev
set_option linter.unusedVariables false
set_option linter.unusedSimpArgs false
set_option maxRecDepth 10000
set_option maxHeartbeats 400000
def vgood (l:List Version) (j:Nat):Bool:=match l[j]? with
 | some v=>v.ok && (decide (j=0) || match l[j - 1]? with | some q=>decide (q.fr < v.fr) | none=>true)
 | none=>true
theorem vgood_w {l:List Version} {k:Nat} {y:Version} (hy:l[k]? =some y) (h:y.ok=false):vgood l k=false:=by unfold vgood;rw [hy];simp [h]
theorem vgood_no {l:List Version} {k:Nat} {y z:Version} (hy:l[k]? =some y) (hz:l[k - 1]? =some z) (hk:0 < k) (h:y.fr≤z.fr):vgood l k=false:=by
 unfold vgood;rw [hy,hz];simp only [];rw [decide_eq_false (by omega),decide_eq_false (by omega)];simp
theorem vgood_yes0 {l:List Version} {k:Nat} {y:Version} (hy:l[k]? =some y) (h:y.ok=true) (hk:k=0):vgood l k=true:=by unfold vgood;rw [hy];simp [h,hk]
theorem vgood_yes {l:List Version} {k:Nat} {y z:Version} (hy:l[k]? =some y) (h:y.ok=true) (hz:l[k - 1]? =some z) (hl:z.fr < y.fr):vgood l k=true:=by unfold vgood;rw [hy,hz];simp [h,hl]
def Code.ok (c:Code):Bool:=nameB c.name && (Qag c.vs.length 1 12 && allR (vgood c.vs) c.vs.length)
def Code.err (c:Code):Int:=if c.ok then 0 else 41
theorem err_no {c:Code} {k:Nat} (hk:k < c.vs.length) (h:vgood c.vs k=false):41=c.err:=by unfold Code.err Code.ok;rw [allR_no hk h];simp
theorem Check_ok (c : Code) (cs : List V) (g : G) (h : CodeR g cs c) : Fv Tryz.prog natS (.f 15 [] []) [.agg cs] g (.i .i64 c.err) := by
  obtain ⟨v, rfl, h⟩ := h
  refine Fw.fv ?_
  have hlen := h.1
  refine Fw.enter (N := 44) (al := [(0, _)]) Tryz.func15 (by kernel_rfl) (by kernel_rfl) rfl rfl rfl rfl ?_
  intro B
  refine .seq <| .region rfl <| .box .no rfl rfl rfl rfl fun b1 => .z rfl rfl <| .nil <| sq_n <| .seq <| .seq <| .region rfl <| .q (.fa rfl f_24_0) <| .w (.s rfl .hd a_9 rfl) <| .callV .no rfl rfl rfl (isName_ok _ _) <| .q (.not rfl) <| .m rfl rfl <| .split (t := 9) rfl (fun h2 => ?_) (fun h2 => ?_)
  ·have kh2 := h2; (try simp only [bk] at kh2)
   refine .k h2 <| .k h2 <| .k h2 <| .k h2 <| .k h2 <| .q (.pickT rfl h2 rfl) <| .nil <| sq_n <| .condT rfl rfl <| .seq <| .region rfl <| .z rfl rfl <| .nil <| sq_n <| .ret <| sq_r <| Qab (Le.refl _) (.tmp rfl .nil) rfl <| congrArg (V.i .i64) ?_
   first
    | (unfold Code.err Code.ok; rw [show nameB c.name = false from ‹_›]; rfl)
    | (unfold Code.err Code.ok; rw [show Qag c.vs.length 1 12 = false from ‹_›, Bool.false_and, Bool.and_false]; rfl)
    | exact err_no (k := k) (by omega) (vgood_w ‹_› ‹_›)
    | exact err_no (k := k) (by omega) (vgood_no ‹_› (by rw [← e1]; assumption) (by omega) ‹_›)
    | (unfold Code.err Code.ok; obtain rfl : k = c.vs.length := by omega
       rw [hg, hn, hw]; rfl)
  ·have kh2 := h2; (try simp only [bk] at kh2)
   refine .py h2 (.fa rfl Qdl) <| .wy h2 (.s rfl .hd a_22 rfl) <| .py h2 (.lenR rfl rfl rfl e_22 h) <| .callV (.yes rfl rfl h2) rfl rfl rfl (Qan _ _ _ _) <| .py h2 (.not rfl) <| .q (.pickF rfl h2 rfl) <| .nil <| sq_n <| .cond rfl (fun h3 => ?_) (fun h3 => ?_)
   ·have kh3 := h3; (try simp only [bk] at kh3)
    refine .seq <| .region rfl <| .z rfl rfl <| .nil <| sq_n <| .ret <| sq_r <| Qab (Le.refl _) (.tmp rfl .nil) rfl <| congrArg (V.i .i64) ?_
    first
     | (unfold Code.err Code.ok; rw [show nameB c.name = false from ‹_›]; rfl)
     | (unfold Code.err Code.ok; rw [show Qag c.vs.length 1 12 = false from ‹_›, Bool.false_and, Bool.and_false]; rfl)
     | exact err_no (k := k) (by omega) (vgood_w ‹_› ‹_›)
     | exact err_no (k := k) (by omega) (vgood_no ‹_› (by rw [← e1]; assumption) (by omega) ‹_›)
     | (unfold Code.err Code.ok; obtain rfl : k = c.vs.length := by omega
        rw [hg, hn, hw]; rfl)
   ·have kh3 := h3; (try simp only [bk] at kh3)
    refine .skip <| sq_n <| .seq <| .seq <| .region rfl <| .q (.fa rfl Qdl) <| .w (.s rfl .hd a_22 rfl) <| .q (.lenR rfl rfl rfl e_22 h) <| .m rfl rfl <| .nil <| sq_n <| .block <| .loopx (α := Nat) [(1, _), (17, _), (18, _)] _ (fun fx k => (19, .i .i64 (k : Int)) :: fx) (fun mx _ => mx) (fun k g' => k ≤ c.vs.length ∧ allR (vgood c.vs) k = true ∧ nameB c.name = true ∧ Qag c.vs.length 1 12 = true) (fun k => c.vs.length - k) (0) ⟨rfl, rfl, rfl, rfl, trivial⟩ (List.Sublist.refl _) ⟨by omega, rfl, (by assumption), (by assumption)⟩ ?_
    intro k g5 hle4 hJ
    obtain ⟨hk, hg, hn, hw⟩ := hJ
    replace h := h.mono VersionR.mono hle4
    have e1 : ((k : Int) - 1).toNat = k - 1 := by omega
    refine .seq <| .region rfl <| .b rfl rfl rfl rfl <| .nil <| sq_n <| .seq <| .cond rfl (fun h6 => ?_) (fun h6 => ?_)
    ·have kh6 := h6; (try simp only [bk] at kh6)
     refine .skip <| sq_n <| .seq <| .block <| .seq <| .region rfl <| .m rfl rfl <| .ixn .no rfl rfl h rfl e_22 (by omega) ?_
     intro b7 o7 cs7 y7 hy7 hq7 hr7
     obtain ⟨p7, lv7, rfl, hp7, hl7⟩ := hr7
     refine .w (.pa 0 (vs := [_, _, _, _, _, _, _, _, _, _, _, _]) rfl hq7 rfl a_97 s_97 rfl rfl) <| .alloc .no rfl z_97 fun b8 => .z rfl rfl <| .st (cs' := [_, _, _, _, _, _, _, _, _, _, _, _]) .no rfl rfl rfl rfl s_97 rfl rfl .hd rfl (Qa rfl (Qa hp7.one (Qa (hl7 0 (by decide)).one (Qa (hl7 1 (by decide)).one (Qa (hl7 2 (by decide)).one (Qa (hl7 3 (by decide)).one (Qa (hl7 4 (by decide)).one (Qa (hl7 5 (by decide)).one (Qa (hl7 6 (by decide)).one (Qa (hl7 7 (by decide)).one (Qa (hl7 8 (by decide)).one (Qa (hl7 9 (by decide)).one rfl)))))))))))) <| .nil <| sq_n <| .seq <| .draw (tb := [r1 0 0, r1 1 0, r1 3 1, r1 7 1, r1 15 1, r1 31 1, r1 63 1, r0 127 1, r0 255 1, r0 127 1, r0 639 1, r0 2047 1, r0 4095 1, r0 8191 1, r0 127 1, r0 16511 1, r1 65535 1, r1 131071 1, r1 262143 1]) rfl (by kernel_rfl) (by kernel_rfl) ?_
     refine .y rfl rfl rfl (.a (vs := [_, _, _, _, _, _, _, _, _, _, _, _]) rfl .hd a_97 s_97 rfl rfl) <| .callV .no rfl rfl rfl rfl rfl (isVersion_ok _ _ _ ⟨_, _, rfl, hp7, hl7⟩) <| .q (.not rfl) <| .m rfl rfl <| .split (t := 27) rfl (fun h9 => ?_) (fun h9 => ?_)
     ·have kh9 := h9; (try simp only [bk] at kh9)
      refine .k h9 <| .k h9 <| .k h9 <| .ku <| .ku <| .ku <| .ku <| .ku <| .ku <| .ku <| .ku <| .ku <| .ku <| .k h9 <| .q (.pickT rfl h9 rfl) <| .nil <| sq_n <| .condT rfl rfl <| .seq <| .region rfl <| .z rfl rfl <| .nil <| sq_n <| .ret <| bq_r <| sq_r <| lq_r <| bq_r <| sq_r <| Qab hle4 (.tmp rfl .nil) rfl <| congrArg (V.i .i64) ?_
      first
       | (unfold Code.err Code.ok; rw [show nameB c.name = false from ‹_›]; rfl)
       | (unfold Code.err Code.ok; rw [show Qag c.vs.length 1 12 = false from ‹_›, Bool.false_and, Bool.and_false]; rfl)
       | exact err_no (k := k) (by omega) (vgood_w ‹_› ‹_›)
       | exact err_no (k := k) (by omega) (vgood_no ‹_› (by rw [← e1]; assumption) (by omega) ‹_›)
       | (unfold Code.err Code.ok; obtain rfl : k = c.vs.length := by omega
          rw [hg, hn, hw]; rfl)
     ·have kh9 := h9; (try simp only [bk] at kh9)
      refine .py h9 (.move rfl) <| .py h9 (.bin rfl rfl rfl) <| .py h9 (.move rfl) <| .split (t := 30) rfl (fun h10 => ?_) (fun h10 => ?_)
      ·have kh10 := h10; (try simp only [bk] at kh10)
       refine .py h10 (.fa rfl Qdl) <| .ld (k := 0) (.yes rfl rfl h10) rfl rfl rfl trivial (.s rfl (.tl .hd) a_22 rfl) <| .py h10 (.move rfl) <| .py h10 (.sub rfl rfl (by omega)) <| .ixi (.yes rfl rfl h10) rfl rfl h rfl e_22 (by omega) ?_
       intro b11 o11 cs11 y11 hy11 hq11 hr11
       obtain ⟨p11, lv11, rfl, hp11, hl11⟩ := hr11
       refine .py h10 (.fa rfl f_97_0) <| .ld (k := 0) (.yes rfl rfl h10) rfl rfl rfl trivial (.ps 0 rfl hq11 rfl a_3 rfl) <| .py h10 (.fa rfl f_97_0) <| .ld (k := 0) (.yes rfl rfl h10) rfl rfl rfl trivial (.s rfl .hd a_3 rfl) <| .py h10 (.bin rfl rfl rfl) <| .py h9 (.pickT rfl h10 rfl) <| .q (.pickF rfl h9 rfl) <| .nil <| sq_n <| .cond rfl (fun h12 => ?_) (fun h12 => ?_)
       ·have kh12 := h12; (try simp only [bk] at kh12)
        refine .seq <| .region rfl <| .z rfl rfl <| .nil <| sq_n <| .ret <| bq_r <| sq_r <| lq_r <| bq_r <| sq_r <| Qab hle4 (.tmp rfl .nil) rfl <| congrArg (V.i .i64) ?_
        first
         | (unfold Code.err Code.ok; rw [show nameB c.name = false from ‹_›]; rfl)
         | (unfold Code.err Code.ok; rw [show Qag c.vs.length 1 12 = false from ‹_›, Bool.false_and, Bool.and_false]; rfl)
         | exact err_no (k := k) (by omega) (vgood_w ‹_› ‹_›)
         | exact err_no (k := k) (by omega) (vgood_no ‹_› (by rw [← e1]; assumption) (by omega) ‹_›)
         | (unfold Code.err Code.ok; obtain rfl : k = c.vs.length := by omega
            rw [hg, hn, hw]; rfl)
       ·have kh12 := h12; (try simp only [bk] at kh12)
        refine .skip <| bq_n <| sq_n <| .region rfl <| .q (.inc1 rfl rfl (by omega)) <| .m rfl rfl <| .nil <| Qac (k + 1) ⟨rfl, rfl, rfl, rfl, trivial⟩ (.cons _ (List.Sublist.refl _)) (Le.refl _) ?_ ?_
        ·refine ⟨by omega, ?_, hn, hw⟩
         have e : (vgood c.vs) k = true := by first | exact vgood_yes0 ‹_› ‹_› (by omega) | exact vgood_yes ‹_› ‹_› (by rw [← e1]; assumption) ‹_›
         simp only [allR, hg, e, Bool.and_self]
        ·omega
      ·have kh10 := h10; (try simp only [bk] at kh10)
       refine .k h10 <| .k h10 <| .k h10 <| .k h10 <| .k h10 <| .k h10 <| .k h10 <| .k h10 <| .k h10 <| .k h10 <| .py h9 (.pickF rfl h10 rfl) <| .q (.pickF rfl h9 rfl) <| .nil <| sq_n <| .condF rfl rfl <| .skip <| bq_n <| sq_n <| .region rfl <| .q (.inc1 rfl rfl (by omega)) <| .m rfl rfl <| .nil <| Qac (k + 1) ⟨rfl, rfl, rfl, rfl, trivial⟩ (.cons _ (List.Sublist.refl _)) (Le.refl _) ?_ ?_
       ·refine ⟨by omega, ?_, hn, hw⟩
        have e : (vgood c.vs) k = true := by first | exact vgood_yes0 ‹_› ‹_› (by omega) | exact vgood_yes ‹_› ‹_› (by rw [← e1]; assumption) ‹_›
        simp only [allR, hg, e, Bool.and_self]
       ·omega
    ·have kh6 := h6; (try simp only [bk] at kh6)
     refine .exit <| sq_e <| lq_e <| bq_x rfl <| sq_n <| .seq <| .region rfl <| .z rfl rfl <| .nil <| sq_n <| .ret <| Qab hle4 (.tmp rfl .nil) rfl <| congrArg (V.i .i64) ?_
     first
      | (unfold Code.err Code.ok; rw [show nameB c.name = false from ‹_›]; rfl)
      | (unfold Code.err Code.ok; rw [show Qag c.vs.length 1 12 = false from ‹_›, Bool.false_and, Bool.and_false]; rfl)
      | exact err_no (k := k) (by omega) (vgood_w ‹_› ‹_›)
      | exact err_no (k := k) (by omega) (vgood_no ‹_› (by rw [← e1]; assumption) (by omega) ‹_›)
      | (unfold Code.err Code.ok; obtain rfl : k = c.vs.length := by omega
         rw [hg, hn, hw]; rfl)
end Go.Proofs.YtjflgemfeofciaaGreatDoor
