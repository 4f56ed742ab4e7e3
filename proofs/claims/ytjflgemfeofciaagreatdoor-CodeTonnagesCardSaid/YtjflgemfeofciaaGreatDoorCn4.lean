import Derived.Test.YtjflgemfeofciaaGreatDoorCv4
/- Layer 4: names, codes. -/
namespace Go.Proofs.YtjflgemfeofciaaGreatDoor
open Go Go.Ev
set_option linter.unusedVariables false
set_option linter.unusedSimpArgs false
set_option maxRecDepth 10000
set_option maxHeartbeats 400000
def letB (c : UInt8) : Bool := decide (97 ≤ (c.toNat : Int)) && decide ((c.toNat : Int) ≤ 122)
def digB (c : UInt8) : Bool := decide (48 ≤ (c.toNat : Int)) && decide ((c.toNat : Int) ≤ 57)
def ngood (s : List UInt8) (j : Nat) : Bool := match s[j]? with
  | some c => letB c || (decide (j ≠ 0) && digB c)
  | none => true
def nameB (s : List UInt8) : Bool := decide (1 ≤ s.length) && (decide (s.length ≤ 12) && allR (ngood s) s.length)
theorem nameB_no {s : List UInt8} {k : Nat} (hk : k < s.length) (h : ngood s k = false) : false = nameB s := by unfold nameB; rw [allR_no hk h]; simp
theorem ngood_at {s : List UInt8} {k : Nat} (hk : k < s.length) : ngood s k = (letB s[k] || (decide (k ≠ 0) && digB s[k])) := by unfold ngood; rw [List.getElem?_eq_getElem hk]
theorem isName_ok (s : List UInt8) (g : G) : Fv Tryz.prog natS (.f 66 [] []) [.s s] g (.b (nameB s)) := by
  refine Fw.fv ?_
  refine Fw.enter (N := 43) (al := [(0, _)]) Tryz.func66 (by kernel_rfl) (by kernel_rfl) rfl rfl rfl rfl ?_
  intro B
  refine .seq <| .region rfl <| .z rfl rfl <| .nil <| sq_n <| .seq <| .seq <| .region rfl <| .m rfl rfl <| .q (.len rfl rfl rfl (lenV_s str_9)) <| .callV .no rfl rfl rfl (isWithin_ok _ _ _ _) <| .q (.not rfl) <| .nil <| sq_n <| .cond rfl (fun h1 => ?_) (fun h1 => ?_)
  ·have kh1 := h1; (try simp only [bk] at kh1)
   refine .seq <| .region rfl <| .z rfl rfl <| .nil <| sq_n <| .ret <| sq_r <| retQ_r (Le.refl _) (.tmp rfl .nil) rfl <| congrArg V.b ?_
   first
    | (refine nameB_no (k := k) (by omega) ?_; rw [ngood_at (by omega)]; simp only [letB, digB]; grind)
    | (unfold nameB; obtain rfl : k = s.length := by omega
       rw [hg]; grind)
    | (unfold nameB; unfold within at *; grind)
  ·have kh1 := h1; (try simp only [bk] at kh1)
   refine .skip <| sq_n <| .seq <| .seq <| .region rfl <| .m rfl rfl <| .q (.len rfl rfl rfl (lenV_s str_9)) <| .m rfl rfl <| .nil <| sq_n <| .block <| .loopx (α := Nat) [(0, _), (10, _)] _ (fun fx k => (11, .i .i64 (k : Int)) :: fx) (fun mx _ => mx) (fun k g' => k ≤ s.length ∧ allR (ngood s) k = true ∧ s.length ≤ 12 ∧ 1 ≤ s.length) (fun k => s.length - k) (0) ⟨rfl, rfl, rfl, trivial⟩ (List.Sublist.refl _) ⟨by omega, rfl, (by simp_all [within]; try omega), (by simp_all [within]; try omega)⟩ ?_
   intro k g3 hle2 hJ
   obtain ⟨hk, hg, hl, h1⟩ := hJ
   have e1 : ((k : Int) - 1).toNat = k - 1 := by omega
   refine .seq <| .region rfl <| .b rfl rfl rfl rfl <| .nil <| sq_n <| .seq <| .cond rfl (fun h4 => ?_) (fun h4 => ?_)
   ·have kh4 := h4; (try simp only [bk] at kh4)
    refine .skip <| sq_n <| .seq <| .block <| .seq <| .region rfl <| .m rfl rfl <| .z rfl rfl <| .nil <| sq_n <| .seq <| .region rfl <| .m rfl rfl <| .m rfl rfl <| .q (.ixs rfl rfl str_9 (by omega)) <| .b rfl rfl rfl rfl <| .m rfl rfl <| .split (t := 18) rfl (fun h5 => ?_) (fun h5 => ?_)
    ·have kh5 := h5; (try simp only [bk] at kh5)
     refine .py h5 (.move rfl) <| .py h5 (.move rfl) <| .py h5 (.ixs rfl rfl str_9 (by omega)) <| .py h5 (.bin rfl rfl rfl) <| .q (.pickT rfl h5 rfl) <| .z rfl rfl <| .nil <| sq_n <| .seq <| .region rfl <| .m rfl rfl <| .q (.not rfl) <| .m rfl rfl <| .split (t := 26) rfl (fun h6 => ?_) (fun h6 => ?_)
     ·have kh6 := h6; (try simp only [bk] at kh6)
      refine .py h6 (.move rfl) <| .py h6 (.bin rfl rfl rfl) <| .py h6 (.move rfl) <| .split (t := 29) rfl (fun h7 => ?_) (fun h7 => ?_)
      ·have kh7 := h7; (try simp only [bk] at kh7)
       refine .k h7 <| .k h7 <| .k h7 <| .k h7 <| .py h6 (.pickT rfl h7 rfl) <| .py h6 (.move rfl) <| .k rfl <| .k rfl <| .k rfl <| .k rfl <| .py h6 (.pickT rfl rfl rfl) <| .q (.pickT rfl h6 rfl) <| .nil <| sq_n <| .condT rfl rfl <| .seq <| .region rfl <| .z rfl rfl <| .nil <| sq_n <| .ret <| bq_r <| sq_r <| lq_r <| bq_r <| sq_r <| retQ_r hle2 (.tmp rfl .nil) rfl <| congrArg V.b ?_
       first
        | (refine nameB_no (k := k) (by omega) ?_; rw [ngood_at (by omega)]; simp only [letB, digB]; grind)
        | (unfold nameB; obtain rfl : k = s.length := by omega
           rw [hg]; grind)
        | (unfold nameB; unfold within at *; grind)
      ·have kh7 := h7; (try simp only [bk] at kh7)
       refine .py h7 (.move rfl) <| .py h7 (.move rfl) <| .py h7 (.ixs rfl rfl str_9 (by omega)) <| .py h7 (.bin rfl rfl rfl) <| .py h6 (.pickF rfl h7 rfl) <| .py h6 (.move rfl) <| .split (t := 35) rfl (fun h8 => ?_) (fun h8 => ?_)
       ·have kh8 := h8; (try simp only [bk] at kh8)
        refine .k h8 <| .k h8 <| .k h8 <| .k h8 <| .py h6 (.pickT rfl h8 rfl) <| .q (.pickT rfl h6 rfl) <| .nil <| sq_n <| .condT rfl rfl <| .seq <| .region rfl <| .z rfl rfl <| .nil <| sq_n <| .ret <| bq_r <| sq_r <| lq_r <| bq_r <| sq_r <| retQ_r hle2 (.tmp rfl .nil) rfl <| congrArg V.b ?_
        first
         | (refine nameB_no (k := k) (by omega) ?_; rw [ngood_at (by omega)]; simp only [letB, digB]; grind)
         | (unfold nameB; obtain rfl : k = s.length := by omega
            rw [hg]; grind)
         | (unfold nameB; unfold within at *; grind)
       ·have kh8 := h8; (try simp only [bk] at kh8)
        refine .py h8 (.move rfl) <| .py h8 (.move rfl) <| .py h8 (.ixs rfl rfl str_9 (by omega)) <| .py h8 (.bin rfl rfl rfl) <| .py h6 (.pickF rfl h8 rfl) <| .q (.pickT rfl h6 rfl) <| .nil <| sq_n <| .cond rfl (fun h9 => ?_) (fun h9 => ?_)
        ·have kh9 := h9; (try simp only [bk] at kh9)
         refine .seq <| .region rfl <| .z rfl rfl <| .nil <| sq_n <| .ret <| bq_r <| sq_r <| lq_r <| bq_r <| sq_r <| retQ_r hle2 (.tmp rfl .nil) rfl <| congrArg V.b ?_
         first
          | (refine nameB_no (k := k) (by omega) ?_; rw [ngood_at (by omega)]; simp only [letB, digB]; grind)
          | (unfold nameB; obtain rfl : k = s.length := by omega
             rw [hg]; grind)
          | (unfold nameB; unfold within at *; grind)
        ·have kh9 := h9; (try simp only [bk] at kh9)
         refine .skip <| bq_n <| sq_n <| .region rfl <| .q (.inc1 rfl rfl (by omega)) <| .m rfl rfl <| .nil <| loopQ_n (k + 1) ⟨rfl, rfl, rfl, trivial⟩ (List.Sublist.refl _) (Le.refl _) ?_ ?_
         ·refine ⟨by omega, ?_, hl, h1⟩
          have e : (ngood s) k = true := by rw [ngood_at (by omega)]; simp only [letB, digB]; grind
          simp only [allR, hg, e, Bool.and_self]
         ·omega
     ·have kh6 := h6; (try simp only [bk] at kh6)
      refine .k h6 <| .k h6 <| .k h6 <| .ku <| .ku <| .ku <| .ku <| .k h6 <| .k h6 <| .ku <| .ku <| .ku <| .ku <| .k h6 <| .q (.pickF rfl h6 rfl) <| .nil <| sq_n <| .condF rfl rfl <| .skip <| bq_n <| sq_n <| .region rfl <| .q (.inc1 rfl rfl (by omega)) <| .m rfl rfl <| .nil <| loopQ_n (k + 1) ⟨rfl, rfl, rfl, trivial⟩ (List.Sublist.refl _) (Le.refl _) ?_ ?_
      ·refine ⟨by omega, ?_, hl, h1⟩
       have e : (ngood s) k = true := by rw [ngood_at (by omega)]; simp only [letB, digB]; grind
       simp only [allR, hg, e, Bool.and_self]
      ·omega
    ·have kh5 := h5; (try simp only [bk] at kh5)
     refine .k h5 <| .k h5 <| .k h5 <| .k h5 <| .q (.pickF rfl h5 rfl) <| .z rfl rfl <| .nil <| sq_n <| .seq <| .region rfl <| .m rfl rfl <| .q (.not rfl) <| .m rfl rfl <| .py rfl (.move rfl) <| .py rfl (.bin rfl rfl rfl) <| .py rfl (.move rfl) <| .split (t := 29) rfl (fun h10 => ?_) (fun h10 => ?_)
     ·have kh10 := h10; (try simp only [bk] at kh10)
      refine .k h10 <| .k h10 <| .k h10 <| .k h10 <| .py rfl (.pickT rfl h10 rfl) <| .py rfl (.move rfl) <| .k rfl <| .k rfl <| .k rfl <| .k rfl <| .py rfl (.pickT rfl rfl rfl) <| .q (.pickT rfl rfl rfl) <| .nil <| sq_n <| .condT rfl rfl <| .seq <| .region rfl <| .z rfl rfl <| .nil <| sq_n <| .ret <| bq_r <| sq_r <| lq_r <| bq_r <| sq_r <| retQ_r hle2 (.tmp rfl .nil) rfl <| congrArg V.b ?_
      first
       | (refine nameB_no (k := k) (by omega) ?_; rw [ngood_at (by omega)]; simp only [letB, digB]; grind)
       | (unfold nameB; obtain rfl : k = s.length := by omega
          rw [hg]; grind)
       | (unfold nameB; unfold within at *; grind)
     ·have kh10 := h10; (try simp only [bk] at kh10)
      refine .py h10 (.move rfl) <| .py h10 (.move rfl) <| .py h10 (.ixs rfl rfl str_9 (by omega)) <| .py h10 (.bin rfl rfl rfl) <| .py rfl (.pickF rfl h10 rfl) <| .py rfl (.move rfl) <| .split (t := 35) rfl (fun h11 => ?_) (fun h11 => ?_)
      ·have kh11 := h11; (try simp only [bk] at kh11)
       refine .k h11 <| .k h11 <| .k h11 <| .k h11 <| .py rfl (.pickT rfl h11 rfl) <| .q (.pickT rfl rfl rfl) <| .nil <| sq_n <| .condT rfl rfl <| .seq <| .region rfl <| .z rfl rfl <| .nil <| sq_n <| .ret <| bq_r <| sq_r <| lq_r <| bq_r <| sq_r <| retQ_r hle2 (.tmp rfl .nil) rfl <| congrArg V.b ?_
       first
        | (refine nameB_no (k := k) (by omega) ?_; rw [ngood_at (by omega)]; simp only [letB, digB]; grind)
        | (unfold nameB; obtain rfl : k = s.length := by omega
           rw [hg]; grind)
        | (unfold nameB; unfold within at *; grind)
      ·have kh11 := h11; (try simp only [bk] at kh11)
       refine .py h11 (.move rfl) <| .py h11 (.move rfl) <| .py h11 (.ixs rfl rfl str_9 (by omega)) <| .py h11 (.bin rfl rfl rfl) <| .py rfl (.pickF rfl h11 rfl) <| .q (.pickT rfl rfl rfl) <| .nil <| sq_n <| .cond rfl (fun h12 => ?_) (fun h12 => ?_)
       ·have kh12 := h12; (try simp only [bk] at kh12)
        refine .seq <| .region rfl <| .z rfl rfl <| .nil <| sq_n <| .ret <| bq_r <| sq_r <| lq_r <| bq_r <| sq_r <| retQ_r hle2 (.tmp rfl .nil) rfl <| congrArg V.b ?_
        first
         | (refine nameB_no (k := k) (by omega) ?_; rw [ngood_at (by omega)]; simp only [letB, digB]; grind)
         | (unfold nameB; obtain rfl : k = s.length := by omega
            rw [hg]; grind)
         | (unfold nameB; unfold within at *; grind)
       ·have kh12 := h12; (try simp only [bk] at kh12)
        refine .skip <| bq_n <| sq_n <| .region rfl <| .q (.inc1 rfl rfl (by omega)) <| .m rfl rfl <| .nil <| loopQ_n (k + 1) ⟨rfl, rfl, rfl, trivial⟩ (List.Sublist.refl _) (Le.refl _) ?_ ?_
        ·refine ⟨by omega, ?_, hl, h1⟩
         have e : (ngood s) k = true := by rw [ngood_at (by omega)]; simp only [letB, digB]; grind
         simp only [allR, hg, e, Bool.and_self]
        ·omega
   ·have kh4 := h4; (try simp only [bk] at kh4)
    refine .exit <| sq_e <| lq_e <| bq_x rfl <| sq_n <| .seq <| .region rfl <| .z rfl rfl <| .nil <| sq_n <| .ret <| retQ_r hle2 (.tmp rfl .nil) rfl <| congrArg V.b ?_
    first
     | (refine nameB_no (k := k) (by omega) ?_; rw [ngood_at (by omega)]; simp only [letB, digB]; grind)
     | (unfold nameB; obtain rfl : k = s.length := by omega
        rw [hg]; grind)
     | (unfold nameB; unfold within at *; grind)
--REG c.isName V (isName_ok _ _)
end Go.Proofs.YtjflgemfeofciaaGreatDoor
