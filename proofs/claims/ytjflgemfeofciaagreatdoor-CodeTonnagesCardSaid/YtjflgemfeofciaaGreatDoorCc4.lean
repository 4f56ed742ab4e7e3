import Derived.Test.YtjflgemfeofciaaGreatDoorCn4
/- Layer 4: codes. -/
namespace Go.Proofs.YtjflgemfeofciaaGreatDoor
open Go Go.Ev
set_option linter.unusedVariables false
set_option linter.unusedSimpArgs false
set_option maxRecDepth 10000
set_option maxHeartbeats 400000
def vgood (l : List Version) (j : Nat) : Bool := match l[j]? with
  | some v => v.ok && (decide (j = 0) || match l[j - 1]? with | some q => decide (q.fr < v.fr) | none => true)
  | none => true
theorem vgood_w {l : List Version} {k : Nat} {y : Version} (hy : l[k]? = some y) (h : y.ok = false) : vgood l k = false := by unfold vgood; rw [hy]; simp [h]
theorem vgood_no {l : List Version} {k : Nat} {y z : Version} (hy : l[k]? = some y) (hz : l[k - 1]? = some z) (hk : 0 < k) (h : y.fr ≤ z.fr) : vgood l k = false := by
  unfold vgood; rw [hy, hz]; simp only []; rw [decide_eq_false (by omega), decide_eq_false (by omega)]; simp
theorem vgood_yes0 {l : List Version} {k : Nat} {y : Version} (hy : l[k]? = some y) (h : y.ok = true) (hk : k = 0) : vgood l k = true := by unfold vgood; rw [hy]; simp [h, hk]
theorem vgood_yes {l : List Version} {k : Nat} {y z : Version} (hy : l[k]? = some y) (h : y.ok = true) (hz : l[k - 1]? = some z) (hl : z.fr < y.fr) : vgood l k = true := by unfold vgood; rw [hy, hz]; simp [h, hl]
def Code.ok (c : Code) : Bool := nameB c.name && (within c.vs.length 1 12 && allR (vgood c.vs) c.vs.length)
def Code.err (c : Code) : Int := if c.ok then 0 else 41
theorem err_no {c : Code} {k : Nat} (hk : k < c.vs.length) (h : vgood c.vs k = false) : 41 = c.err := by unfold Code.err Code.ok; rw [allR_no hk h]; simp
theorem Check_ok (c : Code) (cs : List V) (g : G) (h : CodeR g cs c) : Fv Tryz.prog natS (.f 15 [] []) [.agg cs] g (.i .i64 c.err) := by
  obtain ⟨v, rfl, h⟩ := h
  refine Fw.fv ?_
  have hlen := h.1
  refine Fw.enter (N := 44) (al := [(0, _)]) Tryz.func15 (by kernel_rfl) (by kernel_rfl) rfl rfl rfl rfl ?_
  intro B
  refine .seq <| .region rfl <| .box .no rfl rfl rfl rfl fun b1 => .z rfl rfl <| .nil <| sq_n <| .seq <| .seq <| .region rfl <| .q (.fa rfl f_24_0) <| .w (.s rfl .hd a_9 rfl) <| .callV .no rfl rfl rfl (isName_ok _ _) <| .q (.not rfl) <| .m rfl rfl <| .split (t := 9) rfl (fun h2 => ?_) (fun h2 => ?_)
  ·have kh2 := h2; (try simp only [bk] at kh2)
   refine .k h2 <| .k h2 <| .k h2 <| .k h2 <| .k h2 <| .q (.pickT rfl h2 rfl) <| .nil <| sq_n <| .condT rfl rfl <| .seq <| .region rfl <| .z rfl rfl <| .nil <| sq_n <| .ret <| sq_r <| retQ_r (Le.refl _) (.tmp rfl .nil) rfl <| congrArg (V.i .i64) ?_
   first
    | (unfold Code.err Code.ok; rw [show nameB c.name = false from ‹_›]; rfl)
    | (unfold Code.err Code.ok; rw [show within c.vs.length 1 12 = false from ‹_›, Bool.false_and, Bool.and_false]; rfl)
    | exact err_no (k := k) (by omega) (vgood_w ‹_› ‹_›)
    | exact err_no (k := k) (by omega) (vgood_no ‹_› (by rw [← e1]; assumption) (by omega) ‹_›)
    | (unfold Code.err Code.ok; obtain rfl : k = c.vs.length := by omega
       rw [hg, hn, hw]; rfl)
  ·have kh2 := h2; (try simp only [bk] at kh2)
   refine .py h2 (.fa rfl f_24_1) <| .wy h2 (.s rfl .hd a_22 rfl) <| .py h2 (.lenR rfl rfl rfl e_22 h) <| .callV (.yes rfl rfl h2) rfl rfl rfl (isWithin_ok _ _ _ _) <| .py h2 (.not rfl) <| .q (.pickF rfl h2 rfl) <| .nil <| sq_n <| .cond rfl (fun h3 => ?_) (fun h3 => ?_)
   ·have kh3 := h3; (try simp only [bk] at kh3)
    refine .seq <| .region rfl <| .z rfl rfl <| .nil <| sq_n <| .ret <| sq_r <| retQ_r (Le.refl _) (.tmp rfl .nil) rfl <| congrArg (V.i .i64) ?_
    first
     | (unfold Code.err Code.ok; rw [show nameB c.name = false from ‹_›]; rfl)
     | (unfold Code.err Code.ok; rw [show within c.vs.length 1 12 = false from ‹_›, Bool.false_and, Bool.and_false]; rfl)
     | exact err_no (k := k) (by omega) (vgood_w ‹_› ‹_›)
     | exact err_no (k := k) (by omega) (vgood_no ‹_› (by rw [← e1]; assumption) (by omega) ‹_›)
     | (unfold Code.err Code.ok; obtain rfl : k = c.vs.length := by omega
        rw [hg, hn, hw]; rfl)
   ·have kh3 := h3; (try simp only [bk] at kh3)
    refine .skip <| sq_n <| .seq <| .seq <| .region rfl <| .q (.fa rfl f_24_1) <| .w (.s rfl .hd a_22 rfl) <| .q (.lenR rfl rfl rfl e_22 h) <| .m rfl rfl <| .nil <| sq_n <| .block <| .loopx (α := Nat) [(1, _), (17, _), (18, _)] _ (fun fx k => (19, .i .i64 (k : Int)) :: fx) (fun mx _ => mx) (fun k g' => k ≤ c.vs.length ∧ allR (vgood c.vs) k = true ∧ nameB c.name = true ∧ within c.vs.length 1 12 = true) (fun k => c.vs.length - k) (0) ⟨rfl, rfl, rfl, rfl, trivial⟩ (List.Sublist.refl _) ⟨by omega, rfl, (by assumption), (by assumption)⟩ ?_
    intro k g5 hle4 hJ
    obtain ⟨hk, hg, hn, hw⟩ := hJ
    replace h := h.mono VersionR.mono hle4
    have e1 : ((k : Int) - 1).toNat = k - 1 := by omega
    refine .seq <| .region rfl <| .b rfl rfl rfl rfl <| .nil <| sq_n <| .seq <| .cond rfl (fun h6 => ?_) (fun h6 => ?_)
    ·have kh6 := h6; (try simp only [bk] at kh6)
     refine .skip <| sq_n <| .seq <| .block <| .seq <| .region rfl <| .m rfl rfl <| .ixn .no rfl rfl h rfl e_22 (by omega) ?_
     intro b7 o7 cs7 y7 hy7 hq7 hr7
     obtain ⟨p7, lv7, rfl, hp7, hl7⟩ := hr7
     refine .w (.pa 0 (vs := [_, _, _, _, _, _, _, _, _, _, _, _]) rfl hq7 rfl a_97 s_97 rfl rfl) <| .alloc .no rfl z_97 fun b8 => .z rfl rfl <| .st (cs' := [_, _, _, _, _, _, _, _, _, _, _, _]) .no rfl rfl rfl rfl s_97 rfl rfl .hd rfl (allOne_cons rfl (allOne_cons hp7.one (allOne_cons (hl7 0 (by decide)).one (allOne_cons (hl7 1 (by decide)).one (allOne_cons (hl7 2 (by decide)).one (allOne_cons (hl7 3 (by decide)).one (allOne_cons (hl7 4 (by decide)).one (allOne_cons (hl7 5 (by decide)).one (allOne_cons (hl7 6 (by decide)).one (allOne_cons (hl7 7 (by decide)).one (allOne_cons (hl7 8 (by decide)).one (allOne_cons (hl7 9 (by decide)).one rfl)))))))))))) <| .nil <| sq_n <| .seq <| .draw (tb := [r1 0 0, r1 1 0, r1 3 1, r1 7 1, r1 15 1, r1 31 1, r1 63 1, r0 127 1, r0 255 1, r0 127 1, r0 639 1, r0 2047 1, r0 4095 1, r0 8191 1, r0 127 1, r0 16511 1, r1 65535 1, r1 131071 1, r1 262143 1]) rfl (by kernel_rfl) (by kernel_rfl) ?_
     refine .y rfl rfl rfl (.a (vs := [_, _, _, _, _, _, _, _, _, _, _, _]) rfl .hd a_97 s_97 rfl rfl) <| .callV .no rfl rfl rfl rfl rfl (isVersion_ok _ _ _ ⟨_, _, rfl, hp7, hl7⟩) <| .q (.not rfl) <| .m rfl rfl <| .split (t := 27) rfl (fun h9 => ?_) (fun h9 => ?_)
     ·have kh9 := h9; (try simp only [bk] at kh9)
      refine .k h9 <| .k h9 <| .k h9 <| .ku <| .ku <| .ku <| .ku <| .ku <| .ku <| .ku <| .ku <| .ku <| .ku <| .k h9 <| .q (.pickT rfl h9 rfl) <| .nil <| sq_n <| .condT rfl rfl <| .seq <| .region rfl <| .z rfl rfl <| .nil <| sq_n <| .ret <| bq_r <| sq_r <| lq_r <| bq_r <| sq_r <| retQ_r hle4 (.tmp rfl .nil) rfl <| congrArg (V.i .i64) ?_
      first
       | (unfold Code.err Code.ok; rw [show nameB c.name = false from ‹_›]; rfl)
       | (unfold Code.err Code.ok; rw [show within c.vs.length 1 12 = false from ‹_›, Bool.false_and, Bool.and_false]; rfl)
       | exact err_no (k := k) (by omega) (vgood_w ‹_› ‹_›)
       | exact err_no (k := k) (by omega) (vgood_no ‹_› (by rw [← e1]; assumption) (by omega) ‹_›)
       | (unfold Code.err Code.ok; obtain rfl : k = c.vs.length := by omega
          rw [hg, hn, hw]; rfl)
     ·have kh9 := h9; (try simp only [bk] at kh9)
      refine .py h9 (.move rfl) <| .py h9 (.bin rfl rfl rfl) <| .py h9 (.move rfl) <| .split (t := 30) rfl (fun h10 => ?_) (fun h10 => ?_)
      ·have kh10 := h10; (try simp only [bk] at kh10)
       refine .py h10 (.fa rfl f_24_1) <| .ld (k := 0) (.yes rfl rfl h10) rfl rfl rfl trivial (.s rfl (.tl .hd) a_22 rfl) <| .py h10 (.move rfl) <| .py h10 (.sub rfl rfl (by omega)) <| .ixi (.yes rfl rfl h10) rfl rfl h rfl e_22 (by omega) ?_
       intro b11 o11 cs11 y11 hy11 hq11 hr11
       obtain ⟨p11, lv11, rfl, hp11, hl11⟩ := hr11
       refine .py h10 (.fa rfl f_97_0) <| .ld (k := 0) (.yes rfl rfl h10) rfl rfl rfl trivial (.ps 0 rfl hq11 rfl a_3 rfl) <| .py h10 (.fa rfl f_97_0) <| .ld (k := 0) (.yes rfl rfl h10) rfl rfl rfl trivial (.s rfl .hd a_3 rfl) <| .py h10 (.bin rfl rfl rfl) <| .py h9 (.pickT rfl h10 rfl) <| .q (.pickF rfl h9 rfl) <| .nil <| sq_n <| .cond rfl (fun h12 => ?_) (fun h12 => ?_)
       ·have kh12 := h12; (try simp only [bk] at kh12)
        refine .seq <| .region rfl <| .z rfl rfl <| .nil <| sq_n <| .ret <| bq_r <| sq_r <| lq_r <| bq_r <| sq_r <| retQ_r hle4 (.tmp rfl .nil) rfl <| congrArg (V.i .i64) ?_
        first
         | (unfold Code.err Code.ok; rw [show nameB c.name = false from ‹_›]; rfl)
         | (unfold Code.err Code.ok; rw [show within c.vs.length 1 12 = false from ‹_›, Bool.false_and, Bool.and_false]; rfl)
         | exact err_no (k := k) (by omega) (vgood_w ‹_› ‹_›)
         | exact err_no (k := k) (by omega) (vgood_no ‹_› (by rw [← e1]; assumption) (by omega) ‹_›)
         | (unfold Code.err Code.ok; obtain rfl : k = c.vs.length := by omega
            rw [hg, hn, hw]; rfl)
       ·have kh12 := h12; (try simp only [bk] at kh12)
        refine .skip <| bq_n <| sq_n <| .region rfl <| .q (.inc1 rfl rfl (by omega)) <| .m rfl rfl <| .nil <| loopQ_n (k + 1) ⟨rfl, rfl, rfl, rfl, trivial⟩ (.cons _ (List.Sublist.refl _)) (Le.refl _) ?_ ?_
        ·refine ⟨by omega, ?_, hn, hw⟩
         have e : (vgood c.vs) k = true := by first | exact vgood_yes0 ‹_› ‹_› (by omega) | exact vgood_yes ‹_› ‹_› (by rw [← e1]; assumption) ‹_›
         simp only [allR, hg, e, Bool.and_self]
        ·omega
      ·have kh10 := h10; (try simp only [bk] at kh10)
       refine .k h10 <| .k h10 <| .k h10 <| .k h10 <| .k h10 <| .k h10 <| .k h10 <| .k h10 <| .k h10 <| .k h10 <| .py h9 (.pickF rfl h10 rfl) <| .q (.pickF rfl h9 rfl) <| .nil <| sq_n <| .condF rfl rfl <| .skip <| bq_n <| sq_n <| .region rfl <| .q (.inc1 rfl rfl (by omega)) <| .m rfl rfl <| .nil <| loopQ_n (k + 1) ⟨rfl, rfl, rfl, rfl, trivial⟩ (.cons _ (List.Sublist.refl _)) (Le.refl _) ?_ ?_
       ·refine ⟨by omega, ?_, hn, hw⟩
        have e : (vgood c.vs) k = true := by first | exact vgood_yes0 ‹_› ‹_› (by omega) | exact vgood_yes ‹_› ‹_› (by rw [← e1]; assumption) ‹_›
        simp only [allR, hg, e, Bool.and_self]
       ·omega
    ·have kh6 := h6; (try simp only [bk] at kh6)
     refine .exit <| sq_e <| lq_e <| bq_x rfl <| sq_n <| .seq <| .region rfl <| .z rfl rfl <| .nil <| sq_n <| .ret <| retQ_r hle4 (.tmp rfl .nil) rfl <| congrArg (V.i .i64) ?_
     first
      | (unfold Code.err Code.ok; rw [show nameB c.name = false from ‹_›]; rfl)
      | (unfold Code.err Code.ok; rw [show within c.vs.length 1 12 = false from ‹_›, Bool.false_and, Bool.and_false]; rfl)
      | exact err_no (k := k) (by omega) (vgood_w ‹_› ‹_›)
      | exact err_no (k := k) (by omega) (vgood_no ‹_› (by rw [← e1]; assumption) (by omega) ‹_›)
      | (unfold Code.err Code.ok; obtain rfl : k = c.vs.length := by omega
         rw [hg, hn, hw]; rfl)
--REG c.Check V (Check_ok _ _ _ {0})
end Go.Proofs.YtjflgemfeofciaaGreatDoor
