import Derived.Test.YtjflgemfeofciaaGreatDoorVd4
/- CodeValues: the walk. -/
namespace Go.Proofs.YtjflgemfeofciaaGreatDoor
open Go Go.Ev
set_option linter.unusedVariables false
set_option linter.unusedSimpArgs false
set_option maxRecDepth 10000
theorem codeValues_walk (c : Code) (p0 p1 p2 p3 x0 x1 x2 x3 x4 : Int) (cs : List V) (g : G) (hc : CodeR g cs c) : Fv Tryz.prog natS (.f 5 [] []) [.agg cs, .agg [.i .i64 p0, .i .i64 p1, .i .i64 p2, .i .i64 p3, .i .i64 x0, .i .i64 x1, .i .i64 x2, .i .i64 x3, .i .i64 x4]] g (.b true) := by
  obtain ⟨w, rfl, hv⟩ := hc
  refine Fw.fv ?_
  have e1 := valR_eq c p0 p1 p2 p3
  have e2 := tonR_eq c p0 p1 x0 x1 x2 x3 x4
  refine Fw.enter (N := 83) (al := [(1, _), (0, _)]) Tryz.func5 (by kernel_rfl) (by kernel_rfl) rfl rfl rfl rfl ?_
  intro B
  refine Wc.seq ?_
  refine Wc.region rfl ?_
  refine Wo.box .no rfl rfl rfl rfl (fun b1 => ?_)
  refine Wo.box .no rfl rfl rfl rfl (fun b2 => ?_)
  refine Wo.p .no rfl (.assign rfl) ?_
  refine Wo.nil (sq_n ?_)
  refine Wc.seq ?_
  refine Wc.region rfl ?_
  refine Wo.ld .no rfl (.a (vs := [_, _]) rfl (.tl .hd) a_24 s_24 rfl rfl) ?_
  refine Wo.p .no rfl (.fa rfl f_49_0) ?_
  refine Wo.ld .no rfl (.s rfl .hd a_3 rfl) ?_
  refine Wo.p .no rfl (.fa rfl f_49_1) ?_
  refine Wo.ld .no rfl (.s rfl .hd a_3 rfl) ?_
  refine Wo.p .no rfl (.fa rfl f_49_2) ?_
  refine Wo.ld .no rfl (.s rfl .hd a_3 rfl) ?_
  refine Wo.p .no rfl (.fa rfl f_49_3) ?_
  refine Wo.ld .no rfl (.s rfl .hd a_3 rfl) ?_
  refine Wo.callV .no rfl rfl rfl (Value_ok _ _ _ _ _ _ _ ⟨_, rfl, hv⟩) ?_
  refine Wo.p .no rfl (.move rfl) ?_
  refine Wo.p .no rfl (.ext rfl rfl) ?_
  refine Wo.p .no rfl (.ext rfl rfl) ?_
  refine Wo.p .no rfl (.assign rfl) ?_
  refine Wo.p .no rfl (.assign rfl) ?_
  refine Wo.nil (sq_n ?_)
  refine Wc.seq ?_
  refine Wc.region rfl ?_
  refine Wo.ld .no rfl (.a (vs := [_, _]) rfl (.tl .hd) a_24 s_24 rfl rfl) ?_
  refine Wo.p .no rfl (.fa rfl f_49_0) ?_
  refine Wo.ld .no rfl (.s rfl .hd a_3 rfl) ?_
  refine Wo.p .no rfl (.fa rfl f_49_1) ?_
  refine Wo.ld .no rfl (.s rfl .hd a_3 rfl) ?_
  refine Wo.p .no rfl (.fa rfl f_49_2) ?_
  refine Wo.ld .no rfl (.s rfl .hd a_3 rfl) ?_
  refine Wo.p .no rfl (.build (qs := [(0, _), (1, _)]) (cs := [_, _]) rfl b_53 rfl) ?_
  refine Wo.p .no rfl (.fa rfl f_49_3) ?_
  refine Wo.ld .no rfl (.s rfl .hd a_3 rfl) ?_
  refine Wo.callV .no rfl rfl rfl (rValue_ok _ _ _ _ _ _ _ ⟨_, rfl, hv⟩) ?_
  refine Wo.p .no rfl (.move rfl) ?_
  refine Wo.p .no rfl (.ext rfl rfl) ?_
  refine Wo.p .no rfl (.ext rfl rfl) ?_
  refine Wo.p .no rfl (.assign rfl) ?_
  refine Wo.p .no rfl (.assign rfl) ?_
  refine Wo.nil (sq_n ?_)
  refine Wc.seq ?_
  refine Wc.region rfl ?_
  refine Wo.ld .no rfl (.a (vs := [_, _]) rfl (.tl .hd) a_24 s_24 rfl rfl) ?_
  refine Wo.p .no rfl (.fa rfl f_49_0) ?_
  refine Wo.ld .no rfl (.s rfl .hd a_3 rfl) ?_
  refine Wo.p .no rfl (.fa rfl f_49_1) ?_
  refine Wo.ld .no rfl (.s rfl .hd a_3 rfl) ?_
  refine Wo.p .no rfl (.fa rfl f_49_4) ?_
  refine Wo.ld .no rfl (.a (vs := [_, _, _, _, _]) rfl .hd a_38 s_38 rfl rfl) ?_
  refine Wo.callV .no rfl rfl rfl (Tonnage_ok _ _ _ _ _ _ _ _ _ _ ⟨_, rfl, hv⟩) ?_
  refine Wo.p .no rfl (.move rfl) ?_
  refine Wo.p .no rfl (.ext rfl rfl) ?_
  refine Wo.p .no rfl (.ext rfl rfl) ?_
  refine Wo.p .no rfl (.assign rfl) ?_
  refine Wo.p .no rfl (.assign rfl) ?_
  refine Wo.nil (sq_n ?_)
  refine Wc.seq ?_
  refine Wc.region rfl ?_
  refine Wo.ld .no rfl (.a (vs := [_, _]) rfl (.tl .hd) a_24 s_24 rfl rfl) ?_
  refine Wo.p .no rfl (.fa rfl f_49_0) ?_
  refine Wo.ld .no rfl (.s rfl .hd a_3 rfl) ?_
  refine Wo.p .no rfl (.fa rfl f_49_1) ?_
  refine Wo.ld .no rfl (.s rfl .hd a_3 rfl) ?_
  refine Wo.p .no rfl (.fa rfl f_49_4) ?_
  refine Wo.ld .no rfl (.a (vs := [_, _, _, _, _]) rfl .hd a_38 s_38 rfl rfl) ?_
  refine Wo.callV .no rfl rfl rfl (rTonnage_ok _ _ _ _ _ _ _ _ _ _ ⟨_, rfl, hv⟩) ?_
  refine Wo.p .no rfl (.move rfl) ?_
  refine Wo.p .no rfl (.ext rfl rfl) ?_
  refine Wo.p .no rfl (.ext rfl rfl) ?_
  refine Wo.p .no rfl (.assign rfl) ?_
  refine Wo.p .no rfl (.assign rfl) ?_
  refine Wo.nil (sq_n ?_)
  refine Wc.seq ?_
  refine Wc.region rfl ?_
  refine Wo.p .no rfl (.move rfl) ?_
  refine Wo.p .no rfl (.move rfl) ?_
  refine Wo.p .no rfl (.bin rfl rfl rfl) ?_
  refine Wo.p .no rfl (.move rfl) ?_
  refine Wo.split (t := 65) rfl (fun h3 => ?_) (fun h3 => ?_)
  · have kh3 := h3; (try simp only [Bool.not_eq_true', Bool.not_eq_false', Bool.not_eq_true, Bool.not_eq_false, decide_eq_true_eq, decide_eq_false_iff_not, Int.not_lt, Int.not_le, Bool.not_eq_eq_eq_not, Bool.not_true, Bool.not_false] at kh3)
    refine Wo.p (.yes rfl rfl h3) rfl (.move rfl) ?_
    refine Wo.p (.yes rfl rfl h3) rfl (.move rfl) ?_
    refine Wo.p (.yes rfl rfl h3) rfl (.bin rfl rfl rfl) ?_
    refine Wo.p .no rfl (.pickT rfl h3 rfl) ?_
    refine Wo.p .no rfl (.move rfl) ?_
    refine Wo.split (t := 70) rfl (fun h4 => ?_) (fun h4 => ?_)
    · have kh4 := h4; (try simp only [Bool.not_eq_true', Bool.not_eq_false', Bool.not_eq_true, Bool.not_eq_false, decide_eq_true_eq, decide_eq_false_iff_not, Int.not_lt, Int.not_le, Bool.not_eq_eq_eq_not, Bool.not_true, Bool.not_false] at kh4)
      refine Wo.p (.yes rfl rfl h4) rfl (.move rfl) ?_
      refine Wo.p (.yes rfl rfl h4) rfl (.move rfl) ?_
      refine Wo.p (.yes rfl rfl h4) rfl (.bin rfl rfl rfl) ?_
      refine Wo.p .no rfl (.pickT rfl h4 rfl) ?_
      refine Wo.p .no rfl (.move rfl) ?_
      refine Wo.split (t := 75) rfl (fun h5 => ?_) (fun h5 => ?_)
      · have kh5 := h5; (try simp only [Bool.not_eq_true', Bool.not_eq_false', Bool.not_eq_true, Bool.not_eq_false, decide_eq_true_eq, decide_eq_false_iff_not, Int.not_lt, Int.not_le, Bool.not_eq_eq_eq_not, Bool.not_true, Bool.not_false] at kh5)
        refine Wo.p (.yes rfl rfl h5) rfl (.move rfl) ?_
        refine Wo.p (.yes rfl rfl h5) rfl (.move rfl) ?_
        refine Wo.p (.yes rfl rfl h5) rfl (.bin rfl rfl rfl) ?_
        refine Wo.p .no rfl (.pickT rfl h5 rfl) ?_
        refine Wo.p .no rfl (.move rfl) ?_
        refine Wo.split (t := 80) rfl (fun h6 => ?_) (fun h6 => ?_)
        · have kh6 := h6; (try simp only [Bool.not_eq_true', Bool.not_eq_false', Bool.not_eq_true, Bool.not_eq_false, decide_eq_true_eq, decide_eq_false_iff_not, Int.not_lt, Int.not_le, Bool.not_eq_eq_eq_not, Bool.not_true, Bool.not_false] at kh6)
          refine Wo.callV (.yes rfl rfl h6) rfl rfl rfl (sane_ok _) ?_
          refine Wo.p .no rfl (.pickT rfl h6 rfl) ?_
          refine Wo.p .no rfl (.assign rfl) ?_
          refine Wo.nil (sq_n ?_)
          refine Wc.ret ?_
          refine retQ_r (Le.refl _) (.tmp rfl .nil) rfl ?_
          first | rfl | (exfalso; simp_all; done)
        · have kh6 := h6; (try simp only [Bool.not_eq_true', Bool.not_eq_false', Bool.not_eq_true, Bool.not_eq_false, decide_eq_true_eq, decide_eq_false_iff_not, Int.not_lt, Int.not_le, Bool.not_eq_eq_eq_not, Bool.not_true, Bool.not_false] at kh6)
          refine Wo.skip (.yes rfl rfl h6) rfl ?_
          refine Wo.p .no rfl (.pickF rfl h6 rfl) ?_
          refine Wo.p .no rfl (.assign rfl) ?_
          refine Wo.nil (sq_n ?_)
          refine Wc.ret ?_
          refine retQ_r (Le.refl _) (.tmp rfl .nil) rfl ?_
          first | rfl | (exfalso; simp_all; done)
      · have kh5 := h5; (try simp only [Bool.not_eq_true', Bool.not_eq_false', Bool.not_eq_true, Bool.not_eq_false, decide_eq_true_eq, decide_eq_false_iff_not, Int.not_lt, Int.not_le, Bool.not_eq_eq_eq_not, Bool.not_true, Bool.not_false] at kh5)
        refine Wo.skip (.yes rfl rfl h5) rfl ?_
        refine Wo.skip (.yes rfl rfl h5) rfl ?_
        refine Wo.skip (.yes rfl rfl h5) rfl ?_
        refine Wo.p .no rfl (.pickF rfl h5 rfl) ?_
        refine Wo.p .no rfl (.move rfl) ?_
        refine Wo.skip (.yes rfl rfl rfl) rfl ?_
        refine Wo.p .no rfl (.pickF rfl rfl rfl) ?_
        refine Wo.p .no rfl (.assign rfl) ?_
        refine Wo.nil (sq_n ?_)
        refine Wc.ret ?_
        refine retQ_r (Le.refl _) (.tmp rfl .nil) rfl ?_
        first | rfl | (exfalso; simp_all; done)
    · have kh4 := h4; (try simp only [Bool.not_eq_true', Bool.not_eq_false', Bool.not_eq_true, Bool.not_eq_false, decide_eq_true_eq, decide_eq_false_iff_not, Int.not_lt, Int.not_le, Bool.not_eq_eq_eq_not, Bool.not_true, Bool.not_false] at kh4)
      refine Wo.skip (.yes rfl rfl h4) rfl ?_
      refine Wo.skip (.yes rfl rfl h4) rfl ?_
      refine Wo.skip (.yes rfl rfl h4) rfl ?_
      refine Wo.p .no rfl (.pickF rfl h4 rfl) ?_
      refine Wo.p .no rfl (.move rfl) ?_
      refine Wo.skip (.yes rfl rfl rfl) rfl ?_
      refine Wo.skip (.yes rfl rfl rfl) rfl ?_
      refine Wo.skip (.yes rfl rfl rfl) rfl ?_
      refine Wo.p .no rfl (.pickF rfl rfl rfl) ?_
      refine Wo.p .no rfl (.move rfl) ?_
      refine Wo.skip (.yes rfl rfl rfl) rfl ?_
      refine Wo.p .no rfl (.pickF rfl rfl rfl) ?_
      refine Wo.p .no rfl (.assign rfl) ?_
      refine Wo.nil (sq_n ?_)
      refine Wc.ret ?_
      refine retQ_r (Le.refl _) (.tmp rfl .nil) rfl ?_
      first | rfl | (exfalso; simp_all; done)
  · have kh3 := h3; (try simp only [Bool.not_eq_true', Bool.not_eq_false', Bool.not_eq_true, Bool.not_eq_false, decide_eq_true_eq, decide_eq_false_iff_not, Int.not_lt, Int.not_le, Bool.not_eq_eq_eq_not, Bool.not_true, Bool.not_false] at kh3)
    refine Wo.skip (.yes rfl rfl h3) rfl ?_
    refine Wo.skip (.yes rfl rfl h3) rfl ?_
    refine Wo.skip (.yes rfl rfl h3) rfl ?_
    refine Wo.p .no rfl (.pickF rfl h3 rfl) ?_
    refine Wo.p .no rfl (.move rfl) ?_
    refine Wo.skip (.yes rfl rfl rfl) rfl ?_
    refine Wo.skip (.yes rfl rfl rfl) rfl ?_
    refine Wo.skip (.yes rfl rfl rfl) rfl ?_
    refine Wo.p .no rfl (.pickF rfl rfl rfl) ?_
    refine Wo.p .no rfl (.move rfl) ?_
    refine Wo.skip (.yes rfl rfl rfl) rfl ?_
    refine Wo.skip (.yes rfl rfl rfl) rfl ?_
    refine Wo.skip (.yes rfl rfl rfl) rfl ?_
    refine Wo.p .no rfl (.pickF rfl rfl rfl) ?_
    refine Wo.p .no rfl (.move rfl) ?_
    refine Wo.skip (.yes rfl rfl rfl) rfl ?_
    refine Wo.p .no rfl (.pickF rfl rfl rfl) ?_
    refine Wo.p .no rfl (.assign rfl) ?_
    refine Wo.nil (sq_n ?_)
    refine Wc.ret ?_
    refine retQ_r (Le.refl _) (.tmp rfl .nil) rfl ?_
    first | rfl | (exfalso; simp_all; done)
end Go.Proofs.YtjflgemfeofciaaGreatDoor
