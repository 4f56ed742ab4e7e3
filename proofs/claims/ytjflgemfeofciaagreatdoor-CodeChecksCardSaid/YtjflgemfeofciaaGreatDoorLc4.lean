import Derived.Test.YtjflgemfeofciaaGreatDoorCc4
/- CodeChecks: the walk. -/
namespace Go.Proofs.YtjflgemfeofciaaGreatDoor
open Go Go.Ev
set_option linter.unusedVariables false
set_option linter.unusedSimpArgs false
set_option maxRecDepth 10000
theorem codeChecks_walk (c : Code) (l : List Room) (r : Room) (cs : List V) (v : V) (g : G) (hc : CodeR g cs c) (hl : RS RoomR 6 g v l) : Fv Tryz.prog natS (.f 3 [] []) [.agg cs, v, .agg r.v] g (.b true) := by
  obtain ⟨w, rfl, hv⟩ := hc
  refine Fw.fv ?_
  refine Fw.enter (N := 29) (al := [(2, _), (1, _), (0, _)]) Tryz.func3 (by kernel_rfl) (by kernel_rfl) rfl rfl rfl rfl ?_
  intro B
  refine Wc.seq ?_
  refine Wc.region rfl ?_
  refine Wo.box .no rfl rfl rfl rfl (fun b1 => ?_)
  refine Wo.box .no rfl rfl rfl rfl (fun b2 => ?_)
  refine Wo.p .no rfl (.assign rfl) ?_
  refine Wo.nil (sq_n ?_)
  refine Wc.seq ?_
  refine Wc.draw (tb := [⟨0, 0, false⟩, ⟨1, 0, false⟩, ⟨0, 0, false⟩, ⟨7, 1, true⟩, ⟨15, 2, true⟩, ⟨31, 2, true⟩, ⟨63, 2, true⟩, ⟨127, 2, true⟩, ⟨63, 2, true⟩, ⟨511, 3, true⟩, ⟨1023, 4, true⟩, ⟨2047, 4, true⟩, ⟨4095, 4, true⟩, ⟨8191, 4, false⟩, ⟨16383, 4, false⟩, ⟨8191, 4, false⟩, ⟨65535, 5, true⟩, ⟨131071, 6, true⟩, ⟨262143, 6, true⟩, ⟨524287, 6, true⟩, ⟨1048575, 6, true⟩, ⟨2097151, 7, true⟩, ⟨4194303, 7, true⟩]) rfl (by kernel_rfl) (by kernel_rfl) ?_
  refine Wd.ld (k := 0) .no rfl rfl rfl trivial (.a (vs := [_, _]) rfl (.tl .hd) a_24 s_24 rfl rfl) ?_
  refine Wd.callV .no rfl rfl rfl rfl rfl (Check_ok _ _ _ ⟨_, rfl, hv⟩) ?_
  refine Wd.ld (k := 1) .no rfl rfl rfl trivial (.a (vs := [_, _]) rfl (.tl .hd) a_24 s_24 rfl rfl) ?_
  refine Wd.callV .no rfl rfl rfl rfl rfl (rCheck_ok _ _ _ ⟨_, rfl, hv⟩) ?_
  refine Wd.p .no rfl (.bin rfl rfl rfl) rfl rfl rfl ?_
  refine Wd.p .no rfl (.move rfl) rfl rfl rfl ?_
  refine Wd.split (t := 12) rfl (fun h3 => ?_) (fun h3 => ?_)
  · have kh3 := h3; (try simp only [Bool.not_eq_true', Bool.not_eq_false', Bool.not_eq_true, Bool.not_eq_false, decide_eq_true_eq, decide_eq_false_iff_not, Int.not_lt, Int.not_le, Bool.not_eq_eq_eq_not, Bool.not_true, Bool.not_false] at kh3)
    refine Wd.p (.yes rfl rfl h3) rfl (.move rfl) rfl rfl rfl ?_
    refine Wd.callV (.yes rfl rfl h3) rfl rfl rfl rfl rfl (CheckRooms_ok _ _ _ hl) ?_
    refine Wd.p (.yes rfl rfl h3) rfl (.move rfl) rfl rfl rfl ?_
    refine Wd.callV (.yes rfl rfl h3) rfl rfl rfl rfl rfl (rCheckRooms_ok _ _ _ hl) ?_
    refine Wd.p (.yes rfl rfl h3) rfl (.bin rfl rfl rfl) rfl rfl rfl ?_
    refine Wd.p .no rfl (.pickT rfl h3 rfl) rfl rfl rfl ?_
    refine Wd.p .no rfl (.move rfl) rfl rfl rfl ?_
    refine Wd.split (t := 19) rfl (fun h4 => ?_) (fun h4 => ?_)
    · have kh4 := h4; (try simp only [Bool.not_eq_true', Bool.not_eq_false', Bool.not_eq_true, Bool.not_eq_false, decide_eq_true_eq, decide_eq_false_iff_not, Int.not_lt, Int.not_le, Bool.not_eq_eq_eq_not, Bool.not_true, Bool.not_false] at kh4)
      refine Wd.ld (k := 0) (.yes rfl rfl h4) rfl rfl rfl trivial (.a (vs := [_, _, _, _, _, _]) rfl .hd a_29 s_29 rfl rfl) ?_
      refine Wd.callV (.yes rfl rfl h4) rfl rfl rfl rfl rfl (CheckRoom_ok _ _) ?_
      refine Wd.ld (k := 1) (.yes rfl rfl h4) rfl rfl rfl trivial (.a (vs := [_, _, _, _, _, _]) rfl .hd a_29 s_29 rfl rfl) ?_
      refine Wd.callV (.yes rfl rfl h4) rfl rfl rfl rfl rfl (rCheckRoom_ok _ _) ?_
      refine Wd.p (.yes rfl rfl h4) rfl (.bin rfl rfl rfl) rfl rfl rfl ?_
      refine Wd.p .no rfl (.pickT rfl h4 rfl) rfl rfl rfl ?_
      refine Wd.p .no rfl (.move rfl) rfl rfl rfl ?_
      refine Wd.split (t := 26) rfl (fun h5 => ?_) (fun h5 => ?_)
      · have kh5 := h5; (try simp only [Bool.not_eq_true', Bool.not_eq_false', Bool.not_eq_true, Bool.not_eq_false, decide_eq_true_eq, decide_eq_false_iff_not, Int.not_lt, Int.not_le, Bool.not_eq_eq_eq_not, Bool.not_true, Bool.not_false] at kh5)
        refine Wd.callV (.yes rfl rfl h5) rfl rfl rfl rfl rfl (sane_ok _) ?_
        refine Wd.p .no rfl (.pickT rfl h5 rfl) rfl rfl rfl ?_
        refine Wd.p .no rfl (.assign rfl) rfl rfl rfl ?_
        refine Wd.nil (sq_n ?_)
        refine Wc.ret ?_
        refine retQ_r (Le.refl _) (.tmp rfl .nil) rfl ?_
        first | rfl | (exfalso; simp at *; done)
      · have kh5 := h5; (try simp only [Bool.not_eq_true', Bool.not_eq_false', Bool.not_eq_true, Bool.not_eq_false, decide_eq_true_eq, decide_eq_false_iff_not, Int.not_lt, Int.not_le, Bool.not_eq_eq_eq_not, Bool.not_true, Bool.not_false] at kh5)
        refine Wd.skipE (.yes rfl rfl h5) rfl rfl ?_
        refine Wd.p .no rfl (.pickF rfl h5 rfl) rfl rfl rfl ?_
        refine Wd.p .no rfl (.assign rfl) rfl rfl rfl ?_
        refine Wd.nil (sq_n ?_)
        refine Wc.ret ?_
        refine retQ_r (Le.refl _) (.tmp rfl .nil) rfl ?_
        first | rfl | (exfalso; simp at *; done)
    · have kh4 := h4; (try simp only [Bool.not_eq_true', Bool.not_eq_false', Bool.not_eq_true, Bool.not_eq_false, decide_eq_true_eq, decide_eq_false_iff_not, Int.not_lt, Int.not_le, Bool.not_eq_eq_eq_not, Bool.not_true, Bool.not_false] at kh4)
      refine Wd.skip (.yes rfl rfl h4) rfl rfl ?_
      refine Wd.skipE (.yes rfl rfl h4) rfl rfl ?_
      refine Wd.skip (.yes rfl rfl h4) rfl rfl ?_
      refine Wd.skipE (.yes rfl rfl h4) rfl rfl ?_
      refine Wd.skip (.yes rfl rfl h4) rfl rfl ?_
      refine Wd.p .no rfl (.pickF rfl h4 rfl) rfl rfl rfl ?_
      refine Wd.p .no rfl (.move rfl) rfl rfl rfl ?_
      refine Wd.skipE (.yes rfl rfl rfl) rfl rfl ?_
      refine Wd.p .no rfl (.pickF rfl rfl rfl) rfl rfl rfl ?_
      refine Wd.p .no rfl (.assign rfl) rfl rfl rfl ?_
      refine Wd.nil (sq_n ?_)
      refine Wc.ret ?_
      refine retQ_r (Le.refl _) (.tmp rfl .nil) rfl ?_
      first | rfl | (exfalso; simp at *; done)
  · have kh3 := h3; (try simp only [Bool.not_eq_true', Bool.not_eq_false', Bool.not_eq_true, Bool.not_eq_false, decide_eq_true_eq, decide_eq_false_iff_not, Int.not_lt, Int.not_le, Bool.not_eq_eq_eq_not, Bool.not_true, Bool.not_false] at kh3)
    refine Wd.skip (.yes rfl rfl h3) rfl rfl ?_
    refine Wd.skipE (.yes rfl rfl h3) rfl rfl ?_
    refine Wd.skip (.yes rfl rfl h3) rfl rfl ?_
    refine Wd.skipE (.yes rfl rfl h3) rfl rfl ?_
    refine Wd.skip (.yes rfl rfl h3) rfl rfl ?_
    refine Wd.p .no rfl (.pickF rfl h3 rfl) rfl rfl rfl ?_
    refine Wd.p .no rfl (.move rfl) rfl rfl rfl ?_
    refine Wd.skip (.yes rfl rfl rfl) rfl rfl ?_
    refine Wd.skipE (.yes rfl rfl rfl) rfl rfl ?_
    refine Wd.skip (.yes rfl rfl rfl) rfl rfl ?_
    refine Wd.skipE (.yes rfl rfl rfl) rfl rfl ?_
    refine Wd.skip (.yes rfl rfl rfl) rfl rfl ?_
    refine Wd.p .no rfl (.pickF rfl rfl rfl) rfl rfl rfl ?_
    refine Wd.p .no rfl (.move rfl) rfl rfl rfl ?_
    refine Wd.skipE (.yes rfl rfl rfl) rfl rfl ?_
    refine Wd.p .no rfl (.pickF rfl rfl rfl) rfl rfl rfl ?_
    refine Wd.p .no rfl (.assign rfl) rfl rfl rfl ?_
    refine Wd.nil (sq_n ?_)
    refine Wc.ret ?_
    refine retQ_r (Le.refl _) (.tmp rfl .nil) rfl ?_
    first | rfl | (exfalso; simp at *; done)
end Go.Proofs.YtjflgemfeofciaaGreatDoor
