import Derived.Test.YtjflgemfeofciaaGreatDoorMY3
/- Layer 4: into which group a room is put. -/
namespace Go.Proofs.YtjflgemfeofciaaGreatDoor
open Go Go.Ev
set_option linter.unusedVariables false
set_option linter.unusedSimpArgs false
set_option maxRecDepth 10000
def lookI (t : Test) (r : Room) : Int := if t.of = 2 then r.op else if t.of = 3 then r.cr else r.kind
def isSoB (t : Test) (r : Room) : Bool := if t.how = 1 then decide (lookI t r < t.num) else if t.how = 2 then decide (lookI t r ≤ t.num) else if t.how = 3 then decide (lookI t r = t.num) else if t.how = 4 then !decide (lookI t r = t.num) else if t.how = 5 then decide (t.num ≤ lookI t r) else decide (t.num < lookI t r)
theorem kind_ok (r : Room) (g : G) : Fv Tryz.prog natS (.f 167 [] []) [.agg r.v] g (.i .i64 r.kind) := by
  refine Fw.fv ?_
  refine Fw.enter (N := 5) (al := [(0, _)]) Tryz.func167 (by kernel_rfl) (by kernel_rfl) rfl rfl rfl rfl ?_
  intro B
  refine .seq <| .region rfl <| .box .no rfl rfl rfl rfl fun b1 => .z rfl rfl <| .nil <| sq_n <| .seq <| .region rfl <| .p .no rfl (.fa rfl f_230_1) <| .ld .no rfl (.s rfl .hd a_3 rfl) <| .z rfl rfl <| .nil <| sq_n <| .ret <| retQ_r (Le.refl _) (.tmp rfl .nil) rfl ?_
  rfl
--REG (moorsom/code.look).kind V (kind_ok _ _)
theorem opening_ok (r : Room) (g : G) : Fv Tryz.prog natS (.f 168 [] []) [.agg r.v] g (.i .i64 r.op) := by
  refine Fw.fv ?_
  refine Fw.enter (N := 5) (al := [(0, _)]) Tryz.func168 (by kernel_rfl) (by kernel_rfl) rfl rfl rfl rfl ?_
  intro B
  refine .seq <| .region rfl <| .box .no rfl rfl rfl rfl fun b1 => .z rfl rfl <| .nil <| sq_n <| .seq <| .region rfl <| .p .no rfl (.fa rfl f_230_2) <| .ld .no rfl (.s rfl .hd a_3 rfl) <| .z rfl rfl <| .nil <| sq_n <| .ret <| retQ_r (Le.refl _) (.tmp rfl .nil) rfl ?_
  rfl
--REG (moorsom/code.look).opening V (opening_ok _ _)
theorem crew_ok (r : Room) (g : G) : Fv Tryz.prog natS (.f 169 [] []) [.agg r.v] g (.i .i64 r.cr) := by
  refine Fw.fv ?_
  refine Fw.enter (N := 5) (al := [(0, _)]) Tryz.func169 (by kernel_rfl) (by kernel_rfl) rfl rfl rfl rfl ?_
  intro B
  refine .seq <| .region rfl <| .box .no rfl rfl rfl rfl fun b1 => .z rfl rfl <| .nil <| sq_n <| .seq <| .region rfl <| .p .no rfl (.fa rfl f_230_3) <| .ld .no rfl (.s rfl .hd a_3 rfl) <| .z rfl rfl <| .nil <| sq_n <| .ret <| retQ_r (Le.refl _) (.tmp rfl .nil) rfl ?_
  rfl
--REG (moorsom/code.look).crew V (crew_ok _ _)
theorem test_bd {t : Test} (h : t.ok = true) : (1 ≤ t.of ∧ t.of ≤ 3) ∧ 1 ≤ t.how ∧ t.how ≤ 6 := by
  unfold Test.ok within at h
  simp only [Bool.and_eq_true, decide_eq_true_eq] at h
  omega
theorem of3 {n : Int} (h : 1 ≤ n ∧ n ≤ 3) : 0 ≤ n - 1 ∧ n - 1 < 3 := by omega
theorem how6 {n : Int} (h : 1 ≤ n ∧ n ≤ 6) : 0 ≤ n - 1 ∧ n - 1 < 6 := by omega
theorem isSo_ok (t : Test) (r : Room) (g : G) (ht : t.ok = true) : Fv Tryz.prog natS (.f 141 [] []) [.agg t.v, .agg r.v] g (.b (isSoB t r)) := by
  refine Fw.fv ?_
  obtain ⟨h1, h2⟩ := test_bd ht
  refine Fw.enter (N := 42) (al := [(1, _), (0, _)]) Tryz.func141 (by kernel_rfl) (by kernel_rfl) rfl rfl rfl rfl ?_
  intro B
  refine .seq <| .region rfl <| .box .no rfl rfl rfl rfl fun b1 => .box .no rfl rfl rfl rfl fun b2 => .z rfl rfl <| .nil <| sq_n <| .seq <| .draw (tb := [r0 0 0, r0 0 0, r0 2 0, r0 6 0, r0 15 0, r0 0 0, r1 63 0, r1 127 1]) rfl (by kernel_rfl) (by kernel_rfl) ?_
  refine .p .no rfl (.build (qs := [(0, _), (1, _), (2, _)]) (cs := [_, _, _]) rfl b_231 rfl) rfl rfl rfl <| .p .no rfl (.fa rfl f_172_0) rfl rfl rfl <| .y rfl rfl rfl (.s rfl (.tl .hd) a_3 rfl) <| .p .no rfl (.sub rfl rfl (by omega)) rfl rfl rfl ?_
  rcases (case3 (of3 h1)) with e3 | e3 | e3
  ·have ke3 := e3
   refine .p .no rfl (.ixve (q := 0) rfl rfl e3 ar_231 s_229 (by decide) (by rfl)) rfl rfl rfl ?_
   refine .y rfl rfl rfl (.a (vs := [_, _, _, _, _, _]) rfl .hd a_29 s_29 rfl rfl) <| .callV .no rfl rfl rfl rfl rfl (kind_ok _ _) <| .z rfl rfl <| .nil <| sq_n <| .seq <| .region rfl <| .m rfl rfl <| .p .no rfl (.fa rfl f_172_2) <| .ld .no rfl (.s rfl (.tl .hd) a_3 rfl) <| .b rfl rfl rfl rfl <| .m rfl rfl <| .p .no rfl (.fa rfl f_172_2) <| .ld .no rfl (.s rfl (.tl .hd) a_3 rfl) <| .b rfl rfl rfl rfl <| .m rfl rfl <| .p .no rfl (.fa rfl f_172_2) <| .ld .no rfl (.s rfl (.tl .hd) a_3 rfl) <| .b rfl rfl rfl rfl <| .m rfl rfl <| .p .no rfl (.fa rfl f_172_2) <| .ld .no rfl (.s rfl (.tl .hd) a_3 rfl) <| .b rfl rfl rfl rfl <| .m rfl rfl <| .p .no rfl (.fa rfl f_172_2) <| .ld .no rfl (.s rfl (.tl .hd) a_3 rfl) <| .b rfl rfl rfl rfl <| .m rfl rfl <| .p .no rfl (.fa rfl f_172_2) <| .ld .no rfl (.s rfl (.tl .hd) a_3 rfl) <| .b rfl rfl rfl rfl ?_
   refine .p .no rfl (.build (qs := [(0, _), (1, _), (2, _), (3, _), (4, _), (5, _)]) (cs := [_, _, _, _, _, _]) rfl b_232 rfl) <| .p .no rfl (.fa rfl f_172_1) <| .ld .no rfl (.s rfl (.tl .hd) a_3 rfl) <| .p .no rfl (.sub rfl rfl (by omega)) ?_
   rcases (case6 (how6 h2)) with e4 | e4 | e4 | e4 | e4 | e4
   ·have ke4 := e4
    refine .p .no rfl (.ixve (q := 0) rfl rfl e4 ar_232 s_4 (by decide) (by rfl)) ?_
    refine .z rfl rfl <| .nil <| sq_n <| .ret <| retQ_r (Le.refl _) (.tmp rfl .nil) rfl <| congrArg V.b ?_
    unfold isSoB lookI
    first
     | (have a1 : t.of = 1 := by omega); rw [a1]; (first | ((have a2 : t.how = 1 := by omega); rw [a2]) | ((have a2 : t.how = 2 := by omega); rw [a2]) | ((have a2 : t.how = 3 := by omega); rw [a2]) | ((have a2 : t.how = 4 := by omega); rw [a2]) | ((have a2 : t.how = 5 := by omega); rw [a2]) | ((have a2 : t.how = 6 := by omega); rw [a2]))
     | (have a1 : t.of = 2 := by omega); rw [a1]; (first | ((have a2 : t.how = 1 := by omega); rw [a2]) | ((have a2 : t.how = 2 := by omega); rw [a2]) | ((have a2 : t.how = 3 := by omega); rw [a2]) | ((have a2 : t.how = 4 := by omega); rw [a2]) | ((have a2 : t.how = 5 := by omega); rw [a2]) | ((have a2 : t.how = 6 := by omega); rw [a2]))
     | (have a1 : t.of = 3 := by omega); rw [a1]; (first | ((have a2 : t.how = 1 := by omega); rw [a2]) | ((have a2 : t.how = 2 := by omega); rw [a2]) | ((have a2 : t.how = 3 := by omega); rw [a2]) | ((have a2 : t.how = 4 := by omega); rw [a2]) | ((have a2 : t.how = 5 := by omega); rw [a2]) | ((have a2 : t.how = 6 := by omega); rw [a2]))
    rfl
   ·have ke4 := e4
    refine .p .no rfl (.ixve (q := 1) rfl rfl e4 ar_232 s_4 (by decide) (by rfl)) ?_
    refine .z rfl rfl <| .nil <| sq_n <| .ret <| retQ_r (Le.refl _) (.tmp rfl .nil) rfl <| congrArg V.b ?_
    unfold isSoB lookI
    first
     | (have a1 : t.of = 1 := by omega); rw [a1]; (first | ((have a2 : t.how = 1 := by omega); rw [a2]) | ((have a2 : t.how = 2 := by omega); rw [a2]) | ((have a2 : t.how = 3 := by omega); rw [a2]) | ((have a2 : t.how = 4 := by omega); rw [a2]) | ((have a2 : t.how = 5 := by omega); rw [a2]) | ((have a2 : t.how = 6 := by omega); rw [a2]))
     | (have a1 : t.of = 2 := by omega); rw [a1]; (first | ((have a2 : t.how = 1 := by omega); rw [a2]) | ((have a2 : t.how = 2 := by omega); rw [a2]) | ((have a2 : t.how = 3 := by omega); rw [a2]) | ((have a2 : t.how = 4 := by omega); rw [a2]) | ((have a2 : t.how = 5 := by omega); rw [a2]) | ((have a2 : t.how = 6 := by omega); rw [a2]))
     | (have a1 : t.of = 3 := by omega); rw [a1]; (first | ((have a2 : t.how = 1 := by omega); rw [a2]) | ((have a2 : t.how = 2 := by omega); rw [a2]) | ((have a2 : t.how = 3 := by omega); rw [a2]) | ((have a2 : t.how = 4 := by omega); rw [a2]) | ((have a2 : t.how = 5 := by omega); rw [a2]) | ((have a2 : t.how = 6 := by omega); rw [a2]))
    rfl
   ·have ke4 := e4
    refine .p .no rfl (.ixve (q := 2) rfl rfl e4 ar_232 s_4 (by decide) (by rfl)) ?_
    refine .z rfl rfl <| .nil <| sq_n <| .ret <| retQ_r (Le.refl _) (.tmp rfl .nil) rfl <| congrArg V.b ?_
    unfold isSoB lookI
    first
     | (have a1 : t.of = 1 := by omega); rw [a1]; (first | ((have a2 : t.how = 1 := by omega); rw [a2]) | ((have a2 : t.how = 2 := by omega); rw [a2]) | ((have a2 : t.how = 3 := by omega); rw [a2]) | ((have a2 : t.how = 4 := by omega); rw [a2]) | ((have a2 : t.how = 5 := by omega); rw [a2]) | ((have a2 : t.how = 6 := by omega); rw [a2]))
     | (have a1 : t.of = 2 := by omega); rw [a1]; (first | ((have a2 : t.how = 1 := by omega); rw [a2]) | ((have a2 : t.how = 2 := by omega); rw [a2]) | ((have a2 : t.how = 3 := by omega); rw [a2]) | ((have a2 : t.how = 4 := by omega); rw [a2]) | ((have a2 : t.how = 5 := by omega); rw [a2]) | ((have a2 : t.how = 6 := by omega); rw [a2]))
     | (have a1 : t.of = 3 := by omega); rw [a1]; (first | ((have a2 : t.how = 1 := by omega); rw [a2]) | ((have a2 : t.how = 2 := by omega); rw [a2]) | ((have a2 : t.how = 3 := by omega); rw [a2]) | ((have a2 : t.how = 4 := by omega); rw [a2]) | ((have a2 : t.how = 5 := by omega); rw [a2]) | ((have a2 : t.how = 6 := by omega); rw [a2]))
    rfl
   ·have ke4 := e4
    refine .p .no rfl (.ixve (q := 3) rfl rfl e4 ar_232 s_4 (by decide) (by rfl)) ?_
    refine .z rfl rfl <| .nil <| sq_n <| .ret <| retQ_r (Le.refl _) (.tmp rfl .nil) rfl <| congrArg V.b ?_
    unfold isSoB lookI
    first
     | (have a1 : t.of = 1 := by omega); rw [a1]; (first | ((have a2 : t.how = 1 := by omega); rw [a2]) | ((have a2 : t.how = 2 := by omega); rw [a2]) | ((have a2 : t.how = 3 := by omega); rw [a2]) | ((have a2 : t.how = 4 := by omega); rw [a2]) | ((have a2 : t.how = 5 := by omega); rw [a2]) | ((have a2 : t.how = 6 := by omega); rw [a2]))
     | (have a1 : t.of = 2 := by omega); rw [a1]; (first | ((have a2 : t.how = 1 := by omega); rw [a2]) | ((have a2 : t.how = 2 := by omega); rw [a2]) | ((have a2 : t.how = 3 := by omega); rw [a2]) | ((have a2 : t.how = 4 := by omega); rw [a2]) | ((have a2 : t.how = 5 := by omega); rw [a2]) | ((have a2 : t.how = 6 := by omega); rw [a2]))
     | (have a1 : t.of = 3 := by omega); rw [a1]; (first | ((have a2 : t.how = 1 := by omega); rw [a2]) | ((have a2 : t.how = 2 := by omega); rw [a2]) | ((have a2 : t.how = 3 := by omega); rw [a2]) | ((have a2 : t.how = 4 := by omega); rw [a2]) | ((have a2 : t.how = 5 := by omega); rw [a2]) | ((have a2 : t.how = 6 := by omega); rw [a2]))
    rfl
   ·have ke4 := e4
    refine .p .no rfl (.ixve (q := 4) rfl rfl e4 ar_232 s_4 (by decide) (by rfl)) ?_
    refine .z rfl rfl <| .nil <| sq_n <| .ret <| retQ_r (Le.refl _) (.tmp rfl .nil) rfl <| congrArg V.b ?_
    unfold isSoB lookI
    first
     | (have a1 : t.of = 1 := by omega); rw [a1]; (first | ((have a2 : t.how = 1 := by omega); rw [a2]) | ((have a2 : t.how = 2 := by omega); rw [a2]) | ((have a2 : t.how = 3 := by omega); rw [a2]) | ((have a2 : t.how = 4 := by omega); rw [a2]) | ((have a2 : t.how = 5 := by omega); rw [a2]) | ((have a2 : t.how = 6 := by omega); rw [a2]))
     | (have a1 : t.of = 2 := by omega); rw [a1]; (first | ((have a2 : t.how = 1 := by omega); rw [a2]) | ((have a2 : t.how = 2 := by omega); rw [a2]) | ((have a2 : t.how = 3 := by omega); rw [a2]) | ((have a2 : t.how = 4 := by omega); rw [a2]) | ((have a2 : t.how = 5 := by omega); rw [a2]) | ((have a2 : t.how = 6 := by omega); rw [a2]))
     | (have a1 : t.of = 3 := by omega); rw [a1]; (first | ((have a2 : t.how = 1 := by omega); rw [a2]) | ((have a2 : t.how = 2 := by omega); rw [a2]) | ((have a2 : t.how = 3 := by omega); rw [a2]) | ((have a2 : t.how = 4 := by omega); rw [a2]) | ((have a2 : t.how = 5 := by omega); rw [a2]) | ((have a2 : t.how = 6 := by omega); rw [a2]))
    rfl
   ·have ke4 := e4
    refine .p .no rfl (.ixve (q := 5) rfl rfl e4 ar_232 s_4 (by decide) (by rfl)) ?_
    refine .z rfl rfl <| .nil <| sq_n <| .ret <| retQ_r (Le.refl _) (.tmp rfl .nil) rfl <| congrArg V.b ?_
    unfold isSoB lookI
    first
     | (have a1 : t.of = 1 := by omega); rw [a1]; (first | ((have a2 : t.how = 1 := by omega); rw [a2]) | ((have a2 : t.how = 2 := by omega); rw [a2]) | ((have a2 : t.how = 3 := by omega); rw [a2]) | ((have a2 : t.how = 4 := by omega); rw [a2]) | ((have a2 : t.how = 5 := by omega); rw [a2]) | ((have a2 : t.how = 6 := by omega); rw [a2]))
     | (have a1 : t.of = 2 := by omega); rw [a1]; (first | ((have a2 : t.how = 1 := by omega); rw [a2]) | ((have a2 : t.how = 2 := by omega); rw [a2]) | ((have a2 : t.how = 3 := by omega); rw [a2]) | ((have a2 : t.how = 4 := by omega); rw [a2]) | ((have a2 : t.how = 5 := by omega); rw [a2]) | ((have a2 : t.how = 6 := by omega); rw [a2]))
     | (have a1 : t.of = 3 := by omega); rw [a1]; (first | ((have a2 : t.how = 1 := by omega); rw [a2]) | ((have a2 : t.how = 2 := by omega); rw [a2]) | ((have a2 : t.how = 3 := by omega); rw [a2]) | ((have a2 : t.how = 4 := by omega); rw [a2]) | ((have a2 : t.how = 5 := by omega); rw [a2]) | ((have a2 : t.how = 6 := by omega); rw [a2]))
    rfl
  ·have ke3 := e3
   refine .p .no rfl (.ixve (q := 1) rfl rfl e3 ar_231 s_229 (by decide) (by rfl)) rfl rfl rfl ?_
   refine .y rfl rfl rfl (.a (vs := [_, _, _, _, _, _]) rfl .hd a_29 s_29 rfl rfl) <| .callV .no rfl rfl rfl rfl rfl (opening_ok _ _) <| .z rfl rfl <| .nil <| sq_n <| .seq <| .region rfl <| .m rfl rfl <| .p .no rfl (.fa rfl f_172_2) <| .ld .no rfl (.s rfl (.tl .hd) a_3 rfl) <| .b rfl rfl rfl rfl <| .m rfl rfl <| .p .no rfl (.fa rfl f_172_2) <| .ld .no rfl (.s rfl (.tl .hd) a_3 rfl) <| .b rfl rfl rfl rfl <| .m rfl rfl <| .p .no rfl (.fa rfl f_172_2) <| .ld .no rfl (.s rfl (.tl .hd) a_3 rfl) <| .b rfl rfl rfl rfl <| .m rfl rfl <| .p .no rfl (.fa rfl f_172_2) <| .ld .no rfl (.s rfl (.tl .hd) a_3 rfl) <| .b rfl rfl rfl rfl <| .m rfl rfl <| .p .no rfl (.fa rfl f_172_2) <| .ld .no rfl (.s rfl (.tl .hd) a_3 rfl) <| .b rfl rfl rfl rfl <| .m rfl rfl <| .p .no rfl (.fa rfl f_172_2) <| .ld .no rfl (.s rfl (.tl .hd) a_3 rfl) <| .b rfl rfl rfl rfl ?_
   refine .p .no rfl (.build (qs := [(0, _), (1, _), (2, _), (3, _), (4, _), (5, _)]) (cs := [_, _, _, _, _, _]) rfl b_232 rfl) <| .p .no rfl (.fa rfl f_172_1) <| .ld .no rfl (.s rfl (.tl .hd) a_3 rfl) <| .p .no rfl (.sub rfl rfl (by omega)) ?_
   rcases (case6 (how6 h2)) with e5 | e5 | e5 | e5 | e5 | e5
   ·have ke5 := e5
    refine .p .no rfl (.ixve (q := 0) rfl rfl e5 ar_232 s_4 (by decide) (by rfl)) ?_
    refine .z rfl rfl <| .nil <| sq_n <| .ret <| retQ_r (Le.refl _) (.tmp rfl .nil) rfl <| congrArg V.b ?_
    unfold isSoB lookI
    first
     | (have a1 : t.of = 1 := by omega); rw [a1]; (first | ((have a2 : t.how = 1 := by omega); rw [a2]) | ((have a2 : t.how = 2 := by omega); rw [a2]) | ((have a2 : t.how = 3 := by omega); rw [a2]) | ((have a2 : t.how = 4 := by omega); rw [a2]) | ((have a2 : t.how = 5 := by omega); rw [a2]) | ((have a2 : t.how = 6 := by omega); rw [a2]))
     | (have a1 : t.of = 2 := by omega); rw [a1]; (first | ((have a2 : t.how = 1 := by omega); rw [a2]) | ((have a2 : t.how = 2 := by omega); rw [a2]) | ((have a2 : t.how = 3 := by omega); rw [a2]) | ((have a2 : t.how = 4 := by omega); rw [a2]) | ((have a2 : t.how = 5 := by omega); rw [a2]) | ((have a2 : t.how = 6 := by omega); rw [a2]))
     | (have a1 : t.of = 3 := by omega); rw [a1]; (first | ((have a2 : t.how = 1 := by omega); rw [a2]) | ((have a2 : t.how = 2 := by omega); rw [a2]) | ((have a2 : t.how = 3 := by omega); rw [a2]) | ((have a2 : t.how = 4 := by omega); rw [a2]) | ((have a2 : t.how = 5 := by omega); rw [a2]) | ((have a2 : t.how = 6 := by omega); rw [a2]))
    rfl
   ·have ke5 := e5
    refine .p .no rfl (.ixve (q := 1) rfl rfl e5 ar_232 s_4 (by decide) (by rfl)) ?_
    refine .z rfl rfl <| .nil <| sq_n <| .ret <| retQ_r (Le.refl _) (.tmp rfl .nil) rfl <| congrArg V.b ?_
    unfold isSoB lookI
    first
     | (have a1 : t.of = 1 := by omega); rw [a1]; (first | ((have a2 : t.how = 1 := by omega); rw [a2]) | ((have a2 : t.how = 2 := by omega); rw [a2]) | ((have a2 : t.how = 3 := by omega); rw [a2]) | ((have a2 : t.how = 4 := by omega); rw [a2]) | ((have a2 : t.how = 5 := by omega); rw [a2]) | ((have a2 : t.how = 6 := by omega); rw [a2]))
     | (have a1 : t.of = 2 := by omega); rw [a1]; (first | ((have a2 : t.how = 1 := by omega); rw [a2]) | ((have a2 : t.how = 2 := by omega); rw [a2]) | ((have a2 : t.how = 3 := by omega); rw [a2]) | ((have a2 : t.how = 4 := by omega); rw [a2]) | ((have a2 : t.how = 5 := by omega); rw [a2]) | ((have a2 : t.how = 6 := by omega); rw [a2]))
     | (have a1 : t.of = 3 := by omega); rw [a1]; (first | ((have a2 : t.how = 1 := by omega); rw [a2]) | ((have a2 : t.how = 2 := by omega); rw [a2]) | ((have a2 : t.how = 3 := by omega); rw [a2]) | ((have a2 : t.how = 4 := by omega); rw [a2]) | ((have a2 : t.how = 5 := by omega); rw [a2]) | ((have a2 : t.how = 6 := by omega); rw [a2]))
    rfl
   ·have ke5 := e5
    refine .p .no rfl (.ixve (q := 2) rfl rfl e5 ar_232 s_4 (by decide) (by rfl)) ?_
    refine .z rfl rfl <| .nil <| sq_n <| .ret <| retQ_r (Le.refl _) (.tmp rfl .nil) rfl <| congrArg V.b ?_
    unfold isSoB lookI
    first
     | (have a1 : t.of = 1 := by omega); rw [a1]; (first | ((have a2 : t.how = 1 := by omega); rw [a2]) | ((have a2 : t.how = 2 := by omega); rw [a2]) | ((have a2 : t.how = 3 := by omega); rw [a2]) | ((have a2 : t.how = 4 := by omega); rw [a2]) | ((have a2 : t.how = 5 := by omega); rw [a2]) | ((have a2 : t.how = 6 := by omega); rw [a2]))
     | (have a1 : t.of = 2 := by omega); rw [a1]; (first | ((have a2 : t.how = 1 := by omega); rw [a2]) | ((have a2 : t.how = 2 := by omega); rw [a2]) | ((have a2 : t.how = 3 := by omega); rw [a2]) | ((have a2 : t.how = 4 := by omega); rw [a2]) | ((have a2 : t.how = 5 := by omega); rw [a2]) | ((have a2 : t.how = 6 := by omega); rw [a2]))
     | (have a1 : t.of = 3 := by omega); rw [a1]; (first | ((have a2 : t.how = 1 := by omega); rw [a2]) | ((have a2 : t.how = 2 := by omega); rw [a2]) | ((have a2 : t.how = 3 := by omega); rw [a2]) | ((have a2 : t.how = 4 := by omega); rw [a2]) | ((have a2 : t.how = 5 := by omega); rw [a2]) | ((have a2 : t.how = 6 := by omega); rw [a2]))
    rfl
   ·have ke5 := e5
    refine .p .no rfl (.ixve (q := 3) rfl rfl e5 ar_232 s_4 (by decide) (by rfl)) ?_
    refine .z rfl rfl <| .nil <| sq_n <| .ret <| retQ_r (Le.refl _) (.tmp rfl .nil) rfl <| congrArg V.b ?_
    unfold isSoB lookI
    first
     | (have a1 : t.of = 1 := by omega); rw [a1]; (first | ((have a2 : t.how = 1 := by omega); rw [a2]) | ((have a2 : t.how = 2 := by omega); rw [a2]) | ((have a2 : t.how = 3 := by omega); rw [a2]) | ((have a2 : t.how = 4 := by omega); rw [a2]) | ((have a2 : t.how = 5 := by omega); rw [a2]) | ((have a2 : t.how = 6 := by omega); rw [a2]))
     | (have a1 : t.of = 2 := by omega); rw [a1]; (first | ((have a2 : t.how = 1 := by omega); rw [a2]) | ((have a2 : t.how = 2 := by omega); rw [a2]) | ((have a2 : t.how = 3 := by omega); rw [a2]) | ((have a2 : t.how = 4 := by omega); rw [a2]) | ((have a2 : t.how = 5 := by omega); rw [a2]) | ((have a2 : t.how = 6 := by omega); rw [a2]))
     | (have a1 : t.of = 3 := by omega); rw [a1]; (first | ((have a2 : t.how = 1 := by omega); rw [a2]) | ((have a2 : t.how = 2 := by omega); rw [a2]) | ((have a2 : t.how = 3 := by omega); rw [a2]) | ((have a2 : t.how = 4 := by omega); rw [a2]) | ((have a2 : t.how = 5 := by omega); rw [a2]) | ((have a2 : t.how = 6 := by omega); rw [a2]))
    rfl
   ·have ke5 := e5
    refine .p .no rfl (.ixve (q := 4) rfl rfl e5 ar_232 s_4 (by decide) (by rfl)) ?_
    refine .z rfl rfl <| .nil <| sq_n <| .ret <| retQ_r (Le.refl _) (.tmp rfl .nil) rfl <| congrArg V.b ?_
    unfold isSoB lookI
    first
     | (have a1 : t.of = 1 := by omega); rw [a1]; (first | ((have a2 : t.how = 1 := by omega); rw [a2]) | ((have a2 : t.how = 2 := by omega); rw [a2]) | ((have a2 : t.how = 3 := by omega); rw [a2]) | ((have a2 : t.how = 4 := by omega); rw [a2]) | ((have a2 : t.how = 5 := by omega); rw [a2]) | ((have a2 : t.how = 6 := by omega); rw [a2]))
     | (have a1 : t.of = 2 := by omega); rw [a1]; (first | ((have a2 : t.how = 1 := by omega); rw [a2]) | ((have a2 : t.how = 2 := by omega); rw [a2]) | ((have a2 : t.how = 3 := by omega); rw [a2]) | ((have a2 : t.how = 4 := by omega); rw [a2]) | ((have a2 : t.how = 5 := by omega); rw [a2]) | ((have a2 : t.how = 6 := by omega); rw [a2]))
     | (have a1 : t.of = 3 := by omega); rw [a1]; (first | ((have a2 : t.how = 1 := by omega); rw [a2]) | ((have a2 : t.how = 2 := by omega); rw [a2]) | ((have a2 : t.how = 3 := by omega); rw [a2]) | ((have a2 : t.how = 4 := by omega); rw [a2]) | ((have a2 : t.how = 5 := by omega); rw [a2]) | ((have a2 : t.how = 6 := by omega); rw [a2]))
    rfl
   ·have ke5 := e5
    refine .p .no rfl (.ixve (q := 5) rfl rfl e5 ar_232 s_4 (by decide) (by rfl)) ?_
    refine .z rfl rfl <| .nil <| sq_n <| .ret <| retQ_r (Le.refl _) (.tmp rfl .nil) rfl <| congrArg V.b ?_
    unfold isSoB lookI
    first
     | (have a1 : t.of = 1 := by omega); rw [a1]; (first | ((have a2 : t.how = 1 := by omega); rw [a2]) | ((have a2 : t.how = 2 := by omega); rw [a2]) | ((have a2 : t.how = 3 := by omega); rw [a2]) | ((have a2 : t.how = 4 := by omega); rw [a2]) | ((have a2 : t.how = 5 := by omega); rw [a2]) | ((have a2 : t.how = 6 := by omega); rw [a2]))
     | (have a1 : t.of = 2 := by omega); rw [a1]; (first | ((have a2 : t.how = 1 := by omega); rw [a2]) | ((have a2 : t.how = 2 := by omega); rw [a2]) | ((have a2 : t.how = 3 := by omega); rw [a2]) | ((have a2 : t.how = 4 := by omega); rw [a2]) | ((have a2 : t.how = 5 := by omega); rw [a2]) | ((have a2 : t.how = 6 := by omega); rw [a2]))
     | (have a1 : t.of = 3 := by omega); rw [a1]; (first | ((have a2 : t.how = 1 := by omega); rw [a2]) | ((have a2 : t.how = 2 := by omega); rw [a2]) | ((have a2 : t.how = 3 := by omega); rw [a2]) | ((have a2 : t.how = 4 := by omega); rw [a2]) | ((have a2 : t.how = 5 := by omega); rw [a2]) | ((have a2 : t.how = 6 := by omega); rw [a2]))
    rfl
  ·have ke3 := e3
   refine .p .no rfl (.ixve (q := 2) rfl rfl e3 ar_231 s_229 (by decide) (by rfl)) rfl rfl rfl ?_
   refine .y rfl rfl rfl (.a (vs := [_, _, _, _, _, _]) rfl .hd a_29 s_29 rfl rfl) <| .callV .no rfl rfl rfl rfl rfl (crew_ok _ _) <| .z rfl rfl <| .nil <| sq_n <| .seq <| .region rfl <| .m rfl rfl <| .p .no rfl (.fa rfl f_172_2) <| .ld .no rfl (.s rfl (.tl .hd) a_3 rfl) <| .b rfl rfl rfl rfl <| .m rfl rfl <| .p .no rfl (.fa rfl f_172_2) <| .ld .no rfl (.s rfl (.tl .hd) a_3 rfl) <| .b rfl rfl rfl rfl <| .m rfl rfl <| .p .no rfl (.fa rfl f_172_2) <| .ld .no rfl (.s rfl (.tl .hd) a_3 rfl) <| .b rfl rfl rfl rfl <| .m rfl rfl <| .p .no rfl (.fa rfl f_172_2) <| .ld .no rfl (.s rfl (.tl .hd) a_3 rfl) <| .b rfl rfl rfl rfl <| .m rfl rfl <| .p .no rfl (.fa rfl f_172_2) <| .ld .no rfl (.s rfl (.tl .hd) a_3 rfl) <| .b rfl rfl rfl rfl <| .m rfl rfl <| .p .no rfl (.fa rfl f_172_2) <| .ld .no rfl (.s rfl (.tl .hd) a_3 rfl) <| .b rfl rfl rfl rfl ?_
   refine .p .no rfl (.build (qs := [(0, _), (1, _), (2, _), (3, _), (4, _), (5, _)]) (cs := [_, _, _, _, _, _]) rfl b_232 rfl) <| .p .no rfl (.fa rfl f_172_1) <| .ld .no rfl (.s rfl (.tl .hd) a_3 rfl) <| .p .no rfl (.sub rfl rfl (by omega)) ?_
   rcases (case6 (how6 h2)) with e6 | e6 | e6 | e6 | e6 | e6
   ·have ke6 := e6
    refine .p .no rfl (.ixve (q := 0) rfl rfl e6 ar_232 s_4 (by decide) (by rfl)) ?_
    refine .z rfl rfl <| .nil <| sq_n <| .ret <| retQ_r (Le.refl _) (.tmp rfl .nil) rfl <| congrArg V.b ?_
    unfold isSoB lookI
    first
     | (have a1 : t.of = 1 := by omega); rw [a1]; (first | ((have a2 : t.how = 1 := by omega); rw [a2]) | ((have a2 : t.how = 2 := by omega); rw [a2]) | ((have a2 : t.how = 3 := by omega); rw [a2]) | ((have a2 : t.how = 4 := by omega); rw [a2]) | ((have a2 : t.how = 5 := by omega); rw [a2]) | ((have a2 : t.how = 6 := by omega); rw [a2]))
     | (have a1 : t.of = 2 := by omega); rw [a1]; (first | ((have a2 : t.how = 1 := by omega); rw [a2]) | ((have a2 : t.how = 2 := by omega); rw [a2]) | ((have a2 : t.how = 3 := by omega); rw [a2]) | ((have a2 : t.how = 4 := by omega); rw [a2]) | ((have a2 : t.how = 5 := by omega); rw [a2]) | ((have a2 : t.how = 6 := by omega); rw [a2]))
     | (have a1 : t.of = 3 := by omega); rw [a1]; (first | ((have a2 : t.how = 1 := by omega); rw [a2]) | ((have a2 : t.how = 2 := by omega); rw [a2]) | ((have a2 : t.how = 3 := by omega); rw [a2]) | ((have a2 : t.how = 4 := by omega); rw [a2]) | ((have a2 : t.how = 5 := by omega); rw [a2]) | ((have a2 : t.how = 6 := by omega); rw [a2]))
    rfl
   ·have ke6 := e6
    refine .p .no rfl (.ixve (q := 1) rfl rfl e6 ar_232 s_4 (by decide) (by rfl)) ?_
    refine .z rfl rfl <| .nil <| sq_n <| .ret <| retQ_r (Le.refl _) (.tmp rfl .nil) rfl <| congrArg V.b ?_
    unfold isSoB lookI
    first
     | (have a1 : t.of = 1 := by omega); rw [a1]; (first | ((have a2 : t.how = 1 := by omega); rw [a2]) | ((have a2 : t.how = 2 := by omega); rw [a2]) | ((have a2 : t.how = 3 := by omega); rw [a2]) | ((have a2 : t.how = 4 := by omega); rw [a2]) | ((have a2 : t.how = 5 := by omega); rw [a2]) | ((have a2 : t.how = 6 := by omega); rw [a2]))
     | (have a1 : t.of = 2 := by omega); rw [a1]; (first | ((have a2 : t.how = 1 := by omega); rw [a2]) | ((have a2 : t.how = 2 := by omega); rw [a2]) | ((have a2 : t.how = 3 := by omega); rw [a2]) | ((have a2 : t.how = 4 := by omega); rw [a2]) | ((have a2 : t.how = 5 := by omega); rw [a2]) | ((have a2 : t.how = 6 := by omega); rw [a2]))
     | (have a1 : t.of = 3 := by omega); rw [a1]; (first | ((have a2 : t.how = 1 := by omega); rw [a2]) | ((have a2 : t.how = 2 := by omega); rw [a2]) | ((have a2 : t.how = 3 := by omega); rw [a2]) | ((have a2 : t.how = 4 := by omega); rw [a2]) | ((have a2 : t.how = 5 := by omega); rw [a2]) | ((have a2 : t.how = 6 := by omega); rw [a2]))
    rfl
   ·have ke6 := e6
    refine .p .no rfl (.ixve (q := 2) rfl rfl e6 ar_232 s_4 (by decide) (by rfl)) ?_
    refine .z rfl rfl <| .nil <| sq_n <| .ret <| retQ_r (Le.refl _) (.tmp rfl .nil) rfl <| congrArg V.b ?_
    unfold isSoB lookI
    first
     | (have a1 : t.of = 1 := by omega); rw [a1]; (first | ((have a2 : t.how = 1 := by omega); rw [a2]) | ((have a2 : t.how = 2 := by omega); rw [a2]) | ((have a2 : t.how = 3 := by omega); rw [a2]) | ((have a2 : t.how = 4 := by omega); rw [a2]) | ((have a2 : t.how = 5 := by omega); rw [a2]) | ((have a2 : t.how = 6 := by omega); rw [a2]))
     | (have a1 : t.of = 2 := by omega); rw [a1]; (first | ((have a2 : t.how = 1 := by omega); rw [a2]) | ((have a2 : t.how = 2 := by omega); rw [a2]) | ((have a2 : t.how = 3 := by omega); rw [a2]) | ((have a2 : t.how = 4 := by omega); rw [a2]) | ((have a2 : t.how = 5 := by omega); rw [a2]) | ((have a2 : t.how = 6 := by omega); rw [a2]))
     | (have a1 : t.of = 3 := by omega); rw [a1]; (first | ((have a2 : t.how = 1 := by omega); rw [a2]) | ((have a2 : t.how = 2 := by omega); rw [a2]) | ((have a2 : t.how = 3 := by omega); rw [a2]) | ((have a2 : t.how = 4 := by omega); rw [a2]) | ((have a2 : t.how = 5 := by omega); rw [a2]) | ((have a2 : t.how = 6 := by omega); rw [a2]))
    rfl
   ·have ke6 := e6
    refine .p .no rfl (.ixve (q := 3) rfl rfl e6 ar_232 s_4 (by decide) (by rfl)) ?_
    refine .z rfl rfl <| .nil <| sq_n <| .ret <| retQ_r (Le.refl _) (.tmp rfl .nil) rfl <| congrArg V.b ?_
    unfold isSoB lookI
    first
     | (have a1 : t.of = 1 := by omega); rw [a1]; (first | ((have a2 : t.how = 1 := by omega); rw [a2]) | ((have a2 : t.how = 2 := by omega); rw [a2]) | ((have a2 : t.how = 3 := by omega); rw [a2]) | ((have a2 : t.how = 4 := by omega); rw [a2]) | ((have a2 : t.how = 5 := by omega); rw [a2]) | ((have a2 : t.how = 6 := by omega); rw [a2]))
     | (have a1 : t.of = 2 := by omega); rw [a1]; (first | ((have a2 : t.how = 1 := by omega); rw [a2]) | ((have a2 : t.how = 2 := by omega); rw [a2]) | ((have a2 : t.how = 3 := by omega); rw [a2]) | ((have a2 : t.how = 4 := by omega); rw [a2]) | ((have a2 : t.how = 5 := by omega); rw [a2]) | ((have a2 : t.how = 6 := by omega); rw [a2]))
     | (have a1 : t.of = 3 := by omega); rw [a1]; (first | ((have a2 : t.how = 1 := by omega); rw [a2]) | ((have a2 : t.how = 2 := by omega); rw [a2]) | ((have a2 : t.how = 3 := by omega); rw [a2]) | ((have a2 : t.how = 4 := by omega); rw [a2]) | ((have a2 : t.how = 5 := by omega); rw [a2]) | ((have a2 : t.how = 6 := by omega); rw [a2]))
    rfl
   ·have ke6 := e6
    refine .p .no rfl (.ixve (q := 4) rfl rfl e6 ar_232 s_4 (by decide) (by rfl)) ?_
    refine .z rfl rfl <| .nil <| sq_n <| .ret <| retQ_r (Le.refl _) (.tmp rfl .nil) rfl <| congrArg V.b ?_
    unfold isSoB lookI
    first
     | (have a1 : t.of = 1 := by omega); rw [a1]; (first | ((have a2 : t.how = 1 := by omega); rw [a2]) | ((have a2 : t.how = 2 := by omega); rw [a2]) | ((have a2 : t.how = 3 := by omega); rw [a2]) | ((have a2 : t.how = 4 := by omega); rw [a2]) | ((have a2 : t.how = 5 := by omega); rw [a2]) | ((have a2 : t.how = 6 := by omega); rw [a2]))
     | (have a1 : t.of = 2 := by omega); rw [a1]; (first | ((have a2 : t.how = 1 := by omega); rw [a2]) | ((have a2 : t.how = 2 := by omega); rw [a2]) | ((have a2 : t.how = 3 := by omega); rw [a2]) | ((have a2 : t.how = 4 := by omega); rw [a2]) | ((have a2 : t.how = 5 := by omega); rw [a2]) | ((have a2 : t.how = 6 := by omega); rw [a2]))
     | (have a1 : t.of = 3 := by omega); rw [a1]; (first | ((have a2 : t.how = 1 := by omega); rw [a2]) | ((have a2 : t.how = 2 := by omega); rw [a2]) | ((have a2 : t.how = 3 := by omega); rw [a2]) | ((have a2 : t.how = 4 := by omega); rw [a2]) | ((have a2 : t.how = 5 := by omega); rw [a2]) | ((have a2 : t.how = 6 := by omega); rw [a2]))
    rfl
   ·have ke6 := e6
    refine .p .no rfl (.ixve (q := 5) rfl rfl e6 ar_232 s_4 (by decide) (by rfl)) ?_
    refine .z rfl rfl <| .nil <| sq_n <| .ret <| retQ_r (Le.refl _) (.tmp rfl .nil) rfl <| congrArg V.b ?_
    unfold isSoB lookI
    first
     | (have a1 : t.of = 1 := by omega); rw [a1]; (first | ((have a2 : t.how = 1 := by omega); rw [a2]) | ((have a2 : t.how = 2 := by omega); rw [a2]) | ((have a2 : t.how = 3 := by omega); rw [a2]) | ((have a2 : t.how = 4 := by omega); rw [a2]) | ((have a2 : t.how = 5 := by omega); rw [a2]) | ((have a2 : t.how = 6 := by omega); rw [a2]))
     | (have a1 : t.of = 2 := by omega); rw [a1]; (first | ((have a2 : t.how = 1 := by omega); rw [a2]) | ((have a2 : t.how = 2 := by omega); rw [a2]) | ((have a2 : t.how = 3 := by omega); rw [a2]) | ((have a2 : t.how = 4 := by omega); rw [a2]) | ((have a2 : t.how = 5 := by omega); rw [a2]) | ((have a2 : t.how = 6 := by omega); rw [a2]))
     | (have a1 : t.of = 3 := by omega); rw [a1]; (first | ((have a2 : t.how = 1 := by omega); rw [a2]) | ((have a2 : t.how = 2 := by omega); rw [a2]) | ((have a2 : t.how = 3 := by omega); rw [a2]) | ((have a2 : t.how = 4 := by omega); rw [a2]) | ((have a2 : t.how = 5 := by omega); rw [a2]) | ((have a2 : t.how = 6 := by omega); rw [a2]))
    rfl
--REG c.isSo V (isSo_ok _ _ _ HT)
theorem test_ok {v : Version} {k j : Nat} {p : Put} {t : Test} (hv : v.puts.all Put.ok = true) (h1 : v.puts[k]? = some p) (h2 : p.tests[j]? = some t) : t.ok = true := by
  have a := List.all_eq_true.1 hv p (List.mem_of_getElem? h1)
  unfold Put.ok at a
  simp only [Bool.and_eq_true] at a
  exact List.all_eq_true.1 a.2.2 t (List.mem_of_getElem? h2)
/-- the group and the put into which a room falls. -/
def grpF (r : Room) : List Put → Nat → Int × Int
  | [], _ => (0, -1)
  | p :: l, k => if p.tests.all (isSoB · r) = true then (p.group, (k : Int)) else grpF r l (k + 1)
def grp (v : Version) (r : Room) : Int × Int := grpF r v.puts 0
theorem mat_no {r : Room} {l : List Test} {j : Nat} {t : Test} (h : l[j]? = some t) (hp : isSoB t r = false) : ¬ l.all (isSoB · r) = true := by
  intro hl
  have := List.all_eq_true.1 hl t (List.mem_of_getElem? h)
  exact absurd (hp.symm.trans this) (by decide)
theorem group_ok (v : Version) (r : Room) (cs : List V) (g : G) (h : VersionR g cs v) (hv : v.puts.all Put.ok = true) : Fv Tryz.prog natS (.f 100 [] []) [.agg cs, .agg r.v] g (.tup [.i .i64 (grp v r).1, .i .i64 (grp v r).2]) := by
  obtain ⟨p, lv, rfl, hp, hl⟩ := h
  refine Fw.fv ?_
  have hlen := hp.1
  refine Fw.enter (N := 34) (al := [(1, _), (0, _)]) Tryz.func100 (by kernel_rfl) (by kernel_rfl) rfl rfl rfl rfl ?_
  intro B
  refine .seq <| .region rfl <| .box .no rfl rfl rfl rfl fun b1 => .box .no rfl rfl rfl rfl fun b2 => .z rfl rfl <| .z rfl rfl <| .nil <| sq_n <| .scope <| .seq <| .label <| sq_n <| .seq <| .seq <| .region rfl <| .p .no rfl (.fa rfl f_97_1) <| .ld .no rfl (.s rfl (.tl .hd) a_92 rfl) <| .p .no rfl (.lenR rfl rfl rfl e_92 hp) <| .m rfl rfl <| .nil <| sq_n <| .block <| .loopx (α := Nat) [(3, _), (11, _), (12, _)] _ (fun fx k => (13, .i .i64 (k : Int)) :: fx) (fun mx _ => mx) (fun k g' => k ≤ v.puts.length ∧ grpF r (v.puts.drop k) k = grp v r) (fun k => v.puts.length - k) (0) ⟨rfl, rfl, rfl, rfl, trivial⟩ (List.Sublist.refl _) ⟨by omega, rfl⟩ ?_
  intro k g4 hle3 hJ
  obtain ⟨hk, hg⟩ := hJ
  replace hp := hp.mono PutR.mono hle3
  replace hl := fun k hk => (hl k hk).mono PieceR.mono hle3
  refine .seq <| .region rfl <| .b rfl rfl rfl rfl <| .nil <| sq_n <| .seq <| .cond rfl (fun h5 => ?_) (fun h5 => ?_)
  ·have kh5 := h5; (try simp only [bk] at kh5)
   refine .skip <| sq_n <| .seq <| .block <| .seq <| .region rfl <| .m rfl rfl <| .ixn .no rfl rfl hp rfl e_92 (by omega) ?_
   intro b6 o6 cs6 y6 hy6 hq6 hr6
   obtain ⟨v6, rfl, ht6⟩ := hr6
   refine .ld .no rfl (.pa 0 (vs := [_, _]) rfl hq6 rfl a_170 s_170 rfl rfl) <| .alloc .no rfl z_170 fun b7 => .z rfl rfl <| .st (cs' := [_, _]) .no rfl rfl rfl rfl s_170 rfl rfl .hd rfl (allOne_cons rfl (allOne_cons ht6.one rfl)) <| .nil <| sq_n <| .seq <| .seq <| .region rfl <| .p .no rfl (.fa rfl f_170_1) <| .ld .no rfl (.s rfl .hd a_168 rfl) <| .p .no rfl (.lenR rfl rfl rfl e_168 ht6) <| .m rfl rfl <| .nil <| sq_n <| .block <| .loopx (α := Nat) [(3, _), (6, _), (7, _), (11, _), (12, _), (13, _), (19, _), (20, _)] _ (fun fx j => (21, .i .i64 (j : Int)) :: fx) (fun mx _ => mx) (fun j g' => j ≤ y6.tests.length ∧ (y6.tests.drop j).all (isSoB · r) = y6.tests.all (isSoB · r)) (fun j => y6.tests.length - j) (0) ⟨rfl, rfl, rfl, rfl, rfl, rfl, rfl, rfl, rfl, trivial⟩ (List.Sublist.refl _) ⟨by omega, rfl⟩ ?_
   intro j g9 hle8 hJ
   obtain ⟨hj, hf⟩ := hJ
   replace hp := hp.mono PutR.mono hle8
   replace hl := fun k hk => (hl k hk).mono PieceR.mono hle8
   replace hq6 := hq6.mono hle8
   replace ht6 := ht6.mono TestR.mono hle8
   have hlen6 := ht6.1
   refine .seq <| .region rfl <| .b rfl rfl rfl rfl <| .nil <| sq_n <| .seq <| .cond rfl (fun h10 => ?_) (fun h10 => ?_)
   ·have kh10 := h10; (try simp only [bk] at kh10)
    refine .skip <| sq_n <| .seq <| .block <| .seq <| .region rfl <| .ixn .no rfl rfl ht6 rfl e_168 (by omega) ?_
    intro b11 o11 cs11 y11 hy11 hq11 hr11
    obtain rfl := hr11
    refine .ld .no rfl (.pa 0 (vs := [_, _, _]) rfl hq11 rfl a_172 s_172 rfl rfl) <| .alloc .no rfl z_172 fun b12 => .st (cs' := [_, _, _]) .no rfl rfl rfl rfl s_172 rfl rfl .hd rfl rfl <| .nil <| sq_n <| .seq <| .region rfl <| .ld .no rfl (.a (vs := [_, _, _]) rfl .hd a_172 s_172 rfl rfl) <| .ld .no rfl (.a (vs := [_, _, _, _, _, _]) rfl (.tl (.tl .hd)) a_29 s_29 rfl rfl) <| .callV .no rfl rfl rfl (isSo_ok _ _ _ (test_ok hv ‹_› ‹_›)) <| .p .no rfl (.not rfl) <| .nil <| sq_n <| .cond rfl (fun h13 => ?_) (fun h13 => ?_)
    ·have kh13 := h13; (try simp only [bk] at kh13)
     refine .exit <| bq_e rfl <| sq_e <| lq_e <| bq_e rfl <| sq_e <| bq_x rfl <| sq_n <| .region rfl <| .p .no rfl (.inc1 rfl rfl (by omega)) <| .m rfl rfl <| .nil <| loopQ_n (k + 1) ⟨rfl, rfl, rfl, rfl, trivial⟩ (.cons _ (.cons _ (List.Sublist.refl _))) hle8 ?_ ?_
     ·refine ⟨by omega, ?_⟩; rw [← hg, dc (k := k) ‹_›]; simp only [grpF]; rw [if_neg (mat_no ‹y6.tests[j]? = _› ‹_›)]
     ·omega
    ·have kh13 := h13; (try simp only [bk] at kh13)
     refine .skip <| bq_n <| sq_n <| .region rfl <| .p .no rfl (.inc1 rfl rfl (by omega)) <| .m rfl rfl <| .nil <| loopQ_n (j + 1) ⟨rfl, rfl, rfl, rfl, rfl, rfl, rfl, rfl, rfl, trivial⟩ (.cons _ (List.Sublist.refl _)) (Le.refl _) ?_ ?_
     ·refine ⟨by omega, ?_⟩; rw [← hf, dc (k := j) ‹_›]; simp only [List.all_cons, *, Bool.true_and]
     ·omega
   ·have kh10 := h10; (try simp only [bk] at kh10)
    refine .exit <| sq_e <| lq_e <| bq_x rfl <| sq_n <| .seq <| .region rfl <| .p .no rfl (.fa rfl f_170_0) <| .ld .no rfl (.s rfl .hd a_3 rfl) <| .m rfl rfl <| .z rfl rfl <| .z rfl rfl <| .nil <| sq_n <| .ret <| bq_r <| sq_r <| lq_r <| bq_r <| sq_r <| retQ_r (hle3.trans hle8) (.tmp rfl (.tmp rfl .nil)) rfl ?_
    first | (rw [← hg, dc (k := k) ‹_›]; simp only [grpF]; rw [if_pos (by rw [← hf, dn (by omega)]; rfl)]) | (rw [← hg, dn (by omega)]; rfl)
  ·have kh5 := h5; (try simp only [bk] at kh5)
   refine .exit <| sq_e <| lq_e <| bq_x rfl <| sq_n <| .seq <| .region rfl <| .z rfl rfl <| .z rfl rfl <| .nil <| sq_n <| .ret <| retQ_r hle3 (.tmp rfl (.tmp rfl .nil)) rfl ?_
   first | (rw [← hg, dc (k := k) ‹_›]; simp only [grpF]; rw [if_pos (by rw [← hf, dn (by omega)]; rfl)]) | (rw [← hg, dn (by omega)]; rfl)
--REG c.group {'mode':'V','term':'(group_ok _ _ _ _ {0} hv)','val':lambda s,n:V('tup',vals=[V('int'),V('int')])}
end Go.Proofs.YtjflgemfeofciaaGreatDoor
