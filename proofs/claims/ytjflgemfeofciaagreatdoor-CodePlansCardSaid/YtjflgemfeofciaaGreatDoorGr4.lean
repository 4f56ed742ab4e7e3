import Derived.Test.YtjflgemfeofciaaGreatDoorMY3
namespace Go.Proofs.YtjflgemfeofciaaGreatDoor
open Go Go.Ev
set_option linter.unusedVariables false
set_option linter.unusedSimpArgs false
set_option maxRecDepth 10000
def lookI (t:Test) (r:Room):Int:=if t.of=2 then r.op else if t.of=3 then r.cr else r.kind
def isSoB (t:Test) (r:Room):Bool:=if t.how=1 then decide (lookI t r < t.num) else if t.how=2 then decide (lookI t r≤t.num) else if t.how=3 then decide (lookI t r=t.num) else if t.how=4 then !decide (lookI t r=t.num) else if t.how=5 then decide (t.num≤lookI t r) else decide (t.num < lookI t r)
theorem kind_ok (r:Room) (g:G):Fv Tryz.prog natS (.f 167 [] []) [.agg r.v] g (.i .i64 r.kind):=by
 refine Fw.fv ?_
 refine Fw.enter (N:=5) (al:=[(0,_)]) Tryz.func167 (by kernel_rfl) (by kernel_rfl) rfl rfl rfl rfl ?_
 intro B
 refine .seq<|.region rfl<|.box .no rfl rfl rfl rfl fun b1=>.z rfl rfl<|.nil<|sq_n<|.seq<|.region rfl<|.q (.fa rfl f_230_1)<|.w (.s rfl .hd a_3 rfl)<|.z rfl rfl<|.nil<|sq_n<|.ret<|Qaa (Le.refl _) (.tmp rfl .nil) rfl ?_
 rfl
theorem opening_ok (r:Room) (g:G):Fv Tryz.prog natS (.f 168 [] []) [.agg r.v] g (.i .i64 r.op):=by
 refine Fw.fv ?_
 refine Fw.enter (N:=5) (al:=[(0,_)]) Tryz.func168 (by kernel_rfl) (by kernel_rfl) rfl rfl rfl rfl ?_
 intro B
 refine .seq<|.region rfl<|.box .no rfl rfl rfl rfl fun b1=>.z rfl rfl<|.nil<|sq_n<|.seq<|.region rfl<|.q (.fa rfl f_230_2)<|.w (.s rfl .hd a_3 rfl)<|.z rfl rfl<|.nil<|sq_n<|.ret<|Qaa (Le.refl _) (.tmp rfl .nil) rfl ?_
 rfl
theorem crew_ok (r:Room) (g:G):Fv Tryz.prog natS (.f 169 [] []) [.agg r.v] g (.i .i64 r.cr):=by
 refine Fw.fv ?_
 refine Fw.enter (N:=5) (al:=[(0,_)]) Tryz.func169 (by kernel_rfl) (by kernel_rfl) rfl rfl rfl rfl ?_
 intro B
 refine .seq<|.region rfl<|.box .no rfl rfl rfl rfl fun b1=>.z rfl rfl<|.nil<|sq_n<|.seq<|.region rfl<|.q (.fa rfl f_230_3)<|.w (.s rfl .hd a_3 rfl)<|.z rfl rfl<|.nil<|sq_n<|.ret<|Qaa (Le.refl _) (.tmp rfl .nil) rfl ?_
 rfl
theorem test_bd {t:Test} (h:t.ok=true):(1≤t.of∧t.of≤3)∧1≤t.how∧t.how≤6:=by
 unfold Test.ok Qae at h
 simp only [Bool.and_eq_true,decide_eq_true_eq] at h
 omega
theorem of3 {n:Int} (h:1≤n∧n≤3):0≤n - 1∧n - 1 < 3:=by omega
theorem how6 {n:Int} (h:1≤n∧n≤6):0≤n - 1∧n - 1 < 6:=by omega
theorem isSo_ok (t:Test) (r:Room) (g:G) (ht:t.ok=true):Fv Tryz.prog natS (.f 141 [] []) [.agg t.v,.agg r.v] g (.b (isSoB t r)):=by
 refine Fw.fv ?_
 obtain ⟨h1,h2⟩:=test_bd ht
 refine Fw.enter (N:=42) (al:=[(1,_),(0,_)]) Tryz.func141 (by kernel_rfl) (by kernel_rfl) rfl rfl rfl rfl ?_
 intro B
 refine .seq<|.region rfl<|.box .no rfl rfl rfl rfl fun b1=>.box .no rfl rfl rfl rfl fun b2=>.z rfl rfl<|.nil<|sq_n<|.seq<|.draw (tb:=[r0 0 0,r0 0 0,r0 2 0,r0 6 0,r0 15 0,r0 0 0,r1 63 0,r1 127 1]) rfl (by kernel_rfl) (by kernel_rfl) fun k0=>?_
 refine .q (.build (qs:=[(0,_),(1,_),(2,_)]) (cs:=[_,_,_]) rfl b_231 rfl)<|.q (.fa rfl f_172_0)<|.y rfl rfl rfl (.s rfl (.tl .hd) a_3 rfl)<|.q (.sub rfl rfl (by omega)) ?_
 rcases (case3 (of3 h1)) with e3 | e3 | e3
 ·have ke3:=e3
  refine .q (.ixve (q:=0) rfl rfl e3 ar_231 s_229 (by decide) (by rfl)) ?_
  refine .y rfl rfl rfl (.a (vs:=[_,_,_,_,_,_]) rfl .hd a_29 s_29 rfl rfl)<|.callV .no rfl rfl rfl rfl rfl (kind_ok _ _)<|.z rfl rfl<|.nil<|sq_n<|.seq<|.region rfl<|.m rfl rfl<|.q (.fa rfl Qag)<|.w (.s rfl (.tl .hd) a_3 rfl)<|.b rfl rfl rfl rfl<|.m rfl rfl<|.q (.fa rfl Qag)<|.w (.s rfl (.tl .hd) a_3 rfl)<|.b rfl rfl rfl rfl<|.m rfl rfl<|.q (.fa rfl Qag)<|.w (.s rfl (.tl .hd) a_3 rfl)<|.b rfl rfl rfl rfl<|.m rfl rfl<|.q (.fa rfl Qag)<|.w (.s rfl (.tl .hd) a_3 rfl)<|.b rfl rfl rfl rfl<|.m rfl rfl<|.q (.fa rfl Qag)<|.w (.s rfl (.tl .hd) a_3 rfl)<|.b rfl rfl rfl rfl<|.m rfl rfl<|.q (.fa rfl Qag)<|.w (.s rfl (.tl .hd) a_3 rfl)<|.b rfl rfl rfl rfl ?_
  refine .q (.build (qs:=[(0,_),(1,_),(2,_),(3,_),(4,_),(5,_)]) (cs:=[_,_,_,_,_,_]) rfl b_232 rfl)<|.q (.fa rfl Qdw)<|.w (.s rfl (.tl .hd) a_3 rfl)<|.q (.sub rfl rfl (by omega)) ?_
  rcases (case6 (how6 h2)) with e4 | e4 | e4 | e4 | e4 | e4
  ·have ke4:=e4
   refine .q (.ixve (q:=0) rfl rfl e4 Qco s_4 (by decide) (by rfl)) ?_
   refine .z rfl rfl<|.nil<|sq_n<|.ret<|Qaa (Le.refl _) (.tmp rfl .nil) rfl<|congrArg V.b ?_
   unfold isSoB lookI
   (first | rw [show t.of=1 by omega] | rw [show t.of=2 by omega] | rw [show t.of=3 by omega]);(first | rw [show t.how=1 by omega] | rw [show t.how=2 by omega] | rw [show t.how=3 by omega] | rw [show t.how=4 by omega] | rw [show t.how=5 by omega] | rw [show t.how=6 by omega])
   rfl
  ·have ke4:=e4
   refine .q (.ixve (q:=1) rfl rfl e4 Qco s_4 (by decide) (by rfl)) ?_
   refine .z rfl rfl<|.nil<|sq_n<|.ret<|Qaa (Le.refl _) (.tmp rfl .nil) rfl<|congrArg V.b ?_
   unfold isSoB lookI
   (first | rw [show t.of=1 by omega] | rw [show t.of=2 by omega] | rw [show t.of=3 by omega]);(first | rw [show t.how=1 by omega] | rw [show t.how=2 by omega] | rw [show t.how=3 by omega] | rw [show t.how=4 by omega] | rw [show t.how=5 by omega] | rw [show t.how=6 by omega])
   rfl
  ·have ke4:=e4
   refine .q (.ixve (q:=2) rfl rfl e4 Qco s_4 (by decide) (by rfl)) ?_
   refine .z rfl rfl<|.nil<|sq_n<|.ret<|Qaa (Le.refl _) (.tmp rfl .nil) rfl<|congrArg V.b ?_
   unfold isSoB lookI
   (first | rw [show t.of=1 by omega] | rw [show t.of=2 by omega] | rw [show t.of=3 by omega]);(first | rw [show t.how=1 by omega] | rw [show t.how=2 by omega] | rw [show t.how=3 by omega] | rw [show t.how=4 by omega] | rw [show t.how=5 by omega] | rw [show t.how=6 by omega])
   rfl
  ·have ke4:=e4
   refine .q (.ixve (q:=3) rfl rfl e4 Qco s_4 (by decide) (by rfl)) ?_
   refine .z rfl rfl<|.nil<|sq_n<|.ret<|Qaa (Le.refl _) (.tmp rfl .nil) rfl<|congrArg V.b ?_
   unfold isSoB lookI
   (first | rw [show t.of=1 by omega] | rw [show t.of=2 by omega] | rw [show t.of=3 by omega]);(first | rw [show t.how=1 by omega] | rw [show t.how=2 by omega] | rw [show t.how=3 by omega] | rw [show t.how=4 by omega] | rw [show t.how=5 by omega] | rw [show t.how=6 by omega])
   rfl
  ·have ke4:=e4
   refine .q (.ixve (q:=4) rfl rfl e4 Qco s_4 (by decide) (by rfl)) ?_
   refine .z rfl rfl<|.nil<|sq_n<|.ret<|Qaa (Le.refl _) (.tmp rfl .nil) rfl<|congrArg V.b ?_
   unfold isSoB lookI
   (first | rw [show t.of=1 by omega] | rw [show t.of=2 by omega] | rw [show t.of=3 by omega]);(first | rw [show t.how=1 by omega] | rw [show t.how=2 by omega] | rw [show t.how=3 by omega] | rw [show t.how=4 by omega] | rw [show t.how=5 by omega] | rw [show t.how=6 by omega])
   rfl
  ·have ke4:=e4
   refine .q (.ixve (q:=5) rfl rfl e4 Qco s_4 (by decide) (by rfl)) ?_
   refine .z rfl rfl<|.nil<|sq_n<|.ret<|Qaa (Le.refl _) (.tmp rfl .nil) rfl<|congrArg V.b ?_
   unfold isSoB lookI
   (first | rw [show t.of=1 by omega] | rw [show t.of=2 by omega] | rw [show t.of=3 by omega]);(first | rw [show t.how=1 by omega] | rw [show t.how=2 by omega] | rw [show t.how=3 by omega] | rw [show t.how=4 by omega] | rw [show t.how=5 by omega] | rw [show t.how=6 by omega])
   rfl
 ·have ke3:=e3
  refine .q (.ixve (q:=1) rfl rfl e3 ar_231 s_229 (by decide) (by rfl)) ?_
  refine .y rfl rfl rfl (.a (vs:=[_,_,_,_,_,_]) rfl .hd a_29 s_29 rfl rfl)<|.callV .no rfl rfl rfl rfl rfl (opening_ok _ _)<|.z rfl rfl<|.nil<|sq_n<|.seq<|.region rfl<|.m rfl rfl<|.q (.fa rfl Qag)<|.w (.s rfl (.tl .hd) a_3 rfl)<|.b rfl rfl rfl rfl<|.m rfl rfl<|.q (.fa rfl Qag)<|.w (.s rfl (.tl .hd) a_3 rfl)<|.b rfl rfl rfl rfl<|.m rfl rfl<|.q (.fa rfl Qag)<|.w (.s rfl (.tl .hd) a_3 rfl)<|.b rfl rfl rfl rfl<|.m rfl rfl<|.q (.fa rfl Qag)<|.w (.s rfl (.tl .hd) a_3 rfl)<|.b rfl rfl rfl rfl<|.m rfl rfl<|.q (.fa rfl Qag)<|.w (.s rfl (.tl .hd) a_3 rfl)<|.b rfl rfl rfl rfl<|.m rfl rfl<|.q (.fa rfl Qag)<|.w (.s rfl (.tl .hd) a_3 rfl)<|.b rfl rfl rfl rfl ?_
  refine .q (.build (qs:=[(0,_),(1,_),(2,_),(3,_),(4,_),(5,_)]) (cs:=[_,_,_,_,_,_]) rfl b_232 rfl)<|.q (.fa rfl Qdw)<|.w (.s rfl (.tl .hd) a_3 rfl)<|.q (.sub rfl rfl (by omega)) ?_
  rcases (case6 (how6 h2)) with e5 | e5 | e5 | e5 | e5 | e5
  ·have ke5:=e5
   refine .q (.ixve (q:=0) rfl rfl e5 Qco s_4 (by decide) (by rfl)) ?_
   refine .z rfl rfl<|.nil<|sq_n<|.ret<|Qaa (Le.refl _) (.tmp rfl .nil) rfl<|congrArg V.b ?_
   unfold isSoB lookI
   (first | rw [show t.of=1 by omega] | rw [show t.of=2 by omega] | rw [show t.of=3 by omega]);(first | rw [show t.how=1 by omega] | rw [show t.how=2 by omega] | rw [show t.how=3 by omega] | rw [show t.how=4 by omega] | rw [show t.how=5 by omega] | rw [show t.how=6 by omega])
   rfl
  ·have ke5:=e5
   refine .q (.ixve (q:=1) rfl rfl e5 Qco s_4 (by decide) (by rfl)) ?_
   refine .z rfl rfl<|.nil<|sq_n<|.ret<|Qaa (Le.refl _) (.tmp rfl .nil) rfl<|congrArg V.b ?_
   unfold isSoB lookI
   (first | rw [show t.of=1 by omega] | rw [show t.of=2 by omega] | rw [show t.of=3 by omega]);(first | rw [show t.how=1 by omega] | rw [show t.how=2 by omega] | rw [show t.how=3 by omega] | rw [show t.how=4 by omega] | rw [show t.how=5 by omega] | rw [show t.how=6 by omega])
   rfl
  ·have ke5:=e5
   refine .q (.ixve (q:=2) rfl rfl e5 Qco s_4 (by decide) (by rfl)) ?_
   refine .z rfl rfl<|.nil<|sq_n<|.ret<|Qaa (Le.refl _) (.tmp rfl .nil) rfl<|congrArg V.b ?_
   unfold isSoB lookI
   (first | rw [show t.of=1 by omega] | rw [show t.of=2 by omega] | rw [show t.of=3 by omega]);(first | rw [show t.how=1 by omega] | rw [show t.how=2 by omega] | rw [show t.how=3 by omega] | rw [show t.how=4 by omega] | rw [show t.how=5 by omega] | rw [show t.how=6 by omega])
   rfl
  ·have ke5:=e5
   refine .q (.ixve (q:=3) rfl rfl e5 Qco s_4 (by decide) (by rfl)) ?_
   refine .z rfl rfl<|.nil<|sq_n<|.ret<|Qaa (Le.refl _) (.tmp rfl .nil) rfl<|congrArg V.b ?_
   unfold isSoB lookI
   (first | rw [show t.of=1 by omega] | rw [show t.of=2 by omega] | rw [show t.of=3 by omega]);(first | rw [show t.how=1 by omega] | rw [show t.how=2 by omega] | rw [show t.how=3 by omega] | rw [show t.how=4 by omega] | rw [show t.how=5 by omega] | rw [show t.how=6 by omega])
   rfl
  ·have ke5:=e5
   refine .q (.ixve (q:=4) rfl rfl e5 Qco s_4 (by decide) (by rfl)) ?_
   refine .z rfl rfl<|.nil<|sq_n<|.ret<|Qaa (Le.refl _) (.tmp rfl .nil) rfl<|congrArg V.b ?_
   unfold isSoB lookI
   (first | rw [show t.of=1 by omega] | rw [show t.of=2 by omega] | rw [show t.of=3 by omega]);(first | rw [show t.how=1 by omega] | rw [show t.how=2 by omega] | rw [show t.how=3 by omega] | rw [show t.how=4 by omega] | rw [show t.how=5 by omega] | rw [show t.how=6 by omega])
   rfl
  ·have ke5:=e5
   refine .q (.ixve (q:=5) rfl rfl e5 Qco s_4 (by decide) (by rfl)) ?_
   refine .z rfl rfl<|.nil<|sq_n<|.ret<|Qaa (Le.refl _) (.tmp rfl .nil) rfl<|congrArg V.b ?_
   unfold isSoB lookI
   (first | rw [show t.of=1 by omega] | rw [show t.of=2 by omega] | rw [show t.of=3 by omega]);(first | rw [show t.how=1 by omega] | rw [show t.how=2 by omega] | rw [show t.how=3 by omega] | rw [show t.how=4 by omega] | rw [show t.how=5 by omega] | rw [show t.how=6 by omega])
   rfl
 ·have ke3:=e3
  refine .q (.ixve (q:=2) rfl rfl e3 ar_231 s_229 (by decide) (by rfl)) ?_
  refine .y rfl rfl rfl (.a (vs:=[_,_,_,_,_,_]) rfl .hd a_29 s_29 rfl rfl)<|.callV .no rfl rfl rfl rfl rfl (crew_ok _ _)<|.z rfl rfl<|.nil<|sq_n<|.seq<|.region rfl<|.m rfl rfl<|.q (.fa rfl Qag)<|.w (.s rfl (.tl .hd) a_3 rfl)<|.b rfl rfl rfl rfl<|.m rfl rfl<|.q (.fa rfl Qag)<|.w (.s rfl (.tl .hd) a_3 rfl)<|.b rfl rfl rfl rfl<|.m rfl rfl<|.q (.fa rfl Qag)<|.w (.s rfl (.tl .hd) a_3 rfl)<|.b rfl rfl rfl rfl<|.m rfl rfl<|.q (.fa rfl Qag)<|.w (.s rfl (.tl .hd) a_3 rfl)<|.b rfl rfl rfl rfl<|.m rfl rfl<|.q (.fa rfl Qag)<|.w (.s rfl (.tl .hd) a_3 rfl)<|.b rfl rfl rfl rfl<|.m rfl rfl<|.q (.fa rfl Qag)<|.w (.s rfl (.tl .hd) a_3 rfl)<|.b rfl rfl rfl rfl ?_
  refine .q (.build (qs:=[(0,_),(1,_),(2,_),(3,_),(4,_),(5,_)]) (cs:=[_,_,_,_,_,_]) rfl b_232 rfl)<|.q (.fa rfl Qdw)<|.w (.s rfl (.tl .hd) a_3 rfl)<|.q (.sub rfl rfl (by omega)) ?_
  rcases (case6 (how6 h2)) with e6 | e6 | e6 | e6 | e6 | e6
  ·have ke6:=e6
   refine .q (.ixve (q:=0) rfl rfl e6 Qco s_4 (by decide) (by rfl)) ?_
   refine .z rfl rfl<|.nil<|sq_n<|.ret<|Qaa (Le.refl _) (.tmp rfl .nil) rfl<|congrArg V.b ?_
   unfold isSoB lookI
   (first | rw [show t.of=1 by omega] | rw [show t.of=2 by omega] | rw [show t.of=3 by omega]);(first | rw [show t.how=1 by omega] | rw [show t.how=2 by omega] | rw [show t.how=3 by omega] | rw [show t.how=4 by omega] | rw [show t.how=5 by omega] | rw [show t.how=6 by omega])
   rfl
  ·have ke6:=e6
   refine .q (.ixve (q:=1) rfl rfl e6 Qco s_4 (by decide) (by rfl)) ?_
   refine .z rfl rfl<|.nil<|sq_n<|.ret<|Qaa (Le.refl _) (.tmp rfl .nil) rfl<|congrArg V.b ?_
   unfold isSoB lookI
   (first | rw [show t.of=1 by omega] | rw [show t.of=2 by omega] | rw [show t.of=3 by omega]);(first | rw [show t.how=1 by omega] | rw [show t.how=2 by omega] | rw [show t.how=3 by omega] | rw [show t.how=4 by omega] | rw [show t.how=5 by omega] | rw [show t.how=6 by omega])
   rfl
  ·have ke6:=e6
   refine .q (.ixve (q:=2) rfl rfl e6 Qco s_4 (by decide) (by rfl)) ?_
   refine .z rfl rfl<|.nil<|sq_n<|.ret<|Qaa (Le.refl _) (.tmp rfl .nil) rfl<|congrArg V.b ?_
   unfold isSoB lookI
   (first | rw [show t.of=1 by omega] | rw [show t.of=2 by omega] | rw [show t.of=3 by omega]);(first | rw [show t.how=1 by omega] | rw [show t.how=2 by omega] | rw [show t.how=3 by omega] | rw [show t.how=4 by omega] | rw [show t.how=5 by omega] | rw [show t.how=6 by omega])
   rfl
  ·have ke6:=e6
   refine .q (.ixve (q:=3) rfl rfl e6 Qco s_4 (by decide) (by rfl)) ?_
   refine .z rfl rfl<|.nil<|sq_n<|.ret<|Qaa (Le.refl _) (.tmp rfl .nil) rfl<|congrArg V.b ?_
   unfold isSoB lookI
   (first | rw [show t.of=1 by omega] | rw [show t.of=2 by omega] | rw [show t.of=3 by omega]);(first | rw [show t.how=1 by omega] | rw [show t.how=2 by omega] | rw [show t.how=3 by omega] | rw [show t.how=4 by omega] | rw [show t.how=5 by omega] | rw [show t.how=6 by omega])
   rfl
  ·have ke6:=e6
   refine .q (.ixve (q:=4) rfl rfl e6 Qco s_4 (by decide) (by rfl)) ?_
   refine .z rfl rfl<|.nil<|sq_n<|.ret<|Qaa (Le.refl _) (.tmp rfl .nil) rfl<|congrArg V.b ?_
   unfold isSoB lookI
   (first | rw [show t.of=1 by omega] | rw [show t.of=2 by omega] | rw [show t.of=3 by omega]);(first | rw [show t.how=1 by omega] | rw [show t.how=2 by omega] | rw [show t.how=3 by omega] | rw [show t.how=4 by omega] | rw [show t.how=5 by omega] | rw [show t.how=6 by omega])
   rfl
  ·have ke6:=e6
   refine .q (.ixve (q:=5) rfl rfl e6 Qco s_4 (by decide) (by rfl)) ?_
   refine .z rfl rfl<|.nil<|sq_n<|.ret<|Qaa (Le.refl _) (.tmp rfl .nil) rfl<|congrArg V.b ?_
   unfold isSoB lookI
   (first | rw [show t.of=1 by omega] | rw [show t.of=2 by omega] | rw [show t.of=3 by omega]);(first | rw [show t.how=1 by omega] | rw [show t.how=2 by omega] | rw [show t.how=3 by omega] | rw [show t.how=4 by omega] | rw [show t.how=5 by omega] | rw [show t.how=6 by omega])
   rfl
theorem rIsSo_ok (t:Test) (r:Room) (g:G) (ht:t.ok=true):Fv Tryz.prog natS (.f 142 [] []) [.agg t.v,.agg r.v] g (.b (isSoB t r)):=by
 refine Fw.fv ?_
 refine Fw.enter (N:=54) (al:=[(1,_),(0,_)]) Tryz.func142 (by kernel_rfl) (by kernel_rfl) rfl rfl rfl rfl ?_
 intro B
 refine .seq<|.region rfl<|.box .no rfl rfl rfl rfl fun b1=>.box .no rfl rfl rfl rfl fun b2=>.z rfl rfl<|.nil<|sq_n<|.seq<|.region rfl<|.q (.fa rfl f_29_1)<|.w (.s rfl .hd a_3 rfl)<|.z rfl rfl<|.nil<|sq_n<|.seq<|.seq<|.region rfl<|.q (.fa rfl f_172_0)<|.w (.s rfl (.tl .hd) a_3 rfl)<|.b rfl rfl rfl rfl<|.nil<|sq_n<|.cond rfl (fun h3=>?_) (fun h3=>?_)
 ·have kh3:=h3;(try simp only [bk] at kh3)
  refine .region rfl<|.q (.fa rfl f_29_2)<|.w (.s rfl .hd a_3 rfl)<|.z rfl rfl<|.nil<|sq_n<|.seq<|.seq<|.region rfl<|.q (.fa rfl f_172_0)<|.w (.s rfl (.tl .hd) a_3 rfl)<|.b rfl rfl rfl rfl<|.nil<|sq_n<|.cond rfl (fun h4=>?_) (fun h4=>?_)
  ·have kh4:=h4;(try simp only [bk] at kh4)
   refine .region rfl<|.q (.fa rfl f_29_3)<|.w (.s rfl .hd a_3 rfl)<|.z rfl rfl<|.nil<|sq_n<|.seq<|.seq<|.region rfl<|.q (.fa rfl Qdw)<|.w (.s rfl (.tl .hd) a_3 rfl)<|.nil<|sq_n<|.block<|.seq<|.region rfl<|.b rfl rfl rfl rfl<|.z rfl rfl<|.nil<|sq_n<|.cond rfl (fun h5=>?_) (fun h5=>?_)
   ·have kh5:=h5;(try simp only [bk] at kh5)
    refine .seq<|.region rfl<|.m rfl rfl<|.q (.fa rfl Qag)<|.w (.s rfl (.tl .hd) a_3 rfl)<|.b rfl rfl rfl rfl<|.z rfl rfl<|.nil<|sq_n<|.ret<|bq_r<|sq_r<|Qaa (Le.refl _) (.tmp rfl .nil) rfl<|congrArg V.b ?_
    unfold isSoB lookI
    first | (exfalso;omega) | (simp only [*];done) | (simp [*];done) | grind
   ·have kh5:=h5;(try simp only [bk] at kh5)
    refine .seq<|.region rfl<|.b rfl rfl rfl rfl<|.z rfl rfl<|.nil<|sq_n<|.cond rfl (fun h6=>?_) (fun h6=>?_)
    ·have kh6:=h6;(try simp only [bk] at kh6)
     refine .seq<|.region rfl<|.m rfl rfl<|.q (.fa rfl Qag)<|.w (.s rfl (.tl .hd) a_3 rfl)<|.b rfl rfl rfl rfl<|.z rfl rfl<|.nil<|sq_n<|.ret<|bq_r<|sq_r<|Qaa (Le.refl _) (.tmp rfl .nil) rfl<|congrArg V.b ?_
     unfold isSoB lookI
     first | (exfalso;omega) | (simp only [*];done) | (simp [*];done) | grind
    ·have kh6:=h6;(try simp only [bk] at kh6)
     refine .seq<|.region rfl<|.b rfl rfl rfl rfl<|.z rfl rfl<|.nil<|sq_n<|.cond rfl (fun h7=>?_) (fun h7=>?_)
     ·have kh7:=h7;(try simp only [bk] at kh7)
      refine .seq<|.region rfl<|.m rfl rfl<|.q (.fa rfl Qag)<|.w (.s rfl (.tl .hd) a_3 rfl)<|.b rfl rfl rfl rfl<|.z rfl rfl<|.nil<|sq_n<|.ret<|bq_r<|sq_r<|Qaa (Le.refl _) (.tmp rfl .nil) rfl<|congrArg V.b ?_
      unfold isSoB lookI
      first | (exfalso;omega) | (simp only [*];done) | (simp [*];done) | grind
     ·have kh7:=h7;(try simp only [bk] at kh7)
      refine .seq<|.region rfl<|.b rfl rfl rfl rfl<|.z rfl rfl<|.nil<|sq_n<|.cond rfl (fun h8=>?_) (fun h8=>?_)
      ·have kh8:=h8;(try simp only [bk] at kh8)
       refine .seq<|.region rfl<|.m rfl rfl<|.q (.fa rfl Qag)<|.w (.s rfl (.tl .hd) a_3 rfl)<|.b rfl rfl rfl rfl<|.z rfl rfl<|.nil<|sq_n<|.ret<|bq_r<|sq_r<|Qaa (Le.refl _) (.tmp rfl .nil) rfl<|congrArg V.b ?_
       unfold isSoB lookI
       first | (exfalso;omega) | (simp only [*];done) | (simp [*];done) | grind
      ·have kh8:=h8;(try simp only [bk] at kh8)
       refine .seq<|.region rfl<|.b rfl rfl rfl rfl<|.z rfl rfl<|.nil<|sq_n<|.cond rfl (fun h9=>?_) (fun h9=>?_)
       ·have kh9:=h9;(try simp only [bk] at kh9)
        refine .seq<|.region rfl<|.m rfl rfl<|.q (.fa rfl Qag)<|.w (.s rfl (.tl .hd) a_3 rfl)<|.b rfl rfl rfl rfl<|.z rfl rfl<|.nil<|sq_n<|.ret<|bq_r<|sq_r<|Qaa (Le.refl _) (.tmp rfl .nil) rfl<|congrArg V.b ?_
        unfold isSoB lookI
        first | (exfalso;omega) | (simp only [*];done) | (simp [*];done) | grind
       ·have kh9:=h9;(try simp only [bk] at kh9)
        refine .skip<|bq_n<|sq_n<|.seq<|.region rfl<|.m rfl rfl<|.q (.fa rfl Qag)<|.w (.s rfl (.tl .hd) a_3 rfl)<|.b rfl rfl rfl rfl<|.z rfl rfl<|.nil<|sq_n<|.ret<|Qaa (Le.refl _) (.tmp rfl .nil) rfl<|congrArg V.b ?_
        unfold isSoB lookI
        first | (exfalso;omega) | (simp only [*];done) | (simp [*];done) | grind
  ·have kh4:=h4;(try simp only [bk] at kh4)
   refine .skip<|sq_n<|.seq<|.seq<|.region rfl<|.q (.fa rfl Qdw)<|.w (.s rfl (.tl .hd) a_3 rfl)<|.nil<|sq_n<|.block<|.seq<|.region rfl<|.b rfl rfl rfl rfl<|.z rfl rfl<|.nil<|sq_n<|.cond rfl (fun h10=>?_) (fun h10=>?_)
   ·have kh10:=h10;(try simp only [bk] at kh10)
    refine .seq<|.region rfl<|.m rfl rfl<|.q (.fa rfl Qag)<|.w (.s rfl (.tl .hd) a_3 rfl)<|.b rfl rfl rfl rfl<|.z rfl rfl<|.nil<|sq_n<|.ret<|bq_r<|sq_r<|Qaa (Le.refl _) (.tmp rfl .nil) rfl<|congrArg V.b ?_
    unfold isSoB lookI
    first | (exfalso;omega) | (simp only [*];done) | (simp [*];done) | grind
   ·have kh10:=h10;(try simp only [bk] at kh10)
    refine .seq<|.region rfl<|.b rfl rfl rfl rfl<|.z rfl rfl<|.nil<|sq_n<|.cond rfl (fun h11=>?_) (fun h11=>?_)
    ·have kh11:=h11;(try simp only [bk] at kh11)
     refine .seq<|.region rfl<|.m rfl rfl<|.q (.fa rfl Qag)<|.w (.s rfl (.tl .hd) a_3 rfl)<|.b rfl rfl rfl rfl<|.z rfl rfl<|.nil<|sq_n<|.ret<|bq_r<|sq_r<|Qaa (Le.refl _) (.tmp rfl .nil) rfl<|congrArg V.b ?_
     unfold isSoB lookI
     first | (exfalso;omega) | (simp only [*];done) | (simp [*];done) | grind
    ·have kh11:=h11;(try simp only [bk] at kh11)
     refine .seq<|.region rfl<|.b rfl rfl rfl rfl<|.z rfl rfl<|.nil<|sq_n<|.cond rfl (fun h12=>?_) (fun h12=>?_)
     ·have kh12:=h12;(try simp only [bk] at kh12)
      refine .seq<|.region rfl<|.m rfl rfl<|.q (.fa rfl Qag)<|.w (.s rfl (.tl .hd) a_3 rfl)<|.b rfl rfl rfl rfl<|.z rfl rfl<|.nil<|sq_n<|.ret<|bq_r<|sq_r<|Qaa (Le.refl _) (.tmp rfl .nil) rfl<|congrArg V.b ?_
      unfold isSoB lookI
      first | (exfalso;omega) | (simp only [*];done) | (simp [*];done) | grind
     ·have kh12:=h12;(try simp only [bk] at kh12)
      refine .seq<|.region rfl<|.b rfl rfl rfl rfl<|.z rfl rfl<|.nil<|sq_n<|.cond rfl (fun h13=>?_) (fun h13=>?_)
      ·have kh13:=h13;(try simp only [bk] at kh13)
       refine .seq<|.region rfl<|.m rfl rfl<|.q (.fa rfl Qag)<|.w (.s rfl (.tl .hd) a_3 rfl)<|.b rfl rfl rfl rfl<|.z rfl rfl<|.nil<|sq_n<|.ret<|bq_r<|sq_r<|Qaa (Le.refl _) (.tmp rfl .nil) rfl<|congrArg V.b ?_
       unfold isSoB lookI
       first | (exfalso;omega) | (simp only [*];done) | (simp [*];done) | grind
      ·have kh13:=h13;(try simp only [bk] at kh13)
       refine .seq<|.region rfl<|.b rfl rfl rfl rfl<|.z rfl rfl<|.nil<|sq_n<|.cond rfl (fun h14=>?_) (fun h14=>?_)
       ·have kh14:=h14;(try simp only [bk] at kh14)
        refine .seq<|.region rfl<|.m rfl rfl<|.q (.fa rfl Qag)<|.w (.s rfl (.tl .hd) a_3 rfl)<|.b rfl rfl rfl rfl<|.z rfl rfl<|.nil<|sq_n<|.ret<|bq_r<|sq_r<|Qaa (Le.refl _) (.tmp rfl .nil) rfl<|congrArg V.b ?_
        unfold isSoB lookI
        first | (exfalso;omega) | (simp only [*];done) | (simp [*];done) | grind
       ·have kh14:=h14;(try simp only [bk] at kh14)
        refine .skip<|bq_n<|sq_n<|.seq<|.region rfl<|.m rfl rfl<|.q (.fa rfl Qag)<|.w (.s rfl (.tl .hd) a_3 rfl)<|.b rfl rfl rfl rfl<|.z rfl rfl<|.nil<|sq_n<|.ret<|Qaa (Le.refl _) (.tmp rfl .nil) rfl<|congrArg V.b ?_
        unfold isSoB lookI
        first | (exfalso;omega) | (simp only [*];done) | (simp [*];done) | grind
 ·have kh3:=h3;(try simp only [bk] at kh3)
  refine .skip<|sq_n<|.seq<|.seq<|.region rfl<|.q (.fa rfl f_172_0)<|.w (.s rfl (.tl .hd) a_3 rfl)<|.b rfl rfl rfl rfl<|.nil<|sq_n<|.cond rfl (fun h15=>?_) (fun h15=>?_)
  ·have kh15:=h15;(try simp only [bk] at kh15)
   refine .region rfl<|.q (.fa rfl f_29_3)<|.w (.s rfl .hd a_3 rfl)<|.z rfl rfl<|.nil<|sq_n<|.seq<|.seq<|.region rfl<|.q (.fa rfl Qdw)<|.w (.s rfl (.tl .hd) a_3 rfl)<|.nil<|sq_n<|.block<|.seq<|.region rfl<|.b rfl rfl rfl rfl<|.z rfl rfl<|.nil<|sq_n<|.cond rfl (fun h16=>?_) (fun h16=>?_)
   ·have kh16:=h16;(try simp only [bk] at kh16)
    refine .seq<|.region rfl<|.m rfl rfl<|.q (.fa rfl Qag)<|.w (.s rfl (.tl .hd) a_3 rfl)<|.b rfl rfl rfl rfl<|.z rfl rfl<|.nil<|sq_n<|.ret<|bq_r<|sq_r<|Qaa (Le.refl _) (.tmp rfl .nil) rfl<|congrArg V.b ?_
    unfold isSoB lookI
    first | (exfalso;omega) | (simp only [*];done) | (simp [*];done) | grind
   ·have kh16:=h16;(try simp only [bk] at kh16)
    refine .seq<|.region rfl<|.b rfl rfl rfl rfl<|.z rfl rfl<|.nil<|sq_n<|.cond rfl (fun h17=>?_) (fun h17=>?_)
    ·have kh17:=h17;(try simp only [bk] at kh17)
     refine .seq<|.region rfl<|.m rfl rfl<|.q (.fa rfl Qag)<|.w (.s rfl (.tl .hd) a_3 rfl)<|.b rfl rfl rfl rfl<|.z rfl rfl<|.nil<|sq_n<|.ret<|bq_r<|sq_r<|Qaa (Le.refl _) (.tmp rfl .nil) rfl<|congrArg V.b ?_
     unfold isSoB lookI
     first | (exfalso;omega) | (simp only [*];done) | (simp [*];done) | grind
    ·have kh17:=h17;(try simp only [bk] at kh17)
     refine .seq<|.region rfl<|.b rfl rfl rfl rfl<|.z rfl rfl<|.nil<|sq_n<|.cond rfl (fun h18=>?_) (fun h18=>?_)
     ·have kh18:=h18;(try simp only [bk] at kh18)
      refine .seq<|.region rfl<|.m rfl rfl<|.q (.fa rfl Qag)<|.w (.s rfl (.tl .hd) a_3 rfl)<|.b rfl rfl rfl rfl<|.z rfl rfl<|.nil<|sq_n<|.ret<|bq_r<|sq_r<|Qaa (Le.refl _) (.tmp rfl .nil) rfl<|congrArg V.b ?_
      unfold isSoB lookI
      first | (exfalso;omega) | (simp only [*];done) | (simp [*];done) | grind
     ·have kh18:=h18;(try simp only [bk] at kh18)
      refine .seq<|.region rfl<|.b rfl rfl rfl rfl<|.z rfl rfl<|.nil<|sq_n<|.cond rfl (fun h19=>?_) (fun h19=>?_)
      ·have kh19:=h19;(try simp only [bk] at kh19)
       refine .seq<|.region rfl<|.m rfl rfl<|.q (.fa rfl Qag)<|.w (.s rfl (.tl .hd) a_3 rfl)<|.b rfl rfl rfl rfl<|.z rfl rfl<|.nil<|sq_n<|.ret<|bq_r<|sq_r<|Qaa (Le.refl _) (.tmp rfl .nil) rfl<|congrArg V.b ?_
       unfold isSoB lookI
       first | (exfalso;omega) | (simp only [*];done) | (simp [*];done) | grind
      ·have kh19:=h19;(try simp only [bk] at kh19)
       refine .seq<|.region rfl<|.b rfl rfl rfl rfl<|.z rfl rfl<|.nil<|sq_n<|.cond rfl (fun h20=>?_) (fun h20=>?_)
       ·have kh20:=h20;(try simp only [bk] at kh20)
        refine .seq<|.region rfl<|.m rfl rfl<|.q (.fa rfl Qag)<|.w (.s rfl (.tl .hd) a_3 rfl)<|.b rfl rfl rfl rfl<|.z rfl rfl<|.nil<|sq_n<|.ret<|bq_r<|sq_r<|Qaa (Le.refl _) (.tmp rfl .nil) rfl<|congrArg V.b ?_
        unfold isSoB lookI
        first | (exfalso;omega) | (simp only [*];done) | (simp [*];done) | grind
       ·have kh20:=h20;(try simp only [bk] at kh20)
        refine .skip<|bq_n<|sq_n<|.seq<|.region rfl<|.m rfl rfl<|.q (.fa rfl Qag)<|.w (.s rfl (.tl .hd) a_3 rfl)<|.b rfl rfl rfl rfl<|.z rfl rfl<|.nil<|sq_n<|.ret<|Qaa (Le.refl _) (.tmp rfl .nil) rfl<|congrArg V.b ?_
        unfold isSoB lookI
        first | (exfalso;omega) | (simp only [*];done) | (simp [*];done) | grind
  ·have kh15:=h15;(try simp only [bk] at kh15)
   refine .skip<|sq_n<|.seq<|.seq<|.region rfl<|.q (.fa rfl Qdw)<|.w (.s rfl (.tl .hd) a_3 rfl)<|.nil<|sq_n<|.block<|.seq<|.region rfl<|.b rfl rfl rfl rfl<|.z rfl rfl<|.nil<|sq_n<|.cond rfl (fun h21=>?_) (fun h21=>?_)
   ·have kh21:=h21;(try simp only [bk] at kh21)
    refine .seq<|.region rfl<|.m rfl rfl<|.q (.fa rfl Qag)<|.w (.s rfl (.tl .hd) a_3 rfl)<|.b rfl rfl rfl rfl<|.z rfl rfl<|.nil<|sq_n<|.ret<|bq_r<|sq_r<|Qaa (Le.refl _) (.tmp rfl .nil) rfl<|congrArg V.b ?_
    unfold isSoB lookI
    first | (exfalso;omega) | (simp only [*];done) | (simp [*];done) | grind
   ·have kh21:=h21;(try simp only [bk] at kh21)
    refine .seq<|.region rfl<|.b rfl rfl rfl rfl<|.z rfl rfl<|.nil<|sq_n<|.cond rfl (fun h22=>?_) (fun h22=>?_)
    ·have kh22:=h22;(try simp only [bk] at kh22)
     refine .seq<|.region rfl<|.m rfl rfl<|.q (.fa rfl Qag)<|.w (.s rfl (.tl .hd) a_3 rfl)<|.b rfl rfl rfl rfl<|.z rfl rfl<|.nil<|sq_n<|.ret<|bq_r<|sq_r<|Qaa (Le.refl _) (.tmp rfl .nil) rfl<|congrArg V.b ?_
     unfold isSoB lookI
     first | (exfalso;omega) | (simp only [*];done) | (simp [*];done) | grind
    ·have kh22:=h22;(try simp only [bk] at kh22)
     refine .seq<|.region rfl<|.b rfl rfl rfl rfl<|.z rfl rfl<|.nil<|sq_n<|.cond rfl (fun h23=>?_) (fun h23=>?_)
     ·have kh23:=h23;(try simp only [bk] at kh23)
      refine .seq<|.region rfl<|.m rfl rfl<|.q (.fa rfl Qag)<|.w (.s rfl (.tl .hd) a_3 rfl)<|.b rfl rfl rfl rfl<|.z rfl rfl<|.nil<|sq_n<|.ret<|bq_r<|sq_r<|Qaa (Le.refl _) (.tmp rfl .nil) rfl<|congrArg V.b ?_
      unfold isSoB lookI
      first | (exfalso;omega) | (simp only [*];done) | (simp [*];done) | grind
     ·have kh23:=h23;(try simp only [bk] at kh23)
      refine .seq<|.region rfl<|.b rfl rfl rfl rfl<|.z rfl rfl<|.nil<|sq_n<|.cond rfl (fun h24=>?_) (fun h24=>?_)
      ·have kh24:=h24;(try simp only [bk] at kh24)
       refine .seq<|.region rfl<|.m rfl rfl<|.q (.fa rfl Qag)<|.w (.s rfl (.tl .hd) a_3 rfl)<|.b rfl rfl rfl rfl<|.z rfl rfl<|.nil<|sq_n<|.ret<|bq_r<|sq_r<|Qaa (Le.refl _) (.tmp rfl .nil) rfl<|congrArg V.b ?_
       unfold isSoB lookI
       first | (exfalso;omega) | (simp only [*];done) | (simp [*];done) | grind
      ·have kh24:=h24;(try simp only [bk] at kh24)
       refine .seq<|.region rfl<|.b rfl rfl rfl rfl<|.z rfl rfl<|.nil<|sq_n<|.cond rfl (fun h25=>?_) (fun h25=>?_)
       ·have kh25:=h25;(try simp only [bk] at kh25)
        refine .seq<|.region rfl<|.m rfl rfl<|.q (.fa rfl Qag)<|.w (.s rfl (.tl .hd) a_3 rfl)<|.b rfl rfl rfl rfl<|.z rfl rfl<|.nil<|sq_n<|.ret<|bq_r<|sq_r<|Qaa (Le.refl _) (.tmp rfl .nil) rfl<|congrArg V.b ?_
        unfold isSoB lookI
        first | (exfalso;omega) | (simp only [*];done) | (simp [*];done) | grind
       ·have kh25:=h25;(try simp only [bk] at kh25)
        refine .skip<|bq_n<|sq_n<|.seq<|.region rfl<|.m rfl rfl<|.q (.fa rfl Qag)<|.w (.s rfl (.tl .hd) a_3 rfl)<|.b rfl rfl rfl rfl<|.z rfl rfl<|.nil<|sq_n<|.ret<|Qaa (Le.refl _) (.tmp rfl .nil) rfl<|congrArg V.b ?_
        unfold isSoB lookI
        first | (exfalso;omega) | (simp only [*];done) | (simp [*];done) | grind
theorem test_ok {v:Version} {k j:Nat} {p:Put} {t:Test} (hv:v.puts.all Put.ok=true) (h1:v.puts[k]? =some p) (h2:p.tests[j]? =some t):t.ok=true:=by
 have a:=List.all_eq_true.1 hv p (List.mem_of_getElem? h1)
 unfold Put.ok at a
 simp only [Bool.and_eq_true] at a
 exact List.all_eq_true.1 a.2.2 t (List.mem_of_getElem? h2)
def grpF (r:Room):List Put→Nat→Int × Int
 | [],_=>(0, -1)
 | p :: l,k=>if p.tests.all (isSoB · r)=true then (p.group,(k:Int)) else grpF r l (k+1)
def grp (v:Version) (r:Room):Int × Int:=grpF r v.puts 0
theorem mat_no {r:Room} {l:List Test} {j:Nat} {t:Test} (h:l[j]? =some t) (hp:isSoB t r=false): ¬ l.all (isSoB · r)=true:=by
 intro hl
 have:=List.all_eq_true.1 hl t (List.mem_of_getElem? h)
 exact absurd (hp.symm.trans this) (by decide)
theorem group_ok (v:Version) (r:Room) (cs:List V) (g:G) (h:VersionR g cs v) (hv:v.puts.all Put.ok=true):Fv Tryz.prog natS (.f 100 [] []) [.agg cs,.agg r.v] g (.tup [.i .i64 (grp v r).1,.i .i64 (grp v r).2]):=by
 obtain ⟨p,lv,rfl,hp,hl⟩:=h
 refine Fw.fv ?_
 have hlen:=hp.1
 refine Fw.enter (N:=34) (al:=[(1,_),(0,_)]) Tryz.func100 (by kernel_rfl) (by kernel_rfl) rfl rfl rfl rfl ?_
 intro B
 refine .seq<|.region rfl<|.box .no rfl rfl rfl rfl fun b1=>.box .no rfl rfl rfl rfl fun b2=>.z rfl rfl<|.z rfl rfl<|.nil<|sq_n<|.scope<|.seq<|.label<|sq_n<|.seq<|.seq<|.region rfl<|.q (.fa rfl f_97_1)<|.w (.s rfl (.tl .hd) a_92 rfl)<|.q (.lenR rfl rfl rfl e_92 hp)<|.m rfl rfl<|.nil<|sq_n<|.block<|.loopx (α:=Nat) [(3,_),(11,_),(12,_)] _ (fun fx k=>(13,.i .i64 (k:Int)) :: fx) (fun mx _=>mx) (fun k g'=>k≤v.puts.length∧grpF r (v.puts.drop k) k=grp v r) (fun k=>v.puts.length - k) (0) ⟨rfl,rfl,rfl,rfl,trivial⟩ (List.Sublist.refl _) ⟨by omega,rfl⟩ ?_
 intro k g4 hle3 hJ
 obtain ⟨hk,hg⟩:=hJ
 replace hp:=hp.mono PutR.mono hle3
 replace hl:=fun k hk=>(hl k hk).mono PieceR.mono hle3
 refine .seq<|.region rfl<|.b rfl rfl rfl rfl<|.nil<|sq_n<|.seq<|.cond rfl (fun h5=>?_) (fun h5=>?_)
 ·have kh5:=h5;(try simp only [bk] at kh5)
  refine .skip<|sq_n<|.seq<|.block<|.seq<|.region rfl<|.m rfl rfl<|.ixn .no rfl rfl hp rfl e_92 (by omega) ?_
  intro b6 o6 cs6 y6 hy6 hq6 hr6
  obtain ⟨v6,rfl,ht6⟩:=hr6
  refine .w (.pa 0 (vs:=[_,_]) rfl hq6 rfl a_170 s_170 rfl rfl)<|.alloc .no rfl z_170 fun b7=>.z rfl rfl<|.st (cs':=[_,_]) .no rfl rfl rfl rfl s_170 rfl rfl .hd rfl (Qa rfl (Qa ht6.one rfl))<|.nil<|sq_n<|.seq<|.seq<|.region rfl<|.q (.fa rfl f_170_1)<|.w (.s rfl .hd a_168 rfl)<|.q (.lenR rfl rfl rfl e_168 ht6)<|.m rfl rfl<|.nil<|sq_n<|.block<|.loopx (α:=Nat) [(3,_),(6,_),(7,_),(11,_),(12,_),(13,_),(19,_),(20,_)] _ (fun fx j=>(21,.i .i64 (j:Int)) :: fx) (fun mx _=>mx) (fun j g'=>j≤y6.tests.length∧(y6.tests.drop j).all (isSoB · r)=y6.tests.all (isSoB · r)) (fun j=>y6.tests.length - j) (0) ⟨rfl,rfl,rfl,rfl,rfl,rfl,rfl,rfl,rfl,trivial⟩ (List.Sublist.refl _) ⟨by omega,rfl⟩ ?_
  intro j g9 hle8 hJ
  obtain ⟨hj,hf⟩:=hJ
  replace hp:=hp.mono PutR.mono hle8
  replace hl:=fun k hk=>(hl k hk).mono PieceR.mono hle8
  replace hq6:=hq6.mono hle8
  replace ht6:=ht6.mono TestR.mono hle8
  have hlen6:=ht6.1
  refine .seq<|.region rfl<|.b rfl rfl rfl rfl<|.nil<|sq_n<|.seq<|.cond rfl (fun h10=>?_) (fun h10=>?_)
  ·have kh10:=h10;(try simp only [bk] at kh10)
   refine .skip<|sq_n<|.seq<|.block<|.seq<|.region rfl<|.ixn .no rfl rfl ht6 rfl e_168 (by omega) ?_
   intro b11 o11 cs11 y11 hy11 hq11 hr11
   obtain rfl:=hr11
   refine .w (.pa 0 (vs:=[_,_,_]) rfl hq11 rfl a_172 s_172 rfl rfl)<|.alloc .no rfl z_172 fun b12=>.st (cs':=[_,_,_]) .no rfl rfl rfl rfl s_172 rfl rfl .hd rfl rfl<|.nil<|sq_n<|.seq<|.region rfl<|.w (.a (vs:=[_,_,_]) rfl .hd a_172 s_172 rfl rfl)<|.w (.a (vs:=[_,_,_,_,_,_]) rfl (.tl (.tl .hd)) a_29 s_29 rfl rfl)<|.callV .no rfl rfl rfl (isSo_ok _ _ _ (test_ok hv ‹_› ‹_›))<|.q (.not rfl)<|.nil<|sq_n<|.cond rfl (fun h13=>?_) (fun h13=>?_)
   ·have kh13:=h13;(try simp only [bk] at kh13)
    refine .exit<|bq_e rfl<|sq_e<|lq_e<|bq_e rfl<|sq_e<|bq_x rfl<|sq_n<|.region rfl<|.q (.inc1 rfl rfl (by omega))<|.m rfl rfl<|.nil<|Qac (k+1) ⟨rfl,rfl,rfl,rfl,trivial⟩ (.cons _ (.cons _ (List.Sublist.refl _))) hle8 ?_ ?_
    ·refine ⟨by omega,?_⟩;rw [←hg,dc (k:=k) ‹_›];simp only [grpF];rw [if_neg (mat_no ‹y6.tests[j]? =_› ‹_›)]
    ·omega
   ·have kh13:=h13;(try simp only [bk] at kh13)
    refine .skip<|bq_n<|sq_n<|.region rfl<|.q (.inc1 rfl rfl (by omega))<|.m rfl rfl<|.nil<|Qac (j+1) ⟨rfl,rfl,rfl,rfl,rfl,rfl,rfl,rfl,rfl,trivial⟩ (.cons _ (List.Sublist.refl _)) (Le.refl _) ?_ ?_
    ·refine ⟨by omega,?_⟩;rw [←hf,dc (k:=j) ‹_›];simp only [List.all_cons, *, Bool.true_and]
    ·omega
  ·have kh10:=h10;(try simp only [bk] at kh10)
   refine .exit<|sq_e<|lq_e<|bq_x rfl<|sq_n<|.seq<|.region rfl<|.q (.fa rfl f_170_0)<|.w (.s rfl .hd a_3 rfl)<|.m rfl rfl<|.z rfl rfl<|.z rfl rfl<|.nil<|sq_n<|.ret<|bq_r<|sq_r<|lq_r<|bq_r<|sq_r<|Qaa (hle3.trans hle8) (.tmp rfl (.tmp rfl .nil)) rfl ?_
   first | (rw [←hg,dc (k:=k) ‹_›];simp only [grpF];rw [if_pos (by rw [←hf,dn (by omega)];rfl)]) | (rw [←hg,dn (by omega)];rfl)
 ·have kh5:=h5;(try simp only [bk] at kh5)
  refine .exit<|sq_e<|lq_e<|bq_x rfl<|sq_n<|.seq<|.region rfl<|.z rfl rfl<|.z rfl rfl<|.nil<|sq_n<|.ret<|Qaa hle3 (.tmp rfl (.tmp rfl .nil)) rfl ?_
  first | (rw [←hg,dc (k:=k) ‹_›];simp only [grpF];rw [if_pos (by rw [←hf,dn (by omega)];rfl)]) | (rw [←hg,dn (by omega)];rfl)
theorem rGroup_ok (v:Version) (r:Room) (cs:List V) (g:G) (h:VersionR g cs v) (hv:v.puts.all Put.ok=true):Fv Tryz.prog natS (.f 101 [] []) [.agg cs,.agg r.v] g (.tup [.i .i64 (grp v r).1,.i .i64 (grp v r).2]):=by
 obtain ⟨p,lv,rfl,hp,hl⟩:=h
 refine Fw.fv ?_
 have hlen:=hp.1
 refine Fw.enter (N:=49) (al:=[(1,_),(0,_)]) Tryz.func101 (by kernel_rfl) (by kernel_rfl) rfl rfl rfl rfl ?_
 intro B
 refine .seq<|.region rfl<|.box .no rfl rfl rfl rfl fun b1=>.box .no rfl rfl rfl rfl fun b2=>.z rfl rfl<|.z rfl rfl<|.nil<|sq_n<|.seq<|.seq<|.region rfl<|.z rfl rfl<|.nil<|sq_n<|.block<|.loopx (α:=Nat) [(2,_),(3,_)] _ (fun fx k=>(6,.i .i64 (k:Int)) :: fx) (fun mx _=>mx) (fun k g'=>k≤v.puts.length∧grpF r (v.puts.drop k) k=grp v r) (fun k=>v.puts.length - k) (0) ⟨rfl,rfl,rfl,trivial⟩ (List.Sublist.refl _) ⟨by omega,rfl⟩ ?_
 intro k g4 hle3 hJ
 obtain ⟨hk,hg⟩:=hJ
 replace hp:=hp.mono PutR.mono hle3
 replace hl:=fun k hk=>(hl k hk).mono PieceR.mono hle3
 refine .seq<|.seq<|.region rfl<|.m rfl rfl<|.q (.fa rfl f_97_1)<|.w (.s rfl (.tl .hd) a_92 rfl)<|.q (.lenR rfl rfl rfl e_92 hp)<|.b rfl rfl rfl rfl<|.nil<|sq_n<|.cond rfl (fun h5=>?_) (fun h5=>?_)
 ·have kh5:=h5;(try simp only [bk] at kh5)
  refine .skip<|sq_n<|.seq<|.block<|.seq<|.region rfl<|.z rfl rfl<|.nil<|sq_n<|.seq<|.seq<|.region rfl<|.z rfl rfl<|.nil<|sq_n<|.block<|.loopx (α:=Nat × Bool) [(2,_),(3,_),(6,_)] _ (fun fx x=>(7,.b x.2) :: (8,.i .i64 (x.1:Int)) :: fx) (fun mx _=>mx) (fun x g'=>∀ y,v.puts[k]? =some y→x.1≤y.tests.length∧(x.2 && (y.tests.drop x.1).all (isSoB · r))=y.tests.all (isSoB · r)) (fun x=>(match v.puts[k]? with | some y=>y.tests.length | none=>0) - x.1) ((0,true)) ⟨rfl,rfl,rfl,rfl,rfl,trivial⟩ (List.Sublist.refl _) (by intro y hy;exact ⟨Nat.zero_le _,rfl⟩) ?_
  intro x g7 hle6 hj
  replace hp:=hp.mono PutR.mono hle6
  replace hl:=fun k hk=>(hl k hk).mono PieceR.mono hle6
  obtain ⟨j,all⟩:=x
  simp only at hj
  refine .seq<|.seq<|.region rfl<|.m rfl rfl<|.q (.fa rfl f_97_1)<|.w (.s rfl (.tl .hd) a_92 rfl)<|.m rfl rfl<|.ixn .no rfl rfl hp rfl e_92 (by omega) ?_
  intro b8 o8 cs8 y8 hy8 hq8 hr8
  obtain ⟨v8,rfl,ht8⟩:=hr8
  have hlt8:=ht8.1
  refine .q (.fa rfl f_170_1)<|.w (.ps 1 rfl hq8 rfl a_168 rfl)<|.q (.lenR rfl rfl rfl e_168 ht8)<|.b rfl rfl rfl rfl<|.nil<|sq_n<|.cond rfl (fun h9=>?_) (fun h9=>?_)
  ·have kh9:=h9;(try simp only [bk] at kh9)
   refine .skip<|sq_n<|.seq<|.block<|.draw (tb:=[r1 0 0,r1 1 0,r0 3 0,r0 7 0,r0 3 0,r0 31 0,r0 63 0,r0 127 0,r0 3 0,r0 511 0,r0 1023 0,r0 3 0,r1 4095 0,r1 8191 1,r1 16383 1]) rfl (by kernel_rfl) (by kernel_rfl) fun k0=>?_
   refine .m rfl rfl<|.m rfl rfl<|.split (t:=28) rfl (fun h10=>?_) (fun h10=>?_)
   ·have kh10:=h10;(try simp only [bk] at kh10)
    refine .py h10 (.fa rfl f_97_1)<|.ld (k:=0) (.yes rfl rfl h10) rfl rfl rfl trivial (.s rfl (.tl .hd) a_92 rfl)<|.py h10 (.move rfl)<|.ixn (.yes rfl rfl h10) rfl rfl hp rfl e_92 (by omega) ?_
    intro b11 o11 cs11 y11 hy11 hq11 hr11
    obtain rfl:y8=y11:=Option.some.inj (hy8.symm.trans hy11)
    obtain ⟨v11,rfl,ht11⟩:=hr11
    have hlt11:=ht11.1
    refine .py h10 (.fa rfl f_170_1)<|.ld (k:=0) (.yes rfl rfl h10) rfl rfl rfl trivial (.ps 1 rfl hq11 rfl a_168 rfl)<|.py h10 (.move rfl)<|.ixn (.yes rfl rfl h10) rfl rfl ht11 rfl e_168 (by omega) ?_
    intro b12 o12 cs12 y12 hy12 hq12 hr12
    obtain rfl:=hr12
    refine .ld (k:=0) (.yes rfl rfl h10) rfl rfl rfl trivial (.pa 0 (vs:=[_,_,_]) rfl hq12 rfl a_172 s_172 rfl rfl)<|.ld (k:=0) (.yes rfl rfl h10) rfl rfl rfl trivial (.a (vs:=[_,_,_,_,_,_]) rfl .hd a_29 s_29 rfl rfl)<|.callV (.yes rfl rfl h10) rfl rfl rfl rfl rfl (rIsSo_ok _ _ _ (test_ok hv ‹_› ‹_›))<|.q (.pickT rfl h10 rfl)<|.z rfl rfl<|.nil<|bq_n<|sq_n<|.region rfl<|.m rfl rfl<|.q (.inc1 rfl rfl (by omega))<|.z rfl rfl<|.nil<|Qac ((j+1,_)) ⟨rfl,rfl,rfl,rfl,rfl,trivial⟩ (List.Sublist.refl _) (Le.refl _) ?_ ?_
    ·intro y hy
     obtain rfl:=Option.some.inj (hy8.symm.trans hy)
     refine ⟨by simp only;omega,?_⟩
     rw [←(hj _ hy8).2]
     first
      | (simp only [*, Bool.false_and];done)
      | (rw [dc (k:=j) ‹_›];simp [*];done)
      | (rw [dc (k:=j) ‹_›];simp [*];rfl)
    ·simp only [hy8];omega
   ·have kh10:=h10;(try simp only [bk] at kh10)
    refine .k h10<|.k h10<|.k h10<|.k h10<|.k h10<|.k h10<|.k h10<|.k h10<|.k h10<|.k h10<|.skipE (.yes rfl rfl h10) rfl rfl<|.q (.pickF rfl h10 rfl)<|.z rfl rfl<|.nil<|bq_n<|sq_n<|.region rfl<|.m rfl rfl<|.q (.inc1 rfl rfl (by omega))<|.z rfl rfl<|.nil<|Qac ((j+1,_)) ⟨rfl,rfl,rfl,rfl,rfl,trivial⟩ (List.Sublist.refl _) (Le.refl _) ?_ ?_
    ·intro y hy
     obtain rfl:=Option.some.inj (hy8.symm.trans hy)
     refine ⟨by simp only;omega,?_⟩
     rw [←(hj _ hy8).2]
     first
      | (simp only [*, Bool.false_and];done)
      | (rw [dc (k:=j) ‹_›];simp [*];done)
      | (rw [dc (k:=j) ‹_›];simp [*];rfl)
    ·simp only [hy8];omega
  ·have kh9:=h9;(try simp only [bk] at kh9)
   refine .exit<|sq_e<|lq_e<|bq_x rfl<|sq_n<|.seq<|.region rfl<|.m rfl rfl<|.nil<|sq_n<|.cond rfl (fun h13=>?_) (fun h13=>?_)
   ·have kh13:=h13;(try simp only [bk] at kh13)
    refine .seq<|.region rfl<|.q (.fa rfl f_97_1)<|.w (.s rfl (.tl .hd) a_92 rfl)<|.m rfl rfl<|.ixn .no rfl rfl hp rfl e_92 (by omega) ?_
    intro b14 o14 cs14 y14 hy14 hq14 hr14
    obtain rfl:y8=y14:=Option.some.inj (hy8.symm.trans hy14)
    obtain ⟨v14,rfl,ht14⟩:=hr14
    have hlt14:=ht14.1
    refine .q (.fa rfl f_170_0)<|.w (.ps 0 rfl hq14 rfl a_3 rfl)<|.m rfl rfl<|.z rfl rfl<|.z rfl rfl<|.nil<|sq_n<|.ret<|bq_r<|sq_r<|lq_r<|bq_r<|sq_r<|Qaa (hle3.trans hle6) (.tmp rfl (.tmp rfl .nil)) rfl ?_
    first | (rw [←hg,dc (k:=k) ‹_›];simp only [grpF];rw [if_pos (by rw [←(hj _ hy8).2,dn (by omega)];simp only [*];rfl)]) | (rw [←hg,dn (by omega)];rfl)
   ·have kh13:=h13;(try simp only [bk] at kh13)
    refine .skip<|bq_n<|sq_n<|.region rfl<|.m rfl rfl<|.q (.inc1 rfl rfl (by omega))<|.z rfl rfl<|.nil<|Qac (k+1) ⟨rfl,rfl,rfl,trivial⟩ (List.Sublist.refl _) hle6 ?_ ?_
    ·refine ⟨by omega,?_⟩;rw [←hg,dc (k:=k) ‹_›];simp only [grpF];rw [if_neg (by rw [←(hj _ hy8).2];simp only [*, Bool.false_and];decide)]
    ·omega
 ·have kh5:=h5;(try simp only [bk] at kh5)
  refine .exit<|sq_e<|lq_e<|bq_x rfl<|sq_n<|.seq<|.region rfl<|.z rfl rfl<|.z rfl rfl<|.nil<|sq_n<|.ret<|Qaa hle3 (.tmp rfl (.tmp rfl .nil)) rfl ?_
  first | (rw [←hg,dc (k:=k) ‹_›];simp only [grpF];rw [if_pos (by rw [←(hj _ hy8).2,dn (by omega)];simp only [*];rfl)]) | (rw [←hg,dn (by omega)];rfl)
end Go.Proofs.YtjflgemfeofciaaGreatDoor
