import Derived.Test.YtjflgemfeofciaaGreatDoorCs4
/- Layer 4: codes. -/
namespace Go.Proofs.YtjflgemfeofciaaGreatDoor
open Go Go.Ev
set_option linter.unusedVariables false
set_option linter.unusedSimpArgs false
set_option maxRecDepth 10000
structure Test where
  of : Int
  how : Int
  num : Int
structure Put where
  group : Int
  tests : List Test
structure Piece where
  fr : Int
  base : Int
  rate : Int
structure Version where
  fr : Int
  puts : List Put
  ln : Nat → List Piece
structure Code where
  name : List UInt8
  vs : List Version
def Test.v (t : Test) : List V := [.i .i64 t.of, .i .i64 t.how, .i .i64 t.num]
def TestR (g : G) (cs : List V) (t : Test) : Prop := cs = t.v
theorem TestR.mono : ∀ g g' cs x, Le g g' → TestR g cs x → TestR g' cs x := fun _ _ _ _ _ h => h
--REL api.Test {'pat':'rfl'}
def PutR (g : G) (cs : List V) (p : Put) : Prop := ∃ v, cs = [.i .i64 p.group, v] ∧ RS TestR 3 g v p.tests
theorem PutR.mono : ∀ g g' cs x, Le g g' → PutR g cs x → PutR g' cs x := fun _ _ _ _ hl ⟨v, h1, h2⟩ => ⟨v, h1, h2.mono TestR.mono hl⟩
--REL api.Put {'pat':'⟨v#, rfl, ht#⟩','cells':{1:'ht#'},'facts':{'ht#':'F.mono TestR.mono L'},'whole':'⟨_, rfl, ht#⟩'}
def Piece.v (t : Piece) : List V := [.i .i64 t.fr, .i .i64 t.base, .i .i64 t.rate]
def PieceR (g : G) (cs : List V) (t : Piece) : Prop := cs = t.v
theorem PieceR.mono : ∀ g g' cs x, Le g g' → PieceR g cs x → PieceR g' cs x := fun _ _ _ _ _ h => h
--REL api.Piece {'pat':'rfl'}
def VersionR (g : G) (cs : List V) (v : Version) : Prop := ∃ (p : V) (lv : Nat → V), cs = [.i .i64 v.fr, p, lv 0, lv 1, lv 2, lv 3, lv 4, lv 5, lv 6, lv 7, lv 8, lv 9] ∧ RS PutR 2 g p v.puts ∧ ∀ k, k < 10 → RS PieceR 3 g (lv k) (v.ln k)
theorem VersionR.mono : ∀ g g' cs x, Le g g' → VersionR g cs x → VersionR g' cs x := fun _ _ _ _ hl ⟨p, lv, h1, h2, h3⟩ => ⟨p, lv, h1, h2.mono PutR.mono hl, fun k hk => (h3 k hk).mono PieceR.mono hl⟩
--REL api.Version {'pat':'⟨p#, lv#, rfl, hp#, hl#⟩','cells':dict([(1,'hp#')]+[(2+k,'(hl# %d (by decide))'%k) for k in range(10)]),'facts':{'hp#':'F.mono PutR.mono L','hl#':'fun k hk => (F k hk).mono PieceR.mono L'},'whole':'⟨_, _, rfl, hp#, hl#⟩'}
def CodeR (g : G) (cs : List V) (c : Code) : Prop := ∃ v, cs = [.s c.name, v] ∧ RS VersionR 12 g v c.vs
theorem CodeR.mono : ∀ g g' cs x, Le g g' → CodeR g cs x → CodeR g' cs x := fun _ _ _ _ hl ⟨v, h1, h2⟩ => ⟨v, h1, h2.mono VersionR.mono hl⟩
def Test.ok (t : Test) : Bool := within t.of 1 3 && (within t.how 1 6 && within t.num 0 1000)
def Put.ok (p : Put) : Bool := within p.group 0 5 && (decide (p.tests.length ≤ 4) && p.tests.all Test.ok)
theorem isTest_ok (t : Test) (g : G) : Fv Tryz.prog natS (.f 165 [] []) [.agg t.v] g (.b t.ok) := by
  refine Fw.fv ?_
  refine Fw.enter (N := 16) (al := [(0, _)]) Tryz.func165 (by kernel_rfl) (by kernel_rfl) rfl rfl rfl rfl ?_
  intro B
  refine .seq <| .region rfl <| .box .no rfl rfl rfl rfl fun b1 => .z rfl rfl <| .nil <| sq_n <| .seq <| .region rfl <| .q (.fa rfl f_172_0) <| .w (.s rfl .hd a_3 rfl) <| .callV .no rfl rfl rfl (isWithin_ok _ _ _ _) <| .m rfl rfl <| .split (t := 6) rfl (fun h2 => ?_) (fun h2 => ?_)
  ·have kh2 := h2; (try simp only [bk] at kh2)
   refine .py h2 (.fa rfl f_172_1) <| .wy h2 (.s rfl .hd a_3 rfl) <| .callV (.yes rfl rfl h2) rfl rfl rfl (isWithin_ok _ _ _ _) <| .q (.pickT rfl h2 rfl) <| .m rfl rfl <| .split (t := 11) rfl (fun h3 => ?_) (fun h3 => ?_)
   ·have kh3 := h3; (try simp only [bk] at kh3)
    refine .py h3 (.fa rfl f_172_2) <| .wy h3 (.s rfl .hd a_3 rfl) <| .callV (.yes rfl rfl h3) rfl rfl rfl (isWithin_ok _ _ _ _) <| .q (.pickT rfl h3 rfl) <| .z rfl rfl <| .nil <| sq_n <| .ret <| retQ_r (Le.refl _) (.tmp rfl .nil) rfl ?_
    first | rfl | (simp_all [Test.ok]; done)
   ·have kh3 := h3; (try simp only [bk] at kh3)
    refine .k h3 <| .k h3 <| .k h3 <| .q (.pickF rfl h3 rfl) <| .z rfl rfl <| .nil <| sq_n <| .ret <| retQ_r (Le.refl _) (.tmp rfl .nil) rfl ?_
    first | rfl | (simp_all [Test.ok]; done)
  ·have kh2 := h2; (try simp only [bk] at kh2)
   refine .k h2 <| .k h2 <| .k h2 <| .q (.pickF rfl h2 rfl) <| .m rfl rfl <| .k rfl <| .k rfl <| .k rfl <| .q (.pickF rfl rfl rfl) <| .z rfl rfl <| .nil <| sq_n <| .ret <| retQ_r (Le.refl _) (.tmp rfl .nil) rfl ?_
   first | rfl | (simp_all [Test.ok]; done)
--REG c.isTest V (isTest_ok _ _)
theorem isPut1_ok (t : Test) (g : G) : Fv Tryz.prog natS (.f 164 [] []) [.agg t.v] g (.b (!t.ok)) := by
  refine Fw.fv ?_
  refine Fw.enter (N := 6) (al := [(0, _)]) Tryz.func164 (by kernel_rfl) (by kernel_rfl) rfl rfl rfl rfl ?_
  intro B
  refine .seq <| .region rfl <| .box .no rfl rfl rfl rfl fun b1 => .z rfl rfl <| .nil <| sq_n <| .seq <| .region rfl <| .w (.a (vs := [_, _, _]) rfl .hd a_172 s_172 rfl rfl) <| .callV .no rfl rfl rfl (isTest_ok _ _) <| .q (.not rfl) <| .z rfl rfl <| .nil <| sq_n <| .ret <| retQ_r (Le.refl _) (.tmp rfl .nil) rfl ?_
  rfl
def fidx {α : Type} (p : α → Bool) : List α → Nat → Int
  | [], _ => -1
  | x :: l, i => if p x then (i : Int) else fidx p l (i + 1)
theorem fidx_any {α : Type} (p : α → Bool) : ∀ (l : List α) (i : Nat), decide (0 ≤ fidx p l i) = l.any p
  | [], i => by simp [fidx]
  | x :: l, i => by
    unfold fidx
    cases h : p x with
    | true => simp [h]
    | false => simp [h, fidx_any p l (i + 1)]
theorem IndexFuncT_ok (l : List Test) (v f : V) (p : Test → Bool) (hf : ∀ t g, Fv Tryz.prog natS f [.agg (Test.v t)] g (.b (p t))) (g : G) (h : RS TestR 3 g v l) : Fv Tryz.prog natS (.f 178 [] []) [v, f] g (.i .i64 (fidx p l 0)) := by
  refine Fw.fv ?_
  have hlen := h.1
  refine Fw.enter (N := 19) (al := [(1, _), (0, _)]) Tryz.func178 (by kernel_rfl) (by kernel_rfl) rfl rfl rfl rfl ?_
  intro B
  refine .seq <| .region rfl <| .z rfl rfl <| .nil <| sq_n <| .seq <| .seq <| .region rfl <| .m rfl rfl <| .q (.lenR rfl rfl rfl e_168 h) <| .m rfl rfl <| .nil <| sq_n <| .block <| .loopx (α := Nat) [(0, _), (1, _), (7, _)] _ (fun fx k => (8, .i .i64 (k : Int)) :: fx) (fun mx _ => mx) (fun k g' => k ≤ l.length ∧ fidx p (l.drop k) k = fidx p l 0 ∧ RS TestR 3 g' v l) (fun k => l.length - k) (0) ⟨rfl, rfl, rfl, rfl, trivial⟩ (List.Sublist.refl _) ⟨by omega, rfl, h⟩ ?_
  intro k g2 hle1 hJ
  obtain ⟨hk, hg, h⟩ := hJ
  refine .seq <| .region rfl <| .b rfl rfl rfl rfl <| .nil <| sq_n <| .seq <| .cond rfl (fun h3 => ?_) (fun h3 => ?_)
  ·have kh3 := h3; (try simp only [bk] at kh3)
   refine .skip <| sq_n <| .seq <| .block <| .seq <| .region rfl <| .m rfl rfl <| .z rfl rfl <| .nil <| sq_n <| .seq <| .region rfl <| .m rfl rfl <| .m rfl rfl <| .m rfl rfl <| .ixn .no rfl rfl h rfl e_168 (by omega) ?_
   intro b4 o4 cs4 y4 hy4 hq4 hr4
   obtain rfl := hr4
   refine .w (.pa 0 (vs := [_, _, _]) rfl hq4 rfl a_172 s_172 rfl rfl) <| .callV .no rfl rfl rfl (hf _ _) <| .nil <| sq_n <| .cond rfl (fun h5 => ?_) (fun h5 => ?_)
   ·have kh5 := h5; (try simp only [bk] at kh5)
    refine .seq <| .region rfl <| .m rfl rfl <| .z rfl rfl <| .nil <| sq_n <| .ret <| bq_r <| sq_r <| lq_r <| bq_r <| sq_r <| retQ_r hle1 (.tmp rfl .nil) rfl ?_
    first | (rw [← hg, dc (k := k) ‹_›]; simp_all [fidx]; done) | (rw [← hg, dn (by omega)]; rfl)
   ·have kh5 := h5; (try simp only [bk] at kh5)
    refine .skip <| bq_n <| sq_n <| .region rfl <| .q (.inc1 rfl rfl (by omega)) <| .m rfl rfl <| .nil <| loopQ_n (k + 1) ⟨rfl, rfl, rfl, rfl, trivial⟩ (List.Sublist.refl _) (Le.refl _) ?_ ?_
    ·refine ⟨by omega, ?_, h⟩; rw [← hg, dc (k := k) ‹_›]; simp_all [fidx]
    ·omega
  ·have kh3 := h3; (try simp only [bk] at kh3)
   refine .exit <| sq_e <| lq_e <| bq_x rfl <| sq_n <| .seq <| .region rfl <| .z rfl rfl <| .nil <| sq_n <| .ret <| retQ_r hle1 (.tmp rfl .nil) rfl ?_
   first | (rw [← hg, dc (k := k) ‹_›]; simp_all [fidx]; done) | (rw [← hg, dn (by omega)]; rfl)
theorem ContainsFuncT_ok (l : List Test) (v f : V) (p : Test → Bool) (hf : ∀ t g, Fv Tryz.prog natS f [.agg (Test.v t)] g (.b (p t))) (g : G) (h : RS TestR 3 g v l) : Fv Tryz.prog natS (.f 163 [] []) [v, f] g (.b (l.any p)) := by
  refine Fw.fv ?_
  refine Fw.enter (N := 9) (al := [(1, _), (0, _)]) Tryz.func163 (by kernel_rfl) (by kernel_rfl) rfl rfl rfl rfl ?_
  intro B
  refine .seq <| .region rfl <| .z rfl rfl <| .nil <| sq_n <| .seq <| .region rfl <| .m rfl rfl <| .m rfl rfl <| .callV .no rfl rfl rfl (IndexFuncT_ok _ _ _ p hf _ h) <| .b rfl rfl rfl rfl <| .z rfl rfl <| .nil <| sq_n <| .ret <| retQ_r (Le.refl _) (.tmp rfl .nil) rfl ?_
  rw [← fidx_any p l 0]
theorem isPut_ok (p : Put) (cs : List V) (g : G) (h : PutR g cs p) : Fv Tryz.prog natS (.f 127 [] []) [.agg cs] g (.b p.ok) := by
  obtain ⟨v, rfl, h⟩ := h
  refine Fw.fv ?_
  refine Fw.enter (N := 18) (al := [(0, _)]) Tryz.func127 (by kernel_rfl) (by kernel_rfl) rfl rfl rfl rfl ?_
  intro B
  refine .seq <| .region rfl <| .box .no rfl rfl rfl rfl fun b1 => .z rfl rfl <| .nil <| sq_n <| .seq <| .region rfl <| .q (.fa rfl f_170_0) <| .w (.s rfl .hd a_3 rfl) <| .callV .no rfl rfl rfl (isWithin_ok _ _ _ _) <| .m rfl rfl <| .split (t := 6) rfl (fun h2 => ?_) (fun h2 => ?_)
  ·have kh2 := h2; (try simp only [bk] at kh2)
   refine .py h2 (.fa rfl f_170_1) <| .wy h2 (.s rfl .hd a_168 rfl) <| .py h2 (.lenR rfl rfl rfl e_168 h) <| .py h2 (.bin rfl rfl rfl) <| .q (.pickT rfl h2 rfl) <| .m rfl rfl <| .split (t := 12) rfl (fun h3 => ?_) (fun h3 => ?_)
   ·have kh3 := h3; (try simp only [bk] at kh3)
    refine .py h3 (.fa rfl f_170_1) <| .wy h3 (.s rfl .hd a_168 rfl) <| .callV (.yes rfl rfl h3) rfl rfl rfl (ContainsFuncT_ok _ _ _ _ isPut1_ok _ h) <| .py h3 (.not rfl) <| .q (.pickT rfl h3 rfl) <| .z rfl rfl <| .nil <| sq_n <| .ret <| retQ_r (Le.refl _) (.tmp rfl .nil) rfl ?_
    simp_all [Put.ok, List.all_eq_not_any_not]; try omega
   ·have kh3 := h3; (try simp only [bk] at kh3)
    refine .k h3 <| .k h3 <| .k h3 <| .k h3 <| .q (.pickF rfl h3 rfl) <| .z rfl rfl <| .nil <| sq_n <| .ret <| retQ_r (Le.refl _) (.tmp rfl .nil) rfl ?_
    simp_all [Put.ok, List.all_eq_not_any_not]; try omega
  ·have kh2 := h2; (try simp only [bk] at kh2)
   refine .k h2 <| .k h2 <| .k h2 <| .k h2 <| .q (.pickF rfl h2 rfl) <| .m rfl rfl <| .k rfl <| .k rfl <| .k rfl <| .k rfl <| .q (.pickF rfl rfl rfl) <| .z rfl rfl <| .nil <| sq_n <| .ret <| retQ_r (Le.refl _) (.tmp rfl .nil) rfl ?_
   simp_all [Put.ok, List.all_eq_not_any_not]; try omega
--REG c.isPut V (isPut_ok _ _ _ {0})
end Go.Proofs.YtjflgemfeofciaaGreatDoor
