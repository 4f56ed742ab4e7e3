import Derived.Test.YtjflgemfeofciaaGreatDoorTy
import Derived.Test.YtjflgemfeofciaaGreatDoorMX2
import Derived.Test.YtjflgemfeofciaaGreatDoorMN1
/- Layer 4: rooms. -/
namespace Go.Proofs.YtjflgemfeofciaaGreatDoor
open Go Go.Ev
set_option linter.unusedVariables false
set_option linter.unusedSimpArgs false
set_option maxRecDepth 10000
def within (n lo hi : Int) : Bool := decide (lo ≤ n) && decide (n ≤ hi)
theorem isWithin_ok (n lo hi : Int) (g : G) : Fv Tryz.prog natS (.f 67 [] []) [.i .i64 n, .i .i64 lo, .i .i64 hi] g (.b (within n lo hi)) := by
  refine Fw.fv ?_
  refine Fw.enter (N := 15) (al := [(2, _), (1, _), (0, _)]) Tryz.func67 (by kernel_rfl) (by kernel_rfl) rfl rfl rfl rfl ?_
  intro B
  refine .seq <| .region rfl <| .z rfl rfl <| .nil <| sq_n <| .seq <| .region rfl <| .m rfl rfl <| .m rfl rfl <| .b rfl rfl rfl rfl <| .m rfl rfl <| .split (t := 10) rfl (fun h1 => ?_) (fun h1 => ?_)
  ·have kh1 := h1; (try simp only [bk] at kh1)
   refine .py h1 (.move rfl) <| .py h1 (.move rfl) <| .py h1 (.bin rfl rfl rfl) <| .q (.pickT rfl h1 rfl) <| .z rfl rfl <| .nil <| sq_n <| .ret <| retQ_r (Le.refl _) (.tmp rfl .nil) rfl ?_
   first | rfl | (simp [within, *])
  ·have kh1 := h1; (try simp only [bk] at kh1)
   refine .k h1 <| .k h1 <| .k h1 <| .q (.pickF rfl h1 rfl) <| .z rfl rfl <| .nil <| sq_n <| .ret <| retQ_r (Le.refl _) (.tmp rfl .nil) rfl ?_
   first | rfl | (simp [within, *])
--REG c.isWithin V (isWithin_ok _ _ _ _)
theorem in_ok (n lo hi : Int) (g : G) : Fv Tryz.prog natS (.f 70 [] []) [.i .i64 n, .i .i64 lo, .i .i64 hi] g (.b (within n lo hi)) := by
  refine Fw.fv ?_
  refine Fw.enter (N := 15) (al := [(2, _), (1, _), (0, _)]) Tryz.func70 (by kernel_rfl) (by kernel_rfl) rfl rfl rfl rfl ?_
  intro B
  refine .seq <| .region rfl <| .z rfl rfl <| .nil <| sq_n <| .seq <| .region rfl <| .m rfl rfl <| .m rfl rfl <| .b rfl rfl rfl rfl <| .m rfl rfl <| .split (t := 10) rfl (fun h1 => ?_) (fun h1 => ?_)
  ·have kh1 := h1; (try simp only [bk] at kh1)
   refine .py h1 (.move rfl) <| .py h1 (.move rfl) <| .py h1 (.bin rfl rfl rfl) <| .q (.pickT rfl h1 rfl) <| .z rfl rfl <| .nil <| sq_n <| .ret <| retQ_r (Le.refl _) (.tmp rfl .nil) rfl ?_
   first | rfl | (simp [within, *])
  ·have kh1 := h1; (try simp only [bk] at kh1)
   refine .k h1 <| .k h1 <| .k h1 <| .q (.pickF rfl h1 rfl) <| .z rfl rfl <| .nil <| sq_n <| .ret <| retQ_r (Le.refl _) (.tmp rfl .nil) rfl ?_
   first | rfl | (simp [within, *])
--REG r4.in V (in_ok _ _ _ _)
structure Room where
  id : Int
  kind : Int
  op : Int
  cr : Int
  lo : Int
  hi : Int
def Room.ok (r : Room) : Bool := within r.id 1 999 && (within r.kind 1 9 && (within r.op 0 1000 && (within r.cr 0 999 && (!decide (r.lo < 0) && (!decide (r.hi < r.lo) && !decide (1000000000 < r.hi))))))
def roomE (r : Room) : Int := if r.ok then 0 else 40
def Room.v (r : Room) : List V := [.i .i64 r.id, .i .i64 r.kind, .i .i64 r.op, .i .i64 r.cr, .i .i64 r.lo, .i .i64 r.hi]
def RoomR (g : G) (cs : List V) (r : Room) : Prop := cs = r.v
theorem RoomR.mono : ∀ g g' cs x, Le g g' → RoomR g cs x → RoomR g' cs x := fun _ _ _ _ _ h => h
--REL api.Room {'pat':'rfl'}
theorem CheckRoom_ok (r : Room) (g : G) : Fv Tryz.prog natS (.f 19 [] []) [.agg r.v] g (.i .i64 (roomE r)) := by
  refine Fw.fv ?_
  refine Fw.enter (N := 46) (al := [(0, _)]) Tryz.func19 (by kernel_rfl) (by kernel_rfl) rfl rfl rfl rfl ?_
  intro B
  refine .seq <| .region rfl <| .box .no rfl rfl rfl rfl fun b1 => .z rfl rfl <| .nil <| sq_n <| .seq <| .seq <| .region rfl <| .q (.fa rfl f_29_0) <| .w (.s rfl .hd a_3 rfl) <| .callV .no rfl rfl rfl (isWithin_ok _ _ _ _) <| .q (.not rfl) <| .m rfl rfl <| .split (t := 7) rfl (fun h2 => ?_) (fun h2 => ?_)
  ·have kh2 := h2; (try simp only [bk] at kh2)
   refine .k h2 <| .k h2 <| .k h2 <| .k h2 <| .q (.pickT rfl h2 rfl) <| .m rfl rfl <| .k rfl <| .k rfl <| .k rfl <| .k rfl <| .q (.pickT rfl rfl rfl) <| .m rfl rfl <| .k rfl <| .k rfl <| .k rfl <| .k rfl <| .q (.pickT rfl rfl rfl) <| .m rfl rfl <| .k rfl <| .k rfl <| .k rfl <| .k rfl <| .q (.pickT rfl rfl rfl) <| .m rfl rfl <| .k rfl <| .k rfl <| .k rfl <| .k rfl <| .k rfl <| .k rfl ?_
   refine .k rfl <| .q (.pickT rfl rfl rfl) <| .m rfl rfl <| .k rfl <| .k rfl <| .k rfl <| .k rfl <| .q (.pickT rfl rfl rfl) <| .nil <| sq_n <| .condT rfl rfl <| .seq <| .region rfl <| .z rfl rfl <| .nil <| sq_n <| .ret <| sq_r <| retQ_r (Le.refl _) (.tmp rfl .nil) rfl ?_
   first | rfl | (simp_all [roomE, Room.ok]; done)
  ·have kh2 := h2; (try simp only [bk] at kh2)
   refine .py h2 (.fa rfl f_29_1) <| .wy h2 (.s rfl .hd a_3 rfl) <| .callV (.yes rfl rfl h2) rfl rfl rfl (isWithin_ok _ _ _ _) <| .py h2 (.not rfl) <| .q (.pickF rfl h2 rfl) <| .m rfl rfl <| .split (t := 13) rfl (fun h3 => ?_) (fun h3 => ?_)
   ·have kh3 := h3; (try simp only [bk] at kh3)
    refine .k h3 <| .k h3 <| .k h3 <| .k h3 <| .q (.pickT rfl h3 rfl) <| .m rfl rfl <| .k rfl <| .k rfl <| .k rfl <| .k rfl <| .q (.pickT rfl rfl rfl) <| .m rfl rfl <| .k rfl <| .k rfl <| .k rfl <| .k rfl <| .q (.pickT rfl rfl rfl) <| .m rfl rfl <| .k rfl <| .k rfl <| .k rfl <| .k rfl <| .k rfl <| .k rfl <| .k rfl <| .q (.pickT rfl rfl rfl) <| .m rfl rfl <| .k rfl <| .k rfl <| .k rfl ?_
    refine .k rfl <| .q (.pickT rfl rfl rfl) <| .nil <| sq_n <| .condT rfl rfl <| .seq <| .region rfl <| .z rfl rfl <| .nil <| sq_n <| .ret <| sq_r <| retQ_r (Le.refl _) (.tmp rfl .nil) rfl ?_
    first | rfl | (simp_all [roomE, Room.ok]; done)
   ·have kh3 := h3; (try simp only [bk] at kh3)
    refine .py h3 (.fa rfl f_29_2) <| .wy h3 (.s rfl .hd a_3 rfl) <| .callV (.yes rfl rfl h3) rfl rfl rfl (isWithin_ok _ _ _ _) <| .py h3 (.not rfl) <| .q (.pickF rfl h3 rfl) <| .m rfl rfl <| .split (t := 19) rfl (fun h4 => ?_) (fun h4 => ?_)
    ·have kh4 := h4; (try simp only [bk] at kh4)
     refine .k h4 <| .k h4 <| .k h4 <| .k h4 <| .q (.pickT rfl h4 rfl) <| .m rfl rfl <| .k rfl <| .k rfl <| .k rfl <| .k rfl <| .q (.pickT rfl rfl rfl) <| .m rfl rfl <| .k rfl <| .k rfl <| .k rfl <| .k rfl <| .k rfl <| .k rfl <| .k rfl <| .q (.pickT rfl rfl rfl) <| .m rfl rfl <| .k rfl <| .k rfl <| .k rfl <| .k rfl <| .q (.pickT rfl rfl rfl) <| .nil <| sq_n <| .condT rfl rfl <| .seq <| .region rfl ?_
     refine .z rfl rfl <| .nil <| sq_n <| .ret <| sq_r <| retQ_r (Le.refl _) (.tmp rfl .nil) rfl ?_
     first | rfl | (simp_all [roomE, Room.ok]; done)
    ·have kh4 := h4; (try simp only [bk] at kh4)
     refine .py h4 (.fa rfl f_29_3) <| .wy h4 (.s rfl .hd a_3 rfl) <| .callV (.yes rfl rfl h4) rfl rfl rfl (isWithin_ok _ _ _ _) <| .py h4 (.not rfl) <| .q (.pickF rfl h4 rfl) <| .m rfl rfl <| .split (t := 25) rfl (fun h5 => ?_) (fun h5 => ?_)
     ·have kh5 := h5; (try simp only [bk] at kh5)
      refine .k h5 <| .k h5 <| .k h5 <| .k h5 <| .q (.pickT rfl h5 rfl) <| .m rfl rfl <| .k rfl <| .k rfl <| .k rfl <| .k rfl <| .k rfl <| .k rfl <| .k rfl <| .q (.pickT rfl rfl rfl) <| .m rfl rfl <| .k rfl <| .k rfl <| .k rfl <| .k rfl <| .q (.pickT rfl rfl rfl) <| .nil <| sq_n <| .condT rfl rfl <| .seq <| .region rfl <| .z rfl rfl <| .nil <| sq_n <| .ret <| sq_r <| retQ_r (Le.refl _) (.tmp rfl .nil) rfl ?_
      first | rfl | (simp_all [roomE, Room.ok]; done)
     ·have kh5 := h5; (try simp only [bk] at kh5)
      refine .py h5 (.fa rfl f_29_4) <| .py h5 (.fa rfl f_27_0) <| .wy h5 (.s rfl .hd a_3 rfl) <| .py h5 (.bin rfl rfl rfl) <| .q (.pickF rfl h5 rfl) <| .m rfl rfl <| .split (t := 31) rfl (fun h6 => ?_) (fun h6 => ?_)
      ·have kh6 := h6; (try simp only [bk] at kh6)
       refine .k h6 <| .k h6 <| .k h6 <| .k h6 <| .k h6 <| .k h6 <| .k h6 <| .q (.pickT rfl h6 rfl) <| .m rfl rfl <| .k rfl <| .k rfl <| .k rfl <| .k rfl <| .q (.pickT rfl rfl rfl) <| .nil <| sq_n <| .condT rfl rfl <| .seq <| .region rfl <| .z rfl rfl <| .nil <| sq_n <| .ret <| sq_r <| retQ_r (Le.refl _) (.tmp rfl .nil) rfl ?_
       first | rfl | (simp_all [roomE, Room.ok]; done)
      ·have kh6 := h6; (try simp only [bk] at kh6)
       refine .py h6 (.fa rfl f_29_4) <| .py h6 (.fa rfl f_27_0) <| .wy h6 (.s rfl .hd a_3 rfl) <| .py h6 (.fa rfl f_29_4) <| .py h6 (.fa rfl f_27_1) <| .wy h6 (.s rfl .hd a_3 rfl) <| .py h6 (.bin rfl rfl rfl) <| .q (.pickF rfl h6 rfl) <| .m rfl rfl <| .split (t := 40) rfl (fun h7 => ?_) (fun h7 => ?_)
       ·have kh7 := h7; (try simp only [bk] at kh7)
        refine .k h7 <| .k h7 <| .k h7 <| .k h7 <| .q (.pickT rfl h7 rfl) <| .nil <| sq_n <| .condT rfl rfl <| .seq <| .region rfl <| .z rfl rfl <| .nil <| sq_n <| .ret <| sq_r <| retQ_r (Le.refl _) (.tmp rfl .nil) rfl ?_
        first | rfl | (simp_all [roomE, Room.ok]; done)
       ·have kh7 := h7; (try simp only [bk] at kh7)
        refine .py h7 (.fa rfl f_29_4) <| .py h7 (.fa rfl f_27_1) <| .wy h7 (.s rfl .hd a_3 rfl) <| .py h7 (.bin rfl rfl rfl) <| .q (.pickF rfl h7 rfl) <| .nil <| sq_n <| .cond rfl (fun h8 => ?_) (fun h8 => ?_)
        ·have kh8 := h8; (try simp only [bk] at kh8)
         refine .seq <| .region rfl <| .z rfl rfl <| .nil <| sq_n <| .ret <| sq_r <| retQ_r (Le.refl _) (.tmp rfl .nil) rfl ?_
         first | rfl | (simp_all [roomE, Room.ok]; done)
        ·have kh8 := h8; (try simp only [bk] at kh8)
         refine .skip <| sq_n <| .seq <| .region rfl <| .z rfl rfl <| .nil <| sq_n <| .ret <| retQ_r (Le.refl _) (.tmp rfl .nil) rfl ?_
         first | rfl | (simp_all [roomE, Room.ok]; done)
--REG c.CheckRoom V (CheckRoom_ok _ _)
end Go.Proofs.YtjflgemfeofciaaGreatDoor
