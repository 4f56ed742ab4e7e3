import Derived.Test.YtjflgemfeofciaaGreatDoorTy
import Derived.Test.YtjflgemfeofciaaGreatDoorMX2
import Derived.Test.YtjflgemfeofciaaGreatDoorMN1
/- Layer 4: rooms. -/
namespace Go.Proofs.YtjflgemfeofciaaGreatDoor
open Go Go.Ev
set_option linter.unusedVariables false
set_option linter.unusedSimpArgs false
set_option maxRecDepth 10000
def within (n lo hi : Int) : Bool := decide (lo ≤ n) && decide (n ≤ hi)
theorem isWithin_ok (n lo hi : Int) (g : G) : Fv Tryz.prog natS (.f 67 [] []) [.i .i64 n, .i .i64 lo, .i .i64 hi] g (.b (within n lo hi)) := by
  refine Fw.fv ?_
  refine Fw.enter (N := 15) (al := [(2, _), (1, _), (0, _)]) Tryz.func67 (by kernel_rfl) (by kernel_rfl) rfl rfl rfl rfl ?_
  intro B
  refine .seq <| .region rfl <| .z rfl rfl <| .nil <| sq_n <| .seq <| .region rfl <| .m rfl rfl <| .m rfl rfl <| .b rfl rfl rfl rfl <| .m rfl rfl <| .split (t := 10) rfl (fun h1 => ?_) (fun h1 => ?_)
  · have kh1 := h1; (try simp only [bk] at kh1)
    refine .p (.yes rfl rfl h1) rfl (.move rfl) <| .p (.yes rfl rfl h1) rfl (.move rfl) <| .p (.yes rfl rfl h1) rfl (.bin rfl rfl rfl) <| .p .no rfl (.pickT rfl h1 rfl) <| .z rfl rfl <| .nil <| sq_n <| .ret <| retQ_r (Le.refl _) (.tmp rfl .nil) rfl ?_
    first | rfl | (simp [within, *])
  · have kh1 := h1; (try simp only [bk] at kh1)
    refine .skip (.yes rfl rfl h1) rfl <| .skip (.yes rfl rfl h1) rfl <| .skip (.yes rfl rfl h1) rfl <| .p .no rfl (.pickF rfl h1 rfl) <| .z rfl rfl <| .nil <| sq_n <| .ret <| retQ_r (Le.refl _) (.tmp rfl .nil) rfl ?_
    first | rfl | (simp [within, *])
--REG c.isWithin V (isWithin_ok _ _ _ _)
theorem in_ok (n lo hi : Int) (g : G) : Fv Tryz.prog natS (.f 70 [] []) [.i .i64 n, .i .i64 lo, .i .i64 hi] g (.b (within n lo hi)) := by
  refine Fw.fv ?_
  refine Fw.enter (N := 15) (al := [(2, _), (1, _), (0, _)]) Tryz.func70 (by kernel_rfl) (by kernel_rfl) rfl rfl rfl rfl ?_
  intro B
  refine .seq <| .region rfl <| .z rfl rfl <| .nil <| sq_n <| .seq <| .region rfl <| .m rfl rfl <| .m rfl rfl <| .b rfl rfl rfl rfl <| .m rfl rfl <| .split (t := 10) rfl (fun h1 => ?_) (fun h1 => ?_)
  · have kh1 := h1; (try simp only [bk] at kh1)
    refine .p (.yes rfl rfl h1) rfl (.move rfl) <| .p (.yes rfl rfl h1) rfl (.move rfl) <| .p (.yes rfl rfl h1) rfl (.bin rfl rfl rfl) <| .p .no rfl (.pickT rfl h1 rfl) <| .z rfl rfl <| .nil <| sq_n <| .ret <| retQ_r (Le.refl _) (.tmp rfl .nil) rfl ?_
    first | rfl | (simp [within, *])
  · have kh1 := h1; (try simp only [bk] at kh1)
    refine .skip (.yes rfl rfl h1) rfl <| .skip (.yes rfl rfl h1) rfl <| .skip (.yes rfl rfl h1) rfl <| .p .no rfl (.pickF rfl h1 rfl) <| .z rfl rfl <| .nil <| sq_n <| .ret <| retQ_r (Le.refl _) (.tmp rfl .nil) rfl ?_
    first | rfl | (simp [within, *])
--REG r4.in V (in_ok _ _ _ _)
structure Room where
  id : Int
  kind : Int
  op : Int
  cr : Int
  lo : Int
  hi : Int
def Room.ok (r : Room) : Bool := within r.id 1 999 && (within r.kind 1 9 && (within r.op 0 1000 && (within r.cr 0 999 && (!decide (r.lo < 0) && (!decide (r.hi < r.lo) && !decide (1000000000 < r.hi))))))
def Room.v (r : Room) : List V := [.i .i64 r.id, .i .i64 r.kind, .i .i64 r.op, .i .i64 r.cr, .i .i64 r.lo, .i .i64 r.hi]
def RoomR (g : G) (cs : List V) (r : Room) : Prop := cs = r.v
theorem RoomR.mono : ∀ g g' cs x, Le g g' → RoomR g cs x → RoomR g' cs x := fun _ _ _ _ _ h => h
--REL api.Room {'pat':'rfl'}
end Go.Proofs.YtjflgemfeofciaaGreatDoor
