import Derived.Test.YtjflgemfeofciaaGreatDoorGr4
import Derived.Test.YtjflgemfeofciaaGreatDoorVb4
import Derived.Test.YtjflgemfeofciaaGreatDoorQu4
import Derived.Test.YtjflgemfeofciaaGreatDoorMX3
/- Layer 4: the plan of a version. -/
namespace Go.Proofs.YtjflgemfeofciaaGreatDoor
open Go Go.Ev
set_option linter.unusedVariables false
set_option linter.unusedSimpArgs false
set_option maxRecDepth 10000
def intC (n : Int) : List V := [.i .i64 n]
/-- the Ids of the rooms of a group; their litres. -/
def idsI (v : Version) (i : Nat) (l : List Room) : List Int := (l.filter fun r => decide ((grp v r).1 = (i : Int))).map Room.id
def litI (v : Version) (f : Room → Int) (i : Nat) (l : List Room) : Int := l.foldl (fun a r => if (grp v r).1 = (i : Int) then wadd a (f r) else a) 0
structure PS where
  k : Nat
  rv : Nat → V
  lo : Nat → Int
  hi : Nat → Int
  ids : Nat → List V
def PS.init : PS := ⟨0, fun _ => .sn, fun _ => 0, fun _ => 0, fun _ => []⟩
structure PSok (v : Version) (l : List Room) (x : PS) : Prop where
  hk : x.k ≤ l.length
  ids : ∀ i, x.ids i = (idsI v i (l.take x.k)).flatMap intC
  lo : ∀ i, 0 < i → x.lo i = litI v Room.lo i (l.take x.k)
  hi : ∀ i, 0 < i → x.hi i = litI v Room.hi i (l.take x.k)
  av : ∀ i, Av (x.rv i)
theorem PSok.init (v : Version) (l : List Room) : PSok v l .init := ⟨Nat.zero_le _, fun _ => rfl, fun _ _ => rfl, fun _ _ => rfl, fun _ => .nil⟩
theorem idsI_len (v : Version) (i : Nat) (l : List Room) : (idsI v i l).length ≤ l.length := by unfold idsI; rw [List.length_map]; exact List.length_filter_le _ _
theorem PSok.app {v : Version} {l : List Room} {x : PS} (h : PSok v l x) (hl : l.length ≤ 20) {i : Nat} {new : List V} (hn : new.length = 1) : (x.ids i).length + new.length ≤ 1000000 * 1 := by
  rw [h.ids, flat_len (f := intC) (s := 1) (fun _ => rfl), hn]
  have := idsI_len v i (l.take x.k)
  rw [List.length_take] at this
  omega
theorem PSok.tk {v : Version} {l : List Room} {x : PS} (h : PSok v l x) (hk : l.length ≤ x.k) : l.take x.k = l := List.take_of_length_le hk
theorem PSok.fin {v : Version} {l : List Room} {x : PS} (h : PSok v l x) (hk : l.length ≤ x.k) (i : Nat) : x.ids i = (idsI v i l).flatMap intC := by rw [h.ids, h.tk hk]
end Go.Proofs.YtjflgemfeofciaaGreatDoor
