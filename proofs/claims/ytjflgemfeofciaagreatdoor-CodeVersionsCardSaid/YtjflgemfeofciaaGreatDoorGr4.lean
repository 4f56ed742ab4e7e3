import Derived.Test.YtjflgemfeofciaaGreatDoorVd4
/- Layer 4: into which group a room is put. -/
namespace Go.Proofs.YtjflgemfeofciaaGreatDoor
open Go Go.Ev
set_option linter.unusedVariables false
set_option linter.unusedSimpArgs false
set_option maxRecDepth 10000
def lookI (t : Test) (r : Room) : Int := if t.of = 2 then r.op else if t.of = 3 then r.cr else r.kind
def isSoB (t : Test) (r : Room) : Bool := if t.how = 1 then decide (lookI t r < t.num) else if t.how = 2 then decide (lookI t r ≤ t.num) else if t.how = 3 then decide (lookI t r = t.num) else if t.how = 4 then !decide (lookI t r = t.num) else if t.how = 5 then decide (t.num ≤ lookI t r) else decide (t.num < lookI t r)
/-- the group and the put into which a room falls. -/
def grpF (r : Room) : List Put → Nat → Int × Int
  | [], _ => (0, -1)
  | p :: l, k => if p.tests.all (isSoB · r) = true then (p.group, (k : Int)) else grpF r l (k + 1)
def grp (v : Version) (r : Room) : Int × Int := grpF r v.puts 0
end Go.Proofs.YtjflgemfeofciaaGreatDoor
