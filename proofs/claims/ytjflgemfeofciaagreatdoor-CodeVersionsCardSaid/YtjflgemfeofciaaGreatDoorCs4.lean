import Derived.Test.YtjflgemfeofciaaGreatDoorCr4
/- Layer 4: lists of rooms. -/
namespace Go.Proofs.YtjflgemfeofciaaGreatDoor
open Go Go.Ev
set_option linter.unusedVariables false
set_option linter.unusedSimpArgs false
set_option maxRecDepth 10000
def allR (p : Nat → Bool) : Nat → Bool
  | 0 => true
  | n + 1 => allR p n && p n
theorem allR_no {p : Nat → Bool} {n k : Nat} (hk : k < n) (h : p k = false) : allR p n = false := by
  induction n with
  | zero => omega
  | succ n ih =>
    unfold allR
    by_cases e : k = n
    · subst e; rw [h, Bool.and_false]
    · rw [ih (by omega), Bool.false_and]
theorem allR_get {p : Nat → Bool} {n k : Nat} (h : allR p n = true) (hk : k < n) : p k = true := by
  cases hp : p k with
  | true => rfl
  | false => rw [allR_no hk hp] at h; cases h
end Go.Proofs.YtjflgemfeofciaaGreatDoor
