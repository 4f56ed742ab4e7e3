import Derived.Test.YtjflgemfeofciaaGreatDoorNat04
import Derived.KernelRfl
/- The chapter's own example answers yes. -/
namespace Go.Proofs.YtjflgemfeofciaaGreatDoor
open Go.RowKit Go.Ev
set_option maxRecDepth 100000
theorem sane_run : yesB (evalF Tryz.prog nat04 4000 21 []) = true := by kernel_rfl
theorem sane_is (w : World) (hp : Pow w) : Calls Tryz.prog 21 #[] w fun e w' => e = .returned (.bool true) ∧ Below w.heap.size w w' :=
  calls_true sane_run (by kernel_rfl) w (nat04_ok hp) ⟨_, Tryz.func21, (by
    intro h
    have h2 : Tryz.f21.body.isNone = false := by kernel_rfl
    rw [h] at h2
    cases h2), by kernel_rfl⟩ (by kernel_rfl)
end Go.Proofs.YtjflgemfeofciaaGreatDoor
