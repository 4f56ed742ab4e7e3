import Derived.Test.YtjflgemfeofciaaGreatDoorJu4
import Derived.Test.YtjflgemfeofciaaGreatDoorPq4
/- Layer 4: Ends, Judge. -/
namespace Go.Proofs.YtjflgemfeofciaaGreatDoor
open Go Go.Ev
set_option linter.unusedVariables false
set_option linter.unusedSimpArgs false
set_option maxRecDepth 10000
theorem ver_puts {v : Version} (h : v.ok = true) : v.puts.all Put.ok = true := by
  unfold Version.ok at h
  simp only [Bool.and_eq_true] at h
  exact h.2.2.1
theorem ver_lines {v : Version} (h : v.ok = true) : ∀ k, k < 10 → lineB (v.ln k) = true := by
  unfold Version.ok at h
  simp only [Bool.and_eq_true] at h
  exact fun k hk => allR_get h.2.2.2 hk
end Go.Proofs.YtjflgemfeofciaaGreatDoor
