import Derived.Test.YtjflgemfeofciaaGreatDoorVs4
import Derived.Test.YtjflgemfeofciaaGreatDoorPs4
/- Layer 4: CodeVersions holds (plain law). -/
namespace Go.Proofs.YtjflgemfeofciaaGreatDoor
open Go Go.Ev
set_option linter.unusedVariables false
set_option linter.unusedSimpArgs false
/-! the version in force -/
theorem force_eq (c : Code) (day : Int) : ∃ a, F_code_InForce c day = some a ∧ F_r04_InForce c day = some a := by
  have hc : F_code_of c = some (T_question.mk c (Version.mk 0 [] (arr [[], [], [], [], [], [], [], [], [], []] [])) (-1) c.err) := rfl
  have hb := forceI_bd c day
  unfold F_code_InForce F_r04_InForce F_code_question_on
  rw [hc]
  simp only [Option.bind_some, fail_eq, by_eq]
  by_cases h1 : c.err = 0
  · rw [h1]
    cases h2 : within day 0 100000 with
    | false => exact ⟨_, rfl, rfl⟩
    | true =>
      by_cases h3 : forceI c day < 0
      · rw [decide_eq_true h3]
        exact ⟨_, rfl, rfl⟩
      · rw [decide_eq_false h3]
        have hat : atI c.vs (forceI c day) = some (c.vs[(forceI c day).toNat]'(by omega)) := by
          unfold atI
          rw [if_pos (by omega), List.getElem?_eq_getElem]
        refine ⟨(forceI c day, 0), ?_, rfl⟩
        show Option.bind (Option.bind (atI c.vs (forceI c day)) _) _ = _
        rw [hat]
        show some (max (forceI c day) 0, (0 : Int)) = _
        rw [Int.max_eq_left (by omega)]
  · refine ⟨(0, c.err), ?_, ?_⟩
    · have e1 : ∀ b n, failE c.err b n = c.err := fun b n => if_neg fun h => h1 h.1
      have e2 : byE c.err 0 = c.err := e1 _ _
      simp only [e1, e2]
      rw [decide_eq_false h1]; rfl
    · rw [decide_eq_false h1]; rfl
end Go.Proofs.YtjflgemfeofciaaGreatDoor
