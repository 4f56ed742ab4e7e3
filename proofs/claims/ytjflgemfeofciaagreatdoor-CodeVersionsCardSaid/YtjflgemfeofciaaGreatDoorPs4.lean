import Derived.Test.YtjflgemfeofciaaGreatDoorPk4
import Derived.Test.YtjflgemfeofciaaGreatDoorRs4
/- Layer 4: CodeRests holds (plain law). -/
namespace Go.Proofs.YtjflgemfeofciaaGreatDoor
open Go Go.Ev
set_option linter.unusedVariables false
set_option linter.unusedSimpArgs false
theorem ckT {R : Type} {b : Bool} {A : Option R} (h : b = true) : ck b A = A := by subst h; rfl
theorem drop_get {α : Type} {l ys : List α} {y : α} {k : Nat} (h : l.drop k = y :: ys) : l[k]? = some y ∧ l.drop (k + 1) = ys := by
  constructor
  · have := congrArg List.head? h
    rwa [List.head?_drop] at this
  · have := congrArg List.tail h
    rwa [List.tail_drop] at this
theorem vgood_iff {l : List Version} {j : Nat} {r : Version} (hr : l[j]? = some r) : vgood l j = true ↔ r.ok = true ∧ (j = 0 ∨ ∀ q, l[j - 1]? = some q → q.fr < r.fr) := by
  unfold vgood
  rw [hr]
  cases hq : l[j - 1]? with
  | none => simp
  | some q => simp
theorem code_vs {c : Code} (h : c.err = 0) : 1 ≤ c.vs.length ∧ c.vs.length ≤ 12 ∧ ∀ j v, c.vs[j]? = some v → v.ok = true ∧ (j = 0 ∨ ∀ q, c.vs[j - 1]? = some q → q.fr < v.fr) := by
  unfold Code.err at h
  split at h
  · rename_i h1
    unfold Code.ok at h1
    simp only [Bool.and_eq_true] at h1
    obtain ⟨_, h2, h3⟩ := h1
    unfold within at h2
    simp only [Bool.and_eq_true, decide_eq_true_eq] at h2
    exact ⟨by omega, by omega, fun j v hv => (vgood_iff hv).1 (allR_get h3 (List.getElem?_eq_some_iff.1 hv).1)⟩
  · cases h
theorem fail_eq (q : T_question) (b : Bool) (n : Int) : F_code_question_fail q b n = some (T_question.mk q.c_ q.version_ q.index_ (failE q.e_ b n)) := by
  unfold F_code_question_fail failE
  by_cases h : q.e_ = 0
  · cases b <;> simp [h]
    cases q; simp_all
  · rw [decide_eq_false h, if_neg fun k => h k.1]; rfl
theorem by_eq (q : T_question) (f : Int) : F_code_question_by q f = some (T_question.mk q.c_ q.version_ q.index_ (byE q.e_ f)) := by
  unfold F_code_question_by byE
  rw [fail_eq, fail_eq]
  by_cases h : f = 0
  · subst h; rfl
  · rw [decide_eq_false h]; rfl
end Go.Proofs.YtjflgemfeofciaaGreatDoor
