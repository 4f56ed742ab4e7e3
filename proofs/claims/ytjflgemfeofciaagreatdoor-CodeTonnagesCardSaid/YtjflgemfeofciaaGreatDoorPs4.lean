import Derived.Test.YtjflgemfeofciaaGreatDoorMY1
import Derived.Test.YtjflgemfeofciaaGreatDoorRs4
/- Layer 4: CodeRests holds (plain law). -/
namespace Go.Proofs.YtjflgemfeofciaaGreatDoor
open Go Go.Ev
set_option linter.unusedVariables false
set_option linter.unusedSimpArgs false
theorem allR_mk {p : Nat → Bool} : ∀ {n : Nat}, (∀ k, k < n → p k = true) → allR p n = true
  | 0, _ => rfl
  | n + 1, h => by
    unfold allR
    rw [allR_mk fun k hk => h k (by omega), h n (by omega)]; rfl
theorem ckT {R : Type} {b : Bool} {A : Option R} (h : b = true) : ck b A = A := by subst h; rfl
theorem rgood_iff {l : List Room} {j : Nat} {r : Room} (hr : l[j]? = some r) : rgood l j = true ↔ r.ok = true ∧ (j = 0 ∨ ∀ q, l[j - 1]? = some q → q.id < r.id) := by
  unfold rgood
  rw [hr]
  cases hq : l[j - 1]? with
  | none => simp
  | some q => simp
def judC (c : Code) (day f : Int) (l : List Room) : Int × Int := ((endD Prod.fst c day f l).Tonnage, (endD Prod.snd c day f l).Tonnage)
theorem drop_get {α : Type} {l ys : List α} {y : α} {k : Nat} (h : l.drop k = y :: ys) : l[k]? = some y ∧ l.drop (k + 1) = ys := by
  constructor
  · have := congrArg List.head? h
    rwa [List.head?_drop] at this
  · have := congrArg List.tail h
    rwa [List.tail_drop] at this
theorem vgood_iff {l : List Version} {j : Nat} {r : Version} (hr : l[j]? = some r) : vgood l j = true ↔ r.ok = true ∧ (j = 0 ∨ ∀ q, l[j - 1]? = some q → q.fr < r.fr) := by
  unfold vgood
  rw [hr]
  cases hq : l[j - 1]? with
  | none => simp
  | some q => simp
theorem end_at {c : Code} (h : c.err = 0) {f : Int} {l : List Room} (hf : within f 0 1 = true) (hr : roomsE l = 0) {k : Nat} {y : Version} (hy : c.vs[k]? = some y) {day : Int} (h0 : 0 ≤ day ∧ day ≤ 100000) (hk : forceI c day = k) : endE c day f l = 0 ∧ verF c day = y := by
  constructor
  · unfold endE withE onE byE
    have b : (!within day 0 100000) = false := by
      unfold within; rw [decide_eq_true h0.1, decide_eq_true h0.2]; rfl
    have b2 : (!decide (f = 0) && !decide (f = 1)) = false := by
      unfold within at hf
      simp only [Bool.and_eq_true, decide_eq_true_eq] at hf
      have : f = 0 ∨ f = 1 := by omega
      rcases this with rfl | rfl <;> rfl
    rw [h, hr, b, b2, hk, decide_eq_false (by omega)]; rfl
  · unfold verF
    rw [hk, List.getD_eq_getElem?_getD, Int.toNat_natCast, hy]; rfl
theorem ver_fr {v : Version} (h : v.ok = true) : 0 ≤ v.fr ∧ v.fr ≤ 100000 := by
  unfold Version.ok within at h
  simp only [Bool.and_eq_true, decide_eq_true_eq] at h
  exact h.1
theorem fail_eq (q : T_question) (b : Bool) (n : Int) : F_code_question_fail q b n = some (T_question.mk q.c_ q.version_ q.index_ (failE q.e_ b n)) := by
  unfold F_code_question_fail failE
  by_cases h : q.e_ = 0
  · cases b <;> simp [h]
    cases q; simp_all
  · rw [decide_eq_false h, if_neg fun k => h k.1]; rfl
theorem by_eq (q : T_question) (f : Int) : F_code_question_by q f = some (T_question.mk q.c_ q.version_ q.index_ (byE q.e_ f)) := by
  unfold F_code_question_by byE
  rw [fail_eq, fail_eq]
  by_cases h : f = 0
  · subst h; rfl
  · rw [decide_eq_false h]; rfl
theorem with_eq (q : T_question) (l : List Room) : F_code_question_with q l = some (T_question.mk q.c_ q.version_ q.index_ (withE q.e_ l)) := by
  unfold F_code_question_with withE
  rw [fail_eq]; rfl
end Go.Proofs.YtjflgemfeofciaaGreatDoor
