import Derived.Test.YtjflgemfeofciaaGreatDoorVs4
import Derived.Test.YtjflgemfeofciaaGreatDoorPs4
/- Layer 4: CodeVersions holds (plain law). -/
namespace Go.Proofs.YtjflgemfeofciaaGreatDoor
open Go Go.Ev
set_option linter.unusedVariables false
set_option linter.unusedSimpArgs false
/-! what is copied -/
def copV (v : Version) : Version := Version.mk v.fr v.puts (arr [v.ln 0, v.ln 1, v.ln 2, v.ln 3, v.ln 4, v.ln 5, v.ln 6, v.ln 7, v.ln 8, v.ln 9] (v.ln 0))
theorem set_same {α : Type} {l : List α} {k : Nat} {y : α} (h : l[k]? = some y) : l.set k y = l := by
  obtain ⟨h1, rfl⟩ := List.getElem?_eq_some_iff.1 h
  exact List.set_getElem_self h1
theorem cp_l1 (z : Int) (d : List Put) (a0 a1 a2 a3 a4 a5 a6 a7 a8 a9 : List Piece) (hd : ∀ p ∈ d, p.tests.length ≤ 4) : ∀ (n k : Nat), k + n = d.length → F_code_copied_l1 n k z d a0 a1 a2 a3 a4 a5 a6 a7 a8 a9 = some (z, d, a0, a1, a2, a3, a4, a5, a6, a7, a8, a9)
  | 0, k, _ => rfl
  | n + 1, k, h => by
    have hk : k < d.length := by omega
    have hy := List.getElem?_eq_getElem hk
    have hc : F_slices_Clone_api_Test_api_Test d[k].tests = some d[k].tests := ckT (decide_eq_true (by have := hd d[k] (List.getElem_mem hk); omega))
    rw [F_code_copied_l1, atI_nat, hy]
    simp only [Option.bind_some, hc]
    rw [set_same hy]
    exact cp_l1 z d a0 a1 a2 a3 a4 a5 a6 a7 a8 a9 hd n (k + 1) (by omega)
theorem pc_eq {l : List Piece} (h : lineB l = true) : F_slices_Clone_api_Piece_api_Piece l = some l := ckT (decide_eq_true (by have := line_len h; omega))
theorem ok_tests {v : Version} (h : v.ok = true) : v.puts.length ≤ 20 ∧ ∀ p ∈ v.puts, p.tests.length ≤ 4 := by
  have hp := ver_puts h
  unfold Version.ok at h
  simp only [Bool.and_eq_true, decide_eq_true_eq] at h
  refine ⟨h.2.1, fun p hm => ?_⟩
  have := List.all_eq_true.1 hp p hm
  unfold Put.ok at this
  simp only [Bool.and_eq_true, decide_eq_true_eq] at this
  exact this.2.1
theorem cp_eq {v : Version} (h : v.ok = true) : F_code_copied v = some (copV v) := by
  obtain ⟨h1, h2⟩ := ok_tests h
  have hl := ver_lines h
  have hc : F_slices_Clone_api_Put_api_Put v.puts = some v.puts := ckT (decide_eq_true (by omega))
  unfold F_code_copied
  rw [hc, Option.bind_some, cp_l1 _ _ _ _ _ _ _ _ _ _ _ _ h2 _ 0 (by omega)]
  simp only [Option.bind_some, pc_eq (hl 0 (by decide)), pc_eq (hl 1 (by decide)), pc_eq (hl 2 (by decide)), pc_eq (hl 3 (by decide)), pc_eq (hl 4 (by decide)), pc_eq (hl 5 (by decide)), pc_eq (hl 6 (by decide)), pc_eq (hl 7 (by decide)), pc_eq (hl 8 (by decide)), pc_eq (hl 9 (by decide))]
  rfl
theorem am_l2 (p1 : Version) (q : List Version) (s : List UInt8) (hq : ∀ v ∈ q ++ [p1], v.ok = true) (hn : (q ++ [p1]).length ≤ 20) : ∀ (n k : Nat) (d : List Version), k + n = (q ++ [p1]).length → d.length ≤ k → F_code_Amend_l2 p1 q n k s d = some (s, d ++ ((q ++ [p1]).drop k).map copV)
  | 0, k, d, h, _ => by
    rw [F_code_Amend_l2, List.drop_eq_nil_of_le (by omega)]; simp
  | n + 1, k, d, h, hd => by
    have hk : k < (q ++ [p1]).length := by omega
    have hy := List.getElem?_eq_getElem hk
    rw [F_code_Amend_l2, atI_nat, hy]
    simp only [Option.bind_some, cp_eq (hq _ (List.getElem_mem hk))]
    rw [ckT (decide_eq_true (by omega)), am_l2 p1 q s hq hn n (k + 1) _ (by omega) (by simp only [List.length_append, List.length_singleton]; omega), List.drop_eq_getElem_cons hk, List.map_cons, List.append_assoc, List.singleton_append]
theorem failE_f (e n : Int) : failE e false n = e := by unfold failE; rw [if_neg fun h => by cases h.2]
/-! the version in force -/
theorem force_eq (c : Code) (day : Int) : ∃ a, F_code_InForce c day = some a ∧ F_r04_InForce c day = some a := by
  have hc : F_code_of c = some (T_question.mk c (Version.mk 0 [] (arr [[], [], [], [], [], [], [], [], [], []] [])) (-1) c.err) := rfl
  have hb := forceI_bd c day
  unfold F_code_InForce F_r04_InForce F_code_question_on
  rw [hc]
  simp only [Option.bind_some, fail_eq, by_eq]
  by_cases h1 : c.err = 0
  · rw [h1]
    cases h2 : within day 0 100000 with
    | false => exact ⟨_, rfl, rfl⟩
    | true =>
      by_cases h3 : forceI c day < 0
      · rw [decide_eq_true h3]
        exact ⟨_, rfl, rfl⟩
      · rw [decide_eq_false h3]
        have hat : atI c.vs (forceI c day) = some (c.vs[(forceI c day).toNat]'(by omega)) := by
          unfold atI
          rw [if_pos (by omega), List.getElem?_eq_getElem]
        refine ⟨(forceI c day, 0), ?_, rfl⟩
        show Option.bind (Option.bind (atI c.vs (forceI c day)) _) _ = _
        rw [hat]
        show some (max (forceI c day) 0, (0 : Int)) = _
        rw [Int.max_eq_left (by omega)]
  · refine ⟨(0, c.err), ?_, ?_⟩
    · have e1 : ∀ b n, failE c.err b n = c.err := fun b n => if_neg fun h => h1 h.1
      have e2 : byE c.err 0 = c.err := e1 _ _
      simp only [e1, e2]
      rw [decide_eq_false h1]; rfl
    · rw [decide_eq_false h1]; rfl
end Go.Proofs.YtjflgemfeofciaaGreatDoor
