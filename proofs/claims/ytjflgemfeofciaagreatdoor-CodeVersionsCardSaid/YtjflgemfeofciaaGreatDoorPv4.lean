import Derived.Test.YtjflgemfeofciaaGreatDoorVs4
import Derived.Test.YtjflgemfeofciaaGreatDoorPs4
/- Layer 4: CodeVersions holds (plain law). -/
namespace Go.Proofs.YtjflgemfeofciaaGreatDoor
open Go Go.Ev
set_option linter.unusedVariables false
set_option linter.unusedSimpArgs false
/-! equality of versions -/
structure VEq (a b : Version) : Prop where
  fr : a.fr = b.fr
  puts : a.puts = b.puts
  ln : ∀ k, k < 10 → a.ln k = b.ln k
theorem sv_l2 (y : Put) : ∀ (ys : List Test) (k : Nat), y.tests.drop k = ys → F_r04_sameVersion_l2 y ys k = some (Sum.inr ())
  | [], k, _ => rfl
  | x :: ys, k, h => by
    obtain ⟨hy, hs⟩ := drop_get h
    rw [F_r04_sameVersion_l2, hy]
    simp only [Option.bind_some, decide_true, Bool.and_self, Bool.not_true, cond_false]
    exact sv_l2 y ys (k + 1) hs
theorem sv_l1 (p : Version) : ∀ (ys : List Put) (k : Nat), p.puts.drop k = ys → F_r04_sameVersion_l1 p ys k = some (Sum.inr ())
  | [], k, _ => rfl
  | x :: ys, k, h => by
    obtain ⟨hy, hs⟩ := drop_get h
    rw [F_r04_sameVersion_l1, hy]
    simp only [Option.bind_some, decide_true, Bool.not_true, cond_false, sv_l2 x x.tests 0 rfl]
    exact sv_l1 p ys (k + 1) hs
theorem sv_l3 (p : Version) : ∀ (ys : List Piece) (k : Nat), (p.ln 0).drop k = ys → F_r04_sameVersion_l3 p ys k = some (Sum.inr ())
  | [], k, _ => rfl
  | x :: ys, k, h => by
    obtain ⟨hy, hs⟩ := drop_get h
    rw [F_r04_sameVersion_l3, hy]
    simp only [Option.bind_some, decide_true, Bool.and_self, Bool.not_true, cond_false]
    exact sv_l3 p ys (k + 1) hs
theorem sv_l4 (p : Version) : ∀ (ys : List Piece) (k : Nat), (p.ln 1).drop k = ys → F_r04_sameVersion_l4 p ys k = some (Sum.inr ())
  | [], k, _ => rfl
  | x :: ys, k, h => by
    obtain ⟨hy, hs⟩ := drop_get h
    rw [F_r04_sameVersion_l4, hy]
    simp only [Option.bind_some, decide_true, Bool.and_self, Bool.not_true, cond_false]
    exact sv_l4 p ys (k + 1) hs
theorem sv_l5 (p : Version) : ∀ (ys : List Piece) (k : Nat), (p.ln 2).drop k = ys → F_r04_sameVersion_l5 p ys k = some (Sum.inr ())
  | [], k, _ => rfl
  | x :: ys, k, h => by
    obtain ⟨hy, hs⟩ := drop_get h
    rw [F_r04_sameVersion_l5, hy]
    simp only [Option.bind_some, decide_true, Bool.and_self, Bool.not_true, cond_false]
    exact sv_l5 p ys (k + 1) hs
theorem sv_l6 (p : Version) : ∀ (ys : List Piece) (k : Nat), (p.ln 3).drop k = ys → F_r04_sameVersion_l6 p ys k = some (Sum.inr ())
  | [], k, _ => rfl
  | x :: ys, k, h => by
    obtain ⟨hy, hs⟩ := drop_get h
    rw [F_r04_sameVersion_l6, hy]
    simp only [Option.bind_some, decide_true, Bool.and_self, Bool.not_true, cond_false]
    exact sv_l6 p ys (k + 1) hs
theorem sv_l7 (p : Version) : ∀ (ys : List Piece) (k : Nat), (p.ln 4).drop k = ys → F_r04_sameVersion_l7 p ys k = some (Sum.inr ())
  | [], k, _ => rfl
  | x :: ys, k, h => by
    obtain ⟨hy, hs⟩ := drop_get h
    rw [F_r04_sameVersion_l7, hy]
    simp only [Option.bind_some, decide_true, Bool.and_self, Bool.not_true, cond_false]
    exact sv_l7 p ys (k + 1) hs
theorem sv_l8 (p : Version) : ∀ (ys : List Piece) (k : Nat), (p.ln 5).drop k = ys → F_r04_sameVersion_l8 p ys k = some (Sum.inr ())
  | [], k, _ => rfl
  | x :: ys, k, h => by
    obtain ⟨hy, hs⟩ := drop_get h
    rw [F_r04_sameVersion_l8, hy]
    simp only [Option.bind_some, decide_true, Bool.and_self, Bool.not_true, cond_false]
    exact sv_l8 p ys (k + 1) hs
theorem sv_l9 (p : Version) : ∀ (ys : List Piece) (k : Nat), (p.ln 6).drop k = ys → F_r04_sameVersion_l9 p ys k = some (Sum.inr ())
  | [], k, _ => rfl
  | x :: ys, k, h => by
    obtain ⟨hy, hs⟩ := drop_get h
    rw [F_r04_sameVersion_l9, hy]
    simp only [Option.bind_some, decide_true, Bool.and_self, Bool.not_true, cond_false]
    exact sv_l9 p ys (k + 1) hs
theorem sv_l10 (p : Version) : ∀ (ys : List Piece) (k : Nat), (p.ln 7).drop k = ys → F_r04_sameVersion_l10 p ys k = some (Sum.inr ())
  | [], k, _ => rfl
  | x :: ys, k, h => by
    obtain ⟨hy, hs⟩ := drop_get h
    rw [F_r04_sameVersion_l10, hy]
    simp only [Option.bind_some, decide_true, Bool.and_self, Bool.not_true, cond_false]
    exact sv_l10 p ys (k + 1) hs
theorem sv_l11 (p : Version) : ∀ (ys : List Piece) (k : Nat), (p.ln 8).drop k = ys → F_r04_sameVersion_l11 p ys k = some (Sum.inr ())
  | [], k, _ => rfl
  | x :: ys, k, h => by
    obtain ⟨hy, hs⟩ := drop_get h
    rw [F_r04_sameVersion_l11, hy]
    simp only [Option.bind_some, decide_true, Bool.and_self, Bool.not_true, cond_false]
    exact sv_l11 p ys (k + 1) hs
theorem sv_l12 (p : Version) : ∀ (ys : List Piece) (k : Nat), (p.ln 9).drop k = ys → F_r04_sameVersion_l12 p ys k = some (Sum.inr ())
  | [], k, _ => rfl
  | x :: ys, k, h => by
    obtain ⟨hy, hs⟩ := drop_get h
    rw [F_r04_sameVersion_l12, hy]
    simp only [Option.bind_some, decide_true, Bool.and_self, Bool.not_true, cond_false]
    exact sv_l12 p ys (k + 1) hs
theorem sv_eq {a b : Version} (h : VEq a b) : F_r04_sameVersion a b = some true := by
  obtain ⟨h1, h2, h3⟩ := h
  unfold F_r04_sameVersion
  rw [h1, h2, h3 0 (by decide), h3 1 (by decide), h3 2 (by decide), h3 3 (by decide), h3 4 (by decide), h3 5 (by decide), h3 6 (by decide), h3 7 (by decide), h3 8 (by decide), h3 9 (by decide)]
  simp only [decide_true, Bool.not_true, cond_false, Option.bind_some, sv_l1 b b.puts 0 rfl, sv_l3 b (b.ln 0) 0 rfl, sv_l4 b (b.ln 1) 0 rfl, sv_l5 b (b.ln 2) 0 rfl, sv_l6 b (b.ln 3) 0 rfl, sv_l7 b (b.ln 4) 0 rfl, sv_l8 b (b.ln 5) 0 rfl, sv_l9 b (b.ln 6) 0 rfl, sv_l10 b (b.ln 7) 0 rfl, sv_l11 b (b.ln 8) 0 rfl, sv_l12 b (b.ln 9) 0 rfl]
/-! what is copied -/
def copV (v : Version) : Version := Version.mk v.fr v.puts (arr [v.ln 0, v.ln 1, v.ln 2, v.ln 3, v.ln 4, v.ln 5, v.ln 6, v.ln 7, v.ln 8, v.ln 9] (v.ln 0))
theorem copV_eq (v : Version) : VEq (copV v) v := ⟨rfl, rfl, fun k hk => match k, hk with
  | 0, _ => rfl
  | 1, _ => rfl
  | 2, _ => rfl
  | 3, _ => rfl
  | 4, _ => rfl
  | 5, _ => rfl
  | 6, _ => rfl
  | 7, _ => rfl
  | 8, _ => rfl
  | 9, _ => rfl
  | k + 10, hk => absurd hk (by omega)⟩
theorem set_same {α : Type} {l : List α} {k : Nat} {y : α} (h : l[k]? = some y) : l.set k y = l := by
  obtain ⟨h1, rfl⟩ := List.getElem?_eq_some_iff.1 h
  exact List.set_getElem_self h1
theorem cp_l1 (z : Int) (d : List Put) (a0 a1 a2 a3 a4 a5 a6 a7 a8 a9 : List Piece) (hd : ∀ p ∈ d, p.tests.length ≤ 4) : ∀ (n k : Nat), k + n = d.length → F_code_copied_l1 n k z d a0 a1 a2 a3 a4 a5 a6 a7 a8 a9 = some (z, d, a0, a1, a2, a3, a4, a5, a6, a7, a8, a9)
  | 0, k, _ => rfl
  | n + 1, k, h => by
    have hk : k < d.length := by omega
    have hy := List.getElem?_eq_getElem hk
    have hc : F_slices_Clone_api_Test_api_Test d[k].tests = some d[k].tests := ckT (decide_eq_true (by have := hd d[k] (List.getElem_mem hk); omega))
    rw [F_code_copied_l1, atI_nat, hy]
    simp only [Option.bind_some, hc]
    rw [set_same hy]
    exact cp_l1 z d a0 a1 a2 a3 a4 a5 a6 a7 a8 a9 hd n (k + 1) (by omega)
theorem pc_eq {l : List Piece} (h : lineB l = true) : F_slices_Clone_api_Piece_api_Piece l = some l := ckT (decide_eq_true (by have := line_len h; omega))
theorem ok_tests {v : Version} (h : v.ok = true) : v.puts.length ≤ 20 ∧ ∀ p ∈ v.puts, p.tests.length ≤ 4 := by
  have hp := ver_puts h
  unfold Version.ok at h
  simp only [Bool.and_eq_true, decide_eq_true_eq] at h
  refine ⟨h.2.1, fun p hm => ?_⟩
  have := List.all_eq_true.1 hp p hm
  unfold Put.ok at this
  simp only [Bool.and_eq_true, decide_eq_true_eq] at this
  exact this.2.1
theorem cp_eq {v : Version} (h : v.ok = true) : F_code_copied v = some (copV v) := by
  obtain ⟨h1, h2⟩ := ok_tests h
  have hl := ver_lines h
  have hc : F_slices_Clone_api_Put_api_Put v.puts = some v.puts := ckT (decide_eq_true (by omega))
  unfold F_code_copied
  rw [hc, Option.bind_some, cp_l1 _ _ _ _ _ _ _ _ _ _ _ _ h2 _ 0 (by omega)]
  simp only [Option.bind_some, pc_eq (hl 0 (by decide)), pc_eq (hl 1 (by decide)), pc_eq (hl 2 (by decide)), pc_eq (hl 3 (by decide)), pc_eq (hl 4 (by decide)), pc_eq (hl 5 (by decide)), pc_eq (hl 6 (by decide)), pc_eq (hl 7 (by decide)), pc_eq (hl 8 (by decide)), pc_eq (hl 9 (by decide))]
  rfl
theorem am_l2 (p1 : Version) (q : List Version) (s : List UInt8) (hq : ∀ v ∈ q ++ [p1], v.ok = true) (hn : (q ++ [p1]).length ≤ 20) : ∀ (n k : Nat) (d : List Version), k + n = (q ++ [p1]).length → d.length ≤ k → F_code_Amend_l2 p1 q n k s d = some (s, d ++ ((q ++ [p1]).drop k).map copV)
  | 0, k, d, h, _ => by
    rw [F_code_Amend_l2, List.drop_eq_nil_of_le (by omega)]; simp
  | n + 1, k, d, h, hd => by
    have hk : k < (q ++ [p1]).length := by omega
    have hy := List.getElem?_eq_getElem hk
    rw [F_code_Amend_l2, atI_nat, hy]
    simp only [Option.bind_some, cp_eq (hq _ (List.getElem_mem hk))]
    rw [ckT (decide_eq_true (by omega)), am_l2 p1 q s hq hn n (k + 1) _ (by omega) (by simp only [List.length_append, List.length_singleton]; omega), List.drop_eq_getElem_cons hk, List.map_cons, List.append_assoc, List.singleton_append]
theorem sc_l1 (c : Code) (hc : c.vs = c.vs) : ∀ (ys zs : List Version) (k : Nat), c.vs.drop k = zs → ys = zs.map copV → F_r04_SameCode_l1 c ys k = some (Sum.inr ())
  | [], _, k, _, _ => rfl
  | y :: ys, [], k, _, h => by cases h
  | y :: ys, z :: zs, k, hz, h => by
    obtain ⟨hy, hs⟩ := drop_get hz
    rw [List.map_cons] at h
    obtain ⟨rfl, rfl⟩ := List.cons.inj h
    rw [F_r04_SameCode_l1, hy]
    simp only [Option.bind_some, sv_eq (copV_eq z), Bool.not_true, cond_false]
    exact sc_l1 c hc _ zs (k + 1) hs rfl
theorem sc_eq (n : List UInt8) (l : List Version) : F_r04_SameCode (Code.mk n (l.map copV)) (Code.mk n l) = some true := by
  unfold F_r04_SameCode
  simp only [List.length_map, decide_true, Bool.not_true, cond_false, sc_l1 (Code.mk n l) rfl (l.map copV) l 0 rfl rfl, Option.bind_some]
theorem failE_f (e n : Int) : failE e false n = e := by unfold failE; rw [if_neg fun h => by cases h.2]
theorem amend_eq (c : Code) (v : Version) : ∃ e a b, F_code_Amend c v = some (a, e) ∧ F_r04_Amend c v = some (b, e) ∧ F_r04_SameCode a b = some true := by
  have h0 : F_r04_SameCode (Code.mk [] []) (Code.mk [] []) = some true := sc_eq [] []
  have hc : F_code_of c = some (T_question.mk c (Version.mk 0 [] (arr [[], [], [], [], [], [], [], [], [], []] [])) (-1) c.err) := rfl
  unfold F_code_Amend F_r04_Amend
  rw [hc]
  simp only [Option.bind_some, fail_eq]
  by_cases h1 : c.err = 0
  · obtain ⟨v1, v2, v3⟩ := code_vs h1
    have hat : atI c.vs ((c.vs.length : Int) - 1) = some (c.vs[c.vs.length - 1]'(by omega)) := by
      rw [show ((c.vs.length : Int) - 1) = ((c.vs.length - 1 : Nat) : Int) from by omega, atI_nat, List.getElem?_eq_getElem]
    rw [h1, hat]
    cases h2 : v.ok with
    | false =>
      refine ⟨42, _, _, ?_, rfl, h0⟩
      rfl
    | true =>
      simp only [Option.bind_some, decide_true, Bool.not_true, cond_false]
      by_cases h3 : v.fr ≤ (c.vs[c.vs.length - 1]'(by omega)).fr
      · refine ⟨42, _, _, ?_, ?_, h0⟩
        · rw [decide_eq_true h3]; rfl
        · rw [decide_eq_true h3]; rfl
      · rw [decide_eq_false h3]
        by_cases h4 : (c.vs.length : Int) = 12
        · refine ⟨2, _, _, ?_, ?_, h0⟩
          · rw [decide_eq_true h4]; rfl
          · rw [decide_eq_true h4]; rfl
        · rw [decide_eq_false h4]
          have hcl : F_slices_Clone_api_Version_api_Version c.vs = some c.vs := ckT (decide_eq_true (by omega))
          have hok : ∀ w ∈ c.vs ++ [v], w.ok = true := by
            intro w hw
            rcases List.mem_append.1 hw with hw | hw
            · obtain ⟨i, hi, rfl⟩ := List.mem_iff_getElem.1 hw
              exact (v3 i _ (List.getElem?_eq_getElem hi)).1
            · rw [List.mem_singleton] at hw; rw [hw]; exact h2
          have hl : (c.vs ++ [v]).length ≤ 20 := by simp only [List.length_append, List.length_singleton]; omega
          have ha := am_l2 v c.vs c.name hok hl ((((c.vs ++ [v]).length : Int) - (0 : Int)).toNat) 0 [] (by omega) (Nat.le_refl _)
          refine ⟨0, Code.mk c.name ((c.vs ++ [v]).map copV), Code.mk c.name (c.vs ++ [v]), ?_, ?_, sc_eq _ _⟩
          · simp only [failE_f, decide_true, Bool.not_true, cond_false, hcl, Option.bind_some]
            rw [ckT (decide_eq_true (by omega)), ha]; rfl
          · simp only [cond_false]
            rw [ckT (decide_eq_true (by simp only [List.length_nil]; omega)), ckT (decide_eq_true (by omega))]
  · refine ⟨c.err, _, _, ?_, ?_, h0⟩
    · rw [decide_eq_false h1]; rfl
    · rw [decide_eq_false h1]; rfl
/-! the version in force -/
theorem force_eq (c : Code) (day : Int) : ∃ a, F_code_InForce c day = some a ∧ F_r04_InForce c day = some a := by
  have hc : F_code_of c = some (T_question.mk c (Version.mk 0 [] (arr [[], [], [], [], [], [], [], [], [], []] [])) (-1) c.err) := rfl
  have hb := forceI_bd c day
  unfold F_code_InForce F_r04_InForce F_code_question_on
  rw [hc]
  simp only [Option.bind_some, fail_eq, by_eq]
  by_cases h1 : c.err = 0
  · rw [h1]
    cases h2 : within day 0 100000 with
    | false => exact ⟨_, rfl, rfl⟩
    | true =>
      by_cases h3 : forceI c day < 0
      · rw [decide_eq_true h3]
        exact ⟨_, rfl, rfl⟩
      · rw [decide_eq_false h3]
        have hat : atI c.vs (forceI c day) = some (c.vs[(forceI c day).toNat]'(by omega)) := by
          unfold atI
          rw [if_pos (by omega), List.getElem?_eq_getElem]
        refine ⟨(forceI c day, 0), ?_, rfl⟩
        show Option.bind (Option.bind (atI c.vs (forceI c day)) _) _ = _
        rw [hat]
        show some (max (forceI c day) 0, (0 : Int)) = _
        rw [Int.max_eq_left (by omega)]
  · refine ⟨(0, c.err), ?_, ?_⟩
    · have e1 : ∀ b n, failE c.err b n = c.err := fun b n => if_neg fun h => h1 h.1
      have e2 : byE c.err 0 = c.err := e1 _ _
      simp only [e1, e2]
      rw [decide_eq_false h1]; rfl
    · rw [decide_eq_false h1]; rfl
theorem codeVersions_true (c : Code) (v : Version) (day : Int) : F_l04_CodeVersions c v day = some true := by
  unfold F_l04_CodeVersions
  obtain ⟨a, h1, h2⟩ := force_eq c day
  obtain ⟨e, x, y, h3, h4, h5⟩ := amend_eq c v
  rw [h1, h2, h3, h4]
  simp only [Option.bind_some, h5, decide_true, cond_true]
end Go.Proofs.YtjflgemfeofciaaGreatDoor
