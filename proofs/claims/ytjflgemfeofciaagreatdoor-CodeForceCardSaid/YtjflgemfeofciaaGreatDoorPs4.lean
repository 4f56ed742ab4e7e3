import Derived.Test.YtjflgemfeofciaaGreatDoorMY1
import Derived.Test.YtjflgemfeofciaaGreatDoorRs4
/- Layer 4: CodeRests holds (plain law). -/
namespace Go.Proofs.YtjflgemfeofciaaGreatDoor
open Go Go.Ev
set_option linter.unusedVariables false
set_option linter.unusedSimpArgs false
theorem allR_mk {p : Nat → Bool} : ∀ {n : Nat}, (∀ k, k < n → p k = true) → allR p n = true
  | 0, _ => rfl
  | n + 1, h => by
    unfold allR
    rw [allR_mk fun k hk => h k (by omega), h n (by omega)]; rfl
theorem ckT {R : Type} {b : Bool} {A : Option R} (h : b = true) : ck b A = A := by subst h; rfl
theorem rgood_iff {l : List Room} {j : Nat} {r : Room} (hr : l[j]? = some r) : rgood l j = true ↔ r.ok = true ∧ (j = 0 ∨ ∀ q, l[j - 1]? = some q → q.id < r.id) := by
  unfold rgood
  rw [hr]
  cases hq : l[j - 1]? with
  | none => simp
  | some q => simp
def judC (c : Code) (day f : Int) (l : List Room) : Int × Int := ((endD Prod.fst c day f l).Tonnage, (endD Prod.snd c day f l).Tonnage)
def sameC (a b : Int × Int) : Bool := decide (a.1 = b.1) && (decide (a.2 = b.2) && true)
theorem drop_get {α : Type} {l ys : List α} {y : α} {k : Nat} (h : l.drop k = y :: ys) : l[k]? = some y ∧ l.drop (k + 1) = ys := by
  constructor
  · have := congrArg List.head? h
    rwa [List.head?_drop] at this
  · have := congrArg List.tail h
    rwa [List.tail_drop] at this
/-! days -/
theorem fiF_no (day : Int) : ∀ (l : List Version) (k : Nat) (out : Int), (∀ (j : Nat) (v : Version), l[j]? = some v → ¬ v.fr ≤ day) → fiF day l k out = out
  | [], _, _, _ => rfl
  | v :: l, k, out, h => by
    rw [fiF, if_neg (h 0 v rfl)]
    exact fiF_no day l (k + 1) out fun j v hj => h (j + 1) v hj
theorem fiF_at (day : Int) : ∀ (l : List Version) (k : Nat) (out : Int) (i : Nat), i < l.length → (∀ (j : Nat) (v : Version), l[j]? = some v → (v.fr ≤ day ↔ j ≤ i)) → fiF day l k out = ((k + i : Nat) : Int)
  | [], _, _, _, hi, _ => by simp at hi
  | v :: l, k, out, 0, _, h => by
    rw [fiF, if_pos ((h 0 v rfl).2 (Nat.le_refl _))]
    exact fiF_no day l (k + 1) _ fun j v hj hv => by have := (h (j + 1) v hj).1 hv; omega
  | v :: l, k, out, i + 1, hi, h => by
    rw [fiF, fiF_at day l (k + 1) _ i (by simp only [List.length_cons] at hi; omega) fun j v hj => (h (j + 1) v hj).trans (by omega)]
    congr 1; omega
theorem vgood_iff {l : List Version} {j : Nat} {r : Version} (hr : l[j]? = some r) : vgood l j = true ↔ r.ok = true ∧ (j = 0 ∨ ∀ q, l[j - 1]? = some q → q.fr < r.fr) := by
  unfold vgood
  rw [hr]
  cases hq : l[j - 1]? with
  | none => simp
  | some q => simp
theorem code_vs {c : Code} (h : c.err = 0) : 1 ≤ c.vs.length ∧ c.vs.length ≤ 12 ∧ ∀ j v, c.vs[j]? = some v → v.ok = true ∧ (j = 0 ∨ ∀ q, c.vs[j - 1]? = some q → q.fr < v.fr) := by
  unfold Code.err at h
  split at h
  · rename_i h1
    unfold Code.ok at h1
    simp only [Bool.and_eq_true] at h1
    obtain ⟨_, h2, h3⟩ := h1
    unfold within at h2
    simp only [Bool.and_eq_true, decide_eq_true_eq] at h2
    exact ⟨by omega, by omega, fun j v hv => (vgood_iff hv).1 (allR_get h3 (List.getElem?_eq_some_iff.1 hv).1)⟩
  · cases h
theorem rise_fr {c : Code} (h : c.err = 0) : ∀ (j i : Nat) (u v : Version), i < j → c.vs[i]? = some u → c.vs[j]? = some v → u.fr < v.fr
  | 0, i, _, _, hi, _, _ => by omega
  | j + 1, i, u, v, hi, hu, hv => by
    have hj : j < c.vs.length := by have := (List.getElem?_eq_some_iff.1 hv).1; omega
    have hq := List.getElem?_eq_getElem hj
    rcases ((code_vs h).2.2 (j + 1) v hv).2 with a | a
    · omega
    · have a1 := a _ hq
      by_cases e : i = j
      · subst e
        rw [hu] at hq
        obtain rfl := Option.some.inj hq
        exact a1
      · have := rise_fr h j i u _ (by omega) hu hq
        omega
theorem force_at {c : Code} (h : c.err = 0) {k : Nat} {y : Version} (hy : c.vs[k]? = some y) (day : Int) (h1 : y.fr ≤ day) (h2 : ∀ z, c.vs[k + 1]? = some z → day < z.fr) : forceI c day = k := by
  unfold forceI
  have hk := (List.getElem?_eq_some_iff.1 hy).1
  rw [fiF_at day c.vs 0 (-1) k hk, Nat.zero_add]
  intro j v hv
  constructor
  · intro hj
    refine Decidable.byContradiction fun hn => ?_
    have hk1 : k + 1 < c.vs.length := by have := (List.getElem?_eq_some_iff.1 hv).1; omega
    have hz := List.getElem?_eq_getElem hk1
    have := h2 _ hz
    by_cases e : j = k + 1
    · subst e
      rw [hv] at hz
      obtain rfl := Option.some.inj hz
      omega
    · have := rise_fr h j (k + 1) _ v (by omega) hz hv
      omega
  · intro hj
    by_cases e : j = k
    · subst e
      rw [hv] at hy
      obtain rfl := Option.some.inj hy
      exact h1
    · have := rise_fr h k j v y (by omega) hv hy
      omega
theorem end_at {c : Code} (h : c.err = 0) {f : Int} {l : List Room} (hf : within f 0 1 = true) (hr : roomsE l = 0) {k : Nat} {y : Version} (hy : c.vs[k]? = some y) {day : Int} (h0 : 0 ≤ day ∧ day ≤ 100000) (hk : forceI c day = k) : endE c day f l = 0 ∧ verF c day = y := by
  constructor
  · unfold endE withE onE byE
    have b : (!within day 0 100000) = false := by
      unfold within; rw [decide_eq_true h0.1, decide_eq_true h0.2]; rfl
    have b2 : (!decide (f = 0) && !decide (f = 1)) = false := by
      unfold within at hf
      simp only [Bool.and_eq_true, decide_eq_true_eq] at hf
      have : f = 0 ∨ f = 1 := by omega
      rcases this with rfl | rfl <;> rfl
    rw [h, hr, b, b2, hk, decide_eq_false (by omega)]; rfl
  · unfold verF
    rw [hk, List.getD_eq_getElem?_getD, Int.toNat_natCast, hy]; rfl
theorem ver_fr {v : Version} (h : v.ok = true) : 0 ≤ v.fr ∧ v.fr ≤ 100000 := by
  unfold Version.ok within at h
  simp only [Bool.and_eq_true, decide_eq_true_eq] at h
  exact h.1
/-- what the day of a version and the day ahead of it judge. -/
theorem judge_at {c : Code} (h : c.err = 0) {f : Int} {l : List Room} (hf : within f 0 1 = true) (hr : roomsE l = 0) {k : Nat} {y z : Version} (hy : c.vs[k + 1]? = some y) (hz : c.vs[k]? = some z) : wr (y.fr - 1) = y.fr - 1 ∧ F_r04_judge y f l = some (judC c y.fr f l) ∧ F_r04_judge z f l = some (judC c (y.fr - 1) f l) := by
  have a := ver_fr ((code_vs h).2.2 _ _ hy).1
  have b := ver_fr ((code_vs h).2.2 _ _ hz).1
  have d := rise_fr h (k + 1) k z y (by omega) hz hy
  have e1 := force_at h hy y.fr (by omega) fun w hw => rise_fr h (k + 1 + 1) (k + 1) y w (by omega) hy hw
  have e2 := force_at h hz (y.fr - 1) (by omega) fun w hw => by
    rw [hy] at hw
    obtain rfl := Option.some.inj hw
    omega
  obtain ⟨g1, g2⟩ := end_at h hf hr hy (by omega) e1
  obtain ⟨k1, k2⟩ := end_at h hf hr hz (day := y.fr - 1) (by omega) e2
  refine ⟨wr_id (by omega), ?_, ?_⟩
  · have := fjudge_eq g1
    rw [g2] at this; exact this
  · have := fjudge_eq k1
    rw [k2] at this; exact this
def daysF (c : Code) (f : Int) (l : List Room) : List Version → List Int → List Int
  | [], d => d
  | y :: ys, d => daysF c f l ys (if sameC (judC c y.fr f l) (judC c (y.fr - 1) f l) = true then d else d ++ [y.fr])
theorem cDays_l1 {c : Code} (h : c.err = 0) {f : Int} {l : List Room} (hf : within f 0 1 = true) (hr : roomsE l = 0) : ∀ (ys : List Version) (d : List Int) (k j : Nat), c.vs.drop (k + 1) = ys → d.length + ys.length ≤ 20 → F_code_Days_l1 c f l ys d j = some (daysF c f l ys d) ∧ F_r04_Days_l1 c f l ys d (k + 1) = some (daysF c f l ys d)
  | [], d, k, j, _, _ => ⟨rfl, rfl⟩
  | y :: ys, d, k, j, hd, hn => by
    obtain ⟨hy, hs⟩ := drop_get hd
    simp only [List.length_cons] at hn
    have hk : k < c.vs.length := by have := (List.getElem?_eq_some_iff.1 hy).1; omega
    have hz := List.getElem?_eq_getElem hk
    obtain ⟨w1, w2, w3⟩ := judge_at h hf hr hy hz
    have i1 := cDays_l1 h hf hr ys (d ++ [y.fr]) (k + 1) (j + 1) hs (by simp only [List.length_append, List.length_singleton]; omega)
    have i2 := cDays_l1 h hf hr ys d (k + 1) (j + 1) hs (by omega)
    have hck : decide (d.length + 1 ≤ 1000000) = true := decide_eq_true (by omega)
    constructor
    · rw [F_code_Days_l1, daysF, w1]
      simp only [F_code_Judge, Option.bind_some]
      show cond (!sameC (judC c y.fr f l) (judC c (y.fr - 1) f l)) _ _ = _
      rw [ckT hck, i1.1, i2.1]
      cases sameC (judC c y.fr f l) (judC c (y.fr - 1) f l) <;> rfl
    · have hat : atI c.vs (((k + 1 : Nat) : Int) - 1) = some c.vs[k] := by
        rw [show (((k + 1 : Nat) : Int) - 1) = (k : Int) from by omega, atI_nat, hz]
      rw [F_r04_Days_l1, daysF, w2, hat]
      simp only [w3, Option.bind_some]
      show cond (!sameC (judC c y.fr f l) (judC c (y.fr - 1) f l)) _ _ = _
      rw [ckT hck, i1.2, i2.2]
      cases sameC (judC c y.fr f l) (judC c (y.fr - 1) f l) <;> rfl
theorem fail_eq (q : T_question) (b : Bool) (n : Int) : F_code_question_fail q b n = some (T_question.mk q.c_ q.version_ q.index_ (failE q.e_ b n)) := by
  unfold F_code_question_fail failE
  by_cases h : q.e_ = 0
  · cases b <;> simp [h]
    cases q; simp_all
  · rw [decide_eq_false h, if_neg fun k => h k.1]; rfl
def daysE (c : Code) (f : Int) (l : List Room) : Int := withE (byE c.err f) l
theorem by_eq (q : T_question) (f : Int) : F_code_question_by q f = some (T_question.mk q.c_ q.version_ q.index_ (byE q.e_ f)) := by
  unfold F_code_question_by byE
  rw [fail_eq, fail_eq]
  by_cases h : f = 0
  · subst h; rfl
  · rw [decide_eq_false h]; rfl
theorem with_eq (q : T_question) (l : List Room) : F_code_question_with q l = some (T_question.mk q.c_ q.version_ q.index_ (withE q.e_ l)) := by
  unfold F_code_question_with withE
  rw [fail_eq]; rfl
theorem days_eq (c : Code) (f : Int) (l : List Room) : ∃ a, F_code_Days c f l = some (a, daysE c f l) ∧ F_r04_Days c f l = some (a, daysE c f l) := by
  have hw : within f 0 1 = !(!decide (f = 0) && !decide (f = 1)) := by
    unfold within
    by_cases a : f = 0
    · subst a; rfl
    · by_cases b : f = 1
      · subst b; rfl
      · rw [decide_eq_false a, decide_eq_false b]
        by_cases d : 0 ≤ f
        · rw [decide_eq_false (p := f ≤ 1) (by omega), Bool.and_false]; rfl
        · rw [decide_eq_false d]; rfl
  have hc : F_code_of c = some (T_question.mk c (Version.mk 0 [] (arr [[], [], [], [], [], [], [], [], [], []] [])) (-1) c.err) := rfl
  unfold F_code_Days F_r04_Days
  rw [hc]
  simp only [Option.bind_some, by_eq, with_eq]
  show ∃ a, cond (!decide (daysE c f l = 0)) (some ([], daysE c f l)) _ = _ ∧ _
  by_cases h1 : c.err = 0
  · cases h2 : within f 0 1 with
    | true =>
      have b2 : (!decide (f = 0) && !decide (f = 1)) = false := by rw [h2] at hw; cases hx : (!decide (f = 0) && !decide (f = 1)) with
        | false => rfl
        | true => rw [hx] at hw; cases hw
      by_cases h3 : roomsE l = 0
      · have e : daysE c f l = 0 := by unfold daysE withE byE; rw [h1, h3, b2]; rfl
        obtain ⟨v1, v2, _⟩ := code_vs h1
        have hn : (c.vs.drop 1).length + 1 = c.vs.length := by rw [List.length_drop]; omega
        obtain ⟨i1, i2⟩ := cDays_l1 h1 h2 h3 (c.vs.drop 1) [] 0 0 rfl (by simp only [List.length_nil]; omega)
        refine ⟨daysF c f l (c.vs.drop 1) [], ?_, ?_⟩
        · have hcut : cutL c.vs 1 (c.vs.length : Int) = c.vs.drop 1 := by unfold cutL; rw [Int.toNat_natCast, List.take_length]; rfl
          rw [e, hcut, i1, ckT (by rw [decide_eq_true (by omega), decide_eq_true (by omega), decide_eq_true (by omega)]; rfl)]; rfl
        · rw [h1, h3, e, i2]; rfl
      · have e : daysE c f l = 40 := by unfold daysE withE byE; rw [h1, b2, decide_eq_false h3]; rfl
        refine ⟨[], ?_, ?_⟩
        · rw [e]; rfl
        · rw [h1, decide_eq_false h3, e]; rfl
    | false =>
      have b2 : (!decide (f = 0) && !decide (f = 1)) = true := by rw [h2] at hw; cases hx : (!decide (f = 0) && !decide (f = 1)) with
        | true => rfl
        | false => rw [hx] at hw; cases hw
      have e : daysE c f l = 1 := by unfold daysE withE byE; rw [h1, b2]; rfl
      refine ⟨[], ?_, ?_⟩
      · rw [e]; rfl
      · rw [h1, e]; rfl
  · have e : daysE c f l = c.err := by unfold daysE withE byE failE; simp [h1]
    refine ⟨[], ?_, ?_⟩
    · rw [e, decide_eq_false h1]; rfl
    · rw [decide_eq_false h1, e]; rfl
end Go.Proofs.YtjflgemfeofciaaGreatDoor
