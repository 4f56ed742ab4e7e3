import Derived.Test.YtjflgemfeofciaaGreatDoorMY1
import Derived.Test.YtjflgemfeofciaaGreatDoorRs4
/- Layer 4: CodeRests holds (plain law). -/
namespace Go.Proofs.YtjflgemfeofciaaGreatDoor
open Go Go.Ev
set_option linter.unusedVariables false
set_option linter.unusedSimpArgs false
theorem allR_mk {p : Nat → Bool} : ∀ {n : Nat}, (∀ k, k < n → p k = true) → allR p n = true
  | 0, _ => rfl
  | n + 1, h => by
    unfold allR
    rw [allR_mk fun k hk => h k (by omega), h n (by omega)]; rfl
theorem ckT {R : Type} {b : Bool} {A : Option R} (h : b = true) : ck b A = A := by subst h; rfl
/-! rooms put to one end -/
def putL (l : List Room) (k : Nat) (y : Room) (n : Int) : List Room := l.set k (Room.mk y.id y.kind y.op y.cr n n)
theorem rgood_iff {l : List Room} {j : Nat} {r : Room} (hr : l[j]? = some r) : rgood l j = true ↔ r.ok = true ∧ (j = 0 ∨ ∀ q, l[j - 1]? = some q → q.id < r.id) := by
  unfold rgood
  rw [hr]
  cases hq : l[j - 1]? with
  | none => simp
  | some q => simp
def judC (c : Code) (day f : Int) (l : List Room) : Int × Int := ((endD Prod.fst c day f l).Tonnage, (endD Prod.snd c day f l).Tonnage)
def sameC (a b : Int × Int) : Bool := decide (a.1 = b.1) && (decide (a.2 = b.2) && true)
def restF (c : Code) (day f : Int) (l : List Room) : List Room → List Int → Nat → List Int
  | [], d, k => d
  | y :: ys, d, k => restF c day f l ys (if sameC (judC c day f (putL l k y y.lo)) (judC c day f l) = true ∧ sameC (judC c day f (putL l k y y.hi)) (judC c day f l) = true then d else d ++ [y.id]) (k + 1)
theorem drop_get {α : Type} {l ys : List α} {y : α} {k : Nat} (h : l.drop k = y :: ys) : l[k]? = some y ∧ l.drop (k + 1) = ys := by
  constructor
  · have := congrArg List.head? h
    rwa [List.head?_drop] at this
  · have := congrArg List.tail h
    rwa [List.tail_drop] at this
theorem only_eq {l : List Room} {k : Nat} {y : Room} (hy : l[k]? = some y) (hl : l.length ≤ 20) (n : Int) : F_r04_Only l (k : Int) n = some (putL l k y n) := by
  unfold F_r04_Only
  rw [ckT (decide_eq_true (by simp only [List.length_nil]; omega)), atI_nat, hy]; rfl
theorem clone_eq {l : List Room} (hl : l.length ≤ 20) : F_slices_Clone_api_Room_api_Room l = some l := ckT (decide_eq_true (by omega))
theorem cRests_l1 {c : Code} {day f : Int} {l : List Room} {e : Int} (hl : l.length ≤ 20) : ∀ (ys : List Room) (d : List Int) (k : Nat), l.drop k = ys → d.length + ys.length ≤ 20 → F_code_Rests_l1 c day f l (judC c day f l, e) ys d k = some (restF c day f l ys d k)
  | [], d, k, _, _ => rfl
  | y :: ys, d, k, h, hd => by
    obtain ⟨hy, hs⟩ := drop_get h
    simp only [List.length_cons] at hd
    have ih := fun d' hd' => cRests_l1 (c := c) (day := day) (f := f) (e := e) hl ys d' (k + 1) hs hd'
    have hck : decide (d.length + 1 ≤ 1000000) = true := decide_eq_true (by omega)
    have i1 := ih (d ++ [y.id]) (by simp only [List.length_append, List.length_singleton]; omega)
    have i2 := ih d (by omega)
    rw [F_code_Rests_l1, restF, clone_eq hl]
    simp only [Option.bind_some, atI_nat, hy, F_code_Judge]
    show cond (!sameC (judC c day f (putL l k y y.lo)) (judC c day f l)) _ (cond (!sameC (judC c day f (putL l k y y.hi)) (judC c day f l)) _ _) = _
    rw [ckT hck, i1, i2]
    cases sameC (judC c day f (putL l k y y.lo)) (judC c day f l) <;> cases sameC (judC c day f (putL l k y y.hi)) (judC c day f l) <;> rfl
theorem vgood_iff {l : List Version} {j : Nat} {r : Version} (hr : l[j]? = some r) : vgood l j = true ↔ r.ok = true ∧ (j = 0 ∨ ∀ q, l[j - 1]? = some q → q.fr < r.fr) := by
  unfold vgood
  rw [hr]
  cases hq : l[j - 1]? with
  | none => simp
  | some q => simp
theorem end_at {c : Code} (h : c.err = 0) {f : Int} {l : List Room} (hf : within f 0 1 = true) (hr : roomsE l = 0) {k : Nat} {y : Version} (hy : c.vs[k]? = some y) {day : Int} (h0 : 0 ≤ day ∧ day ≤ 100000) (hk : forceI c day = k) : endE c day f l = 0 ∧ verF c day = y := by
  constructor
  · unfold endE withE onE byE
    have b : (!within day 0 100000) = false := by
      unfold within; rw [decide_eq_true h0.1, decide_eq_true h0.2]; rfl
    have b2 : (!decide (f = 0) && !decide (f = 1)) = false := by
      unfold within at hf
      simp only [Bool.and_eq_true, decide_eq_true_eq] at hf
      have : f = 0 ∨ f = 1 := by omega
      rcases this with rfl | rfl <;> rfl
    rw [h, hr, b, b2, hk, decide_eq_false (by omega)]; rfl
  · unfold verF
    rw [hk, List.getD_eq_getElem?_getD, Int.toNat_natCast, hy]; rfl
theorem ver_fr {v : Version} (h : v.ok = true) : 0 ≤ v.fr ∧ v.fr ≤ 100000 := by
  unfold Version.ok within at h
  simp only [Bool.and_eq_true, decide_eq_true_eq] at h
  exact h.1
theorem fail_eq (q : T_question) (b : Bool) (n : Int) : F_code_question_fail q b n = some (T_question.mk q.c_ q.version_ q.index_ (failE q.e_ b n)) := by
  unfold F_code_question_fail failE
  by_cases h : q.e_ = 0
  · cases b <;> simp [h]
    cases q; simp_all
  · rw [decide_eq_false h, if_neg fun k => h k.1]; rfl
theorem by_eq (q : T_question) (f : Int) : F_code_question_by q f = some (T_question.mk q.c_ q.version_ q.index_ (byE q.e_ f)) := by
  unfold F_code_question_by byE
  rw [fail_eq, fail_eq]
  by_cases h : f = 0
  · subst h; rfl
  · rw [decide_eq_false h]; rfl
end Go.Proofs.YtjflgemfeofciaaGreatDoor
