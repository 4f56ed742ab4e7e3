import Derived.Test.YtdlmdaononclgaaDoorMC
import Derived.Test.YtdlmdaononclgaaDoorRefG
import Derived.Test.YtdlmdaononclgaaDoorMD
/- WeighExact: the plain law. -/
namespace Go.Proofs.YtdlmdaononclgaaDoor
open Go.RowKit
set_option linter.unusedVariables false
set_option linter.unusedSimpArgs false

/-- what the law's function integral reckons. -/
def integ (a b c x y : Int) : Int := 36 * a * (y - x) + 18 * b * (y * y - x * x) + 12 * c * (y * y * y - x * x * x)
theorem integ_eq (a b c x y : Int) : integ a b c x y = intg a b c y - intg a b c x := by unfold integ intg; grind

theorem grp_first {xs : List Int} {f i : Nat} (hf : xs.length ≤ f + i) (hi : i < xs.length) :
    (0 < (grp xs f i).length → (gx (grp xs f i) 0).1 = (i : Int)) ∧ ((grp xs f i).length = 0 → i + 1 = xs.length) := by
  obtain ⟨f', rfl⟩ : ∃ f', f = f' + 1 := ⟨f - 1, by omega⟩
  rw [grp]
  split
  · exact ⟨fun _ => rfl, fun h => by simp at h⟩
  · exact ⟨fun h => by simp at h, fun _ => by omega⟩
theorem gx_succ (p : Int × Int) (l : List (Int × Int)) (k : Nat) : gx (p :: l) (k + 1) = gx l k := rfl
/-- one group begins where the one before it ends; the last ends at the last place. -/
theorem grp_chain {xs : List Int} : ∀ (f i : Nat), xs.length ≤ f + i → i < xs.length → ∀ k, k < (grp xs f i).length →
    (gx (grp xs f i) k).1 + (gx (grp xs f i) k).2 = if k + 1 < (grp xs f i).length then (gx (grp xs f i) (k + 1)).1 else (xs.length : Int) - 1
  | 0, i, hf, hi, k, hk => by omega
  | f + 1, i, hf, hi, k, hk => by
    rw [grp] at hk ⊢
    split at hk
    · rename_i h1
      rw [if_pos h1]
      have hm := manyN_pos xs i
      have hlt : i + manyN xs i < xs.length := by rcases manyN_cases xs i with h | ⟨h, h2, _⟩ <;> omega
      obtain ⟨g0, g1⟩ := grp_first (xs := xs) (f := f) (i := i + manyN xs i) (by omega) hlt
      cases k with
      | zero =>
        simp only [List.length_cons, gx_succ]
        by_cases h : 0 < (grp xs f (i + manyN xs i)).length
        · rw [if_pos (by omega), g0 h]; show (i : Int) + (manyN xs i : Int) = ((i + manyN xs i : Nat) : Int); omega
        · rw [if_neg (by omega)]; have := g1 (by omega); show (i : Int) + (manyN xs i : Int) = _; omega
      | succ k =>
        simp only [List.length_cons, gx_succ] at hk ⊢
        have := grp_chain f (i + manyN xs i) (by omega) hlt k (by omega)
        rw [this]
        by_cases h : k + 1 < (grp xs f (i + manyN xs i)).length
        · rw [if_pos h, if_pos (by omega)]
        · rw [if_neg h, if_neg (by omega)]
    · simp at hk

/-- where the group k begins; behind the last, the last place. -/
def posN (xs : List Int) (k : Nat) : Int := if k < (groupsZ xs).length then (gx (groupsZ xs) k).1 else (xs.length : Int) - 1
theorem posN_zero {xs : List Int} (h : 1 ≤ xs.length) : posN xs 0 = 0 := by
  obtain ⟨g0, g1⟩ := grp_first (xs := xs) (f := xs.length) (i := 0) (by omega) (by omega)
  unfold posN groupsZ
  split
  · rename_i h0; rw [g0 h0]; rfl
  · rename_i h0; have := g1 (by omega); omega
theorem posN_at {xs : List Int} {k : Nat} (h : k < (groupsZ xs).length) : (gx (groupsZ xs) k).1 = posN xs k := by rw [posN, if_pos h]
theorem posN_succ {xs : List Int} {k : Nat} (h : k < (groupsZ xs).length) : posN xs (k + 1) = posN xs k + (gx (groupsZ xs) k).2 := by
  have h1 : 1 ≤ xs.length := by have := groups_length xs; omega
  rw [← posN_at h, show groupsZ xs = grp xs xs.length 0 from rfl, grp_chain xs.length 0 (by omega) (by omega) k h]
  rfl
theorem posN_last {xs : List Int} : posN xs (groupsZ xs).length = (xs.length : Int) - 1 := by rw [posN, if_neg (by omega)]

/-- the places of one group. -/
def partL (xs : List Int) (a m : Nat) : List Int := (xs.drop a).take (m + 1)
theorem partL_length {xs : List Int} {a m : Nat} (h : a + m < xs.length) : (partL xs a m).length = m + 1 := by simp [partL]; omega
theorem partL_ix {xs : List Int} {a m j : Nat} (h : j ≤ m) : ix (partL xs a m) j = ix xs (a + j) := by
  simp only [ix, partL, List.getD_eq_getElem?_getD, List.getElem?_take, List.getElem?_drop]
  rw [if_pos (by omega)]
theorem partL_ok {xs : List Int} (hP : OkP 9 100000 xs) {a m : Nat} (h1 : 1 ≤ m) (h : a + m < xs.length) : OkP 9 100000 (partL xs a m) := by
  have hl := partL_length h
  have := hP.many
  refine ⟨by omega, by omega, ?_, ?_, fun j hj => ?_⟩
  · rw [partL_ix (by omega)]; exact hP.lo _ (by omega)
  · rw [hl, partL_ix (by omega)]; exact hP.hi' _ (by omega)
  · rw [partL_ix (by omega), partL_ix (by omega)]
    exact hP.inc (a + j) (by omega)
/-- two intervals in a ratio that holds are one group. -/
theorem partL_groups {xs : List Int} {a : Nat} (h : a + 2 < xs.length) (hp : pairB (dx xs a) (dx xs (a + 1)) = true) : groupsZ (partL xs a 2) = [(0, 2)] := by
  have hl := partL_length (xs := xs) (a := a) (m := 2) h
  have e0 := partL_ix (xs := xs) (a := a) (m := 2) (j := 0) (by omega)
  have e1 := partL_ix (xs := xs) (a := a) (m := 2) (j := 1) (by omega)
  have e2 := partL_ix (xs := xs) (a := a) (m := 2) (j := 2) (by omega)
  have hm : manyN (partL xs a 2) 0 = 2 := by
    unfold manyN
    rw [if_pos ⟨by omega, by
      show pairB (ix (partL xs a 2) 1 - ix (partL xs a 2) 0) (ix (partL xs a 2) 2 - ix (partL xs a 2) 1) = true
      rw [e0, e1, e2]; exact hp⟩]
  unfold groupsZ
  rw [hl]
  show grp (partL xs a 2) 3 0 = _
  rw [grp, if_pos (by omega), hm, grp, if_neg (by omega)]
  rfl
/-- one group of two intervals integrates a polynomial of degree 2. -/
theorem part_exact {xs : List Int} (hP : OkP 9 100000 xs) {at' : Nat} (h : at' + 2 < xs.length) (hp : pairB (dx xs at') (dx xs (at' + 1)) = true) (a b c : Int) :
    sm (weightsZ (partL xs at' 2)) (fun i => poly a b c (ix (partL xs at' 2) i)) 3 = integ a b c (ix (partL xs at' 2) 0) (ix (partL xs at' 2) 2) := by
  have := exact2 (partL_ok hP (by omega) h) (by rw [partL_groups h hp]; simp) a b c
  rw [partL_length h] at this
  rw [integ_eq]; exact this

/-- the sums are small. -/
theorem sm_small {ws xs : List Int} {a b c : Int} {n : Nat} (ha : -9 ≤ a ∧ a ≤ 9) (hb : -9 ≤ b ∧ b ≤ 9) (hc : -9 ≤ c ∧ c ≤ 9) (hx : ∀ j, 0 ≤ ix xs j ∧ ix xs j ≤ 100000) (hs : sA ws n ≤ 5000000) :
    ∀ k, k ≤ n → -460000000000000000 ≤ sm ws (fun i => poly a b c (ix xs i)) k ∧ sm ws (fun i => poly a b c (ix xs i)) k ≤ 460000000000000000 := by
  intro k hk
  have hp : ∀ j, j < k → -90000900009 ≤ poly a b c (ix xs j) ∧ poly a b c (ix xs j) ≤ 90000900009 := fun j _ => by
    obtain ⟨x0, x1⟩ := hx j
    obtain ⟨p0, p1⟩ := mulbd (x := b) (y := ix xs j) (M := 9) (N := 100000) (by omega) (by omega) (by omega) (by omega)
    obtain ⟨q0, q1⟩ := mulbd (x := c) (y := ix xs j) (M := 9) (N := 100000) (by omega) (by omega) (by omega) (by omega)
    obtain ⟨r0, r1⟩ := mulbd (x := c * ix xs j) (y := ix xs j) (M := 900000) (N := 100000) (by omega) (by omega) (by omega) (by omega)
    unfold poly
    constructor <;> omega
  have h0 := sA_nonneg ws k
  have h1 := sA_mono ws hk
  obtain ⟨s0, s1⟩ := sm_bd (ws := ws) (f := fun i => poly a b c (ix xs i)) (M := 90000900009) (by omega) hp
  constructor <;> omega

end Go.Proofs.YtdlmdaononclgaaDoor
