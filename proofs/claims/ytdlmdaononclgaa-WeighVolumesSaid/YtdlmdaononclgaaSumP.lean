import Derived.Test.YtdlmdaononclgaaWtP
/- Plain facts on sums of weights times numbers. -/
namespace Go.Proofs.Ytdlmdaononclgaa
open Go.RowKit
set_option linter.unusedVariables false
set_option linter.unusedSimpArgs false

/-- the sum of ws j * f j, j below n. -/
def sm (ws : List Int) (f : Nat → Int) : Nat → Int
  | 0 => 0
  | n + 1 => sm ws f n + ix ws n * f n

theorem sm_congr {ws us : List Int} {f g : Nat → Int} : ∀ {n : Nat}, (∀ j, j < n → ix ws j * f j = ix us j * g j) → sm ws f n = sm us g n
  | 0, _ => rfl
  | n + 1, h => by rw [sm, sm, sm_congr (fun j hj => h j (by omega)), h n (by omega)]
theorem sm_scale (a : Int) {ws us : List Int} {f g : Nat → Int} : ∀ {n : Nat}, (∀ j, j < n → ix us j * g j = a * (ix ws j * f j)) → sm us g n = a * sm ws f n
  | 0, _ => by simp [sm]
  | n + 1, h => by rw [sm, sm, sm_scale a (fun j hj => h j (by omega)), h n (by omega)]; grind
theorem sm_lin (a b : Int) (ws : List Int) (f g : Nat → Int) : ∀ n, sm ws (fun j => a * f j + b * g j) n = a * sm ws f n + b * sm ws g n
  | 0 => by simp [sm]
  | n + 1 => by rw [sm, sm, sm, sm_lin a b ws f g n]; grind
theorem sm_append (ws : List Int) (f : Nat → Int) (n : Nat) : ∀ m, sm ws f (n + m) = sm ws f n + sm (ws.drop n) (fun j => f (n + j)) m
  | 0 => by simp [sm]
  | m + 1 => by
    rw [← Nat.add_assoc, sm, sm, sm_append ws f n m]
    have : ix (ws.drop n) m = ix ws (n + m) := by simp [ix, List.getD, List.getElem?_drop]
    rw [this]; omega

theorem ix_set {l : List Int} {k : Nat} (v : Int) (hk : k < l.length) (j : Nat) : ix (l.set k v) j = if j = k then v else ix l j := by
  by_cases e : j = k
  · subst e; rw [if_pos rfl]; simp [ix, List.getD, hk]
  · rw [if_neg e]; simp only [ix, List.getD]; rw [List.getElem?_set_ne (by omega)]
theorem sm_set {l : List Int} {k : Nat} (v : Int) (hk : k < l.length) (f : Nat → Int) : ∀ n, sm (l.set k v) f n = sm l f n + (if k < n then (v - ix l k) * f k else 0)
  | 0 => by simp [sm]
  | n + 1 => by
    rw [sm, sm, sm_set v hk f n, ix_set v hk]
    by_cases h : n = k
    · subst h; rw [if_pos rfl, if_neg (by omega), if_pos (by omega)]; grind
    · rw [if_neg h]
      by_cases h2 : k < n
      · rw [if_pos h2, if_pos (by omega)]; omega
      · rw [if_neg h2, if_neg (by omega)]; omega
theorem sm_addK (cur : List Int) (fr : Nat) (ws : List Int) (f : Nat → Int) : ∀ (m : Nat), fr + m ≤ cur.length → ∀ n, fr + m ≤ n → sm (addK cur fr ws m) f n = sm cur f n + sm ws (fun i => f (fr + i)) m
  | 0, _, n, _ => by simp [sm, addK]
  | m + 1, h, n, hn => by
    rw [addK, sm_set _ (by rw [addK_length]; omega), sm_addK cur fr ws f m (by omega) n (by omega), if_pos (by omega), addK_later cur fr ws m _ (Nat.le_refl _), sm]
    grind

/-- what the group p adds to the sum. -/
def gsum (xs : List Int) (f : Nat → Int) (p : Int × Int) : Int :=
  if p.2 = 1 then sm [18 * dx xs p.1.toNat, 18 * dx xs p.1.toNat] (fun i => f (p.1.toNat + i)) 2
  else sm (grpW (dx xs p.1.toNat) (dx xs (p.1.toNat + 1))) (fun i => f (p.1.toNat + i)) 3
theorem sm_addG {xs acc : List Int} (f : Nat → Int) {j : Nat} {m : Int} (hj : j + 1 < xs.length) (hm : m ≠ 1 → j + 2 < xs.length) (ha : acc.length = xs.length) : sm (addG xs acc ((j : Int), m)) f xs.length = sm acc f xs.length + gsum xs f ((j : Int), m) := by
  unfold addG gsum
  simp only [Int.toNat_natCast]
  by_cases h : m = 1
  · rw [if_pos h, if_pos h, sm_addK _ _ _ _ _ (by omega) _ (by omega)]
  · have := hm h
    rw [if_neg h, if_neg h, sm_addK _ _ _ _ _ (by omega) _ (by omega)]
/-- if each group adds a difference of P, all add the difference over the whole. -/
theorem sm_fold {xs : List Int} {f P : Nat → Int} : ∀ (fuel i : Nat) (acc : List Int), acc.length = xs.length → xs.length ≤ fuel + i → i < xs.length →
    (∀ j : Nat, ((j : Int), (manyN xs j : Int)) ∈ grp xs fuel i → j + 1 < xs.length → gsum xs f ((j : Int), (manyN xs j : Int)) = P (j + manyN xs j) - P j) →
    sm ((grp xs fuel i).foldl (addG xs) acc) f xs.length = sm acc f xs.length + (P (xs.length - 1) - P i)
  | 0, i, acc, _, h, hi, _ => by omega
  | fuel + 1, i, acc, ha, h, hi, hg => by
    rw [grp] at hg ⊢
    by_cases h1 : i + 1 < xs.length
    · rw [if_pos h1] at hg ⊢
      rw [List.foldl_cons]
      have hmp := manyN_pos xs i
      have hm2 : (manyN xs i : Int) ≠ 1 → i + 2 < xs.length := fun h => by
        rcases manyN_cases xs i with h | ⟨_, h, _⟩ <;> omega
      have hlt : i + manyN xs i < xs.length := by rcases manyN_cases xs i with h | ⟨h, h', _⟩ <;> omega
      rw [sm_fold fuel (i + manyN xs i) _ (by rw [addG_length]; exact ha) (by omega) hlt (fun j hj hj1 => hg j (List.mem_cons_of_mem _ hj) hj1), sm_addG f h1 hm2 ha, hg i List.mem_cons_self h1]
      omega
    · rw [if_neg h1]
      have : i = xs.length - 1 := by omega
      subst this
      simp
theorem sm_zero (n : Nat) (f : Nat → Int) (k : Nat) : sm (List.replicate n 0) f k = 0 := by
  induction k with
  | zero => rfl
  | succ k ih =>
    have : ix (List.replicate n 0) k = 0 := by
      by_cases h : k < n
      · simp [ix, List.getD, List.getElem?_replicate, h]
      · exact ix_out (by simp; omega)
    rw [sm, ih, this]; simp
theorem weightsZ_fold (xs : List Int) : weightsZ xs = (groupsZ xs).foldl (addG xs) (List.replicate xs.length 0) := by
  unfold weightsZ wtAcc; rw [List.take_length]
theorem sm_weights {xs : List Int} {f P : Nat → Int} (h2 : 1 ≤ xs.length) (hg : ∀ j : Nat, ((j : Int), (manyN xs j : Int)) ∈ groupsZ xs → j + 1 < xs.length → gsum xs f ((j : Int), (manyN xs j : Int)) = P (j + manyN xs j) - P j) :
    sm (weightsZ xs) f xs.length = P (xs.length - 1) - P 0 := by
  rw [weightsZ_fold, groupsZ, sm_fold xs.length 0 _ (by simp) (by omega) (by omega) hg, sm_zero]; omega

/-- a polynomial of degree 2, and 36 times its integral. -/
def poly (a b c x : Int) : Int := a + b * x + c * x * x
def intg (a b c x : Int) : Int := 36 * a * x + 18 * b * (x * x) + 12 * c * (x * x * x)

theorem sm2 (u v : Int) (f : Nat → Int) : sm [u, v] f 2 = u * f 0 + v * f 1 := by simp [sm, ix_cons_zero, ix_cons_succ]
theorem sm3 (u v w : Int) (f : Nat → Int) : sm [u, v, w] f 3 = u * f 0 + v * f 1 + w * f 2 := by simp [sm, ix_cons_zero, ix_cons_succ]

/-- a group of one interval integrates a polynomial of degree 1. -/
theorem gsum_one (xs : List Int) (a b : Int) (j : Nat) : gsum xs (fun i => poly a b 0 (ix xs i)) ((j : Int), 1) = intg a b 0 (ix xs (j + 1)) - intg a b 0 (ix xs j) := by
  unfold gsum
  rw [if_pos rfl, sm2]
  simp only [Int.toNat_natCast, dx, Nat.add_zero]
  unfold poly intg
  generalize ix xs (j + 1) = y
  generalize ix xs j = x
  grind
/-- a group of two intervals integrates one of degree 2. -/
theorem gsum_two {xs : List Int} (a b c : Int) {j : Nat} (h1 : 0 < dx xs j) (h2 : 0 < dx xs (j + 1)) (hp : pairB (dx xs j) (dx xs (j + 1)) = true) :
    gsum xs (fun i => poly a b c (ix xs i)) ((j : Int), 2) = intg a b c (ix xs (j + 2)) - intg a b c (ix xs j) := by
  unfold gsum
  rw [if_neg (by omega)]
  simp only [Int.toNat_natCast]
  have e1 : ix xs (j + 1) = ix xs j + dx xs j := by unfold dx; omega
  have e2 : ix xs (j + 2) = ix xs j + dx xs j + dx xs (j + 1) := by unfold dx; rw [show j + 1 + 1 = j + 2 from rfl]; omega
  generalize dx xs (j + 1) = q at *
  generalize dx xs j = p at *
  rcases pair_cases h1 h2 hp with ⟨e, _⟩ | ⟨e, _⟩ | ⟨e, _⟩ | ⟨e, _⟩ | ⟨e, _⟩ <;> subst e
  · rw [grpW_1, sm3, Nat.add_zero, e1, e2]; unfold poly intg; generalize ix xs j = x; grind
  · rw [grpW_2 h1, sm3, Nat.add_zero, e1, e2]; unfold poly intg; generalize ix xs j = x; grind
  · rw [grpW_3 h1, sm3, Nat.add_zero, e1, e2]; unfold poly intg; generalize ix xs j = x; grind
  · rw [grpW_4 h2, sm3, Nat.add_zero, e1, e2]; unfold poly intg; generalize ix xs j = x; grind
  · rw [grpW_5 h2, sm3, Nat.add_zero, e1, e2]; unfold poly intg; generalize ix xs j = x; grind

theorem dx_pos {many most : Int} {xs : List Int} (hP : OkP many most xs) {j : Nat} (hj : j + 1 < xs.length) : 0 < dx xs j := (hP.dif j hj).1

/-- THE WEIGHTS INTEGRATE polynomials of degree 1, and of degree 2 if all groups have two intervals. -/
theorem exact1 {many most : Int} {xs : List Int} (hP : OkP many most xs) (a b : Int) : sm (weightsZ xs) (fun i => poly a b 0 (ix xs i)) xs.length = intg a b 0 (ix xs (xs.length - 1)) - intg a b 0 (ix xs 0) := by
  refine sm_weights (f := fun i => poly a b 0 (ix xs i)) (P := fun j => intg a b 0 (ix xs j)) (by have := hP.two; omega) (fun j hmem hj => ?_)
  rcases manyN_cases xs j with h | ⟨h, h2, h3⟩
  · rw [h]; exact gsum_one xs a b j
  · rw [h]; exact gsum_two a b 0 (dx_pos hP hj) (dx_pos hP (by omega)) h3
theorem exact2 {many most : Int} {xs : List Int} (hP : OkP many most xs) (hall : ∀ p ∈ groupsZ xs, p.2 = 2) (a b c : Int) : sm (weightsZ xs) (fun i => poly a b c (ix xs i)) xs.length = intg a b c (ix xs (xs.length - 1)) - intg a b c (ix xs 0) := by
  refine sm_weights (f := fun i => poly a b c (ix xs i)) (P := fun j => intg a b c (ix xs j)) (by have := hP.two; omega) (fun j hmem hj => ?_)
  rcases manyN_cases xs j with h | ⟨h, h2, h3⟩
  · have := hall _ hmem; simp only [h] at this; omega
  · rw [h]; exact gsum_two a b c (dx_pos hP hj) (dx_pos hP (by omega)) h3

/-- the sum of the weights, and the sum of the weights times the positions. -/
theorem sum_one {many most : Int} {xs : List Int} (hP : OkP many most xs) : sm (weightsZ xs) (fun _ => 1) xs.length = 36 * (ix xs (xs.length - 1) - ix xs 0) := by
  have := exact1 hP 1 0
  rw [show (fun i => poly 1 0 0 (ix xs i)) = fun _ => (1 : Int) from funext fun i => by unfold poly; omega] at this
  rw [this]; unfold intg; omega
theorem sum_pos {many most : Int} {xs : List Int} (hP : OkP many most xs) : sm (weightsZ xs) (fun i => ix xs i) xs.length = 18 * (ix xs (xs.length - 1) * ix xs (xs.length - 1) - ix xs 0 * ix xs 0) := by
  have := exact1 hP 0 1
  rw [show (fun i => poly 0 1 0 (ix xs i)) = fun i => ix xs i from funext fun i => by unfold poly; grind] at this
  rw [this]; unfold intg; grind

/-- the sum of the sizes. -/
def sA (ws : List Int) : Nat → Int
  | 0 => 0
  | n + 1 => sA ws n + ((ix ws n).natAbs : Int)
theorem sA_nonneg (ws : List Int) : ∀ n, 0 ≤ sA ws n
  | 0 => by simp [sA]
  | n + 1 => by have := sA_nonneg ws n; rw [sA]; omega
theorem sA_mono (ws : List Int) {n m : Nat} (h : n ≤ m) : sA ws n ≤ sA ws m := by
  induction m with
  | zero => rw [show n = 0 by omega]; exact Int.le_refl _
  | succ m ih =>
    rcases Nat.lt_or_ge m n with h' | h'
    · rw [show n = m + 1 by omega]; exact Int.le_refl _
    · have := ih h'; rw [sA]; omega
theorem sA_at (ws : List Int) {n j : Nat} (h : j < n) : ((ix ws j).natAbs : Int) ≤ sA ws n := by
  have := sA_mono ws (show j + 1 ≤ n by omega)
  have h2 := sA_nonneg ws j
  rw [sA] at this; omega
theorem sA_set {l : List Int} {k : Nat} (v : Int) (hk : k < l.length) : ∀ n, sA (l.set k v) n ≤ sA l n + (if k < n then ((v - ix l k).natAbs : Int) else 0)
  | 0 => by simp [sA]
  | n + 1 => by
    have ih := sA_set v hk n
    rw [sA, sA, ix_set v hk]
    by_cases h : n = k
    · subst h; rw [if_pos rfl, if_pos (by omega)]; rw [if_neg (by omega)] at ih; omega
    · rw [if_neg h]
      by_cases h2 : k < n
      · rw [if_pos h2] at ih; rw [if_pos (by omega)]; omega
      · rw [if_neg h2] at ih; rw [if_neg (by omega)]; omega
theorem sA_addK (cur : List Int) (fr : Nat) (ws : List Int) : ∀ (m : Nat), fr + m ≤ cur.length → ∀ n, fr + m ≤ n → sA (addK cur fr ws m) n ≤ sA cur n + sA ws m
  | 0, _, n, _ => by simp [sA, addK]
  | m + 1, h, n, hn => by
    have ih := sA_addK cur fr ws m (by omega) n (by omega)
    have h1 := sA_set (l := addK cur fr ws m) (k := fr + m) (ix cur (fr + m) + ix ws m) (by rw [addK_length]; omega) n
    rw [if_pos (by omega), addK_later cur fr ws m _ (Nat.le_refl _)] at h1
    rw [addK, sA]
    have : ix cur (fr + m) + ix ws m - ix cur (fr + m) = ix ws m := by omega
    rw [this] at h1
    omega
theorem sA2 (u v : Int) : sA [u, v] 2 = (u.natAbs : Int) + (v.natAbs : Int) := by simp [sA, ix_cons_zero, ix_cons_succ]
theorem sA3 (u v w : Int) : sA [u, v, w] 3 = (u.natAbs : Int) + (v.natAbs : Int) + (w.natAbs : Int) := by simp [sA, ix_cons_zero, ix_cons_succ]
theorem sA_grpW {p q : Int} (h1 : 0 < p) (h2 : 0 < q) (hp : pairB p q = true) : sA (grpW p q) 3 ≤ 48 * (p + q) := by
  rcases pair_cases h1 h2 hp with ⟨e, _⟩ | ⟨e, _⟩ | ⟨e, _⟩ | ⟨e, _⟩ | ⟨e, _⟩ <;> subst e
  · rw [grpW_1, sA3]; omega
  · rw [grpW_2 h1, sA3]; omega
  · rw [grpW_3 h1, sA3]; omega
  · rw [grpW_4 h2, sA3]; omega
  · rw [grpW_5 h2, sA3]; omega
theorem sA_fold {many most : Int} {xs : List Int} (hP : OkP many most xs) : ∀ (fuel i : Nat) (acc : List Int), acc.length = xs.length → xs.length ≤ fuel + i → i < xs.length →
    sA ((grp xs fuel i).foldl (addG xs) acc) xs.length ≤ sA acc xs.length + 48 * (ix xs (xs.length - 1) - ix xs i)
  | 0, i, acc, _, h, hi => by omega
  | fuel + 1, i, acc, ha, h, hi => by
    rw [grp]
    by_cases h1 : i + 1 < xs.length
    · rw [if_pos h1, List.foldl_cons]
      have hmp := manyN_pos xs i
      have hd := dx_pos hP h1
      rcases manyN_cases xs i with hm | ⟨hm, hm2, hm3⟩
      · have ih := sA_fold hP fuel (i + manyN xs i) (addG xs acc ((i : Int), (manyN xs i : Int))) (by rw [addG_length]; exact ha) (by omega) (by omega)
        refine Int.le_trans ih ?_
        rw [hm]
        simp only [addG, Int.toNat_natCast]
        rw [if_pos (by omega)]
        have := sA_addK acc i [18 * dx xs i, 18 * dx xs i] 2 (by omega) xs.length (by omega)
        rw [sA2] at this
        have e : dx xs i = ix xs (i + 1) - ix xs i := rfl
        omega
      · have ih := sA_fold hP fuel (i + manyN xs i) (addG xs acc ((i : Int), (manyN xs i : Int))) (by rw [addG_length]; exact ha) (by omega) (by omega)
        refine Int.le_trans ih ?_
        rw [hm]
        simp only [addG, Int.toNat_natCast]
        rw [if_neg (by omega)]
        have := sA_addK acc i (grpW (dx xs i) (dx xs (i + 1))) 3 (by omega) xs.length (by omega)
        have g := sA_grpW hd (dx_pos hP (j := i + 1) (by omega)) hm3
        have e : dx xs i = ix xs (i + 1) - ix xs i := rfl
        have e2 : dx xs (i + 1) = ix xs (i + 2) - ix xs (i + 1) := rfl
        omega
    · rw [if_neg h1]
      have : i = xs.length - 1 := by omega
      subst this
      simp
theorem sA_zero (n k : Nat) : sA (List.replicate n 0) k = 0 := by
  induction k with
  | zero => rfl
  | succ k ih =>
    have : ix (List.replicate n 0) k = 0 := by
      by_cases h : k < n
      · simp [ix, List.getD, List.getElem?_replicate, h]
      · exact ix_out (by simp; omega)
    rw [sA, ih, this]; simp
/-- the sizes of the weights add up to at most 48 times the length. -/
theorem sA_weights {many most : Int} {xs : List Int} (hP : OkP many most xs) : sA (weightsZ xs) xs.length ≤ 48 * (ix xs (xs.length - 1) - ix xs 0) := by
  have := sA_fold hP xs.length 0 (List.replicate xs.length 0) (by simp) (by omega) (by have := hP.two; omega)
  rw [sA_zero] at this
  rw [weightsZ_fold, groupsZ]
  omega
/-- a sum is at most the sizes times the greatest. -/
theorem sm_bd {ws : List Int} {f : Nat → Int} {M : Int} (hM : 0 ≤ M) : ∀ {n : Nat}, (∀ j, j < n → -M ≤ f j ∧ f j ≤ M) → -(sA ws n * M) ≤ sm ws f n ∧ sm ws f n ≤ sA ws n * M
  | 0, _ => by simp [sm, sA]
  | n + 1, h => by
    have ih := sm_bd (ws := ws) hM (fun j hj => h j (by omega) : ∀ j, j < n → _)
    have hf := h n (by omega)
    have hp : (ix ws n * f n).natAbs ≤ (ix ws n).natAbs * M.natAbs := by rw [Int.natAbs_mul]; exact Nat.mul_le_mul_left _ (by omega)
    have hq : (((ix ws n).natAbs * M.natAbs : Nat) : Int) = ((ix ws n).natAbs : Int) * M := by rw [Int.natCast_mul]; congr 1; omega
    rw [sm, sA, Int.add_mul]
    omega

end Go.Proofs.Ytdlmdaononclgaa
