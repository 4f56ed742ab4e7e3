import Derived.Test.YtdlmdaononclgaaDoorVolP
import Derived.Test.YtdlmdaononclgaaDoorMC
import Derived.Test.YtdlmdaononclgaaDoorMD
/- Plain: the volume fits, and the centre of equal ordinates. -/
namespace Go.Proofs.YtdlmdaononclgaaDoor
open Go.RowKit
set_option linter.unusedVariables false
set_option linter.unusedSimpArgs false

theorem sm_congr' {ws : List Int} {f g : Nat → Int} {n : Nat} (h : ∀ j, j < n → f j = g j) : sm ws f n = sm ws g n := sm_congr (fun j hj => by rw [h j hj])
theorem mul_le_c {x C M : Int} (h : x ≤ C) (hM : 0 ≤ M) : x * M ≤ C * M := Int.mul_le_mul_of_nonneg_right h hM
theorem sm_bdC {ws : List Int} {f : Nat → Int} {n : Nat} {M C : Int} (hM : 0 ≤ M) (hs : sA ws n ≤ C) (h : ∀ j, j < n → -M ≤ f j ∧ f j ≤ M) : -(C * M) ≤ sm ws f n ∧ sm ws f n ≤ C * M := by
  obtain ⟨a, b⟩ := sm_bd (ws := ws) (n := n) hM h
  have := mul_le_c hs hM
  constructor <;> omega
section
variable {a b : List Int} {H : Nat → Nat → Int} {n m : Nat}
theorem volE_bd (hA : sA a n ≤ 4800000) (hB : sA b m ≤ 720000) (hH : ∀ i k, 0 ≤ H i k ∧ H i k ≤ 20000) (hm : 0 < m) {i k : Nat} (hi : i < n) (hk : k ≤ m) :
    -300000000000000000 ≤ volE a b H m (i * m + k) ∧ volE a b H m (i * m + k) ≤ 300000000000000000 := by
  rw [volE_at a b H hm i k hk]
  have hS : ∀ i k, k ≤ m → -14400000000 ≤ sm b (H i) k ∧ sm b (H i) k ≤ 14400000000 := fun i k hk => by
    have := sm_bdC (ws := b) (f := H i) (n := k) (M := 20000) (C := 720000) (by omega) (by have := sA_mono b hk; omega) (fun j _ => by have := hH i j; omega)
    omega
  have h1 := sm_bdC (ws := a) (f := fun i => sm b (H i) m) (n := i) (M := 14400000000) (C := 4800000) (by omega) (by have := sA_mono a (Nat.le_of_lt hi); omega) (fun j _ => hS j m (Nat.le_refl _))
  have h2 := sA_at a hi
  have h3 := mulbd (x := ix a i) (y := sm b (H i) k) (M := 4800000) (N := 14400000000) (by omega) (hS i k hk) (by omega) (by omega)
  omega
theorem volE_term (hA : sA a n ≤ 4800000) (hB : sA b m ≤ 720000) (hH : ∀ i k, 0 ≤ H i k ∧ H i k ≤ 20000) {i k : Nat} (hi : i < n) (hk : k < m) :
    (-3456000000000 ≤ ix a i * ix b k ∧ ix a i * ix b k ≤ 3456000000000) ∧ -138240000000000000 ≤ 2 * (ix a i * ix b k) * H i k ∧ 2 * (ix a i * ix b k) * H i k ≤ 138240000000000000 := by
  have h1 := sA_at a hi
  have h2 := sA_at b hk
  have h3 := mulbd (x := ix a i) (y := ix b k) (M := 4800000) (N := 720000) (by omega) (by omega) (by omega) (by omega)
  have h4 := hH i k
  have h5 := mulbd (x := 2 * (ix a i * ix b k)) (y := H i k) (M := 6912000000000) (N := 20000) (by omega) (by omega) (by omega) (by omega)
  omega
end
theorem div_at {i k m : Nat} (hk : k < m) : (i * m + k) / m = i := by rw [Nat.mul_comm, Nat.mul_add_div (by omega), Nat.div_eq_of_lt hk, Nat.add_zero]
theorem mod_at {i k m : Nat} (hk : k < m) : (i * m + k) % m = k := by rw [Nat.mul_comm, Nat.mul_add_mod, Nat.mod_eq_of_lt hk]
theorem volT_eq {a b : List Int} {rs : List (List Int)} {n m : Nat} (hn : a.length = n) (hm' : b.length = m) (hA : sA a n ≤ 4800000) (hB : sA b m ≤ 720000) (hH : ∀ i k, 0 ≤ ix (rx rs i) k ∧ ix (rx rs i) k ≤ 20000) :
    ∀ t, t ≤ n * m → volT (gridT a b (n * m)) rs m t = volE a b (fun i k => ix (rx rs i) k) m t
  | 0, _ => rfl
  | t + 1, h => by
    have hm : 0 < m := by rcases Nat.eq_zero_or_pos m with e | e; · subst e; omega
                          · exact e
    have hk : t % m < m := Nat.mod_lt _ hm
    have hi : t / m < n := Nat.div_lt_of_lt_mul (Nat.lt_of_lt_of_le (Nat.lt_succ_self t) (by rw [Nat.mul_comm]; exact h))
    have ht : t = (t / m) * m + t % m := by rw [Nat.mul_comm]; exact (Nat.div_add_mod t m).symm
    have ih := volT_eq hn hm' hA hB hH t (by omega)
    rw [volT_succ _ _ hk ht, ih, volE]
    have hg : ix (rx (gridT a b (n * m)) (t / m)) (t % m) = IntKind.i64.wrap (ix a (t / m) * ix b (t % m)) := by
      subst hn; subst hm'; exact gridT_ix hi hk
    obtain ⟨⟨t0, t1⟩, t2, t3⟩ := volE_term (a := a) (b := b) (H := fun i k => ix (rx rs i) k) hA hB hH hi hk
    have hb := volE_bd (a := a) (b := b) (H := fun i k => ix (rx rs i) k) hA hB hH hm hi (Nat.le_of_lt hk)
    rw [← ht] at hb
    obtain ⟨b0, b1⟩ := hb
    rw [hg, IntWalk.i64_in (ix a (t / m) * ix b (t % m)) ⟨by omega, by omega⟩, IntWalk.i64_in (2 * (ix a (t / m) * ix b (t % m))) ⟨by omega, by omega⟩]
    rw [IntWalk.i64_in (2 * (ix a (t / m) * ix b (t % m)) * ix (rx rs (t / m)) (t % m)) ⟨by omega, by omega⟩, IntWalk.i64_in _ ⟨by omega, by omega⟩]

/-- the volume of a valid table. -/
theorem table_ok {xs zs : List Int} {rs : List (List Int)} (h : tableB xs zs rs = true) : OkP 9 100000 xs ∧ OkP 7 15000 zs ∧ rs.length = xs.length ∧ (∀ i, i < rs.length → (rx rs i).length = zs.length) ∧ ∀ i k, 0 ≤ ix (rx rs i) k ∧ ix (rx rs i) k ≤ 20000 := by
  simp only [tableB, gridB, Bool.and_eq_true, decide_eq_true_eq, Bool.not_eq_true'] at h
  obtain ⟨⟨h1, h2⟩, h3, h4⟩ := h
  have hrow : ∀ i, i < rs.length → rowBad zs.length (rx rs i) = false := fun i hi => by
    refine Bool.eq_false_iff.2 fun hb => ?_
    rw [anyR_yes i hi hb] at h4
    cases h4
  have hr2 : ∀ i, i < rs.length → (rx rs i).length = zs.length ∧ anyB badH (rx rs i) = false := fun i hi => by
    have := hrow i hi
    simp only [rowBad, Bool.or_eq_false_iff, Bool.not_eq_false', decide_eq_true_eq] at this
    exact this
  refine ⟨okP_true h1, okP_true h2, h3, fun i hi => (hr2 i hi).1, fun i k => ?_⟩
  by_cases hi : i < rs.length
  · by_cases hk : k < (rx rs i).length
    · have h5 := (hr2 i hi).2
      have : badH (ix (rx rs i) k) = false := by
        refine Bool.eq_false_iff.2 fun hb => ?_
        rw [anyB_yes k hk hb] at h5
        cases h5
      simp only [badH, within, Bool.not_eq_false', Bool.and_eq_true, decide_eq_true_eq] at this
      exact this
    · rw [ix_out (by omega)]; omega
  · have : rx rs i = [] := by simp [rx, List.getD, List.getElem?_eq_none (show rs.length ≤ i by omega)]
    rw [this, ix_nil]; omega
theorem volZ_eq {xs zs : List Int} {rs : List (List Int)} (h : tableB xs zs rs = true) :
    volZ xs zs rs = 2 * sm (weightsZ xs) (fun i => sm (weightsZ zs) (fun k => ix (rx rs i) k) zs.length) xs.length ∧ -300000000000000000 ≤ volZ xs zs rs ∧ volZ xs zs rs ≤ 300000000000000000 := by
  obtain ⟨h1, h2, h3, h4, h5⟩ := table_ok h
  have l1 := weightsZ_length xs
  have l2 := weightsZ_length zs
  have hm : 0 < zs.length := by have := h2.two; omega
  have hn : 0 < xs.length := by have := h1.two; omega
  have s1 : sA (weightsZ xs) xs.length ≤ 4800000 := by
    have := sA_weights h1
    have := h1.low
    have := h1.high
    omega
  have s2 : sA (weightsZ zs) zs.length ≤ 720000 := by
    have := sA_weights h2
    have := h2.low
    have := h2.high
    omega
  have e : volZ xs zs rs = volE (weightsZ xs) (weightsZ zs) (fun i k => ix (rx rs i) k) zs.length (xs.length * zs.length) := by
    unfold volZ gridZ
    rw [l1, l2]
    exact volT_eq l1 l2 s1 s2 h5 _ (Nat.le_refl _)
  have e2 : xs.length * zs.length = (xs.length - 1) * zs.length + zs.length := by
    rw [← Nat.succ_mul]; congr 1; omega
  refine ⟨?_, ?_⟩
  · have := volE_at (weightsZ xs) (weightsZ zs) (fun i k => ix (rx rs i) k) hm xs.length 0 (Nat.zero_le _)
    rw [e, ← Nat.add_zero (xs.length * zs.length), this]
    simp [sm]
  · rw [e, e2]
    exact volE_bd s1 s2 h5 hm (by omega) (Nat.le_refl _)
/-- the other way round. -/
theorem volZ_swap {xs zs : List Int} {rs : List (List Int)} (h : tableB xs zs rs = true) :
    volZ xs zs rs = 2 * sm (weightsZ zs) (fun k => sm (weightsZ xs) (fun i => ix (rx rs i) k) xs.length) zs.length := by
  rw [(volZ_eq h).1, sm_swap]

theorem mkR_scale {g : Int} (hg : 0 < g) (n d : Int) : mkR (g * n) (g * d) = mkR n d := by
  unfold mkR
  have hd : (g * d = 0) = (d = 0) := by
    rw [Int.mul_eq_zero]; simp; omega
  have hgn : 0 < g.natAbs := by omega
  have s1 : decide (g * n < 0) = decide (n < 0) := by
    have : (g * n < 0) ↔ (n < 0) := ⟨fun h => by
      refine Decidable.byContradiction fun hn => ?_
      have := Int.mul_nonneg (Int.le_of_lt hg) (show 0 ≤ n by omega)
      omega, fun h => Int.mul_neg_of_pos_of_neg hg h⟩
    simp [this]
  have s2 : decide (g * d < 0) = decide (d < 0) := by
    have : (g * d < 0) ↔ (d < 0) := ⟨fun h => by
      refine Decidable.byContradiction fun hn => ?_
      have := Int.mul_nonneg (Int.le_of_lt hg) (show 0 ≤ d by omega)
      omega, fun h => Int.mul_neg_of_pos_of_neg hg h⟩
    simp [this]
  simp only [hd, s1, s2, Int.natAbs_mul, Nat.gcd_mul_left, Nat.mul_div_mul_left _ _ hgn]
/-- the centre of equal ordinates is the middle. -/
theorem ix_replicate {n : Nat} {y : Int} {j : Nat} (h : j < n) : ix (List.replicate n y) j = y := by simp [ix, List.getD, List.getElem?_replicate, h]
theorem cen_same {xs : List Int} (hP : OkP 9 100000 xs) {y : Int} (y1 : 1 ≤ y) (y2 : y ≤ 20000) : cenR xs (List.replicate xs.length y) = mkR (ix xs 0 + ix xs (xs.length - 1)) 2 := by
  have h2 := hP.two
  have ho : ordE xs (List.replicate xs.length y) = 0 := by
    unfold ordE
    rw [if_pos (okP_mk hP), if_pos (by simp), if_neg]
    rw [anyB_no (fun j hj => by
      rw [List.length_replicate] at hj
      rw [ix_replicate hj]
      simp only [badO, within, Bool.not_eq_false', Bool.and_eq_true, decide_eq_true_eq]; omega)]
    simp
  have hlt : ix xs 0 < ix xs (xs.length - 1) := by
    have : ∀ k, 0 < k → k < xs.length → ix xs 0 < ix xs k := fun k => by
      induction k with
      | zero => omega
      | succ k ih => intro _ hk; have := hP.inc k (by omega); by_cases h0 : k = 0; · subst h0; exact this
                     · have := ih (by omega) (by omega); omega
    exact this _ (by omega) (by omega)
  have e1 : dotK (weightsZ xs) (List.replicate xs.length y) xs.length = (18 * y * (ix xs (xs.length - 1) - ix xs 0)) * 2 := by
    rw [dotK_sm, sm_congr' (g := fun _ => y * 1) (fun j hj => by rw [ix_replicate hj]; omega), sm_mul, sum_one hP]
    grind
  have e2 : dotK (weightsZ xs) (momL xs (List.replicate xs.length y) 0 xs.length) xs.length = (18 * y * (ix xs (xs.length - 1) - ix xs 0)) * (ix xs 0 + ix xs (xs.length - 1)) := by
    rw [dotK_sm, sm_congr' (g := fun j => y * ix xs j) (fun j hj => by rw [momL_ix _ _ _ _ _ hj, ix_replicate hj]; simp), sm_mul, sum_pos hP]
    grind
  have hg : 0 < 18 * y * (ix xs (xs.length - 1) - ix xs 0) := Int.mul_pos (by omega) (by omega)
  unfold cenR
  rw [if_pos ho, e1, e2, if_neg (by omega), mkR_scale hg]

end Go.Proofs.YtdlmdaononclgaaDoor
