import Derived.Test.YtdlmdaononclgaaFrac9
/- Plain facts on fractions: what Make answers has the value it was made of, and is the one valid fraction of that value. -/
namespace Go.Proofs.Ytdlmdaononclgaa
open Go.RowKit
set_option linter.unusedVariables false
set_option linter.unusedSimpArgs false

theorem mk_okF {n d : Int} (h0 : -1000000000 ≤ n) (h1 : n ≤ 1000000000) (h2 : 1 ≤ d) (h3 : d ≤ 1000000000) (hg : Nat.gcd n.natAbs d.natAbs = 1) : okF n d = true := by
  rw [okF_gcd (by omega) (by omega) (by omega) (by omega), hg]; rfl

/-- an answer without an error is a valid fraction of that value. -/
theorem mkR_ok {n d : Int} (h : (mkR n d).2.2 = 0) : okF (mkR n d).1 (mkR n d).2.1 = true ∧ (mkR n d).1 * d = n * (mkR n d).2.1 ∧ d ≠ 0 := by
  by_cases hd : d = 0
  · subst hd; rw [mkR_zero] at h; exact absurd h (by decide)
  · have hg : 0 < Nat.gcd n.natAbs d.natAbs := Nat.gcd_pos_of_pos_right _ (by omega)
    obtain ⟨q1, hq1⟩ : ∃ q, n.natAbs / Nat.gcd n.natAbs d.natAbs = q := ⟨_, rfl⟩
    obtain ⟨q2, hq2⟩ : ∃ q, d.natAbs / Nat.gcd n.natAbs d.natAbs = q := ⟨_, rfl⟩
    have hc : Nat.gcd q1 q2 = 1 := by rw [← hq1, ← hq2]; exact Nat.gcd_div_gcd_div_gcd_of_pos_right (by omega)
    have e1 : q1 * Nat.gcd n.natAbs d.natAbs = n.natAbs := by rw [← hq1]; exact Nat.div_mul_cancel (Nat.gcd_dvd_left _ _)
    have e2 : q2 * Nat.gcd n.natAbs d.natAbs = d.natAbs := by rw [← hq2]; exact Nat.div_mul_cancel (Nat.gcd_dvd_right _ _)
    by_cases hb : (1000000000 : Int) < q1 ∨ (1000000000 : Int) < q2
    · rw [mkR_big hd hq1 hq2 hb] at h; exact absurd h (by decide)
    · obtain ⟨g, hgg⟩ : ∃ g, Nat.gcd n.natAbs d.natAbs = g := ⟨_, rfl⟩
      rw [hgg] at e1 e2 hg
      have hq2' : 0 < q2 := Nat.pos_of_ne_zero (fun e => by subst e; omega)
      have e1' : (q1 : Int) * g = n.natAbs := by rw [← Int.natCast_mul, e1]
      have e2' : (q2 : Int) * g = d.natAbs := by rw [← Int.natCast_mul, e2]
      cases hs : (decide (n < 0) != decide (d < 0)) with
      | true =>
        rw [mkR_neg hd hq1 hq2 hb hs]
        show okF _ _ = true ∧ _ * d = n * _ ∧ d ≠ 0
        simp only
        refine ⟨mk_okF (by omega) (by omega) (by omega) (by omega) (by simpa using hc), ?_, hd⟩
        rcases Int.natAbs_eq n with hn | hn <;> rcases Int.natAbs_eq d with hd' | hd'
        · have x : ¬ n < 0 := by omega
          have y : ¬ d < 0 := by omega
          simp [x, y] at hs
        · grind
        · grind
        · by_cases hn0 : n = 0
          · subst hn0
            have : q1 * g = 0 := by simpa using e1
            have : q1 = 0 := by rcases Nat.mul_eq_zero.1 this with h | h; exact h; omega
            subst this; simp
          · have x : n < 0 := by omega
            have y : d < 0 := by omega
            simp [x, y] at hs
      | false =>
        rw [mkR_pos hd hq1 hq2 hb hs]
        show okF _ _ = true ∧ _ * d = n * _ ∧ d ≠ 0
        simp only
        refine ⟨mk_okF (by omega) (by omega) (by omega) (by omega) (by simpa using hc), ?_, hd⟩
        rcases Int.natAbs_eq n with hn | hn <;> rcases Int.natAbs_eq d with hd' | hd'
        · grind
        · by_cases hn0 : n = 0
          · subst hn0
            have : q1 * g = 0 := by simpa using e1
            have : q1 = 0 := by rcases Nat.mul_eq_zero.1 this with h | h; exact h; omega
            subst this; simp
          · have x : ¬ n < 0 := by omega
            have y : d < 0 := by omega
            simp [x, y] at hs
        · by_cases hn0 : n = 0
          · subst hn0
            have : q1 * g = 0 := by simpa using e1
            have : q1 = 0 := by rcases Nat.mul_eq_zero.1 this with h | h; exact h; omega
            subst this; simp
          · have x : n < 0 := by omega
            have y : ¬ d < 0 := by omega
            simp [x, y] at hs
        · grind

/-- an error, and what comes with it. -/
theorem mkR_err {n d : Int} (h : ¬ (mkR n d).2.2 = 0) : (mkR n d).1 = 0 ∧ (mkR n d).2.1 = 0 ∧ ((mkR n d).2.2 = 11 ∧ d = 0 ∨ (mkR n d).2.2 = 4 ∧ d ≠ 0) := by
  by_cases hd : d = 0
  · subst hd; rw [mkR_zero]; exact ⟨rfl, rfl, .inl ⟨rfl, rfl⟩⟩
  · obtain ⟨q1, hq1⟩ : ∃ q, n.natAbs / Nat.gcd n.natAbs d.natAbs = q := ⟨_, rfl⟩
    obtain ⟨q2, hq2⟩ : ∃ q, d.natAbs / Nat.gcd n.natAbs d.natAbs = q := ⟨_, rfl⟩
    by_cases hb : (1000000000 : Int) < q1 ∨ (1000000000 : Int) < q2
    · rw [mkR_big hd hq1 hq2 hb]; exact ⟨rfl, rfl, .inr ⟨rfl, hd⟩⟩
    · cases hs : (decide (n < 0) != decide (d < 0)) with
      | true => rw [mkR_neg hd hq1 hq2 hb hs] at h; exact absurd rfl h
      | false => rw [mkR_pos hd hq1 hq2 hb hs] at h; exact absurd rfl h

/-- the one valid fraction of a value is what Make answers. -/
theorem mkR_of {n d a b : Int} (hd : d ≠ 0) (hf : okF a b = true) (h : a * d = n * b) : mkR n d = (a, b, 0) := by
  obtain ⟨a0, a1, b0, b1⟩ := okF_bd' hf
  have hc := okF_cop hf
  have e : a.natAbs * d.natAbs = n.natAbs * b.natAbs := by rw [← Int.natAbs_mul, ← Int.natAbs_mul, h]
  have hbd : b.natAbs ∣ d.natAbs := (Nat.Coprime.symm hc : Nat.Coprime b.natAbs a.natAbs).dvd_of_dvd_mul_left (by rw [e]; exact Nat.dvd_mul_left _ _)
  obtain ⟨k, hk⟩ := hbd
  have hk0 : 0 < k := Nat.pos_of_ne_zero (fun e => by subst e; omega)
  have hn : n.natAbs = a.natAbs * k := by
    rw [hk, ← Nat.mul_assoc, Nat.mul_comm a.natAbs, Nat.mul_assoc, Nat.mul_comm n.natAbs] at e
    exact (Nat.eq_of_mul_eq_mul_left (by omega) e).symm
  have hg : Nat.gcd n.natAbs d.natAbs = k := by rw [hn, hk, Nat.gcd_mul_right, hc, Nat.one_mul]
  have hq1 : n.natAbs / Nat.gcd n.natAbs d.natAbs = a.natAbs := by rw [hg, hn, Nat.mul_div_cancel _ hk0]
  have hq2 : d.natAbs / Nat.gcd n.natAbs d.natAbs = b.natAbs := by rw [hg, hk, Nat.mul_div_cancel _ hk0]
  have hb : ¬ ((1000000000 : Int) < (a.natAbs : Nat) ∨ (1000000000 : Int) < (b.natAbs : Nat)) := by omega
  have hbb : ((b.natAbs : Nat) : Int) = b := by omega
  have hnb : n < 0 ↔ n * b < 0 := ⟨fun x => Int.mul_neg_of_neg_of_pos x (by omega), fun x => Int.not_le.1 (fun y => by have := Int.mul_nonneg y (by omega : 0 ≤ b); omega)⟩
  cases hs : (decide (n < 0) != decide (d < 0)) with
  | true =>
    rw [mkR_neg hd hq1 hq2 hb hs, hbb]
    have : a ≤ 0 := by
      refine Int.not_lt.1 (fun ha => ?_)
      by_cases hd0 : d < 0
      · have := Int.mul_neg_of_pos_of_neg ha hd0
        have : n < 0 := hnb.2 (by omega)
        simp [hd0, this] at hs
      · have := Int.mul_pos ha (by omega : 0 < d)
        have : ¬ n < 0 := fun x => by have := hnb.1 x; omega
        simp [hd0, this] at hs
    rw [show -((a.natAbs : Nat) : Int) = a by omega]
  | false =>
    rw [mkR_pos hd hq1 hq2 hb hs, hbb]
    have : 0 ≤ a := by
      refine Int.not_lt.1 (fun ha => ?_)
      by_cases hd0 : d < 0
      · have := Int.mul_pos_of_neg_of_neg ha hd0
        have : ¬ n < 0 := fun x => by have := hnb.1 x; omega
        simp [hd0, this] at hs
      · have := Int.mul_neg_of_neg_of_pos ha (by omega : 0 < d)
        have : n < 0 := hnb.2 (by omega)
        simp [hd0, this] at hs
    rw [show ((a.natAbs : Nat) : Int) = a by omega]

/-- a sum, taken back. -/
theorem sub_back {an ad bn bd xn xd : Int} (ha : okF an ad = true) (hb : okF bn bd = true) (hx : okF xn xd = true) (h : xn * (ad * bd) = (an * bd + bn * ad) * xd) : mkR (xn * bd - bn * xd) (xd * bd) = (an, ad, 0) := by
  obtain ⟨_, _, a2, _⟩ := okF_bd' ha
  obtain ⟨_, _, b2, _⟩ := okF_bd' hb
  obtain ⟨_, _, x2, _⟩ := okF_bd' hx
  refine mkR_of (Int.mul_ne_zero (by omega) (by omega)) ha ?_
  grind
/-- a product, taken back. -/
theorem div_back {an ad bn bd pn pd : Int} (ha : okF an ad = true) (hb : okF bn bd = true) (hp : okF pn pd = true) (hb0 : bn ≠ 0) (h : pn * (ad * bd) = (an * bn) * pd) : mkR (pn * bd) (pd * bn) = (an, ad, 0) := by
  obtain ⟨_, _, p2, _⟩ := okF_bd' hp
  refine mkR_of (Int.mul_ne_zero (by omega) hb0) ha ?_
  grind
/-- three summands. -/
theorem add_three {an ad bn bd cn cd xn xd sn sd tn td : Int} (ha : okF an ad = true) (hb : okF bn bd = true) (hc : okF cn cd = true) (hx : okF xn xd = true) (hs : okF sn sd = true) (ht : okF tn td = true)
    (h1 : xn * (ad * bd) = (an * bd + bn * ad) * xd) (h2 : sn * (xd * cd) = (xn * cd + cn * xd) * sd) (h3 : tn * (bd * cd) = (bn * cd + cn * bd) * td) : mkR (an * td + tn * ad) (ad * td) = (sn, sd, 0) := by
  obtain ⟨_, _, a2, _⟩ := okF_bd' ha
  obtain ⟨_, _, b2, _⟩ := okF_bd' hb
  obtain ⟨_, _, c2, _⟩ := okF_bd' hc
  obtain ⟨_, _, x2, _⟩ := okF_bd' hx
  obtain ⟨_, _, t2, _⟩ := okF_bd' ht
  refine mkR_of (Int.mul_ne_zero (by omega) (by omega)) hs ?_
  have hz : bd * cd * xd ≠ 0 := Int.mul_ne_zero (Int.mul_ne_zero (by omega) (by omega)) (by omega)
  refine Int.eq_of_mul_eq_mul_right hz ?_
  have l1 : sn * (ad * td) * (bd * cd * xd) = (sn * (xd * cd)) * (ad * td * bd) := by grind
  have l2 : (an * td + tn * ad) * sd * (bd * cd * xd) = (an * td * bd * cd + ad * (tn * (bd * cd))) * (sd * xd) := by grind
  rw [l1, l2, h2, h3]
  have l3 : (xn * cd + cn * xd) * sd * (ad * td * bd) = (xn * (ad * bd)) * (cd * sd * td) + cn * xd * sd * ad * td * bd := by grind
  rw [l3, h1]
  grind
/-- a sum compared with a summand is as the other summand with 0. -/
theorem cmp_sum {an ad bn bd xn xd : Int} (ha : okF an ad = true) (hb : okF bn bd = true) (hx : okF xn xd = true) (h : xn * (ad * bd) = (an * bd + bn * ad) * xd) : cmpR xn xd an ad = cmpR bn bd 0 1 := by
  have h01 : okF 0 1 = true := by decide
  obtain ⟨_, _, a2, _⟩ := okF_bd' ha
  obtain ⟨_, _, b2, _⟩ := okF_bd' hb
  obtain ⟨_, _, x2, _⟩ := okF_bd' hx
  have hp : 0 < ad * xd := Int.mul_pos (by omega) (by omega)
  have e : (xn * ad - an * xd) * bd = bn * (ad * xd) := by grind
  rcases Int.lt_trichotomy bn 0 with hn | hn | hn
  · have h1 : bn * (ad * xd) < 0 := Int.mul_neg_of_neg_of_pos hn hp
    have h2 : xn * ad - an * xd < 0 := Int.not_le.1 (fun y => by have := Int.mul_nonneg y (by omega : 0 ≤ bd); omega)
    rw [cmpR_lt hx ha (by omega), cmpR_lt hb h01 (by omega)]
  · subst hn
    have h2 : xn * ad - an * xd = 0 := by
      rw [Int.zero_mul] at e
      rcases Int.mul_eq_zero.1 e with h | h
      · exact h
      · omega
    rw [cmpR_eq hx ha (by omega), cmpR_eq hb h01 (by omega)]
  · have h1 : 0 < bn * (ad * xd) := Int.mul_pos hn hp
    have h2 : 0 < xn * ad - an * xd := Int.not_le.1 (fun y => by have := Int.mul_nonneg (by omega : 0 ≤ -(xn * ad - an * xd)) (by omega : 0 ≤ bd); rw [Int.neg_mul] at this; omega)
    rw [cmpR_gt hx ha (by omega), cmpR_gt hb h01 (by omega)]

/-- the whole numbers next to a fraction. -/
theorem floor_at {n d : Int} (hd : 0 < d) : n / d * d ≤ n ∧ n < (n / d + 1) * d := by
  have a := Int.mul_ediv_add_emod n d
  have b := Int.emod_nonneg n (by omega : d ≠ 0)
  have c := Int.emod_lt_of_pos n hd
  rw [Int.mul_comm] at a
  rw [Int.add_mul]
  omega
theorem round_at {n d : Int} (hd : 0 < d) : ((2 * n + d) / (2 * d) = n / d ∨ (2 * n + d) / (2 * d) = -((-n) / d)) ∧ 2 * (n - (2 * n + d) / (2 * d) * d) < d ∧ 2 * ((2 * n + d) / (2 * d) * d - n) ≤ d := by
  obtain ⟨a1, a2⟩ := floor_at (n := n) hd
  obtain ⟨c1, c2⟩ := floor_at (n := -n) hd
  obtain ⟨b1, b2⟩ := floor_at (n := 2 * n + d) (d := 2 * d) (by omega)
  generalize (2 * n + d) / (2 * d) = m at *
  generalize n / d = lo at *
  generalize (-n) / d = hi at *
  have e1 : m * (2 * d) = 2 * (m * d) := by grind
  have e2 : (m + 1) * (2 * d) = 2 * (m * d) + 2 * d := by grind
  have e3 : (lo + 1) * d = lo * d + d := by grind
  have e4 : (hi + 1) * d = hi * d + d := by grind
  rw [e1] at b1
  rw [e2] at b2
  rw [e3] at a2
  rw [e4] at c2
  refine ⟨?_, by omega, by omega⟩
  -- lo ≤ m ≤ lo + 1, and -hi is lo or lo + 1
  have lt_of : ∀ x y : Int, x * d < y * d → x < y := fun x y h => Int.not_le.1 (fun h' => by have := Int.mul_le_mul_of_nonneg_right h' (by omega : 0 ≤ d); omega)
  have h1 : lo < m + 1 := lt_of _ _ (by rw [Int.add_mul]; omega)
  have h2 : m < lo + 2 := lt_of _ _ (by rw [Int.add_mul]; omega)
  have h3 : m < -hi + 1 := lt_of _ _ (by rw [Int.add_mul, Int.neg_mul]; omega)
  have h4 : -hi < m + 2 := lt_of _ _ (by rw [Int.add_mul, Int.neg_mul]; omega)
  have h5 : lo < -hi + 1 := lt_of _ _ (by rw [Int.add_mul, Int.neg_mul]; omega)
  have h6 : -hi < lo + 2 := lt_of _ _ (by rw [Int.add_mul, Int.neg_mul]; omega)
  by_cases hm : m = lo
  · exact .inl hm
  · right
    have : m = lo + 1 := by omega
    subst this
    by_cases hh : -hi = lo + 1
    · omega
    · -- then -hi = lo: n is a multiple of d, and m is lo
      have hh' : -hi = lo := by omega
      have hhd : hi * d = -(lo * d) := by rw [← hh', Int.neg_mul]; omega
      have : (lo + 1) * d = lo * d + d := by grind
      omega

end Go.Proofs.Ytdlmdaononclgaa
