import Derived.Test.YtdlmdaononclgaaFrac7
/- Fractions, 9: Cmp, in both. -/
namespace Go.Proofs.Ytdlmdaononclgaa
open Go.RowKit
set_option linter.unusedVariables false
set_option linter.unusedSimpArgs false

/-- what Cmp answers. -/
def cmpR (an ad bn bd : Int) : Int :=
  if okF an ad = true ∧ okF bn bd = true then (if an * bd < bn * ad then -1 else if bn * ad < an * bd then 1 else 0) else 0

theorem okF_cop {n d : Int} (h : okF n d = true) : Nat.gcd n.natAbs d.natAbs = 1 := by
  simp only [okF, Bool.and_eq_true, beq_iff_eq] at h
  exact h.2

/-- valid fractions of one value are one. -/
theorem frac_eq {an ad bn bd : Int} (h1 : okF an ad = true) (h2 : okF bn bd = true) (h : an * bd = bn * ad) : an = bn ∧ ad = bd := by
  obtain ⟨a0, a1, a2, a3⟩ := okF_bd' h1
  obtain ⟨b0, b1, b2, b3⟩ := okF_bd' h2
  have g1 := okF_cop h1
  have g2 := okF_cop h2
  have e : an.natAbs * bd.natAbs = bn.natAbs * ad.natAbs := by rw [← Int.natAbs_mul, ← Int.natAbs_mul, h]
  have d1 : ad.natAbs ∣ bd.natAbs := (Nat.Coprime.symm g1 : Nat.Coprime ad.natAbs an.natAbs).dvd_of_dvd_mul_left (by rw [e]; exact Nat.dvd_mul_left _ _)
  have d2 : bd.natAbs ∣ ad.natAbs := (Nat.Coprime.symm g2 : Nat.Coprime bd.natAbs bn.natAbs).dvd_of_dvd_mul_left (by rw [← e]; exact Nat.dvd_mul_left _ _)
  have e2 : ad.natAbs = bd.natAbs := Nat.dvd_antisymm d1 d2
  have e3 : ad = bd := by omega
  subst e3
  exact ⟨Int.eq_of_mul_eq_mul_right (by omega) h, rfl⟩

theorem cmpR_no {an ad bn bd : Int} (h : ¬ (okF an ad = true ∧ okF bn bd = true)) : cmpR an ad bn bd = 0 := if_neg h
theorem cmpR_lt {an ad bn bd : Int} (h1 : okF an ad = true) (h2 : okF bn bd = true) (h : an * bd < bn * ad) : cmpR an ad bn bd = -1 := by rw [cmpR, if_pos ⟨h1, h2⟩, if_pos h]
theorem cmpR_gt {an ad bn bd : Int} (h1 : okF an ad = true) (h2 : okF bn bd = true) (h : bn * ad < an * bd) : cmpR an ad bn bd = 1 := by rw [cmpR, if_pos ⟨h1, h2⟩, if_neg (by omega), if_pos h]
theorem cmpR_eq {an ad bn bd : Int} (h1 : okF an ad = true) (h2 : okF bn bd = true) (h : an * bd = bn * ad) : cmpR an ad bn bd = 0 := by rw [cmpR, if_pos ⟨h1, h2⟩, if_neg (by omega), if_neg (by omega)]

set_option maxHeartbeats 1000000 in
theorem refCmp_any (an ad bn bd : Int) (a0 : -9223372036854775808 ≤ an) (a1 : an ≤ 9223372036854775807) (a2 : -9223372036854775808 ≤ ad) (a3 : ad ≤ 9223372036854775807) (b0 : -9223372036854775808 ≤ bn) (b1 : bn ≤ 9223372036854775807) (b2 : -9223372036854775808 ≤ bd) (b3 : bd ≤ 9223372036854775807) (w : World) :
    Calls Try.prog 53 #[.agg #[.int .i64 an, .int .i64 ad], .agg #[.int .i64 bn, .int .i64 bd]] w fun e w' => e = .returned (.int .i64 (cmpR an ad bn bd)) ∧ Below w.heap.size w w' := by
  by_cases h : okF an ad = true ∧ okF bn bd = true
  · obtain ⟨h1, h2⟩ := h
    obtain ⟨⟨p0, p1⟩, ⟨p2, p3⟩, _⟩ := bd_all h1 h2
    go_enter Try.func53, Try.ntmps53
    go_wp2_with (first | (go_at_call 81; (with_reducible refine (refboth_yes h1 h2 a0 a1 a2 a3 b0 b1 b2 b3 _).mono ?_); rintro e w1 ⟨rfl, hb1⟩; obtain ⟨hc1, hf1⟩ := bcell hb1; have hz1 := hb1.size; (try simp only [World.size_alloc, World.size_setCell, World.size_drew, hsz_drewN] at hz1); have z0 : w.heap.size < w1.heap.size := (by omega); have z1 : w.heap.size + 1 < w1.heap.size := (by omega)))
    all_goals go_ret
    all_goals first
      | (rw [cmpR_lt h1 h2 (by assumption)]; exact ⟨rfl, by repeat' (first | (with_reducible exact Below.refl _ _) | (with_reducible assumption) | (refine below_step (by assumption) ?_ ?_) | (with_reducible refine below_drewN ?_ _) | (with_reducible refine Below.drew ?_) | (with_reducible refine Below.alloc ?_ ?_ _) | (with_reducible refine Below.setCell ?_ ?_ _) | go_size)⟩)
      | (rw [cmpR_gt h1 h2 (by assumption)]; exact ⟨rfl, by repeat' (first | (with_reducible exact Below.refl _ _) | (with_reducible assumption) | (refine below_step (by assumption) ?_ ?_) | (with_reducible refine below_drewN ?_ _) | (with_reducible refine Below.drew ?_) | (with_reducible refine Below.alloc ?_ ?_ _) | (with_reducible refine Below.setCell ?_ ?_ _) | go_size)⟩)
      | (rw [cmpR_eq h1 h2 (by omega)]; exact ⟨rfl, by repeat' (first | (with_reducible exact Below.refl _ _) | (with_reducible assumption) | (refine below_step (by assumption) ?_ ?_) | (with_reducible refine below_drewN ?_ _) | (with_reducible refine Below.drew ?_) | (with_reducible refine Below.alloc ?_ ?_ _) | (with_reducible refine Below.setCell ?_ ?_ _) | go_size)⟩)
  · rw [cmpR_no h]
    have H := Lib.hid h; clear h
    go_enter Try.func53, Try.ntmps53
    go_wp2_with (first | (go_at_call 81; (with_reducible refine (refboth_no _ _ _ _ H.out a0 a1 a2 a3 b0 b1 b2 b3 _).mono ?_); rintro e w1 ⟨rfl, hb1⟩; obtain ⟨hc1, hf1⟩ := bcell hb1; have hz1 := hb1.size; (try simp only [World.size_alloc, World.size_setCell, World.size_drew, hsz_drewN] at hz1); have z0 : w.heap.size < w1.heap.size := (by omega); have z1 : w.heap.size + 1 < w1.heap.size := (by omega)))
    go_ret
    exact ⟨rfl, by repeat' (first | (with_reducible exact Below.refl _ _) | (with_reducible assumption) | (refine below_step (by assumption) ?_ ?_) | (with_reducible refine below_drewN ?_ _) | (with_reducible refine Below.drew ?_) | (with_reducible refine Below.alloc ?_ ?_ _) | (with_reducible refine Below.setCell ?_ ?_ _) | go_size)⟩

set_option maxHeartbeats 1000000 in
theorem Cmp_any (an ad bn bd : Int) (a0 : -9223372036854775808 ≤ an) (a1 : an ≤ 9223372036854775807) (a2 : -9223372036854775808 ≤ ad) (a3 : ad ≤ 9223372036854775807) (b0 : -9223372036854775808 ≤ bn) (b1 : bn ≤ 9223372036854775807) (b2 : -9223372036854775808 ≤ bd) (b3 : bd ≤ 9223372036854775807) (w : World) :
    Calls Try.prog 52 #[.agg #[.int .i64 an, .int .i64 ad], .agg #[.int .i64 bn, .int .i64 bd]] w fun e w' => e = .returned (.int .i64 (cmpR an ad bn bd)) ∧ Below w.heap.size w w' := by
  cases h1 : okF an ad with
  | false =>
    rw [cmpR_no (by simp [h1])]
    go_enter Try.func52, Try.ntmps52
    go_wp2_with (first | (go_at_call 90; (with_reducible refine (isFrac_is h1 a0 a1 a2 a3 _).mono ?_); rintro e w1 ⟨rfl, hb1⟩; obtain ⟨hc1, hf1⟩ := bcell hb1; have hz1 := hb1.size; (try simp only [World.size_alloc, World.size_setCell, World.size_drew, hsz_drewN] at hz1); have z0 : w.heap.size < w1.heap.size := (by omega); have z1 : w.heap.size + 1 < w1.heap.size := (by omega)))
    go_ret
    exact ⟨rfl, by repeat' (first | (with_reducible exact Below.refl _ _) | (with_reducible assumption) | (refine below_step (by assumption) ?_ ?_) | (with_reducible refine below_drewN ?_ _) | (with_reducible refine Below.drew ?_) | (with_reducible refine Below.alloc ?_ ?_ _) | (with_reducible refine Below.setCell ?_ ?_ _) | go_size)⟩
  | true =>
    cases h2 : okF bn bd with
    | false =>
      rw [cmpR_no (by simp [h2])]
      go_enter Try.func52, Try.ntmps52
      go_wp2_with (first | (go_at_call 90; (with_reducible refine (isFrac_is h1 a0 a1 a2 a3 _).mono ?_); rintro e w1 ⟨rfl, hb1⟩; obtain ⟨hc1, hf1⟩ := bcell hb1; have hz1 := hb1.size; (try simp only [World.size_alloc, World.size_setCell, World.size_drew, hsz_drewN] at hz1); have z0 : w.heap.size < w1.heap.size := (by omega); have z1 : w.heap.size + 1 < w1.heap.size := (by omega)) | (go_at_call 90; (with_reducible refine (isFrac_is h2 b0 b1 b2 b3 _).mono ?_); rintro e w1 ⟨rfl, hb1⟩; obtain ⟨hc1, hf1⟩ := bcell hb1; have hz1 := hb1.size; (try simp only [World.size_alloc, World.size_setCell, World.size_drew, hsz_drewN] at hz1); have z0 : w.heap.size < w1.heap.size := (by omega); have z1 : w.heap.size + 1 < w1.heap.size := (by omega)))
      go_ret
      exact ⟨rfl, by repeat' (first | (with_reducible exact Below.refl _ _) | (with_reducible assumption) | (refine below_step (by assumption) ?_ ?_) | (with_reducible refine below_drewN ?_ _) | (with_reducible refine Below.drew ?_) | (with_reducible refine Below.alloc ?_ ?_ _) | (with_reducible refine Below.setCell ?_ ?_ _) | go_size)⟩
    | true =>
      have HE := Lib.hid (@frac_eq an ad bn bd h1 h2)
      by_cases e1 : an = bn
      · subst e1
        by_cases e2 : ad = bd
        · subst e2
          rw [cmpR_eq h1 h2 rfl]
          go_enter Try.func52, Try.ntmps52
          go_wp2_with (first | (go_at_call 90; (with_reducible refine (isFrac_is h1 a0 a1 a2 a3 _).mono ?_); rintro e w1 ⟨rfl, hb1⟩; obtain ⟨hc1, hf1⟩ := bcell hb1; have hz1 := hb1.size; (try simp only [World.size_alloc, World.size_setCell, World.size_drew, hsz_drewN] at hz1); have z0 : w.heap.size < w1.heap.size := (by omega); have z1 : w.heap.size + 1 < w1.heap.size := (by omega)))
          go_ret
          exact ⟨rfl, by repeat' (first | (with_reducible exact Below.refl _ _) | (with_reducible assumption) | (refine below_step (by assumption) ?_ ?_) | (with_reducible refine below_drewN ?_ _) | (with_reducible refine Below.drew ?_) | (with_reducible refine Below.alloc ?_ ?_ _) | (with_reducible refine Below.setCell ?_ ?_ _) | go_size)⟩
        · have e3 : ¬ an * bd = an * ad := fun h => e2 (HE.out h).2
          obtain ⟨⟨p0, p1⟩, ⟨p2, p3⟩, _⟩ := bd_all h1 h2
          go_enter Try.func52, Try.ntmps52
          go_wp2_with (first | (go_at_call 90; (with_reducible refine (isFrac_is h1 a0 a1 a2 a3 _).mono ?_); rintro e w1 ⟨rfl, hb1⟩; obtain ⟨hc1, hf1⟩ := bcell hb1; have hz1 := hb1.size; (try simp only [World.size_alloc, World.size_setCell, World.size_drew, hsz_drewN] at hz1); have z0 : w.heap.size < w1.heap.size := (by omega); have z1 : w.heap.size + 1 < w1.heap.size := (by omega)) | (go_at_call 90; (with_reducible refine (isFrac_is h2 b0 b1 b2 b3 _).mono ?_); rintro e w1 ⟨rfl, hb1⟩; obtain ⟨hc1, hf1⟩ := bcell hb1; have hz1 := hb1.size; (try simp only [World.size_alloc, World.size_setCell, World.size_drew, hsz_drewN] at hz1); have z0 : w.heap.size < w1.heap.size := (by omega); have z1 : w.heap.size + 1 < w1.heap.size := (by omega)))
          all_goals go_ret
          all_goals first
            | (rw [cmpR_lt h1 h2 (by assumption)]; exact ⟨rfl, by repeat' (first | (with_reducible exact Below.refl _ _) | (with_reducible assumption) | (refine below_step (by assumption) ?_ ?_) | (with_reducible refine below_drewN ?_ _) | (with_reducible refine Below.drew ?_) | (with_reducible refine Below.alloc ?_ ?_ _) | (with_reducible refine Below.setCell ?_ ?_ _) | go_size)⟩)
            | (rw [cmpR_gt h1 h2 (by omega)]; exact ⟨rfl, by repeat' (first | (with_reducible exact Below.refl _ _) | (with_reducible assumption) | (refine below_step (by assumption) ?_ ?_) | (with_reducible refine below_drewN ?_ _) | (with_reducible refine Below.drew ?_) | (with_reducible refine Below.alloc ?_ ?_ _) | (with_reducible refine Below.setCell ?_ ?_ _) | go_size)⟩)
      · have e3 : ¬ an * bd = bn * ad := fun h => e1 (HE.out h).1
        obtain ⟨⟨p0, p1⟩, ⟨p2, p3⟩, _⟩ := bd_all h1 h2
        go_enter Try.func52, Try.ntmps52
        go_wp2_with (first | (go_at_call 90; (with_reducible refine (isFrac_is h1 a0 a1 a2 a3 _).mono ?_); rintro e w1 ⟨rfl, hb1⟩; obtain ⟨hc1, hf1⟩ := bcell hb1; have hz1 := hb1.size; (try simp only [World.size_alloc, World.size_setCell, World.size_drew, hsz_drewN] at hz1); have z0 : w.heap.size < w1.heap.size := (by omega); have z1 : w.heap.size + 1 < w1.heap.size := (by omega)) | (go_at_call 90; (with_reducible refine (isFrac_is h2 b0 b1 b2 b3 _).mono ?_); rintro e w1 ⟨rfl, hb1⟩; obtain ⟨hc1, hf1⟩ := bcell hb1; have hz1 := hb1.size; (try simp only [World.size_alloc, World.size_setCell, World.size_drew, hsz_drewN] at hz1); have z0 : w.heap.size < w1.heap.size := (by omega); have z1 : w.heap.size + 1 < w1.heap.size := (by omega)))
        all_goals go_ret
        all_goals first
          | (rw [cmpR_lt h1 h2 (by assumption)]; exact ⟨rfl, by repeat' (first | (with_reducible exact Below.refl _ _) | (with_reducible assumption) | (refine below_step (by assumption) ?_ ?_) | (with_reducible refine below_drewN ?_ _) | (with_reducible refine Below.drew ?_) | (with_reducible refine Below.alloc ?_ ?_ _) | (with_reducible refine Below.setCell ?_ ?_ _) | go_size)⟩)
          | (rw [cmpR_gt h1 h2 (by omega)]; exact ⟨rfl, by repeat' (first | (with_reducible exact Below.refl _ _) | (with_reducible assumption) | (refine below_step (by assumption) ?_ ?_) | (with_reducible refine below_drewN ?_ _) | (with_reducible refine Below.drew ?_) | (with_reducible refine Below.alloc ?_ ?_ _) | (with_reducible refine Below.setCell ?_ ?_ _) | go_size)⟩)

end Go.Proofs.Ytdlmdaononclgaa
