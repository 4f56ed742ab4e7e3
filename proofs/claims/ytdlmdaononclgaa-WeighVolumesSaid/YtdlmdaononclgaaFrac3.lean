import Derived.Test.YtdlmdaononclgaaFrac2
/- Fractions, 3: Add, Sub, Mul, Div. -/
namespace Go.Proofs.Ytdlmdaononclgaa
open Go.RowKit
set_option linter.unusedVariables false
set_option linter.unusedSimpArgs false

theorem okF_bd {n d : Int} (h : okF n d = true) : -1000000000 ≤ n ∧ n ≤ 1000000000 ∧ 1 ≤ d ∧ d ≤ 1000000000 := by
  simp only [okF, Bool.and_eq_true] at h
  have h1 := within_true h.1.1
  have h2 := within_true h.1.2
  omega
theorem mul_bd {x y : Int} (a : -1000000000 ≤ x) (b : x ≤ 1000000000) (c : -1000000000 ≤ y) (d : y ≤ 1000000000) : -1000000000000000000 ≤ x * y ∧ x * y ≤ 1000000000000000000 := by
  have h : (x * y).natAbs ≤ 1000000000 * 1000000000 := by rw [Int.natAbs_mul]; exact Nat.mul_le_mul (by omega) (by omega)
  omega


theorem ofAdd (an ad bn bd : Int) : Of 80 an ad bn bd (an * bd + bn * ad) (ad * bd) := by
  intro h1 h2 W
  obtain ⟨a0, a1, a2, a3⟩ := okF_bd h1
  obtain ⟨b0, b1, b2, b3⟩ := okF_bd h2
  obtain ⟨p0, p1⟩ := mul_bd a0 a1 (by omega : -1000000000 ≤ bd) b3
  obtain ⟨q0, q1⟩ := mul_bd b0 b1 (by omega : -1000000000 ≤ ad) a3
  obtain ⟨r0, r1⟩ := mul_bd (by omega : -1000000000 ≤ ad) a3 (by omega : -1000000000 ≤ bd) b3
  clear h1 h2
  go_enter Try.func80, Try.ntmps80
  go_wp2
  go_quiet (fail)
  go_wp2
  go_ret2
  exact ⟨rfl, by repeat' (first | (with_reducible exact Below.refl _ _) | (with_reducible assumption) | (refine below_step (by assumption) ?_ ?_) | (with_reducible refine below_drewN ?_ _) | (with_reducible refine Below.drew ?_) | (with_reducible refine Below.alloc ?_ ?_ _) | (with_reducible refine Below.setCell ?_ ?_ _) | go_size)⟩

theorem ofSub (an ad bn bd : Int) : Of 82 an ad bn bd (an * bd - bn * ad) (ad * bd) := by
  intro h1 h2 W
  obtain ⟨a0, a1, a2, a3⟩ := okF_bd h1
  obtain ⟨b0, b1, b2, b3⟩ := okF_bd h2
  obtain ⟨p0, p1⟩ := mul_bd a0 a1 (by omega : -1000000000 ≤ bd) b3
  obtain ⟨q0, q1⟩ := mul_bd b0 b1 (by omega : -1000000000 ≤ ad) a3
  obtain ⟨r0, r1⟩ := mul_bd (by omega : -1000000000 ≤ ad) a3 (by omega : -1000000000 ≤ bd) b3
  clear h1 h2
  go_enter Try.func82, Try.ntmps82
  go_wp2
  go_quiet (fail)
  go_wp2
  go_ret2
  exact ⟨rfl, by repeat' (first | (with_reducible exact Below.refl _ _) | (with_reducible assumption) | (refine below_step (by assumption) ?_ ?_) | (with_reducible refine below_drewN ?_ _) | (with_reducible refine Below.drew ?_) | (with_reducible refine Below.alloc ?_ ?_ _) | (with_reducible refine Below.setCell ?_ ?_ _) | go_size)⟩

theorem ofMul (an ad bn bd : Int) : Of 83 an ad bn bd (an * bn) (ad * bd) := by
  intro h1 h2 W
  obtain ⟨a0, a1, a2, a3⟩ := okF_bd h1
  obtain ⟨b0, b1, b2, b3⟩ := okF_bd h2
  obtain ⟨p0, p1⟩ := mul_bd a0 a1 b0 b1
  obtain ⟨r0, r1⟩ := mul_bd (by omega : -1000000000 ≤ ad) a3 (by omega : -1000000000 ≤ bd) b3
  clear h1 h2
  go_enter Try.func83, Try.ntmps83
  go_wp2
  go_quiet (fail)
  go_wp2
  go_ret2
  exact ⟨rfl, by repeat' (first | (with_reducible exact Below.refl _ _) | (with_reducible assumption) | (refine below_step (by assumption) ?_ ?_) | (with_reducible refine below_drewN ?_ _) | (with_reducible refine Below.drew ?_) | (with_reducible refine Below.alloc ?_ ?_ _) | (with_reducible refine Below.setCell ?_ ?_ _) | go_size)⟩

theorem ofDiv (an ad bn bd : Int) : Of 84 an ad bn bd (an * bd) (ad * bn) := by
  intro h1 h2 W
  obtain ⟨a0, a1, a2, a3⟩ := okF_bd h1
  obtain ⟨b0, b1, b2, b3⟩ := okF_bd h2
  obtain ⟨p0, p1⟩ := mul_bd a0 a1 (by omega : -1000000000 ≤ bd) b3
  obtain ⟨r0, r1⟩ := mul_bd (by omega : -1000000000 ≤ ad) a3 b0 b1
  clear h1 h2
  go_enter Try.func84, Try.ntmps84
  go_wp2
  go_quiet (fail)
  go_wp2
  go_ret2
  exact ⟨rfl, by repeat' (first | (with_reducible exact Below.refl _ _) | (with_reducible assumption) | (refine below_step (by assumption) ?_ ?_) | (with_reducible refine below_drewN ?_ _) | (with_reducible refine Below.drew ?_) | (with_reducible refine Below.alloc ?_ ?_ _) | (with_reducible refine Below.setCell ?_ ?_ _) | go_size)⟩

end Go.Proofs.Ytdlmdaononclgaa
