import Derived.Test.YtdlmdaononclgaaFrac5
/- Fractions, 6: the reference: Check. -/
namespace Go.Proofs.Ytdlmdaononclgaa
open Go.RowKit
set_option linter.unusedVariables false
set_option linter.unusedSimpArgs false

theorem okF_no {n d : Int} (h : ¬ (-1000000000 ≤ n ∧ n ≤ 1000000000 ∧ 1 ≤ d ∧ d ≤ 1000000000)) : okF n d = false := by
  cases e : okF n d with
  | false => rfl
  | true => exact absurd (okF_bd' e) h
theorem okF_gcd {n d : Int} (h1 : ¬ n < -1000000000) (h2 : ¬ 1000000000 < n) (h3 : ¬ d < 1) (h4 : ¬ 1000000000 < d) : okF n d = (Nat.gcd n.natAbs d.natAbs == 1) := by
  rw [okF, within_mk (by omega) (by omega), within_mk (by omega) (by omega)]; simp

set_option maxHeartbeats 1000000 in
theorem refCheck_any (n d : Int) (a0 : -9223372036854775808 ≤ n) (a1 : n ≤ 9223372036854775807) (a2 : -9223372036854775808 ≤ d) (a3 : d ≤ 9223372036854775807) (w : World) :
    Calls Try.prog 51 #[.agg #[.int .i64 n, .int .i64 d]] w fun e w' => e = .returned (.int .i64 (if okF n d = true then 0 else 10)) ∧ Below w.heap.size w w' := by
  by_cases h0 : n < -1000000000
  · have d0 : decide (n < -1000000000) = true := decide_eq_true h0
    rw [okF_no (by omega)]
    go_enter Try.func51, Try.ntmps51
    go_wp2
    go_quiet (fail)
    go_wp2
    go_ret
    exact ⟨rfl, by repeat' (first | (with_reducible exact Below.refl _ _) | (with_reducible assumption) | (refine below_step (by assumption) ?_ ?_) | (with_reducible refine below_drewN ?_ _) | (with_reducible refine Below.drew ?_) | (with_reducible refine Below.alloc ?_ ?_ _) | (with_reducible refine Below.setCell ?_ ?_ _) | go_size)⟩
  have d0 : decide (n < -1000000000) = false := decide_eq_false h0
  by_cases h1 : 1000000000 < n
  · have d1 : decide (1000000000 < n) = true := decide_eq_true h1
    rw [okF_no (by omega)]
    go_enter Try.func51, Try.ntmps51
    go_wp2
    go_quiet (fail)
    go_wp2
    go_ret
    exact ⟨rfl, by repeat' (first | (with_reducible exact Below.refl _ _) | (with_reducible assumption) | (refine below_step (by assumption) ?_ ?_) | (with_reducible refine below_drewN ?_ _) | (with_reducible refine Below.drew ?_) | (with_reducible refine Below.alloc ?_ ?_ _) | (with_reducible refine Below.setCell ?_ ?_ _) | go_size)⟩
  have d1 : decide (1000000000 < n) = false := decide_eq_false h1
  by_cases h2 : d < 1
  · have d2 : decide (d < 1) = true := decide_eq_true h2
    rw [okF_no (by omega)]
    go_enter Try.func51, Try.ntmps51
    go_wp2
    go_quiet (fail)
    go_wp2
    go_ret
    exact ⟨rfl, by repeat' (first | (with_reducible exact Below.refl _ _) | (with_reducible assumption) | (refine below_step (by assumption) ?_ ?_) | (with_reducible refine below_drewN ?_ _) | (with_reducible refine Below.drew ?_) | (with_reducible refine Below.alloc ?_ ?_ _) | (with_reducible refine Below.setCell ?_ ?_ _) | go_size)⟩
  have d2 : decide (d < 1) = false := decide_eq_false h2
  by_cases h3 : 1000000000 < d
  · have d3 : decide (1000000000 < d) = true := decide_eq_true h3
    rw [okF_no (by omega)]
    go_enter Try.func51, Try.ntmps51
    go_wp2
    go_quiet (fail)
    go_wp2
    go_ret
    exact ⟨rfl, by repeat' (first | (with_reducible exact Below.refl _ _) | (with_reducible assumption) | (refine below_step (by assumption) ?_ ?_) | (with_reducible refine below_drewN ?_ _) | (with_reducible refine Below.drew ?_) | (with_reducible refine Below.alloc ?_ ?_ _) | (with_reducible refine Below.setCell ?_ ?_ _) | go_size)⟩
  have d3 : decide (1000000000 < d) = false := decide_eq_false h3
  rw [okF_gcd h0 h1 h2 h3]
  cases hg : (Nat.gcd n.natAbs d.natAbs == 1) with
  | false =>
    have e1 : (((Nat.gcd n.natAbs d.natAbs : Nat) : Int) != 1) = true := by simp only [bne_iff_ne, beq_eq_false_iff_ne, ne_eq] at hg ⊢; omega
    go_enter Try.func51, Try.ntmps51
    go_wp2
    go_quiet ((first | (go_at_call 77; exact quiet_left (refsize_any _ (by omega) (by omega) _)) | (go_at_call 78; exact Calls.quiet_of (gcd_any _ _ _))))
    go_wp2
    go_ret
    exact ⟨rfl, by repeat' (first | (with_reducible exact Below.refl _ _) | (with_reducible assumption) | (refine below_step (by assumption) ?_ ?_) | (with_reducible refine below_drewN ?_ _) | (with_reducible refine Below.drew ?_) | (with_reducible refine Below.alloc ?_ ?_ _) | (with_reducible refine Below.setCell ?_ ?_ _) | go_size)⟩
  | true =>
    have e1 : (((Nat.gcd n.natAbs d.natAbs : Nat) : Int) != 1) = false := by simp only [beq_iff_eq] at hg; simp [hg]
    go_enter Try.func51, Try.ntmps51
    go_wp2
    go_quiet ((first | (go_at_call 77; exact quiet_left (refsize_any _ (by omega) (by omega) _)) | (go_at_call 78; exact Calls.quiet_of (gcd_any _ _ _))))
    go_wp2
    go_ret
    exact ⟨rfl, by repeat' (first | (with_reducible exact Below.refl _ _) | (with_reducible assumption) | (refine below_step (by assumption) ?_ ?_) | (with_reducible refine below_drewN ?_ _) | (with_reducible refine Below.drew ?_) | (with_reducible refine Below.alloc ?_ ?_ _) | (with_reducible refine Below.setCell ?_ ?_ _) | go_size)⟩

theorem refCheck_is {n d : Int} {b : Bool} (h : okF n d = b) (a0 : -9223372036854775808 ≤ n) (a1 : n ≤ 9223372036854775807) (a2 : -9223372036854775808 ≤ d) (a3 : d ≤ 9223372036854775807) (w : World) :
    Calls Try.prog 51 #[.agg #[.int .i64 n, .int .i64 d]] w fun e w' => e = .returned (.int .i64 (if b = true then 0 else 10)) ∧ Below w.heap.size w w' := by
  subst h; exact refCheck_any _ _ a0 a1 a2 a3 _
theorem refCheck_yes {n d : Int} (h : okF n d = true) (a0 : -9223372036854775808 ≤ n) (a1 : n ≤ 9223372036854775807) (a2 : -9223372036854775808 ≤ d) (a3 : d ≤ 9223372036854775807) (w : World) :
    Calls Try.prog 51 #[.agg #[.int .i64 n, .int .i64 d]] w fun e w' => e = .returned (.int .i64 0) ∧ Below w.heap.size w w' := by
  have := refCheck_is h a0 a1 a2 a3 w; simpa using this
theorem refCheck_no {n d : Int} (h : okF n d = false) (a0 : -9223372036854775808 ≤ n) (a1 : n ≤ 9223372036854775807) (a2 : -9223372036854775808 ≤ d) (a3 : d ≤ 9223372036854775807) (w : World) :
    Calls Try.prog 51 #[.agg #[.int .i64 n, .int .i64 d]] w fun e w' => e = .returned (.int .i64 10) ∧ Below w.heap.size w w' := by
  have := refCheck_is h a0 a1 a2 a3 w; simpa using this

end Go.Proofs.Ytdlmdaononclgaa
