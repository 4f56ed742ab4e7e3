import Derived.Test.YtdlmdaononclgaaProg
import Derived.WalkKit
import Derived.WalkSpells
import Derived.WalkLawsBesides
import Derived.Handy
import Derived.Deep.QuietTactic
import Derived.BigQuiet
import Derived.Lib.Hide
/- Arithmetic of weigh and of its reference: the small functions without memory. -/
namespace Go.Proofs.Ytdlmdaononclgaa
open Go.RowKit
set_option linter.unusedVariables false
set_option linter.unusedSimpArgs false

theorem ret_int {k : IntKind} {a b : Int} (h : a = b) : Ending.returned (.int k a) = .returned (.int k b) := by rw [h]
theorem ret_bool {a b : Bool} (h : a = b) : Ending.returned (.bool a) = .returned (.bool b) := by rw [h]

/-- lo ≤ n ≤ hi, as a Bool behind a name. -/
def within (n lo hi : Int) : Bool := decide (lo ≤ n ∧ n ≤ hi)
theorem within_true {n lo hi : Int} (h : within n lo hi = true) : lo ≤ n ∧ n ≤ hi := of_decide_eq_true h
theorem within_false {n lo hi : Int} (h : within n lo hi = false) : ¬ (lo ≤ n ∧ n ≤ hi) := of_decide_eq_false h
theorem within_mk {n lo hi : Int} (h1 : lo ≤ n) (h2 : n ≤ hi) : within n lo hi = true := decide_eq_true ⟨h1, h2⟩
theorem within_no {n lo hi : Int} (h : ¬ (lo ≤ n ∧ n ≤ hi)) : within n lo hi = false := decide_eq_false h

theorem isWithin_any (n lo hi : Int) (w : World) :
    Calls Try.prog 71 #[.int .i64 n, .int .i64 lo, .int .i64 hi] w fun e w' => e = .returned (.bool (within n lo hi)) ∧ w = w' := by
  by_cases h1 : lo ≤ n
  · by_cases h2 : n ≤ hi
    · go_enter Try.func71, Try.ntmps71
      go_wp2
      go_ret
      exact ⟨ret_bool (within_mk h1 h2).symm, rfl⟩
    · go_enter Try.func71, Try.ntmps71
      go_wp2
      go_ret
      exact ⟨ret_bool (within_no (by omega)).symm, rfl⟩
  · go_enter Try.func71, Try.ntmps71
    go_wp2
    go_ret
    exact ⟨ret_bool (within_no (by omega)).symm, rfl⟩

theorem isWithin_is {n lo hi : Int} {b : Bool} (h : within n lo hi = b) (w : World) :
    Calls Try.prog 71 #[.int .i64 n, .int .i64 lo, .int .i64 hi] w fun e w' => e = .returned (.bool b) ∧ w = w' := by
  subst h; exact isWithin_any _ _ _ _

theorem size_any (n : Int) (h0 : -9223372036854775808 ≤ n) (h1 : n ≤ 9223372036854775807) (w : World) :
    Calls Try.prog 67 #[.int .i64 n] w fun e w' => e = .returned (.int .u64 (n.natAbs : Int)) ∧ w = w' := by
  go_enter Try.func67, Try.ntmps67
  go_wp2
  · go_ret
    have h : n < 0 := by assumption
    exact ⟨ret_int (by show IntKind.u64.wrap (-IntKind.u64.wrap n) = _; simp only [IntKind.wrap_u64]; omega), rfl⟩
  · go_ret
    have h : 0 ≤ n := by assumption
    exact ⟨ret_int (by show n = _; omega), rfl⟩

theorem refsize_any (n : Int) (h0 : -9223372036854775808 ≤ n) (h1 : n ≤ 9223372036854775807) (w : World) :
    Calls Try.prog 77 #[.int .i64 n] w fun e w' => e = .returned (.int .u64 (n.natAbs : Int)) ∧ w = w' := by
  go_enter Try.func77, Try.ntmps77
  go_wp2
  · go_ret
    have h : n < 0 := by assumption
    exact ⟨ret_int (by show -(n + 1) + 1 = _; omega), rfl⟩
  · go_ret
    have h : 0 ≤ n := by assumption
    exact ⟨ret_int (by show n = _; omega), rfl⟩

theorem gcd_step (a b : Nat) : Nat.gcd b (a % b) = Nat.gcd a b := by rw [Nat.gcd_comm a b, Nat.gcd_rec b a, Nat.gcd_comm]

theorem divisor_any (a b : Nat) (w : World) :
    Calls Try.prog 68 #[.int .u64 a, .int .u64 b] w fun e w' => e = .returned (.int .u64 (Nat.gcd a b : Nat)) ∧ ∃ k, w' = w.drewN k := by
  go_enter Try.func68, Try.ntmps68
  go_wp2
  go_loopw [0, 1] (fun x y wr => ∃ a' b' k : Nat, x = .int .u64 a' ∧ y = .int .u64 b' ∧ Nat.gcd a' b' = Nat.gcd a b ∧ wr = w.drewN k) (fun _ y _ => (intOf y).toNat)
  case atStart => exact ⟨a, b, 0, rfl, rfl, rfl, rfl⟩
  case round =>
    obtain ⟨a', b', k, rfl, rfl, hg, rfl⟩ := hrel
    have H := Lib.hid hg; clear hg
    by_cases hb : b' = 0
    · subst hb
      go_wp2
      go_ret
      exact ⟨ret_int (by rw [← H.out]; simp), k, rfl⟩
    · go_wp2
      go_quiet (fail)
      go_wp2
      go_roundw
      case rel => exact ⟨b', a' % b', k + nq, rfl, by go_num, by rw [gcd_step, H.out], by rw [World.drewN_drewN]⟩
      case measure => have := Nat.mod_lt a' (show 0 < b' by omega); simp [intOf]; omega

theorem gcd_any (a b : Nat) (w : World) :
    Calls Try.prog 78 #[.int .u64 a, .int .u64 b] w fun e w' => e = .returned (.int .u64 (Nat.gcd a b : Nat)) ∧ ∃ k, w' = w.drewN k := by
  go_enter Try.func78, Try.ntmps78
  go_wp2
  go_loopw [0, 1] (fun x y wr => ∃ a' b' k : Nat, x = .int .u64 a' ∧ y = .int .u64 b' ∧ Nat.gcd a' b' = Nat.gcd a b ∧ wr = w.drewN k) (fun _ y _ => (intOf y).toNat)
  case atStart => exact ⟨a, b, 0, rfl, rfl, rfl, rfl⟩
  case round =>
    obtain ⟨a', b', k, rfl, rfl, hg, rfl⟩ := hrel
    have H := Lib.hid hg; clear hg
    by_cases hb : b' = 0
    · subst hb
      go_wp2
      go_ret
      exact ⟨ret_int (by rw [← H.out]; simp), k, rfl⟩
    · go_wp2
      go_quiet (fail)
      go_wp2
      go_roundw
      case rel => exact ⟨b', a' % b', k + nq, rfl, by go_num, by rw [gcd_step, H.out], by rw [World.drewN_drewN]⟩
      case measure => have := Nat.mod_lt a' (show 0 < b' by omega); simp [intOf]; omega

theorem tmod_gt (a b : Int) (hb : 0 < b) : -b < a.tmod b := by
  rcases Int.le_total 0 a with h | h
  · have := Int.tmod_nonneg b h; omega
  · have e : a.tmod b = -((-a).tmod b) := by rw [Int.neg_tmod]; omega
    have := Int.tmod_lt_of_pos (-a) hb
    omega
theorem floor_neg (a b : Int) (hb : 0 < b) (h : a.tmod b < 0) : a.tdiv b - 1 = a / b := by
  have e := Int.mul_tdiv_add_tmod a b
  have g := tmod_gt a b hb
  exact (((Int.ediv_emod_unique hb (a := a) (q := a.tdiv b - 1) (r := a.tmod b + b)).2 ⟨by rw [Int.mul_sub]; omega, by omega, by omega⟩).1).symm
theorem floor_pos (a b : Int) (hb : 0 < b) (h : 0 ≤ a.tmod b) : a.tdiv b = a / b := by
  have e := Int.mul_tdiv_add_tmod a b
  have g := Int.tmod_lt_of_pos a hb
  exact (((Int.ediv_emod_unique hb (a := a) (q := a.tdiv b) (r := a.tmod b)).2 ⟨by omega, h, g⟩).1).symm
theorem ediv_bd (a b : Int) (hb : 0 < b) (h0 : -9223372036854775807 ≤ a) (h1 : a ≤ 9223372036854775807) : -9223372036854775807 ≤ a / b ∧ a / b ≤ 9223372036854775807 := by
  constructor
  · rw [Int.le_ediv_iff_mul_le hb]
    have : -9223372036854775807 * b ≤ -9223372036854775807 * 1 := Int.mul_le_mul_of_nonpos_left (by omega) (by omega)
    omega
  · rcases Int.le_total 0 a with h | h
    · exact Int.le_trans (Int.ediv_le_self b h) h1
    · have : a / b ≤ 0 := Int.le_of_lt_add_one ((Int.ediv_lt_iff_lt_mul hb).2 (by omega))
      omega
theorem floor_any (a b : Int) (h0 : -9223372036854775807 ≤ a) (h1 : a ≤ 9223372036854775807) (hb : 0 < b) (hb1 : b ≤ 9223372036854775807) (w : World) :
    Calls Try.prog 63 #[.int .i64 a, .int .i64 b] w fun e w' => e = .returned (.int .i64 (a / b)) ∧ w = w' := by
  go_enter Try.func63, Try.ntmps63
  go_wp2
  · go_ret
    exact ⟨ret_int (by show wrap64 (a.tdiv b - 1) = _; rw [floor_neg a b hb ‹_›]; have := ediv_bd a b hb h0 h1; exact IntWalk.wrap64_in _ ⟨by omega, by omega⟩), rfl⟩
  · go_ret
    exact ⟨ret_int (floor_pos a b hb ‹_›), rfl⟩

theorem down_any (a b : Int) (h0 : -9223372036854775807 ≤ a) (h1 : a ≤ 9223372036854775807) (hb : 0 < b) (hb1 : b ≤ 9223372036854775807) (w : World) :
    Calls Try.prog 87 #[.int .i64 a, .int .i64 b] w fun e w' => e = .returned (.int .i64 (a / b)) ∧ w = w' := by
  go_enter Try.func87, Try.ntmps87
  go_wp2
  · go_ret
    exact ⟨ret_int (by show wrap64 (a.tdiv b - 1) = _; rw [floor_neg a b hb ‹_›]; have := ediv_bd a b hb h0 h1; exact IntWalk.wrap64_in _ ⟨by omega, by omega⟩), rfl⟩
  · go_ret
    exact ⟨ret_int (floor_pos a b hb ‹_›), rfl⟩

/-- by what h divides k, 1 to 3; 0 if it does not. -/
def ratioZ (h k : Int) : Int := if k % h = 0 ∧ k / h ≤ 3 then k / h else 0

theorem ratio_any (h k : Int) (h0 : 0 < h) (k0 : 0 < k) (h1 : h ≤ 9223372036854775807) (k1 : k ≤ 9223372036854775807) (w : World) :
    Calls Try.prog 96 #[.int .i64 h, .int .i64 k] w fun e w' => e = .returned (.int .i64 (ratioZ h k)) ∧ w = w' := by
  go_enter Try.func96, Try.ntmps96
  go_wp2
  all_goals go_ret
  all_goals refine ⟨ret_int ?_, rfl⟩
  · show k / h = ratioZ h k
    rw [ratioZ, if_pos ⟨‹_›, ‹_›⟩]
  all_goals
    show 0 = ratioZ h k
    rw [ratioZ, if_neg (by omega)]

theorem ratio_is {h k r : Int} (hr : ratioZ h k = r) (h0 : 0 < h) (k0 : 0 < k) (h1 : h ≤ 9223372036854775807) (k1 : k ≤ 9223372036854775807) (w : World) :
    Calls Try.prog 96 #[.int .i64 h, .int .i64 k] w fun e w' => e = .returned (.int .i64 r) ∧ w = w' := by
  subst hr; exact ratio_any h k h0 k0 h1 k1 w

/-- which of 1, 2, 3 times one is the other; 0 if none. -/
def timesZ (a b : Int) : Int := if a = b then 1 else if a * 2 = b ∨ b * 2 = a then 2 else if a * 3 = b ∨ b * 3 = a then 3 else 0

theorem mod_any (n m : Int) (h0 : -9223372036854775808 ≤ n) (h1 : n ≤ 9223372036854775807) (m0 : 0 < m) (m1 : m ≤ 4611686018427387904) (w : World) :
    Calls Try.prog 13 #[.int .i64 n, .int .i64 m] w fun e w' => e = .returned (.int .i64 (n % m)) ∧ w = w' := by
  have e1 := Int.tmod_lt_of_pos n m0
  have e2 := tmod_gt n m m0
  have e3 : n.tmod m + m = (n + m * (-(n.tdiv m)) + m) := by rw [Int.mul_neg]; have := Int.mul_tdiv_add_tmod n m; omega
  go_enter Try.func13, Try.ntmps13
  go_wp2
  go_ret
  refine ⟨ret_int ?_, rfl⟩
  show (n + m * -n.tdiv m + m) % m = n % m
  rw [Int.add_emod_right, Int.add_mul_emod_self_left]

theorem times_any (a b : Int) (a0 : 0 < a) (b0 : 0 < b) (a1 : a ≤ 2305843009213693951) (b1 : b ≤ 2305843009213693951) (w : World) :
    Calls Try.prog 106 #[.int .i64 a, .int .i64 b] w fun e w' => e = .returned (.int .i64 (timesZ a b)) ∧ w = w' := by
  go_enter Try.func106, Try.ntmps106
  go_wp2
  go_loop [5] (fun x => ∃ k : Nat, 1 ≤ k ∧ k ≤ 4 ∧ x = .int .i64 k ∧ (1 < k → ¬ a = b) ∧ (2 < k → ¬ (a * 2 = b ∨ b * 2 = a)) ∧ (3 < k → ¬ (a * 3 = b ∨ b * 3 = a))) (fun x => 4 - (intOf x).toNat)
  case atStart => exact ⟨1, by omega, by omega, rfl, by omega, by omega, by omega⟩
  case round =>
    obtain ⟨k, hk1, hk4, rfl, q1, q2, q3⟩ := hrel
    have H1 := Lib.hid q1; clear q1
    have H2 := Lib.hid q2; clear q2
    have H3 := Lib.hid q3; clear q3
    rcases (by omega : k = 1 ∨ k = 2 ∨ k = 3 ∨ k = 4) with rfl | rfl | rfl | rfl
    · go_wp2
      all_goals (have g1 := H1.out; have g2 := H2.out; have g3 := H3.out; clear H1 H2 H3)
      all_goals first | (go_ret; refine ⟨ret_int ?_, rfl⟩; show 1 = timesZ _ _; (try simp only [beq_iff_eq, beq_eq_false_iff_ne, ne_eq] at *); unfold timesZ; (repeat' split) <;> omega) | skip
      go_round
      case rel => (try simp only [beq_iff_eq, beq_eq_false_iff_ne, ne_eq] at *); exact ⟨2, by omega, by omega, rfl, by omega, by omega, by omega⟩
      case measure => simp [intOf]
    · go_wp2
      all_goals (have g1 := H1.out; have g2 := H2.out; have g3 := H3.out; clear H1 H2 H3)
      all_goals first | (go_ret; refine ⟨ret_int ?_, rfl⟩; show 2 = timesZ _ _; (try simp only [beq_iff_eq, beq_eq_false_iff_ne, ne_eq] at *); unfold timesZ; (repeat' split) <;> omega) | skip
      go_round
      case rel => (try simp only [beq_iff_eq, beq_eq_false_iff_ne, ne_eq] at *); exact ⟨3, by omega, by omega, rfl, by omega, by omega, by omega⟩
      case measure => simp [intOf]
    · go_wp2
      all_goals (have g1 := H1.out; have g2 := H2.out; have g3 := H3.out; clear H1 H2 H3)
      all_goals first | (go_ret; refine ⟨ret_int ?_, rfl⟩; show 3 = timesZ _ _; (try simp only [beq_iff_eq, beq_eq_false_iff_ne, ne_eq] at *); unfold timesZ; (repeat' split) <;> omega) | skip
      go_round
      case rel => (try simp only [beq_iff_eq, beq_eq_false_iff_ne, ne_eq] at *); exact ⟨4, by omega, by omega, rfl, by omega, by omega, by omega⟩
      case measure => simp [intOf]
    · have g1 := H1.out; have g2 := H2.out; have g3 := H3.out; clear H1 H2 H3
      go_wp2
      go_ret; refine ⟨ret_int ?_, rfl⟩; show 0 = timesZ _ _; unfold timesZ; (repeat' split) <;> omega

end Go.Proofs.Ytdlmdaononclgaa
