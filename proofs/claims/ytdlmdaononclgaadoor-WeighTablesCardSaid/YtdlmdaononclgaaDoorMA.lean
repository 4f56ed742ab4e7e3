import Derived.Test.YtdlmdaononclgaaDoorProg
import Derived.WalkKit
import Derived.WalkSpells
import Derived.WalkLawsBesides
import Derived.Handy
import Derived.Deep.QuietTactic
import Derived.BigQuiet
import Derived.Lib.Hide
import Derived.Shelf.Abstract
/- Arithmetic of weigh and of its reference: the small functions without memory. -/
namespace Go.Proofs.YtdlmdaononclgaaDoor
open Go.RowKit
set_option linter.unusedVariables false
set_option linter.unusedSimpArgs false

theorem ret_int {k : IntKind} {a b : Int} (h : a = b) : Ending.returned (.int k a) = .returned (.int k b) := by rw [h]
theorem ret_bool {a b : Bool} (h : a = b) : Ending.returned (.bool a) = .returned (.bool b) := by rw [h]

/-- lo ≤ n ≤ hi, as a Bool behind a name. -/
def within (n lo hi : Int) : Bool := decide (lo ≤ n ∧ n ≤ hi)
theorem within_true {n lo hi : Int} (h : within n lo hi = true) : lo ≤ n ∧ n ≤ hi := of_decide_eq_true h
theorem within_false {n lo hi : Int} (h : within n lo hi = false) : ¬ (lo ≤ n ∧ n ≤ hi) := of_decide_eq_false h
theorem within_mk {n lo hi : Int} (h1 : lo ≤ n) (h2 : n ≤ hi) : within n lo hi = true := decide_eq_true ⟨h1, h2⟩
theorem within_no {n lo hi : Int} (h : ¬ (lo ≤ n ∧ n ≤ hi)) : within n lo hi = false := decide_eq_false h

theorem isWithin_any (n lo hi : Int) (w : World) :
    Calls Tryd.prog 44 #[.int .i64 n, .int .i64 lo, .int .i64 hi] w fun e w' => e = .returned (.bool (within n lo hi)) ∧ w = w' := by
  by_cases h1 : lo ≤ n
  · by_cases h2 : n ≤ hi
    · go_enter Tryd.func44, Tryd.ntmps44
      go_wp2
      go_ret
      exact ⟨ret_bool (within_mk h1 h2).symm, rfl⟩
    · go_enter Tryd.func44, Tryd.ntmps44
      go_wp2
      go_ret
      exact ⟨ret_bool (within_no (by omega)).symm, rfl⟩
  · go_enter Tryd.func44, Tryd.ntmps44
    go_wp2
    go_ret
    exact ⟨ret_bool (within_no (by omega)).symm, rfl⟩

theorem isWithin_is {n lo hi : Int} {b : Bool} (h : within n lo hi = b) (w : World) :
    Calls Tryd.prog 44 #[.int .i64 n, .int .i64 lo, .int .i64 hi] w fun e w' => e = .returned (.bool b) ∧ w = w' := by
  subst h; exact isWithin_any _ _ _ _

theorem size_any (n : Int) (h0 : -9223372036854775808 ≤ n) (h1 : n ≤ 9223372036854775807) (w : World) :
    Calls Tryd.prog 50 #[.int .i64 n] w fun e w' => e = .returned (.int .u64 (n.natAbs : Int)) ∧ w = w' := by
  go_enter Tryd.func50, Tryd.ntmps50
  go_wp2
  · go_ret
    have h : n < 0 := by assumption
    exact ⟨ret_int (by show IntKind.u64.wrap (-IntKind.u64.wrap n) = _; simp only [IntKind.wrap_u64]; omega), rfl⟩
  · go_ret
    have h : 0 ≤ n := by assumption
    exact ⟨ret_int (by show n = _; omega), rfl⟩

theorem refsize_any (n : Int) (h0 : -9223372036854775808 ≤ n) (h1 : n ≤ 9223372036854775807) (w : World) :
    Calls Tryd.prog 66 #[.int .i64 n] w fun e w' => e = .returned (.int .u64 (n.natAbs : Int)) ∧ w = w' := by
  go_enter Tryd.func66, Tryd.ntmps66
  go_wp2
  · go_ret
    have h : n < 0 := by assumption
    exact ⟨ret_int (by show -(n + 1) + 1 = _; omega), rfl⟩
  · go_ret
    have h : 0 ≤ n := by assumption
    exact ⟨ret_int (by show n = _; omega), rfl⟩

theorem gcd_step (a b : Nat) : Nat.gcd b (a % b) = Nat.gcd a b := by rw [Nat.gcd_comm a b, Nat.gcd_rec b a, Nat.gcd_comm]

theorem divisor_any (a b : Nat) (w : World) :
    Calls Tryd.prog 51 #[.int .u64 a, .int .u64 b] w fun e w' => e = .returned (.int .u64 (Nat.gcd a b : Nat)) ∧ ∃ k, w' = w.drewN k := by
  go_enter Tryd.func51, Tryd.ntmps51
  go_wp2
  go_loopw [0, 1] (fun x y wr => ∃ a' b' k : Nat, x = .int .u64 a' ∧ y = .int .u64 b' ∧ Nat.gcd a' b' = Nat.gcd a b ∧ wr = w.drewN k) (fun _ y _ => (intOf y).toNat)
  case atStart => exact ⟨a, b, 0, rfl, rfl, rfl, rfl⟩
  case round =>
    obtain ⟨a', b', k, rfl, rfl, hg, rfl⟩ := hrel
    have H := Lib.hid hg; clear hg
    by_cases hb : b' = 0
    · subst hb
      go_wp2
      go_ret
      exact ⟨ret_int (by rw [← H.out]; simp), k, rfl⟩
    · go_wp2
      go_quiet (fail)
      go_wp2
      go_roundw
      case rel => exact ⟨b', a' % b', k + nq, rfl, by go_num, by rw [gcd_step, H.out], by rw [World.drewN_drewN]⟩
      case measure => have := Nat.mod_lt a' (show 0 < b' by omega); simp [intOf]; omega

theorem tmod_gt (a b : Int) (hb : 0 < b) : -b < a.tmod b := by
  rcases Int.le_total 0 a with h | h
  · have := Int.tmod_nonneg b h; omega
  · have e : a.tmod b = -((-a).tmod b) := by rw [Int.neg_tmod]; omega
    have := Int.tmod_lt_of_pos (-a) hb
    omega
theorem floor_neg (a b : Int) (hb : 0 < b) (h : a.tmod b < 0) : a.tdiv b - 1 = a / b := by
  have e := Int.mul_tdiv_add_tmod a b
  have g := tmod_gt a b hb
  exact (((Int.ediv_emod_unique hb (a := a) (q := a.tdiv b - 1) (r := a.tmod b + b)).2 ⟨by rw [Int.mul_sub]; omega, by omega, by omega⟩).1).symm
theorem floor_pos (a b : Int) (hb : 0 < b) (h : 0 ≤ a.tmod b) : a.tdiv b = a / b := by
  have e := Int.mul_tdiv_add_tmod a b
  have g := Int.tmod_lt_of_pos a hb
  exact (((Int.ediv_emod_unique hb (a := a) (q := a.tdiv b) (r := a.tmod b)).2 ⟨by omega, h, g⟩).1).symm
theorem ediv_bd (a b : Int) (hb : 0 < b) (h0 : -9223372036854775807 ≤ a) (h1 : a ≤ 9223372036854775807) : -9223372036854775807 ≤ a / b ∧ a / b ≤ 9223372036854775807 := by
  constructor
  · rw [Int.le_ediv_iff_mul_le hb]
    have : -9223372036854775807 * b ≤ -9223372036854775807 * 1 := Int.mul_le_mul_of_nonpos_left (by omega) (by omega)
    omega
  · rcases Int.le_total 0 a with h | h
    · exact Int.le_trans (Int.ediv_le_self b h) h1
    · have : a / b ≤ 0 := Int.le_of_lt_add_one ((Int.ediv_lt_iff_lt_mul hb).2 (by omega))
      omega
theorem floor_any (a b : Int) (h0 : -9223372036854775807 ≤ a) (h1 : a ≤ 9223372036854775807) (hb : 0 < b) (hb1 : b ≤ 9223372036854775807) (w : World) :
    Calls Tryd.prog 22 #[.int .i64 a, .int .i64 b] w fun e w' => e = .returned (.int .i64 (a / b)) ∧ w = w' := by
  go_enter Tryd.func22, Tryd.ntmps22
  go_wp2
  · go_ret
    exact ⟨ret_int (by show wrap64 (a.tdiv b - 1) = _; rw [floor_neg a b hb ‹_›]; have := ediv_bd a b hb h0 h1; exact IntWalk.wrap64_in _ ⟨by omega, by omega⟩), rfl⟩
  · go_ret
    exact ⟨ret_int (floor_pos a b hb ‹_›), rfl⟩

theorem down_any (a b : Int) (h0 : -9223372036854775807 ≤ a) (h1 : a ≤ 9223372036854775807) (hb : 0 < b) (hb1 : b ≤ 9223372036854775807) (w : World) :
    Calls Tryd.prog 23 #[.int .i64 a, .int .i64 b] w fun e w' => e = .returned (.int .i64 (a / b)) ∧ w = w' := by
  go_enter Tryd.func23, Tryd.ntmps23
  go_wp2
  · go_ret
    exact ⟨ret_int (by show wrap64 (a.tdiv b - 1) = _; rw [floor_neg a b hb ‹_›]; have := ediv_bd a b hb h0 h1; exact IntWalk.wrap64_in _ ⟨by omega, by omega⟩), rfl⟩
  · go_ret
    exact ⟨ret_int (floor_pos a b hb ‹_›), rfl⟩

/-- by what h divides k, 1 to 3; 0 if it does not. -/
def ratioZ (h k : Int) : Int := if k % h = 0 ∧ k / h ≤ 3 then k / h else 0

theorem ratio_any (h k : Int) (h0 : 0 < h) (k0 : 0 < k) (h1 : h ≤ 9223372036854775807) (k1 : k ≤ 9223372036854775807) (w : World) :
    Calls Tryd.prog 59 #[.int .i64 h, .int .i64 k] w fun e w' => e = .returned (.int .i64 (ratioZ h k)) ∧ w = w' := by
  go_enter Tryd.func59, Tryd.ntmps59
  go_wp2
  all_goals go_ret
  all_goals refine ⟨ret_int ?_, rfl⟩
  · show k / h = ratioZ h k
    rw [ratioZ, if_pos ⟨‹_›, ‹_›⟩]
  all_goals
    show 0 = ratioZ h k
    rw [ratioZ, if_neg (by omega)]

theorem ratio_is {h k r : Int} (hr : ratioZ h k = r) (h0 : 0 < h) (k0 : 0 < k) (h1 : h ≤ 9223372036854775807) (k1 : k ≤ 9223372036854775807) (w : World) :
    Calls Tryd.prog 59 #[.int .i64 h, .int .i64 k] w fun e w' => e = .returned (.int .i64 r) ∧ w = w' := by
  subst hr; exact ratio_any h k h0 k0 h1 k1 w

/-- which of 1, 2, 3 times one is the other; 0 if none. -/
def timesZ (a b : Int) : Int := if a = b then 1 else if a * 2 = b ∨ b * 2 = a then 2 else if a * 3 = b ∨ b * 3 = a then 3 else 0

theorem times_any (a b : Int) (a0 : 0 < a) (b0 : 0 < b) (a1 : a ≤ 2305843009213693951) (b1 : b ≤ 2305843009213693951) (w : World) :
    Calls Tryd.prog 39 #[.int .i64 a, .int .i64 b] w fun e w' => e = .returned (.int .i64 (timesZ a b)) ∧ w = w' := by
  go_enter Tryd.func39, Tryd.ntmps39
  go_wp2
  go_loop [5] (fun x => ∃ k : Nat, 1 ≤ k ∧ k ≤ 4 ∧ x = .int .i64 k ∧ (1 < k → ¬ a = b) ∧ (2 < k → ¬ (a * 2 = b ∨ b * 2 = a)) ∧ (3 < k → ¬ (a * 3 = b ∨ b * 3 = a))) (fun x => 4 - (intOf x).toNat)
  case atStart => exact ⟨1, by omega, by omega, rfl, by omega, by omega, by omega⟩
  case round =>
    obtain ⟨k, hk1, hk4, rfl, q1, q2, q3⟩ := hrel
    have H1 := Lib.hid q1; clear q1
    have H2 := Lib.hid q2; clear q2
    have H3 := Lib.hid q3; clear q3
    rcases (by omega : k = 1 ∨ k = 2 ∨ k = 3 ∨ k = 4) with rfl | rfl | rfl | rfl
    · go_wp2
      all_goals (have g1 := H1.out; have g2 := H2.out; have g3 := H3.out; clear H1 H2 H3)
      all_goals first | (go_ret; refine ⟨ret_int ?_, rfl⟩; show 1 = timesZ _ _; (try simp only [beq_iff_eq, beq_eq_false_iff_ne, ne_eq] at *); unfold timesZ; (repeat' split) <;> omega) | skip
      go_round
      case rel => (try simp only [beq_iff_eq, beq_eq_false_iff_ne, ne_eq] at *); exact ⟨2, by omega, by omega, rfl, by omega, by omega, by omega⟩
      case measure => simp [intOf]
    · go_wp2
      all_goals (have g1 := H1.out; have g2 := H2.out; have g3 := H3.out; clear H1 H2 H3)
      all_goals first | (go_ret; refine ⟨ret_int ?_, rfl⟩; show 2 = timesZ _ _; (try simp only [beq_iff_eq, beq_eq_false_iff_ne, ne_eq] at *); unfold timesZ; (repeat' split) <;> omega) | skip
      go_round
      case rel => (try simp only [beq_iff_eq, beq_eq_false_iff_ne, ne_eq] at *); exact ⟨3, by omega, by omega, rfl, by omega, by omega, by omega⟩
      case measure => simp [intOf]
    · go_wp2
      all_goals (have g1 := H1.out; have g2 := H2.out; have g3 := H3.out; clear H1 H2 H3)
      all_goals first | (go_ret; refine ⟨ret_int ?_, rfl⟩; show 3 = timesZ _ _; (try simp only [beq_iff_eq, beq_eq_false_iff_ne, ne_eq] at *); unfold timesZ; (repeat' split) <;> omega) | skip
      go_round
      case rel => (try simp only [beq_iff_eq, beq_eq_false_iff_ne, ne_eq] at *); exact ⟨4, by omega, by omega, rfl, by omega, by omega, by omega⟩
      case measure => simp [intOf]
    · have g1 := H1.out; have g2 := H2.out; have g3 := H3.out; clear H1 H2 H3
      go_wp2
      go_ret; refine ⟨ret_int ?_, rfl⟩; show 0 = timesZ _ _; unfold timesZ; (repeat' split) <;> omega

end Go.Proofs.YtdlmdaononclgaaDoor

/- Fractions: Make, isFrac, Check, both, Add .. Cmp, Floor .. Round, and the reference's. -/
namespace Go.Proofs.YtdlmdaononclgaaDoor
open Go.RowKit
set_option linter.unusedVariables false
set_option linter.unusedSimpArgs false


theorem hsz_drewN (w : World) (n : Nat) : (w.drewN n).heap.size = w.heap.size := rfl
theorem below_step {B B' : Nat} {a b c : World} (h : Below B' b c) (h0 : Below B a b) (hB : B ≤ B') : Below B a c := h0.trans (h.mono hB)
theorem bcell {W w1 : World} (hb : Below W.heap.size W w1) : (∀ b o, b < W.heap.size → w1.cell? ⟨b, o, none⟩ = W.cell? ⟨b, o, none⟩) ∧ (∀ b o, b < W.heap.size → w1.frozen? ⟨b, o, none⟩ = W.frozen? ⟨b, o, none⟩) :=
  ⟨fun b o h => hb.cell (p := ⟨b, o, none⟩) h, fun b o h => hb.frozen (p := ⟨b, o, none⟩) h⟩
theorem below_drewN {B : Nat} {a w : World} (h : Below B a w) (n : Nat) : Below B a (w.drewN n) := ⟨h.os, h.tape, h.output, h.size, h.block⟩

theorem quiet_left {P : Program} {f : FuncId} {args : Array Value} {w : World} {n : Nat} {v : Value}
    (h : Calls P f args (w.drewN n) fun e w' => e = .returned v ∧ w.drewN n = w') : Calls P f args (w.drewN n) fun e w'' => e = .returned v ∧ ∃ m, w'' = w.drewN m :=
  h.mono fun _ _ ⟨he, hm⟩ => ⟨he, n, hm.symm⟩

/-- is it a valid fraction? -/
def okF (n d : Int) : Bool := within n (-1000000000) 1000000000 && within d 1 1000000000 && (Nat.gcd n.natAbs d.natAbs == 1)

/-- what Make answers: numerator, denominator, error. -/
def mkR (n d : Int) : Int × Int × Int :=
  if d = 0 then (0, 0, 11)
  else
    let g := Nat.gcd n.natAbs d.natAbs
    let a := n.natAbs / g
    let b := d.natAbs / g
    if 1000000000 < a ∨ 1000000000 < b then (0, 0, 4)
    else (if (decide (n < 0) != decide (d < 0)) = true then -(a : Int) else (a : Int), (b : Int), 0)

theorem mkR_zero (n : Int) : mkR n 0 = (0, 0, 11) := rfl
theorem mkR_big {n d : Int} {q1 q2 : Nat} (hd : ¬ d = 0) (h1 : n.natAbs / Nat.gcd n.natAbs d.natAbs = q1) (h2 : d.natAbs / Nat.gcd n.natAbs d.natAbs = q2) (h : (1000000000 : Int) < q1 ∨ (1000000000 : Int) < q2) : mkR n d = (0, 0, 4) := by
  subst h1; subst h2
  simp only [mkR, if_neg hd]
  rw [if_pos (by omega)]
theorem mkR_neg {n d : Int} {q1 q2 : Nat} (hd : ¬ d = 0) (h1 : n.natAbs / Nat.gcd n.natAbs d.natAbs = q1) (h2 : d.natAbs / Nat.gcd n.natAbs d.natAbs = q2) (h : ¬ ((1000000000 : Int) < q1 ∨ (1000000000 : Int) < q2)) (hs : (decide (n < 0) != decide (d < 0)) = true) : mkR n d = (-(q1 : Int), (q2 : Int), 0) := by
  subst h1; subst h2
  simp only [mkR, if_neg hd]
  rw [if_neg (by omega), if_pos hs]
theorem mkR_pos {n d : Int} {q1 q2 : Nat} (hd : ¬ d = 0) (h1 : n.natAbs / Nat.gcd n.natAbs d.natAbs = q1) (h2 : d.natAbs / Nat.gcd n.natAbs d.natAbs = q2) (h : ¬ ((1000000000 : Int) < q1 ∨ (1000000000 : Int) < q2)) (hs : (decide (n < 0) != decide (d < 0)) = false) : mkR n d = ((q1 : Int), (q2 : Int), 0) := by
  subst h1; subst h2
  simp only [mkR, if_neg hd]
  rw [if_neg (by omega), hs]; rfl

set_option maxHeartbeats 1000000 in
theorem make_any (n d : Int) (n0 : -9223372036854775808 ≤ n) (n1 : n ≤ 9223372036854775807) (d0 : -9223372036854775808 ≤ d) (d1 : d ≤ 9223372036854775807) (w : World) :
    Calls Tryd.prog 31 #[.int .i64 n, .int .i64 d] w fun e w' =>
      e = .returned (.tuple #[.agg #[.int .i64 (mkR n d).1, .int .i64 (mkR n d).2.1], .int .i64 (mkR n d).2.2]) ∧ Below w.heap.size w w' := by
  by_cases hd : d = 0
  · subst hd
    go_enter Tryd.func31, Tryd.ntmps31
    go_wp2
    go_returns
    refine ⟨rfl, ?_⟩
    repeat' (first | (with_reducible exact Below.refl _ _) | (with_reducible assumption) | (refine below_step (by assumption) ?_ ?_) | (with_reducible refine below_drewN ?_ _) | (with_reducible refine Below.drew ?_) | (with_reducible refine Below.alloc ?_ ?_ _) | (with_reducible refine Below.setCell ?_ ?_ _) | go_size)
  · have hg : 0 < Nat.gcd n.natAbs d.natAbs := Nat.gcd_pos_of_pos_right _ (by omega)
    obtain ⟨q1, hq1⟩ : ∃ q, n.natAbs / Nat.gcd n.natAbs d.natAbs = q := ⟨_, rfl⟩
    obtain ⟨q2, hq2⟩ : ∃ q, d.natAbs / Nat.gcd n.natAbs d.natAbs = q := ⟨_, rfl⟩
    have b1 : q1 ≤ n.natAbs := by rw [← hq1]; exact Nat.div_le_self _ _
    have b2 : q2 ≤ d.natAbs := by rw [← hq2]; exact Nat.div_le_self _ _
    have e1 : IntKind.u64.wrap ((n.natAbs : Int) / (Nat.gcd n.natAbs d.natAbs : Nat)) = q1 := by rw [← Int.natCast_ediv, hq1]; exact IntWalk.u64_in _ ⟨by omega, by omega⟩
    have e2 : IntKind.u64.wrap ((d.natAbs : Int) / (Nat.gcd n.natAbs d.natAbs : Nat)) = q2 := by rw [← Int.natCast_ediv, hq2]; exact IntWalk.u64_in _ ⟨by omega, by omega⟩
    have c1 : (q1 : Int) ≤ 9223372036854775808 := by omega
    have c2 : (q2 : Int) ≤ 9223372036854775808 := by omega
    have H1 := Lib.hid hq1; clear hq1
    have H2 := Lib.hid hq2; clear hq2
    clear b1 b2
    go_enter Tryd.func31, Tryd.ntmps31
    go_wp2_with (first | (go_at_call 50; refine (size_any _ (by omega) (by omega) _).mono ?_; rintro e w' ⟨rfl, rfl⟩) | (go_at_call 51; refine (divisor_any _ _ _).mono ?_; rintro e w' ⟨rfl, k, rfl⟩))
    go_quiet (fail)
    go_wp2
    all_goals (
      have h1 := H1.out
      have h2 := H2.out)
    all_goals go_returns
    all_goals first
      | (rw [mkR_big hd h1 h2 (by omega)]; refine ⟨rfl, ?_⟩; (repeat' (first | (with_reducible exact Below.refl _ _) | (with_reducible assumption) | (refine below_step (by assumption) ?_ ?_) | (with_reducible refine below_drewN ?_ _) | (with_reducible refine Below.drew ?_) | (with_reducible refine Below.alloc ?_ ?_ _) | (with_reducible refine Below.setCell ?_ ?_ _) | go_size)); done)
      | (rw [mkR_neg hd h1 h2 (by omega) ‹_›]; refine ⟨rfl, ?_⟩; (repeat' (first | (with_reducible exact Below.refl _ _) | (with_reducible assumption) | (refine below_step (by assumption) ?_ ?_) | (with_reducible refine below_drewN ?_ _) | (with_reducible refine Below.drew ?_) | (with_reducible refine Below.alloc ?_ ?_ _) | (with_reducible refine Below.setCell ?_ ?_ _) | go_size)); done)
      | (rw [mkR_pos hd h1 h2 (by omega) ‹_›]; refine ⟨rfl, ?_⟩; (repeat' (first | (with_reducible exact Below.refl _ _) | (with_reducible assumption) | (refine below_step (by assumption) ?_ ?_) | (with_reducible refine below_drewN ?_ _) | (with_reducible refine Below.drew ?_) | (with_reducible refine Below.alloc ?_ ?_ _) | (with_reducible refine Below.setCell ?_ ?_ _) | go_size)); done)

set_option maxHeartbeats 1000000 in
theorem isFrac_any (n d : Int) (n0 : -9223372036854775808 ≤ n) (n1 : n ≤ 9223372036854775807) (d0 : -9223372036854775808 ≤ d) (d1 : d ≤ 9223372036854775807) (w : World) :
    Calls Tryd.prog 67 #[.agg #[.int .i64 n, .int .i64 d]] w fun e w' => e = .returned (.bool (okF n d)) ∧ Below w.heap.size w w' := by
  cases h1 : within n (-1000000000) 1000000000 with
  | false =>
    go_enter Tryd.func67, Tryd.ntmps67
    go_wp2
    go_quiet ((go_at_call 44; with_reducible exact quiet_left (isWithin_is h1 _)))
    go_wp2
    go_ret
    exact ⟨ret_bool (by simp [okF, h1]), by repeat' (first | (with_reducible exact Below.refl _ _) | (with_reducible assumption) | (refine below_step (by assumption) ?_ ?_) | (with_reducible refine below_drewN ?_ _) | (with_reducible refine Below.drew ?_) | (with_reducible refine Below.alloc ?_ ?_ _) | (with_reducible refine Below.setCell ?_ ?_ _) | go_size)⟩
  | true =>
    cases h2 : within d 1 1000000000 with
    | false =>
      go_enter Tryd.func67, Tryd.ntmps67
      go_wp2
      go_quiet ((go_at_call 44; first | with_reducible exact quiet_left (isWithin_is h1 _) | with_reducible exact quiet_left (isWithin_is h2 _)))
      go_wp2
      go_ret
      exact ⟨ret_bool (by simp [okF, h2]), by repeat' (first | (with_reducible exact Below.refl _ _) | (with_reducible assumption) | (refine below_step (by assumption) ?_ ?_) | (with_reducible refine below_drewN ?_ _) | (with_reducible refine Below.drew ?_) | (with_reducible refine Below.alloc ?_ ?_ _) | (with_reducible refine Below.setCell ?_ ?_ _) | go_size)⟩
    | true =>
      go_enter Tryd.func67, Tryd.ntmps67
      go_wp2
      go_quiet ((first | (go_at_call 44; first | with_reducible exact quiet_left (isWithin_is h1 _) | with_reducible exact quiet_left (isWithin_is h2 _)) | (go_at_call 50; exact quiet_left (size_any _ (by omega) (by omega) _)) | (go_at_call 51; exact Calls.quiet_of (divisor_any _ _ _))))
      go_wp2
      go_ret
      exact ⟨ret_bool (by simp only [okF, h1, h2]; exact Bool.eq_iff_iff.2 (by simp; omega)), by repeat' (first | (with_reducible exact Below.refl _ _) | (with_reducible assumption) | (refine below_step (by assumption) ?_ ?_) | (with_reducible refine below_drewN ?_ _) | (with_reducible refine Below.drew ?_) | (with_reducible refine Below.alloc ?_ ?_ _) | (with_reducible refine Below.setCell ?_ ?_ _) | go_size)⟩

end Go.Proofs.YtdlmdaononclgaaDoor

/- Fractions, 2: both, Add, Sub, Mul, Div, Cmp, rounded, Floor, Ceil, Round, Check. -/
namespace Go.Proofs.YtdlmdaononclgaaDoor
open Go.RowKit
set_option linter.unusedVariables false
set_option linter.unusedSimpArgs false

theorem isFrac_is {n d : Int} {b : Bool} (h : okF n d = b) (n0 : -9223372036854775808 ≤ n) (n1 : n ≤ 9223372036854775807) (d0 : -9223372036854775808 ≤ d) (d1 : d ≤ 9223372036854775807) (w : World) :
    Calls Tryd.prog 67 #[.agg #[.int .i64 n, .int .i64 d]] w fun e w' => e = .returned (.bool b) ∧ Below w.heap.size w w' := by
  subst h; exact isFrac_any _ _ n0 n1 d0 d1 _

/-- what both answers, x / y being the function's. -/
def bothR (an ad bn bd x y : Int) : Int × Int × Int := if okF an ad = true ∧ okF bn bd = true then mkR x y else (0, 0, 10)

/-- the function that both is handed: x and y where both fractions are valid. -/
def Of (g : Nat) (an ad bn bd x y : Int) : Prop := okF an ad = true → okF bn bd = true → ∀ W, Calls Tryd.prog g #[.agg #[.int .i64 an, .int .i64 ad], .agg #[.int .i64 bn, .int .i64 bd]] W fun e w' => e = .returned (.tuple #[.int .i64 x, .int .i64 y]) ∧ Below W.heap.size W w'

end Go.Proofs.YtdlmdaononclgaaDoor

/- Fractions, 3: Add, Sub, Mul, Div. -/
namespace Go.Proofs.YtdlmdaononclgaaDoor
open Go.RowKit
set_option linter.unusedVariables false
set_option linter.unusedSimpArgs false

theorem okF_bd {n d : Int} (h : okF n d = true) : -1000000000 ≤ n ∧ n ≤ 1000000000 ∧ 1 ≤ d ∧ d ≤ 1000000000 := by
  simp only [okF, Bool.and_eq_true] at h
  have h1 := within_true h.1.1
  have h2 := within_true h.1.2
  omega
theorem mul_bd {x y : Int} (a : -1000000000 ≤ x) (b : x ≤ 1000000000) (c : -1000000000 ≤ y) (d : y ≤ 1000000000) : -1000000000000000000 ≤ x * y ∧ x * y ≤ 1000000000000000000 := by
  have h : (x * y).natAbs ≤ 1000000000 * 1000000000 := by rw [Int.natAbs_mul]; exact Nat.mul_le_mul (by omega) (by omega)
  omega


end Go.Proofs.YtdlmdaononclgaaDoor

/- Fractions, 4: Add, Sub, Mul, Div by both. -/
namespace Go.Proofs.YtdlmdaononclgaaDoor
open Go.RowKit
set_option linter.unusedVariables false
set_option linter.unusedSimpArgs false

theorem bd_all {an ad bn bd : Int} (h1 : okF an ad = true) (h2 : okF bn bd = true) :
    (-1000000000000000000 ≤ an * bd ∧ an * bd ≤ 1000000000000000000) ∧ (-1000000000000000000 ≤ bn * ad ∧ bn * ad ≤ 1000000000000000000) ∧ (-1000000000000000000 ≤ ad * bd ∧ ad * bd ≤ 1000000000000000000) ∧ (-1000000000000000000 ≤ an * bn ∧ an * bn ≤ 1000000000000000000) ∧ (-1000000000000000000 ≤ ad * bn ∧ ad * bn ≤ 1000000000000000000) := by
  obtain ⟨a0, a1, a2, a3⟩ := okF_bd h1
  obtain ⟨b0, b1, b2, b3⟩ := okF_bd h2
  exact ⟨mul_bd a0 a1 (by omega) b3, mul_bd b0 b1 (by omega) a3, mul_bd (by omega) a3 (by omega) b3, mul_bd a0 a1 b0 b1, mul_bd (by omega) a3 b0 b1⟩

end Go.Proofs.YtdlmdaononclgaaDoor

/- Fractions, 5: rounded, Floor, Ceil, Round, Check, Cmp. -/
namespace Go.Proofs.YtdlmdaononclgaaDoor
open Go.RowKit
set_option linter.unusedVariables false
set_option linter.unusedSimpArgs false

/-- what rounded answers. -/
def rndR (n d x : Int) : Int × Int := if okF n d = true then (x, 0) else (0, 10)
theorem okF_bd' {n d : Int} (h : okF n d = true) : -1000000000 ≤ n ∧ n ≤ 1000000000 ∧ 1 ≤ d ∧ d ≤ 1000000000 := by
  simp only [okF, Bool.and_eq_true] at h
  have h1 := within_true h.1.1
  have h2 := within_true h.1.2
  omega

set_option maxHeartbeats 1000000 in
theorem rounded_any (g : Nat) (eg : ∀ args w, (callFunc g args).run Tryd.prog w = .ok (.enter g args) w) (n d x : Int)
    (hof : okF n d = true → ∀ W, Calls Tryd.prog g #[.agg #[.int .i64 n, .int .i64 d]] W fun e w' => e = .returned (.int .i64 x) ∧ Below W.heap.size W w')
    (a0 : -9223372036854775808 ≤ n) (a1 : n ≤ 9223372036854775807) (a2 : -9223372036854775808 ≤ d) (a3 : d ≤ 9223372036854775807) (w : World) :
    Calls Tryd.prog 52 #[.agg #[.int .i64 n, .int .i64 d], .func (.func g) #[] #[]] w fun e w' => e = .returned (.tuple #[.int .i64 (rndR n d x).1, .int .i64 (rndR n d x).2]) ∧ Below w.heap.size w w' := by
  have H := Lib.hid hof; clear hof
  cases h1 : okF n d with
  | false =>
    go_enter Tryd.func52, Tryd.ntmps52
    go_wp2_with ((go_at_call 67; (with_reducible refine (isFrac_is h1 a0 a1 a2 a3 _).mono ?_); rintro e w1 ⟨rfl, hb1⟩; obtain ⟨hc1, hf1⟩ := bcell hb1; have hz1 := hb1.size; (try simp only [World.size_alloc, World.size_setCell, World.size_drew, hsz_drewN] at hz1); have z0 : w.heap.size < w1.heap.size := (by omega)))
    go_ret2
    exact ⟨by simp [rndR, h1], by repeat' (first | (with_reducible exact Below.refl _ _) | (with_reducible assumption) | (refine below_step (by assumption) ?_ ?_) | (with_reducible refine below_drewN ?_ _) | (with_reducible refine Below.drew ?_) | (with_reducible refine Below.alloc ?_ ?_ _) | (with_reducible refine Below.setCell ?_ ?_ _) | go_size)⟩
  | true =>
    have H2 := Lib.hid (H.out h1); clear H
    go_enter Tryd.func52, Tryd.ntmps52
    go_wp2_with (first | (go_at_call 67; (with_reducible refine (isFrac_is h1 a0 a1 a2 a3 _).mono ?_); rintro e w1 ⟨rfl, hb1⟩; obtain ⟨hc1, hf1⟩ := bcell hb1; have hz1 := hb1.size; (try simp only [World.size_alloc, World.size_setCell, World.size_drew, hsz_drewN] at hz1); have z0 : w.heap.size < w1.heap.size := (by omega)) | (go_at_fn g; (with_reducible refine (H2.out _).mono ?_); rintro e w1 ⟨rfl, hb1⟩; obtain ⟨hc1, hf1⟩ := bcell hb1; have hz1 := hb1.size; (try simp only [World.size_alloc, World.size_setCell, World.size_drew, hsz_drewN] at hz1); have z0 : w.heap.size < w1.heap.size := (by omega)))
    go_ret2
    exact ⟨by simp [rndR, h1], by repeat' (first | (with_reducible exact Below.refl _ _) | (with_reducible assumption) | (refine below_step (by assumption) ?_ ?_) | (with_reducible refine below_drewN ?_ _) | (with_reducible refine Below.drew ?_) | (with_reducible refine Below.alloc ?_ ?_ _) | (with_reducible refine Below.setCell ?_ ?_ _) | go_size)⟩

theorem ofRound (n d : Int) (h : okF n d = true) (W : World) : Calls Tryd.prog 53 #[.agg #[.int .i64 n, .int .i64 d]] W fun e w' => e = .returned (.int .i64 ((2 * n + d) / (2 * d))) ∧ Below W.heap.size W w' := by
  obtain ⟨a0, a1, a2, a3⟩ := okF_bd' h
  have e1 := ediv_bd n d (by omega) (by omega) (by omega)
  have e2 := ediv_bd (-n) d (by omega) (by omega) (by omega)
  clear h
  go_enter Tryd.func53, Tryd.ntmps53
  go_wp2_with (go_at_call 22; refine (floor_any _ _ (by omega) (by omega) (by omega) (by omega) _).mono ?_; rintro e w' ⟨rfl, rfl⟩)
  go_ret
  exact ⟨rfl, by repeat' (first | (with_reducible exact Below.refl _ _) | (with_reducible assumption) | (refine below_step (by assumption) ?_ ?_) | (with_reducible refine below_drewN ?_ _) | (with_reducible refine Below.drew ?_) | (with_reducible refine Below.alloc ?_ ?_ _) | (with_reducible refine Below.setCell ?_ ?_ _) | go_size)⟩

set_option maxHeartbeats 1000000 in
theorem Round_any (n d : Int) (a0 : -9223372036854775808 ≤ n) (a1 : n ≤ 9223372036854775807) (a2 : -9223372036854775808 ≤ d) (a3 : d ≤ 9223372036854775807) (w : World) :
    Calls Tryd.prog 32 #[.agg #[.int .i64 n, .int .i64 d]] w fun e w' => e = .returned (.tuple #[.int .i64 (rndR n d ((2 * n + d) / (2 * d))).1, .int .i64 (rndR n d ((2 * n + d) / (2 * d))).2]) ∧ Below w.heap.size w w' := by
  have hb : ∀ W, Calls Tryd.prog 52 #[.agg #[.int .i64 n, .int .i64 d], .func (.func 53) #[] #[]] W _ := fun W =>
    rounded_any 53 (enters_of Tryd.func53 (by kernel_rfl) rfl) n d ((2 * n + d) / (2 * d)) (fun h => ofRound n d h) a0 a1 a2 a3 W
  have H := Lib.hid hb; clear hb
  go_enter Tryd.func32, Tryd.ntmps32
  go_wp2_with ((go_at_call 52; (with_reducible refine (H.out _).mono ?_); rintro e w1 ⟨rfl, hb1⟩; obtain ⟨hc1, hf1⟩ := bcell hb1; have hz1 := hb1.size; (try simp only [World.size_alloc, World.size_setCell, World.size_drew, hsz_drewN] at hz1); have z0 : w.heap.size < w1.heap.size := (by omega)))
  go_ret2
  exact ⟨rfl, by repeat' (first | (with_reducible exact Below.refl _ _) | (with_reducible assumption) | (refine below_step (by assumption) ?_ ?_) | (with_reducible refine below_drewN ?_ _) | (with_reducible refine Below.drew ?_) | (with_reducible refine Below.alloc ?_ ?_ _) | (with_reducible refine Below.setCell ?_ ?_ _) | go_size)⟩

end Go.Proofs.YtdlmdaononclgaaDoor

/- Fractions, 6: the reference: Check. -/
namespace Go.Proofs.YtdlmdaononclgaaDoor
open Go.RowKit
set_option linter.unusedVariables false
set_option linter.unusedSimpArgs false

theorem okF_no {n d : Int} (h : ¬ (-1000000000 ≤ n ∧ n ≤ 1000000000 ∧ 1 ≤ d ∧ d ≤ 1000000000)) : okF n d = false := by
  cases e : okF n d with
  | false => rfl
  | true => exact absurd (okF_bd' e) h
theorem okF_gcd {n d : Int} (h1 : ¬ n < -1000000000) (h2 : ¬ 1000000000 < n) (h3 : ¬ d < 1) (h4 : ¬ 1000000000 < d) : okF n d = (Nat.gcd n.natAbs d.natAbs == 1) := by
  rw [okF, within_mk (by omega) (by omega), within_mk (by omega) (by omega)]; simp

end Go.Proofs.YtdlmdaononclgaaDoor

/- Fractions, 7: the reference: both, Add, Sub, Mul, Div. -/
namespace Go.Proofs.YtdlmdaononclgaaDoor
open Go.RowKit
set_option linter.unusedVariables false
set_option linter.unusedSimpArgs false

end Go.Proofs.YtdlmdaononclgaaDoor

/- Fractions, 9: Cmp, in both. -/
namespace Go.Proofs.YtdlmdaononclgaaDoor
open Go.RowKit
set_option linter.unusedVariables false
set_option linter.unusedSimpArgs false

/-- what Cmp answers. -/
def cmpR (an ad bn bd : Int) : Int :=
  if okF an ad = true ∧ okF bn bd = true then (if an * bd < bn * ad then -1 else if bn * ad < an * bd then 1 else 0) else 0

theorem okF_cop {n d : Int} (h : okF n d = true) : Nat.gcd n.natAbs d.natAbs = 1 := by
  simp only [okF, Bool.and_eq_true, beq_iff_eq] at h
  exact h.2

/-- valid fractions of one value are one. -/
theorem frac_eq {an ad bn bd : Int} (h1 : okF an ad = true) (h2 : okF bn bd = true) (h : an * bd = bn * ad) : an = bn ∧ ad = bd := by
  obtain ⟨a0, a1, a2, a3⟩ := okF_bd' h1
  obtain ⟨b0, b1, b2, b3⟩ := okF_bd' h2
  have g1 := okF_cop h1
  have g2 := okF_cop h2
  have e : an.natAbs * bd.natAbs = bn.natAbs * ad.natAbs := by rw [← Int.natAbs_mul, ← Int.natAbs_mul, h]
  have d1 : ad.natAbs ∣ bd.natAbs := (Nat.Coprime.symm g1 : Nat.Coprime ad.natAbs an.natAbs).dvd_of_dvd_mul_left (by rw [e]; exact Nat.dvd_mul_left _ _)
  have d2 : bd.natAbs ∣ ad.natAbs := (Nat.Coprime.symm g2 : Nat.Coprime bd.natAbs bn.natAbs).dvd_of_dvd_mul_left (by rw [← e]; exact Nat.dvd_mul_left _ _)
  have e2 : ad.natAbs = bd.natAbs := Nat.dvd_antisymm d1 d2
  have e3 : ad = bd := by omega
  subst e3
  exact ⟨Int.eq_of_mul_eq_mul_right (by omega) h, rfl⟩

theorem cmpR_no {an ad bn bd : Int} (h : ¬ (okF an ad = true ∧ okF bn bd = true)) : cmpR an ad bn bd = 0 := if_neg h
theorem cmpR_lt {an ad bn bd : Int} (h1 : okF an ad = true) (h2 : okF bn bd = true) (h : an * bd < bn * ad) : cmpR an ad bn bd = -1 := by rw [cmpR, if_pos ⟨h1, h2⟩, if_pos h]
theorem cmpR_gt {an ad bn bd : Int} (h1 : okF an ad = true) (h2 : okF bn bd = true) (h : bn * ad < an * bd) : cmpR an ad bn bd = 1 := by rw [cmpR, if_pos ⟨h1, h2⟩, if_neg (by omega), if_pos h]
theorem cmpR_eq {an ad bn bd : Int} (h1 : okF an ad = true) (h2 : okF bn bd = true) (h : an * bd = bn * ad) : cmpR an ad bn bd = 0 := by rw [cmpR, if_pos ⟨h1, h2⟩, if_neg (by omega), if_neg (by omega)]

end Go.Proofs.YtdlmdaononclgaaDoor

/- Plain facts on fractions: what Make answers has the value it was made of, and is the one valid fraction of that value. -/
namespace Go.Proofs.YtdlmdaononclgaaDoor
open Go.RowKit
set_option linter.unusedVariables false
set_option linter.unusedSimpArgs false

theorem mk_okF {n d : Int} (h0 : -1000000000 ≤ n) (h1 : n ≤ 1000000000) (h2 : 1 ≤ d) (h3 : d ≤ 1000000000) (hg : Nat.gcd n.natAbs d.natAbs = 1) : okF n d = true := by
  rw [okF_gcd (by omega) (by omega) (by omega) (by omega), hg]; rfl

/-- an answer without an error is a valid fraction of that value. -/
theorem mkR_ok {n d : Int} (h : (mkR n d).2.2 = 0) : okF (mkR n d).1 (mkR n d).2.1 = true ∧ (mkR n d).1 * d = n * (mkR n d).2.1 ∧ d ≠ 0 := by
  by_cases hd : d = 0
  · subst hd; rw [mkR_zero] at h; exact absurd h (by decide)
  · have hg : 0 < Nat.gcd n.natAbs d.natAbs := Nat.gcd_pos_of_pos_right _ (by omega)
    obtain ⟨q1, hq1⟩ : ∃ q, n.natAbs / Nat.gcd n.natAbs d.natAbs = q := ⟨_, rfl⟩
    obtain ⟨q2, hq2⟩ : ∃ q, d.natAbs / Nat.gcd n.natAbs d.natAbs = q := ⟨_, rfl⟩
    have hc : Nat.gcd q1 q2 = 1 := by rw [← hq1, ← hq2]; exact Nat.gcd_div_gcd_div_gcd_of_pos_right (by omega)
    have e1 : q1 * Nat.gcd n.natAbs d.natAbs = n.natAbs := by rw [← hq1]; exact Nat.div_mul_cancel (Nat.gcd_dvd_left _ _)
    have e2 : q2 * Nat.gcd n.natAbs d.natAbs = d.natAbs := by rw [← hq2]; exact Nat.div_mul_cancel (Nat.gcd_dvd_right _ _)
    by_cases hb : (1000000000 : Int) < q1 ∨ (1000000000 : Int) < q2
    · rw [mkR_big hd hq1 hq2 hb] at h; exact absurd h (by decide)
    · obtain ⟨g, hgg⟩ : ∃ g, Nat.gcd n.natAbs d.natAbs = g := ⟨_, rfl⟩
      rw [hgg] at e1 e2 hg
      have hq2' : 0 < q2 := Nat.pos_of_ne_zero (fun e => by subst e; omega)
      have e1' : (q1 : Int) * g = n.natAbs := by rw [← Int.natCast_mul, e1]
      have e2' : (q2 : Int) * g = d.natAbs := by rw [← Int.natCast_mul, e2]
      cases hs : (decide (n < 0) != decide (d < 0)) with
      | true =>
        rw [mkR_neg hd hq1 hq2 hb hs]
        show okF _ _ = true ∧ _ * d = n * _ ∧ d ≠ 0
        simp only
        refine ⟨mk_okF (by omega) (by omega) (by omega) (by omega) (by simpa using hc), ?_, hd⟩
        rcases Int.natAbs_eq n with hn | hn <;> rcases Int.natAbs_eq d with hd' | hd'
        · have x : ¬ n < 0 := by omega
          have y : ¬ d < 0 := by omega
          simp [x, y] at hs
        · grind
        · grind
        · by_cases hn0 : n = 0
          · subst hn0
            have : q1 * g = 0 := by simpa using e1
            have : q1 = 0 := by rcases Nat.mul_eq_zero.1 this with h | h; exact h; omega
            subst this; simp
          · have x : n < 0 := by omega
            have y : d < 0 := by omega
            simp [x, y] at hs
      | false =>
        rw [mkR_pos hd hq1 hq2 hb hs]
        show okF _ _ = true ∧ _ * d = n * _ ∧ d ≠ 0
        simp only
        refine ⟨mk_okF (by omega) (by omega) (by omega) (by omega) (by simpa using hc), ?_, hd⟩
        rcases Int.natAbs_eq n with hn | hn <;> rcases Int.natAbs_eq d with hd' | hd'
        · grind
        · by_cases hn0 : n = 0
          · subst hn0
            have : q1 * g = 0 := by simpa using e1
            have : q1 = 0 := by rcases Nat.mul_eq_zero.1 this with h | h; exact h; omega
            subst this; simp
          · have x : ¬ n < 0 := by omega
            have y : d < 0 := by omega
            simp [x, y] at hs
        · by_cases hn0 : n = 0
          · subst hn0
            have : q1 * g = 0 := by simpa using e1
            have : q1 = 0 := by rcases Nat.mul_eq_zero.1 this with h | h; exact h; omega
            subst this; simp
          · have x : n < 0 := by omega
            have y : ¬ d < 0 := by omega
            simp [x, y] at hs
        · grind

/-- an error, and what comes with it. -/
theorem mkR_err {n d : Int} (h : ¬ (mkR n d).2.2 = 0) : (mkR n d).1 = 0 ∧ (mkR n d).2.1 = 0 ∧ ((mkR n d).2.2 = 11 ∧ d = 0 ∨ (mkR n d).2.2 = 4 ∧ d ≠ 0) := by
  by_cases hd : d = 0
  · subst hd; rw [mkR_zero]; exact ⟨rfl, rfl, .inl ⟨rfl, rfl⟩⟩
  · obtain ⟨q1, hq1⟩ : ∃ q, n.natAbs / Nat.gcd n.natAbs d.natAbs = q := ⟨_, rfl⟩
    obtain ⟨q2, hq2⟩ : ∃ q, d.natAbs / Nat.gcd n.natAbs d.natAbs = q := ⟨_, rfl⟩
    by_cases hb : (1000000000 : Int) < q1 ∨ (1000000000 : Int) < q2
    · rw [mkR_big hd hq1 hq2 hb]; exact ⟨rfl, rfl, .inr ⟨rfl, hd⟩⟩
    · cases hs : (decide (n < 0) != decide (d < 0)) with
      | true => rw [mkR_neg hd hq1 hq2 hb hs] at h; exact absurd rfl h
      | false => rw [mkR_pos hd hq1 hq2 hb hs] at h; exact absurd rfl h

/-- the one valid fraction of a value is what Make answers. -/
theorem mkR_of {n d a b : Int} (hd : d ≠ 0) (hf : okF a b = true) (h : a * d = n * b) : mkR n d = (a, b, 0) := by
  obtain ⟨a0, a1, b0, b1⟩ := okF_bd' hf
  have hc := okF_cop hf
  have e : a.natAbs * d.natAbs = n.natAbs * b.natAbs := by rw [← Int.natAbs_mul, ← Int.natAbs_mul, h]
  have hbd : b.natAbs ∣ d.natAbs := (Nat.Coprime.symm hc : Nat.Coprime b.natAbs a.natAbs).dvd_of_dvd_mul_left (by rw [e]; exact Nat.dvd_mul_left _ _)
  obtain ⟨k, hk⟩ := hbd
  have hk0 : 0 < k := Nat.pos_of_ne_zero (fun e => by subst e; omega)
  have hn : n.natAbs = a.natAbs * k := by
    rw [hk, ← Nat.mul_assoc, Nat.mul_comm a.natAbs, Nat.mul_assoc, Nat.mul_comm n.natAbs] at e
    exact (Nat.eq_of_mul_eq_mul_left (by omega) e).symm
  have hg : Nat.gcd n.natAbs d.natAbs = k := by rw [hn, hk, Nat.gcd_mul_right, hc, Nat.one_mul]
  have hq1 : n.natAbs / Nat.gcd n.natAbs d.natAbs = a.natAbs := by rw [hg, hn, Nat.mul_div_cancel _ hk0]
  have hq2 : d.natAbs / Nat.gcd n.natAbs d.natAbs = b.natAbs := by rw [hg, hk, Nat.mul_div_cancel _ hk0]
  have hb : ¬ ((1000000000 : Int) < (a.natAbs : Nat) ∨ (1000000000 : Int) < (b.natAbs : Nat)) := by omega
  have hbb : ((b.natAbs : Nat) : Int) = b := by omega
  have hnb : n < 0 ↔ n * b < 0 := ⟨fun x => Int.mul_neg_of_neg_of_pos x (by omega), fun x => Int.not_le.1 (fun y => by have := Int.mul_nonneg y (by omega : 0 ≤ b); omega)⟩
  cases hs : (decide (n < 0) != decide (d < 0)) with
  | true =>
    rw [mkR_neg hd hq1 hq2 hb hs, hbb]
    have : a ≤ 0 := by
      refine Int.not_lt.1 (fun ha => ?_)
      by_cases hd0 : d < 0
      · have := Int.mul_neg_of_pos_of_neg ha hd0
        have : n < 0 := hnb.2 (by omega)
        simp [hd0, this] at hs
      · have := Int.mul_pos ha (by omega : 0 < d)
        have : ¬ n < 0 := fun x => by have := hnb.1 x; omega
        simp [hd0, this] at hs
    rw [show -((a.natAbs : Nat) : Int) = a by omega]
  | false =>
    rw [mkR_pos hd hq1 hq2 hb hs, hbb]
    have : 0 ≤ a := by
      refine Int.not_lt.1 (fun ha => ?_)
      by_cases hd0 : d < 0
      · have := Int.mul_pos_of_neg_of_neg ha hd0
        have : ¬ n < 0 := fun x => by have := hnb.1 x; omega
        simp [hd0, this] at hs
      · have := Int.mul_neg_of_neg_of_pos ha (by omega : 0 < d)
        have : n < 0 := hnb.2 (by omega)
        simp [hd0, this] at hs
    rw [show ((a.natAbs : Nat) : Int) = a by omega]

/-- a sum, taken back. -/
theorem sub_back {an ad bn bd xn xd : Int} (ha : okF an ad = true) (hb : okF bn bd = true) (hx : okF xn xd = true) (h : xn * (ad * bd) = (an * bd + bn * ad) * xd) : mkR (xn * bd - bn * xd) (xd * bd) = (an, ad, 0) := by
  obtain ⟨_, _, a2, _⟩ := okF_bd' ha
  obtain ⟨_, _, b2, _⟩ := okF_bd' hb
  obtain ⟨_, _, x2, _⟩ := okF_bd' hx
  refine mkR_of (Int.mul_ne_zero (by omega) (by omega)) ha ?_
  grind
/-- a product, taken back. -/
theorem div_back {an ad bn bd pn pd : Int} (ha : okF an ad = true) (hb : okF bn bd = true) (hp : okF pn pd = true) (hb0 : bn ≠ 0) (h : pn * (ad * bd) = (an * bn) * pd) : mkR (pn * bd) (pd * bn) = (an, ad, 0) := by
  obtain ⟨_, _, p2, _⟩ := okF_bd' hp
  refine mkR_of (Int.mul_ne_zero (by omega) hb0) ha ?_
  grind
/-- three summands. -/
theorem add_three {an ad bn bd cn cd xn xd sn sd tn td : Int} (ha : okF an ad = true) (hb : okF bn bd = true) (hc : okF cn cd = true) (hx : okF xn xd = true) (hs : okF sn sd = true) (ht : okF tn td = true)
    (h1 : xn * (ad * bd) = (an * bd + bn * ad) * xd) (h2 : sn * (xd * cd) = (xn * cd + cn * xd) * sd) (h3 : tn * (bd * cd) = (bn * cd + cn * bd) * td) : mkR (an * td + tn * ad) (ad * td) = (sn, sd, 0) := by
  obtain ⟨_, _, a2, _⟩ := okF_bd' ha
  obtain ⟨_, _, b2, _⟩ := okF_bd' hb
  obtain ⟨_, _, c2, _⟩ := okF_bd' hc
  obtain ⟨_, _, x2, _⟩ := okF_bd' hx
  obtain ⟨_, _, t2, _⟩ := okF_bd' ht
  refine mkR_of (Int.mul_ne_zero (by omega) (by omega)) hs ?_
  have hz : bd * cd * xd ≠ 0 := Int.mul_ne_zero (Int.mul_ne_zero (by omega) (by omega)) (by omega)
  refine Int.eq_of_mul_eq_mul_right hz ?_
  have l1 : sn * (ad * td) * (bd * cd * xd) = (sn * (xd * cd)) * (ad * td * bd) := by grind
  have l2 : (an * td + tn * ad) * sd * (bd * cd * xd) = (an * td * bd * cd + ad * (tn * (bd * cd))) * (sd * xd) := by grind
  rw [l1, l2, h2, h3]
  have l3 : (xn * cd + cn * xd) * sd * (ad * td * bd) = (xn * (ad * bd)) * (cd * sd * td) + cn * xd * sd * ad * td * bd := by grind
  rw [l3, h1]
  grind
/-- a sum compared with a summand is as the other summand with 0. -/
theorem cmp_sum {an ad bn bd xn xd : Int} (ha : okF an ad = true) (hb : okF bn bd = true) (hx : okF xn xd = true) (h : xn * (ad * bd) = (an * bd + bn * ad) * xd) : cmpR xn xd an ad = cmpR bn bd 0 1 := by
  have h01 : okF 0 1 = true := by decide
  obtain ⟨_, _, a2, _⟩ := okF_bd' ha
  obtain ⟨_, _, b2, _⟩ := okF_bd' hb
  obtain ⟨_, _, x2, _⟩ := okF_bd' hx
  have hp : 0 < ad * xd := Int.mul_pos (by omega) (by omega)
  have e : (xn * ad - an * xd) * bd = bn * (ad * xd) := by grind
  rcases Int.lt_trichotomy bn 0 with hn | hn | hn
  · have h1 : bn * (ad * xd) < 0 := Int.mul_neg_of_neg_of_pos hn hp
    have h2 : xn * ad - an * xd < 0 := Int.not_le.1 (fun y => by have := Int.mul_nonneg y (by omega : 0 ≤ bd); omega)
    rw [cmpR_lt hx ha (by omega), cmpR_lt hb h01 (by omega)]
  · subst hn
    have h2 : xn * ad - an * xd = 0 := by
      rw [Int.zero_mul] at e
      rcases Int.mul_eq_zero.1 e with h | h
      · exact h
      · omega
    rw [cmpR_eq hx ha (by omega), cmpR_eq hb h01 (by omega)]
  · have h1 : 0 < bn * (ad * xd) := Int.mul_pos hn hp
    have h2 : 0 < xn * ad - an * xd := Int.not_le.1 (fun y => by have := Int.mul_nonneg (by omega : 0 ≤ -(xn * ad - an * xd)) (by omega : 0 ≤ bd); rw [Int.neg_mul] at this; omega)
    rw [cmpR_gt hx ha (by omega), cmpR_gt hb h01 (by omega)]

/-- the whole numbers next to a fraction. -/
theorem floor_at {n d : Int} (hd : 0 < d) : n / d * d ≤ n ∧ n < (n / d + 1) * d := by
  have a := Int.mul_ediv_add_emod n d
  have b := Int.emod_nonneg n (by omega : d ≠ 0)
  have c := Int.emod_lt_of_pos n hd
  rw [Int.mul_comm] at a
  rw [Int.add_mul]
  omega
theorem round_at {n d : Int} (hd : 0 < d) : ((2 * n + d) / (2 * d) = n / d ∨ (2 * n + d) / (2 * d) = -((-n) / d)) ∧ 2 * (n - (2 * n + d) / (2 * d) * d) < d ∧ 2 * ((2 * n + d) / (2 * d) * d - n) ≤ d := by
  obtain ⟨a1, a2⟩ := floor_at (n := n) hd
  obtain ⟨c1, c2⟩ := floor_at (n := -n) hd
  obtain ⟨b1, b2⟩ := floor_at (n := 2 * n + d) (d := 2 * d) (by omega)
  generalize (2 * n + d) / (2 * d) = m at *
  generalize n / d = lo at *
  generalize (-n) / d = hi at *
  have e1 : m * (2 * d) = 2 * (m * d) := by grind
  have e2 : (m + 1) * (2 * d) = 2 * (m * d) + 2 * d := by grind
  have e3 : (lo + 1) * d = lo * d + d := by grind
  have e4 : (hi + 1) * d = hi * d + d := by grind
  rw [e1] at b1
  rw [e2] at b2
  rw [e3] at a2
  rw [e4] at c2
  refine ⟨?_, by omega, by omega⟩
  -- lo ≤ m ≤ lo + 1, and -hi is lo or lo + 1
  have lt_of : ∀ x y : Int, x * d < y * d → x < y := fun x y h => Int.not_le.1 (fun h' => by have := Int.mul_le_mul_of_nonneg_right h' (by omega : 0 ≤ d); omega)
  have h1 : lo < m + 1 := lt_of _ _ (by rw [Int.add_mul]; omega)
  have h2 : m < lo + 2 := lt_of _ _ (by rw [Int.add_mul]; omega)
  have h3 : m < -hi + 1 := lt_of _ _ (by rw [Int.add_mul, Int.neg_mul]; omega)
  have h4 : -hi < m + 2 := lt_of _ _ (by rw [Int.add_mul, Int.neg_mul]; omega)
  have h5 : lo < -hi + 1 := lt_of _ _ (by rw [Int.add_mul, Int.neg_mul]; omega)
  have h6 : -hi < lo + 2 := lt_of _ _ (by rw [Int.add_mul, Int.neg_mul]; omega)
  by_cases hm : m = lo
  · exact .inl hm
  · right
    have : m = lo + 1 := by omega
    subst this
    by_cases hh : -hi = lo + 1
    · omega
    · -- then -hi = lo: n is a multiple of d, and m is lo
      have hh' : -hi = lo := by omega
      have hhd : hi * d = -(lo * d) := by rw [← hh', Int.neg_mul]; omega
      have : (lo + 1) * d = lo * d + d := by grind
      omega

end Go.Proofs.YtdlmdaononclgaaDoor
