import Derived.Test.YtdlmdaononclgaaArith
/- Fractions: Make, isFrac, Check, both, Add .. Cmp, Floor .. Round, and the reference's. -/
namespace Go.Proofs.Ytdlmdaononclgaa
open Go.RowKit
set_option linter.unusedVariables false
set_option linter.unusedSimpArgs false


theorem hsz_drewN (w : World) (n : Nat) : (w.drewN n).heap.size = w.heap.size := rfl
theorem below_step {B B' : Nat} {a b c : World} (h : Below B' b c) (h0 : Below B a b) (hB : B ≤ B') : Below B a c := h0.trans (h.mono hB)
theorem bcell {W w1 : World} (hb : Below W.heap.size W w1) : (∀ b o, b < W.heap.size → w1.cell? ⟨b, o, none⟩ = W.cell? ⟨b, o, none⟩) ∧ (∀ b o, b < W.heap.size → w1.frozen? ⟨b, o, none⟩ = W.frozen? ⟨b, o, none⟩) :=
  ⟨fun b o h => hb.cell (p := ⟨b, o, none⟩) h, fun b o h => hb.frozen (p := ⟨b, o, none⟩) h⟩
theorem below_drewN {B : Nat} {a w : World} (h : Below B a w) (n : Nat) : Below B a (w.drewN n) := ⟨h.os, h.tape, h.output, h.size, h.block⟩

theorem quiet_left {P : Program} {f : FuncId} {args : Array Value} {w : World} {n : Nat} {v : Value}
    (h : Calls P f args (w.drewN n) fun e w' => e = .returned v ∧ w.drewN n = w') : Calls P f args (w.drewN n) fun e w'' => e = .returned v ∧ ∃ m, w'' = w.drewN m :=
  h.mono fun _ _ ⟨he, hm⟩ => ⟨he, n, hm.symm⟩

/-- is it a valid fraction? -/
def okF (n d : Int) : Bool := within n (-1000000000) 1000000000 && within d 1 1000000000 && (Nat.gcd n.natAbs d.natAbs == 1)

/-- what Make answers: numerator, denominator, error. -/
def mkR (n d : Int) : Int × Int × Int :=
  if d = 0 then (0, 0, 11)
  else
    let g := Nat.gcd n.natAbs d.natAbs
    let a := n.natAbs / g
    let b := d.natAbs / g
    if 1000000000 < a ∨ 1000000000 < b then (0, 0, 4)
    else (if (decide (n < 0) != decide (d < 0)) = true then -(a : Int) else (a : Int), (b : Int), 0)

theorem mkR_zero (n : Int) : mkR n 0 = (0, 0, 11) := rfl
theorem mkR_big {n d : Int} {q1 q2 : Nat} (hd : ¬ d = 0) (h1 : n.natAbs / Nat.gcd n.natAbs d.natAbs = q1) (h2 : d.natAbs / Nat.gcd n.natAbs d.natAbs = q2) (h : (1000000000 : Int) < q1 ∨ (1000000000 : Int) < q2) : mkR n d = (0, 0, 4) := by
  subst h1; subst h2
  simp only [mkR, if_neg hd]
  rw [if_pos (by omega)]
theorem mkR_neg {n d : Int} {q1 q2 : Nat} (hd : ¬ d = 0) (h1 : n.natAbs / Nat.gcd n.natAbs d.natAbs = q1) (h2 : d.natAbs / Nat.gcd n.natAbs d.natAbs = q2) (h : ¬ ((1000000000 : Int) < q1 ∨ (1000000000 : Int) < q2)) (hs : (decide (n < 0) != decide (d < 0)) = true) : mkR n d = (-(q1 : Int), (q2 : Int), 0) := by
  subst h1; subst h2
  simp only [mkR, if_neg hd]
  rw [if_neg (by omega), if_pos hs]
theorem mkR_pos {n d : Int} {q1 q2 : Nat} (hd : ¬ d = 0) (h1 : n.natAbs / Nat.gcd n.natAbs d.natAbs = q1) (h2 : d.natAbs / Nat.gcd n.natAbs d.natAbs = q2) (h : ¬ ((1000000000 : Int) < q1 ∨ (1000000000 : Int) < q2)) (hs : (decide (n < 0) != decide (d < 0)) = false) : mkR n d = ((q1 : Int), (q2 : Int), 0) := by
  subst h1; subst h2
  simp only [mkR, if_neg hd]
  rw [if_neg (by omega), hs]; rfl

set_option maxHeartbeats 1000000 in
theorem make_any (n d : Int) (n0 : -9223372036854775808 ≤ n) (n1 : n ≤ 9223372036854775807) (d0 : -9223372036854775808 ≤ d) (d1 : d ≤ 9223372036854775807) (w : World) :
    Calls Try.prog 22 #[.int .i64 n, .int .i64 d] w fun e w' =>
      e = .returned (.tuple #[.agg #[.int .i64 (mkR n d).1, .int .i64 (mkR n d).2.1], .int .i64 (mkR n d).2.2]) ∧ Below w.heap.size w w' := by
  by_cases hd : d = 0
  · subst hd
    go_enter Try.func22, Try.ntmps22
    go_wp2
    go_returns
    refine ⟨rfl, ?_⟩
    repeat' (first | (with_reducible exact Below.refl _ _) | (with_reducible assumption) | (refine below_step (by assumption) ?_ ?_) | (with_reducible refine below_drewN ?_ _) | (with_reducible refine Below.drew ?_) | (with_reducible refine Below.alloc ?_ ?_ _) | (with_reducible refine Below.setCell ?_ ?_ _) | go_size)
  · have hg : 0 < Nat.gcd n.natAbs d.natAbs := Nat.gcd_pos_of_pos_right _ (by omega)
    obtain ⟨q1, hq1⟩ : ∃ q, n.natAbs / Nat.gcd n.natAbs d.natAbs = q := ⟨_, rfl⟩
    obtain ⟨q2, hq2⟩ : ∃ q, d.natAbs / Nat.gcd n.natAbs d.natAbs = q := ⟨_, rfl⟩
    have b1 : q1 ≤ n.natAbs := by rw [← hq1]; exact Nat.div_le_self _ _
    have b2 : q2 ≤ d.natAbs := by rw [← hq2]; exact Nat.div_le_self _ _
    have e1 : IntKind.u64.wrap ((n.natAbs : Int) / (Nat.gcd n.natAbs d.natAbs : Nat)) = q1 := by rw [← Int.natCast_ediv, hq1]; exact IntWalk.u64_in _ ⟨by omega, by omega⟩
    have e2 : IntKind.u64.wrap ((d.natAbs : Int) / (Nat.gcd n.natAbs d.natAbs : Nat)) = q2 := by rw [← Int.natCast_ediv, hq2]; exact IntWalk.u64_in _ ⟨by omega, by omega⟩
    have c1 : (q1 : Int) ≤ 9223372036854775808 := by omega
    have c2 : (q2 : Int) ≤ 9223372036854775808 := by omega
    have H1 := Lib.hid hq1; clear hq1
    have H2 := Lib.hid hq2; clear hq2
    clear b1 b2
    go_enter Try.func22, Try.ntmps22
    go_wp2_with (first | (go_at_call 67; refine (size_any _ (by omega) (by omega) _).mono ?_; rintro e w' ⟨rfl, rfl⟩) | (go_at_call 68; refine (divisor_any _ _ _).mono ?_; rintro e w' ⟨rfl, k, rfl⟩))
    go_quiet (fail)
    go_wp2
    all_goals (
      have h1 := H1.out
      have h2 := H2.out)
    all_goals go_returns
    all_goals first
      | (rw [mkR_big hd h1 h2 (by omega)]; refine ⟨rfl, ?_⟩; (repeat' (first | (with_reducible exact Below.refl _ _) | (with_reducible assumption) | (refine below_step (by assumption) ?_ ?_) | (with_reducible refine below_drewN ?_ _) | (with_reducible refine Below.drew ?_) | (with_reducible refine Below.alloc ?_ ?_ _) | (with_reducible refine Below.setCell ?_ ?_ _) | go_size)); done)
      | (rw [mkR_neg hd h1 h2 (by omega) ‹_›]; refine ⟨rfl, ?_⟩; (repeat' (first | (with_reducible exact Below.refl _ _) | (with_reducible assumption) | (refine below_step (by assumption) ?_ ?_) | (with_reducible refine below_drewN ?_ _) | (with_reducible refine Below.drew ?_) | (with_reducible refine Below.alloc ?_ ?_ _) | (with_reducible refine Below.setCell ?_ ?_ _) | go_size)); done)
      | (rw [mkR_pos hd h1 h2 (by omega) ‹_›]; refine ⟨rfl, ?_⟩; (repeat' (first | (with_reducible exact Below.refl _ _) | (with_reducible assumption) | (refine below_step (by assumption) ?_ ?_) | (with_reducible refine below_drewN ?_ _) | (with_reducible refine Below.drew ?_) | (with_reducible refine Below.alloc ?_ ?_ _) | (with_reducible refine Below.setCell ?_ ?_ _) | go_size)); done)

set_option maxHeartbeats 1000000 in
theorem refmake_any (n d : Int) (n0 : -9223372036854775808 ≤ n) (n1 : n ≤ 9223372036854775807) (d0 : -9223372036854775808 ≤ d) (d1 : d ≤ 9223372036854775807) (w : World) :
    Calls Try.prog 35 #[.int .i64 n, .int .i64 d] w fun e w' =>
      e = .returned (.tuple #[.agg #[.int .i64 (mkR n d).1, .int .i64 (mkR n d).2.1], .int .i64 (mkR n d).2.2]) ∧ Below w.heap.size w w' := by
  by_cases hd : d = 0
  · subst hd
    go_enter Try.func35, Try.ntmps35
    go_wp2
    go_returns
    refine ⟨rfl, ?_⟩
    repeat' (first | (with_reducible exact Below.refl _ _) | (with_reducible assumption) | (refine below_step (by assumption) ?_ ?_) | (with_reducible refine below_drewN ?_ _) | (with_reducible refine Below.drew ?_) | (with_reducible refine Below.alloc ?_ ?_ _) | (with_reducible refine Below.setCell ?_ ?_ _) | go_size)
  · have hg : 0 < Nat.gcd n.natAbs d.natAbs := Nat.gcd_pos_of_pos_right _ (by omega)
    obtain ⟨q1, hq1⟩ : ∃ q, n.natAbs / Nat.gcd n.natAbs d.natAbs = q := ⟨_, rfl⟩
    obtain ⟨q2, hq2⟩ : ∃ q, d.natAbs / Nat.gcd n.natAbs d.natAbs = q := ⟨_, rfl⟩
    have b1 : q1 ≤ n.natAbs := by rw [← hq1]; exact Nat.div_le_self _ _
    have b2 : q2 ≤ d.natAbs := by rw [← hq2]; exact Nat.div_le_self _ _
    have e1 : IntKind.u64.wrap ((n.natAbs : Int) / (Nat.gcd n.natAbs d.natAbs : Nat)) = q1 := by rw [← Int.natCast_ediv, hq1]; exact IntWalk.u64_in _ ⟨by omega, by omega⟩
    have e2 : IntKind.u64.wrap ((d.natAbs : Int) / (Nat.gcd n.natAbs d.natAbs : Nat)) = q2 := by rw [← Int.natCast_ediv, hq2]; exact IntWalk.u64_in _ ⟨by omega, by omega⟩
    have c1 : (q1 : Int) ≤ 9223372036854775808 := by omega
    have c2 : (q2 : Int) ≤ 9223372036854775808 := by omega
    have H1 := Lib.hid hq1; clear hq1
    have H2 := Lib.hid hq2; clear hq2
    clear b1 b2
    go_enter Try.func35, Try.ntmps35
    go_wp2_with (first | (go_at_call 77; refine (refsize_any _ (by omega) (by omega) _).mono ?_; rintro e w' ⟨rfl, rfl⟩) | (go_at_call 78; refine (gcd_any _ _ _).mono ?_; rintro e w' ⟨rfl, k, rfl⟩))
    go_wp2
    all_goals (
      have h1 := H1.out
      have h2 := H2.out)
    all_goals go_returns
    all_goals first
      | (rw [mkR_big hd h1 h2 (by omega)]; refine ⟨rfl, ?_⟩; (repeat' (first | (with_reducible exact Below.refl _ _) | (with_reducible assumption) | (refine below_step (by assumption) ?_ ?_) | (with_reducible refine below_drewN ?_ _) | (with_reducible refine Below.drew ?_) | (with_reducible refine Below.alloc ?_ ?_ _) | (with_reducible refine Below.setCell ?_ ?_ _) | go_size)); done)
      | (rw [mkR_neg hd h1 h2 (by omega) ‹_›]; refine ⟨rfl, ?_⟩; (repeat' (first | (with_reducible exact Below.refl _ _) | (with_reducible assumption) | (refine below_step (by assumption) ?_ ?_) | (with_reducible refine below_drewN ?_ _) | (with_reducible refine Below.drew ?_) | (with_reducible refine Below.alloc ?_ ?_ _) | (with_reducible refine Below.setCell ?_ ?_ _) | go_size)); done)
      | (rw [mkR_pos hd h1 h2 (by omega) ‹_›]; refine ⟨rfl, ?_⟩; (repeat' (first | (with_reducible exact Below.refl _ _) | (with_reducible assumption) | (refine below_step (by assumption) ?_ ?_) | (with_reducible refine below_drewN ?_ _) | (with_reducible refine Below.drew ?_) | (with_reducible refine Below.alloc ?_ ?_ _) | (with_reducible refine Below.setCell ?_ ?_ _) | go_size)); done)

set_option maxHeartbeats 1000000 in
theorem isFrac_any (n d : Int) (n0 : -9223372036854775808 ≤ n) (n1 : n ≤ 9223372036854775807) (d0 : -9223372036854775808 ≤ d) (d1 : d ≤ 9223372036854775807) (w : World) :
    Calls Try.prog 90 #[.agg #[.int .i64 n, .int .i64 d]] w fun e w' => e = .returned (.bool (okF n d)) ∧ Below w.heap.size w w' := by
  cases h1 : within n (-1000000000) 1000000000 with
  | false =>
    go_enter Try.func90, Try.ntmps90
    go_wp2
    go_quiet ((go_at_call 71; with_reducible exact quiet_left (isWithin_is h1 _)))
    go_wp2
    go_ret
    exact ⟨ret_bool (by simp [okF, h1]), by repeat' (first | (with_reducible exact Below.refl _ _) | (with_reducible assumption) | (refine below_step (by assumption) ?_ ?_) | (with_reducible refine below_drewN ?_ _) | (with_reducible refine Below.drew ?_) | (with_reducible refine Below.alloc ?_ ?_ _) | (with_reducible refine Below.setCell ?_ ?_ _) | go_size)⟩
  | true =>
    cases h2 : within d 1 1000000000 with
    | false =>
      go_enter Try.func90, Try.ntmps90
      go_wp2
      go_quiet ((go_at_call 71; first | with_reducible exact quiet_left (isWithin_is h1 _) | with_reducible exact quiet_left (isWithin_is h2 _)))
      go_wp2
      go_ret
      exact ⟨ret_bool (by simp [okF, h2]), by repeat' (first | (with_reducible exact Below.refl _ _) | (with_reducible assumption) | (refine below_step (by assumption) ?_ ?_) | (with_reducible refine below_drewN ?_ _) | (with_reducible refine Below.drew ?_) | (with_reducible refine Below.alloc ?_ ?_ _) | (with_reducible refine Below.setCell ?_ ?_ _) | go_size)⟩
    | true =>
      go_enter Try.func90, Try.ntmps90
      go_wp2
      go_quiet ((first | (go_at_call 71; first | with_reducible exact quiet_left (isWithin_is h1 _) | with_reducible exact quiet_left (isWithin_is h2 _)) | (go_at_call 67; exact quiet_left (size_any _ (by omega) (by omega) _)) | (go_at_call 68; exact Calls.quiet_of (divisor_any _ _ _))))
      go_wp2
      go_ret
      exact ⟨ret_bool (by simp only [okF, h1, h2]; exact Bool.eq_iff_iff.2 (by simp; omega)), by repeat' (first | (with_reducible exact Below.refl _ _) | (with_reducible assumption) | (refine below_step (by assumption) ?_ ?_) | (with_reducible refine below_drewN ?_ _) | (with_reducible refine Below.drew ?_) | (with_reducible refine Below.alloc ?_ ?_ _) | (with_reducible refine Below.setCell ?_ ?_ _) | go_size)⟩

end Go.Proofs.Ytdlmdaononclgaa
