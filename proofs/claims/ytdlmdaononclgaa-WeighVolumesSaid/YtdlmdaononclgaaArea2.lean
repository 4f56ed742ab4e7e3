import Derived.Test.YtdlmdaononclgaaMoment
/- checkOrdinates, Weights, Area, Moment, Centre. -/
namespace Go.Proofs.Ytdlmdaononclgaa
open Go.RowKit
set_option linter.unusedVariables false
set_option linter.unusedSimpArgs false

/-- outside of -20000 .. 20000. -/
def badO (n : Int) : Bool := !within n (-20000) 20000
/-- the error of positions and ordinates. -/
def ordE (xs ys : List Int) : Int := if okP 9 100000 xs = true then (if ys.length = xs.length then (if anyB badO ys = true then 1 else 0) else 1) else 12

theorem badO_pred : Pred 105 badO := by
  intro x W
  cases h : within x (-20000) 20000 with
  | false =>
    go_enter Try.func105, Try.ntmps105
    go_wp2_with (go_at_call 71; (with_reducible refine (isWithin_is h _).mono ?_); rintro e w' ⟨rfl, rfl⟩)
    go_ret
    exact ⟨ret_bool (by simp [badO, h]), rfl⟩
  | true =>
    go_enter Try.func105, Try.ntmps105
    go_wp2_with (go_at_call 71; (with_reducible refine (isWithin_is h _).mono ?_); rintro e w' ⟨rfl, rfl⟩)
    go_ret
    exact ⟨ret_bool (by simp [badO, h]), rfl⟩

theorem neq_beq {n m : Nat} (h : n ≠ m) : (((n : Int) != (m : Int)) = true) := by simp [bne_iff_ne]; omega

set_option maxHeartbeats 1000000 in
theorem checkOrd_any (xs ys : List Int) (A : Option Addr) (c : Nat) (A2 : Option Addr) (c2 : Nat) (hc : xs.length ≤ c) (hm : c ≤ 9223372036854775807) (hc2 : ys.length ≤ c2) (hm2 : c2 ≤ 9223372036854775807) (w : World) {B B2 : Nat} (h : RD w B A (ints xs)) (h2 : RD w B2 A2 (ints ys)) :
    Calls Try.prog 64 #[.slice A xs.length c, .slice A2 ys.length c2] w fun e w' => e = .returned (.int .i64 (ordE xs ys)) ∧ w = w' := by
  have eg : ∀ args w, (callFunc 105 args).run Try.prog w = .ok (.enter 105 args) w := enters_of Try.func105 (by kernel_rfl) rfl
  have EG := Lib.hid eg
  clear eg
  cases hp : okP 9 100000 xs with
  | false =>
    have hr : ordE xs ys = 12 := by simp [ordE, hp]
    rw [hr]
    go_enter Try.func64, Try.ntmps64
    go_wp2_with (go_at_call 31; (with_reducible refine (CheckPlaces_no hp A c _ hc hm h).mono ?_); rintro e w' ⟨rfl, rfl⟩)
    go_ret
    exact ⟨rfl, rfl⟩
  | true =>
    by_cases hl : ys.length = xs.length
    · cases ha : anyB badO ys with
      | true =>
        have hr : ordE xs ys = 1 := by simp [ordE, hp, hl, ha]
        rw [hr]
        have e1 : (((ys.length : Int) != (xs.length : Int)) = false) := by simp [hl]
        have HL := Lib.hid hl
        clear hl hr
        go_enter Try.func64, Try.ntmps64
        go_wp2_with (first | (go_at_call 31; (with_reducible refine (CheckPlaces_yes hp A c _ hc hm h).mono ?_); rintro e w' ⟨rfl, rfl⟩) | (go_at_call 101; (with_reducible refine (ContainsFunc_is _ EG.out badO_pred ha A2 c2 _ hc2 hm2 h2).mono ?_); rintro e w' ⟨rfl, rfl⟩))
        go_ret
        exact ⟨rfl, rfl⟩
      | false =>
        have hr : ordE xs ys = 0 := by simp [ordE, hp, hl, ha]
        rw [hr]
        have e1 : (((ys.length : Int) != (xs.length : Int)) = false) := by simp [hl]
        have HL := Lib.hid hl
        clear hl hr
        go_enter Try.func64, Try.ntmps64
        go_wp2_with (first | (go_at_call 31; (with_reducible refine (CheckPlaces_yes hp A c _ hc hm h).mono ?_); rintro e w' ⟨rfl, rfl⟩) | (go_at_call 101; (with_reducible refine (ContainsFunc_is _ EG.out badO_pred ha A2 c2 _ hc2 hm2 h2).mono ?_); rintro e w' ⟨rfl, rfl⟩))
        go_ret
        exact ⟨rfl, rfl⟩
    · have hr : ordE xs ys = 1 := by simp [ordE, hp, hl]
      rw [hr]
      have e1 := neq_beq hl
      have HL := Lib.hid hl
      clear hl hr
      go_enter Try.func64, Try.ntmps64
      go_wp2_with (first | (go_at_call 31; (with_reducible refine (CheckPlaces_yes hp A c _ hc hm h).mono ?_); rintro e w' ⟨rfl, rfl⟩))
      go_ret
      exact ⟨rfl, rfl⟩

end Go.Proofs.Ytdlmdaononclgaa
