import Derived.Test.YtdlmdaononclgaaMem
/- Valid positions, 2: the reference's rising; CheckPlaces in both. -/
namespace Go.Proofs.Ytdlmdaononclgaa
open Go.RowKit
set_option linter.unusedVariables false
set_option linter.unusedSimpArgs false

theorem OkP.lo {many most : Int} {xs : List Int} (h : OkP many most xs) : ∀ j, j < xs.length → 0 ≤ ix xs j := by
  intro j
  induction j with
  | zero => intro _; exact h.low
  | succ j ih => intro hj; have := ih (by omega); have := h.inc j (by omega); omega
theorem OkP.hi {many most : Int} {xs : List Int} (h : OkP many most xs) : ∀ i, i < xs.length → ix xs (xs.length - 1 - i) ≤ most := by
  intro i
  induction i with
  | zero => intro _; exact h.high
  | succ i ih =>
    intro hi
    have a := ih (by omega)
    have b := h.inc (xs.length - 1 - (i + 1)) (by omega)
    rw [show xs.length - 1 - (i + 1) + 1 = xs.length - 1 - i by omega] at b
    omega
theorem OkP.hi' {many most : Int} {xs : List Int} (h : OkP many most xs) (j : Nat) (hj : j < xs.length) : ix xs j ≤ most := by
  have := h.hi (xs.length - 1 - j) (by omega)
  rwa [show xs.length - 1 - (xs.length - 1 - j) = j by omega] at this

set_option maxHeartbeats 2000000 in
theorem rising_any (xs : List Int) (A : Option Addr) (c : Nat) (many most : Int) (w : World) (hc : xs.length ≤ c) (hm : c ≤ 9223372036854775807) {B : Nat} (h : RD w B A (ints xs)) :
    Calls Try.prog 76 #[.slice A xs.length c, .int .i64 many, .int .i64 most] w fun e w' => e = .returned (.bool (okP many most xs)) ∧ ∃ k, w' = w.drewN k := by
  by_cases n2 : 2 ≤ xs.length
  · obtain ⟨b, off, rfl, hb, hcell⟩ := h.ints (by omega)
    have HC := Lib.hid hcell; clear hcell
    clear h hb
    go_enter Try.func76, Try.ntmps76
    go_wp2
    · go_ret
      rw [okP_no (fun k => by have := k.two; have := k.many; omega)]
      exact ⟨rfl, 0, rfl⟩
    · have nm : (xs.length : Int) ≤ many := by omega
      go_loopw [7] (fun x wr => ∃ k q : Nat, k ≤ xs.length ∧ x = .int .i64 k ∧ wr = w.drewN q ∧ (∀ j : Nat, j < k → 0 ≤ ix xs j ∧ ix xs j ≤ most) ∧ ∀ j : Nat, j + 1 < k → ix xs j < ix xs (j + 1)) (fun x _ => xs.length - (intOf x).toNat)
      case atStart => exact ⟨0, 0, by omega, rfl, rfl, fun j hj => by omega, fun j hj => by omega⟩
      case round =>
        obtain ⟨k, q, hk, rfl, rfl, hr, hi⟩ := hrel
        have HR := Lib.hid hr; clear hr
        have HI := Lib.hid hi; clear hi
        by_cases hk' : k < xs.length
        · have y0 := HC.out k hk'
          by_cases c0 : ix xs k < 0
          · have d0 : decide (ix xs k < 0) = true := decide_eq_true c0
            go_wp2
            go_quiet (fail)
            go_wp2
            go_ret
            rw [okP_no (fun p => by have := p.lo k hk'; omega)]
            exact ⟨rfl, q + nq, by first | rfl | rw [World.drewN_drewN]⟩
          have d0 : decide (ix xs k < 0) = false := decide_eq_false c0
          by_cases c1 : most < ix xs k
          · have d1 : decide (most < ix xs k) = true := decide_eq_true c1
            go_wp2
            go_quiet (fail)
            go_wp2
            go_ret
            rw [okP_no (fun p => by have := p.hi' k hk'; omega)]
            exact ⟨rfl, q + nq, by first | rfl | rw [World.drewN_drewN]⟩
          have d1 : decide (most < ix xs k) = false := decide_eq_false c1
          by_cases c2 : k = 0
          · have d2 : decide (0 < (k : Int)) = false := decide_eq_false (by omega)
            have d5 : decide (0 < k) = false := decide_eq_false (by omega)
            have C2 := Lib.hid c2; clear c2
            go_wp2
            go_quiet (fail)
            go_wp2
            go_roundw
            case rel => have c2 := C2.out; exact ⟨k + 1, q + nq, by omega, by go_num, by first | rfl | rw [World.drewN_drewN], fun j hj => (by have e : j = k := (by omega); rw [e]; omega), fun j hj => by omega⟩
            case measure => simp [intOf]; omega
          · obtain ⟨m, rfl⟩ : ∃ m, k = m + 1 := ⟨k - 1, by omega⟩
            have d2 : decide (0 < ((m + 1 : Nat) : Int)) = true := decide_eq_true (by omega)
            have d3 : decide (0 < (m : Int) + 1) = true := decide_eq_true (by omega)
            have d5 : decide (0 < m + 1) = true := decide_eq_true (by omega)
            have y1 := HC.out m (by omega)
            by_cases c3 : ix xs (m + 1) ≤ ix xs m
            · have d4 : decide (ix xs (m + 1) ≤ ix xs m) = true := decide_eq_true c3
              go_wp2
              go_quiet (fail)
              go_wp2
              go_ret
              rw [okP_no (fun p => by have := p.inc m (by omega); omega)]
              exact ⟨rfl, q + nq, by first | rfl | rw [World.drewN_drewN]⟩
            · have d4 : decide (ix xs (m + 1) ≤ ix xs m) = false := decide_eq_false c3
              go_wp2
              go_quiet (fail)
              go_wp2
              go_roundw
              case rel => exact ⟨m + 1 + 1, q + nq, by omega, by go_num, by first | rfl | rw [World.drewN_drewN], fun j hj => (by rcases (by omega : j < m + 1 ∨ j = m + 1) with h | rfl; exact HR.out j h; omega), fun j hj => (by rcases (by omega : j + 1 < m + 1 ∨ j = m) with h | rfl; exact HI.out j h; omega)⟩
              case measure => simp [intOf]; omega
        · go_wp2
          go_ret
          rw [okP_mk ⟨by omega, by omega, (HR.out 0 (by omega)).1, (HR.out (xs.length - 1) (by omega)).2, fun j hj => HI.out j (by omega)⟩]
          exact ⟨rfl, q, rfl⟩
  · rw [okP_no (fun k => by have := k.two; omega)]
    go_enter Try.func76, Try.ntmps76
    go_wp2
    go_ret
    exact ⟨rfl, 0, rfl⟩

end Go.Proofs.Ytdlmdaononclgaa
