import Derived.Test.YtdlmdaononclgaaWtP
/- The reference's SameInts. -/
namespace Go.Proofs.Ytdlmdaononclgaa
open Go.RowKit
set_option linter.unusedVariables false
set_option linter.unusedSimpArgs false

theorem ix_ext {xs ys : List Int} (hl : xs.length = ys.length) (h : ∀ j, j < xs.length → ix xs j = ix ys j) : xs = ys := by
  apply List.ext_getElem hl
  intro j h1 h2
  have := h j h1
  simpa [ix, List.getD, List.getElem?_eq_getElem h1, List.getElem?_eq_getElem h2] using this
theorem ibne_false {a b : Int} (h : a = b) : (a != b) = false := by simp [h]
theorem ibne_true {a b : Int} (h : ¬ a = b) : (a != b) = true := by simpa using h

set_option maxHeartbeats 1000000 in
theorem SameInts_any (xs ys : List Int) (A : Option Addr) (c : Nat) (A2 : Option Addr) (c2 : Nat) (hc : xs.length ≤ c) (hm : c ≤ 9223372036854775807) (hc2 : ys.length ≤ c2) (hm2 : c2 ≤ 9223372036854775807) (w : World) {B B2 : Nat} (h : RD w B A (ints xs)) (h2 : RD w B2 A2 (ints ys)) :
    Calls Try.prog 15 #[.slice A xs.length c, .slice A2 ys.length c2] w fun e w' => e = .returned (.bool (decide (xs = ys))) ∧ ∃ k, w' = w.drewN k := by
  have H1 := Lib.hid h
  have H2 := Lib.hid h2
  clear h h2
  by_cases hl : xs.length = ys.length
  · have e1 : (((xs.length : Int) != (ys.length : Int)) = false) := ibne_false (by omega)
    have e2 : (xs.length != ys.length) = false := by simp [hl]
    have HL := Lib.hid hl
    clear hl
    go_enter Try.func15, Try.ntmps15
    go_wp2
    go_loopw [5] (fun v wr => ∃ k q : Nat, k ≤ xs.length ∧ v = .int .i64 k ∧ wr = w.drewN q ∧ ∀ j, j < k → ix xs j = ix ys j) (fun v _ => xs.length - (intOf v).toNat)
    case atStart => exact ⟨0, 0, by omega, rfl, rfl, fun j hj => by omega⟩
    case round =>
      obtain ⟨k, q, hk, rfl, rfl, hlt⟩ := hrel
      have HLT := Lib.hid hlt; clear hlt
      by_cases hk' : k < xs.length
      · obtain ⟨b, off, rfl, hb, hcell⟩ := H1.out.ints (by omega)
        obtain ⟨b2, off2, rfl, hb2, hcell2⟩ := H2.out.ints (by have := HL.out; omega)
        have hky : k < ys.length := by have := HL.out; omega
        have y0 := hcell k hk'
        have y1 := hcell2 k hky
        clear hcell hcell2
        by_cases he : ix xs k = ix ys k
        · have d0 := ibne_false he
          have HE := Lib.hid he
          clear he
          go_wp2
          go_quiet (fail)
          go_wp2
          go_roundw
          case rel => exact ⟨k + 1, q + nq, by omega, by go_num, by first | rfl | rw [World.drewN_drewN], fun j hj => (by rcases (by omega : j < k ∨ j = k) with h | rfl; exact HLT.out j h; exact HE.out)⟩
          case measure => simp [intOf]; omega
        · have d0 := ibne_true he
          have HE := Lib.hid he
          clear he
          go_wp2
          go_quiet (fail)
          go_wp2
          go_ret
          exact ⟨ret_bool (decide_eq_false (fun e => HE.out (by rw [e]))).symm, q + nq, by first | rfl | rw [World.drewN_drewN]⟩
      · go_wp2
        go_ret
        exact ⟨ret_bool (decide_eq_true (ix_ext HL.out (fun j hj => HLT.out j (by omega)))).symm, q, rfl⟩
  · have e1 : (((xs.length : Int) != (ys.length : Int)) = true) := ibne_true (by omega)
    have e2 : (xs.length != ys.length) = true := by simpa using hl
    have HL := Lib.hid hl
    clear hl
    go_enter Try.func15, Try.ntmps15
    go_wp2
    go_ret
    exact ⟨ret_bool (decide_eq_false (fun e => HL.out (by rw [e]))).symm, 0, rfl⟩

theorem SameInts_is {xs ys : List Int} {r : Bool} (hr : decide (xs = ys) = r) (A : Option Addr) (c : Nat) (A2 : Option Addr) (c2 : Nat) (hc : xs.length ≤ c) (hm : c ≤ 9223372036854775807) (hc2 : ys.length ≤ c2) (hm2 : c2 ≤ 9223372036854775807) (w : World) {B B2 : Nat} (h : RD w B A (ints xs)) (h2 : RD w B2 A2 (ints ys)) :
    Calls Try.prog 15 #[.slice A xs.length c, .slice A2 ys.length c2] w fun e w' => e = .returned (.bool r) ∧ ∃ k, w' = w.drewN k := by
  subst hr; exact SameInts_any xs ys A c A2 c2 hc hm hc2 hm2 w h h2

end Go.Proofs.Ytdlmdaononclgaa
