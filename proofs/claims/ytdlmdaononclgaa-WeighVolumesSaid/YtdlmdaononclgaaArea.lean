import Derived.Test.YtdlmdaononclgaaWt3
import Derived.Test.YtdlmdaononclgaaApp
/- area and moment; Weights. -/
namespace Go.Proofs.Ytdlmdaononclgaa
open Go.RowKit
set_option linter.unusedVariables false
set_option linter.unusedSimpArgs false

/-- the sum of the first k products. -/
def dotK (ws ys : List Int) : Nat → Int
  | 0 => 0
  | k + 1 => dotK ws ys k + ix ws k * ix ys k
theorem mulbd {x y M N : Int} (a : -M ≤ x ∧ x ≤ M) (b : -N ≤ y ∧ y ≤ N) (hM : 0 ≤ M) (hN : 0 ≤ N) : -(M * N) ≤ x * y ∧ x * y ≤ M * N := by
  have h : (x * y).natAbs ≤ M.natAbs * N.natAbs := by rw [Int.natAbs_mul]; exact Nat.mul_le_mul (by omega) (by omega)
  have e : ((M.natAbs * N.natAbs : Nat) : Int) = M * N := by rw [Int.natCast_mul]; congr 1 <;> omega
  omega
theorem dotK_bd {ws ys : List Int} {M : Int} (hM : 0 ≤ M) (h : ∀ k, -M ≤ ix ws k * ix ys k ∧ ix ws k * ix ys k ≤ M) : ∀ k : Nat, -(M * k) ≤ dotK ws ys k ∧ dotK ws ys k ≤ M * k
  | 0 => by simp [dotK]
  | k + 1 => by
    have a := dotK_bd hM h k
    have b := h k
    rw [dotK, show ((k + 1 : Nat) : Int) = (k : Int) + 1 by omega, Int.mul_add]
    omega

theorem weightsZ_length (xs : List Int) : (weightsZ xs).length = xs.length := wtAcc_length xs _
theorem weightsZ_bd {most : Int} {xs : List Int} (hP : OkP 9 most xs) (hm : most ≤ 100000) (j : Nat) : -180000000 ≤ ix (weightsZ xs) j ∧ ix (weightsZ xs) j ≤ 180000000 := by
  have a := wtAcc_bd hP hm _ (Nat.le_refl _) j
  have b := groups_length xs
  have c := hP.many
  unfold weightsZ
  omega

set_option maxHeartbeats 1000000 in
theorem area_any (xs ys : List Int) (A : Option Addr) (c : Nat) (A2 : Option Addr) (c2 : Nat) (hP : OkP 9 100000 xs) (hc : xs.length ≤ c) (hm : c ≤ 9223372036854775807) (w : World) (h : RD w w.heap.size A (ints xs))
    (hl : ys.length = xs.length) (hc2 : ys.length ≤ c2) (hy : ∀ j, -2000000000 ≤ ix ys j ∧ ix ys j ≤ 2000000000) (h2 : RD w w.heap.size A2 (ints ys)) :
    Calls Try.prog 65 #[.slice A xs.length c, .slice A2 ys.length c2] w fun e w' => e = .returned (.int .i64 (dotK (weightsZ xs) ys xs.length)) ∧ Below w.heap.size w w' := by
  have HL := Lib.hid hl
  have hn9 := hP.many
  have hn2 := hP.two
  have hp := fun k => mulbd (weightsZ_bd hP (by omega) k) (hy k) (by omega) (by omega)
  have hd := dotK_bd (ws := weightsZ xs) (ys := ys) (M := 180000000 * 2000000000) (by omega) hp
  have HPB := Lib.hid hp
  have HDB := Lib.hid hd
  have HW := Lib.hid (weightsZ_length xs)
  have hle : xs.length ≤ ys.length := by omega
  clear hl hp hd hy
  go_enter Try.func65, Try.ntmps65
  go_wp2_with (go_at_call 59; (with_reducible refine (weights_any xs A c hP hc hm _ h).mono ?_); rintro e w1 ⟨g, rfl, hg, har, hb1⟩)
  have hwl : (weightsZ xs).length ≤ 9 := by have := HW.out; omega
  have HAR := Lib.hid har
  have HB1 := Lib.hid hb1
  clear har hb1
  go_wp2
  go_loop [5, 11] (fun s x => ∃ k : Nat, k ≤ (weightsZ xs).length ∧ x = .int .i64 k ∧ s = .int .i64 (dotK (weightsZ xs) ys k)) (fun _ x => (weightsZ xs).length - (intOf x).toNat)
  case atStart => exact ⟨0, by omega, rfl, rfl⟩
  case round =>
    obtain ⟨k, hk, rfl, rfl⟩ := hrel
    by_cases hk' : k < (weightsZ xs).length
    · have hky : k < ys.length := by have := HW.out; omega
      obtain ⟨b2, off2, rfl, hb2, hcell2⟩ := h2.ints (by omega)
      have y0 := HAR.out.cell hk'
      have y1 := (HB1.out.cell (p := ⟨b2, off2 + k, none⟩) hb2).trans (hcell2 k hky)
      obtain ⟨p0, p1⟩ := HPB.out k
      obtain ⟨q0, q1⟩ := HDB.out k
      have q2 : -3240000000000000000 ≤ dotK (weightsZ xs) ys k := by omega
      have q3 : dotK (weightsZ xs) ys k ≤ 3240000000000000000 := by omega
      clear hcell2 h h2 q0 q1
      go_wp2
      go_round
      case rel => exact ⟨k + 1, by omega, by go_num, rfl⟩
      case measure => simp [intOf]; omega
    · go_wp2
      go_ret
      have e : k = xs.length := by have := HW.out; omega
      exact ⟨by rw [← e]; rfl, HB1.out⟩

end Go.Proofs.Ytdlmdaononclgaa
