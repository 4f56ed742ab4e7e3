import Derived.Test.YtdlmdaononclgaaExactP
import Derived.Test.YtdlmdaononclgaaRefA
import Derived.Deep.CutRange
/- The law's functions added and integral. -/
namespace Go.Proofs.Ytdlmdaononclgaa
open Go.RowKit
set_option linter.unusedVariables false
set_option linter.unusedSimpArgs false

theorem cells_new3 (w : World) (a b c : Value) (t : TypeId) : (w.alloc (.cells #[a, b, c] t)).cell? ⟨w.heap.size, 0, none⟩ = some a ∧ (w.alloc (.cells #[a, b, c] t)).cell? ⟨w.heap.size, 1, none⟩ = some b ∧ (w.alloc (.cells #[a, b, c] t)).cell? ⟨w.heap.size, 2, none⟩ = some c := by
  refine ⟨?_, ?_, ?_⟩ <;> (rw [cell_of_row _ w.heap.size _ _ _ _ (heap_alloc_new w _)]; rfl)

set_option maxHeartbeats 1000000 in
theorem integral_any (a b c x y : Int) (ha : -9 ≤ a ∧ a ≤ 9) (hb : -9 ≤ b ∧ b ≤ 9) (hc : -9 ≤ c ∧ c ≤ 9) (hx : 0 ≤ x ∧ x ≤ 100000) (hy : 0 ≤ y ∧ y ≤ 100000) (w : World) :
    Calls Try.prog 34 #[.agg #[.int .i64 a, .int .i64 b, .int .i64 c], .int .i64 x, .int .i64 y] w fun e w' => e = .returned (.int .i64 (integ a b c x y)) ∧ Below w.heap.size w w' := by
  obtain ⟨a0, a1⟩ := ha
  obtain ⟨b0, b1⟩ := hb
  obtain ⟨c0, c1⟩ := hc
  obtain ⟨x0, x1⟩ := hx
  obtain ⟨y0, y1⟩ := hy
  obtain ⟨xx0, xx1⟩ := mulbd (x := x) (y := x) (M := 100000) (N := 100000) (by omega) (by omega) (by omega) (by omega)
  obtain ⟨yy0, yy1⟩ := mulbd (x := y) (y := y) (M := 100000) (N := 100000) (by omega) (by omega) (by omega) (by omega)
  obtain ⟨xxx0, xxx1⟩ := mulbd (x := x * x) (y := x) (M := 10000000000) (N := 100000) (by omega) (by omega) (by omega) (by omega)
  obtain ⟨yyy0, yyy1⟩ := mulbd (x := y * y) (y := y) (M := 10000000000) (N := 100000) (by omega) (by omega) (by omega) (by omega)
  obtain ⟨p0, p1⟩ := mulbd (x := 36 * a) (y := y - x) (M := 324) (N := 100000) (by omega) (by omega) (by omega) (by omega)
  obtain ⟨q0, q1⟩ := mulbd (x := 18 * b) (y := y * y - x * x) (M := 162) (N := 20000000000) (by omega) (by omega) (by omega) (by omega)
  obtain ⟨r0, r1⟩ := mulbd (x := 12 * c) (y := y * y * y - x * x * x) (M := 108) (N := 2000000000000000) (by omega) (by omega) (by omega) (by omega)
  have e1 : IntKind.i64.wrap (x * x) = x * x := IntWalk.i64_in _ ⟨by omega, by omega⟩
  have e2 : IntKind.i64.wrap (y * y) = y * y := IntWalk.i64_in _ ⟨by omega, by omega⟩
  have e3 : IntKind.i64.wrap (x * x * x) = x * x * x := IntWalk.i64_in _ ⟨by omega, by omega⟩
  have e4 : IntKind.i64.wrap (y * y * y) = y * y * y := IntWalk.i64_in _ ⟨by omega, by omega⟩
  have e5 : IntKind.i64.wrap (y * y - x * x) = y * y - x * x := IntWalk.i64_in _ ⟨by omega, by omega⟩
  have e6 : IntKind.i64.wrap (y * y * y - x * x * x) = y * y * y - x * x * x := IntWalk.i64_in _ ⟨by omega, by omega⟩
  have e7 : IntKind.i64.wrap (36 * a * (y - x)) = 36 * a * (y - x) := IntWalk.i64_in _ ⟨by omega, by omega⟩
  have e8 : IntKind.i64.wrap (18 * b * (y * y - x * x)) = 18 * b * (y * y - x * x) := IntWalk.i64_in _ ⟨by omega, by omega⟩
  have e9 : IntKind.i64.wrap (12 * c * (y * y * y - x * x * x)) = 12 * c * (y * y * y - x * x * x) := IntWalk.i64_in _ ⟨by omega, by omega⟩
  have e10 : IntKind.i64.wrap (36 * a * (y - x) + 18 * b * (y * y - x * x)) = 36 * a * (y - x) + 18 * b * (y * y - x * x) := IntWalk.i64_in _ ⟨by omega, by omega⟩
  have e11 : IntKind.i64.wrap (36 * a * (y - x) + 18 * b * (y * y - x * x) + 12 * c * (y * y * y - x * x * x)) = 36 * a * (y - x) + 18 * b * (y * y - x * x) + 12 * c * (y * y * y - x * x * x) := IntWalk.i64_in _ ⟨by omega, by omega⟩
  clear xx0 xx1 yy0 yy1 xxx0 xxx1 yyy0 yyy1 p0 p1 q0 q1 r0 r1
  go_enter Try.func34, Try.ntmps34
  go_wp2
  go_ret
  exact ⟨rfl, by repeat' (first | (with_reducible exact Below.refl _ _) | (with_reducible assumption) | (refine below_step (by assumption) ?_ ?_) | (with_reducible refine below_drewN ?_ _) | (with_reducible refine Below.drew ?_) | (with_reducible refine Below.alloc ?_ ?_ _) | (with_reducible refine Below.setCell ?_ ?_ _) | go_size)⟩

set_option maxHeartbeats 2000000 in
theorem added_any (ws xs : List Int) (a b c : Int) (n : Nat) (hw : ws.length = n) (hx : xs.length = n) (ha : -9 ≤ a ∧ a ≤ 9) (hb : -9 ≤ b ∧ b ≤ 9) (hc : -9 ≤ c ∧ c ≤ 9) (hxb : ∀ j, 0 ≤ ix xs j ∧ ix xs j ≤ 100000) (hs : sA ws n ≤ 5000000)
    (A : Option Addr) (cA : Nat) (A2 : Option Addr) (cA2 : Nat) (hcA : n ≤ cA) (hmA : cA ≤ 9223372036854775807) (hcA2 : n ≤ cA2) (hmA2 : cA2 ≤ 9223372036854775807) (w : World) (h : RD w w.heap.size A (ints ws)) (h2 : RD w w.heap.size A2 (ints xs)) :
    Calls Try.prog 33 #[.slice A n cA, .slice A2 n cA2, .agg #[.int .i64 a, .int .i64 b, .int .i64 c]] w fun e w' => e = .returned (.int .i64 (sm ws (fun i => poly a b c (ix xs i)) n)) ∧ Below w.heap.size w w' := by
  have HB := Lib.hid (sm_small (ws := ws) (xs := xs) ha hb hc hxb hs)
  have HX := Lib.hid hxb
  have HA := Lib.hid ha
  have HBb := Lib.hid hb
  have HC := Lib.hid hc
  have HS := Lib.hid hs
  have H1 := Lib.hid h
  have H2 := Lib.hid h2
  have HW := Lib.hid hw
  have HXL := Lib.hid hx
  clear ha hb hc hxb hs h h2 hw hx
  go_enter Try.func33, Try.ntmps33
  go_upto_region 1 with fail
  generalize hw1 : w.alloc (.cells #[.int .i64 a, .int .i64 b, .int .i64 c] 53) = w1
  obtain ⟨k0, k1, k2⟩ := cells_new3 w (.int .i64 a) (.int .i64 b) (.int .i64 c) 53
  rw [hw1] at k0 k1 k2
  have hbl : Below w.heap.size w w1 := by rw [← hw1]; repeat' (first | (with_reducible exact Below.refl _ _) | (with_reducible assumption) | (refine below_step (by assumption) ?_ ?_) | (with_reducible refine below_drewN ?_ _) | (with_reducible refine Below.drew ?_) | (with_reducible refine Below.alloc ?_ ?_ _) | (with_reducible refine Below.setCell ?_ ?_ _) | go_size)
  have hsz : w.heap.size < w1.heap.size := by rw [← hw1]; simp
  have HB1 := Lib.hid hbl
  clear hbl hw1
  go_wp2
  go_loopw [7, 8] (fun s x wr => ∃ k q : Nat, k ≤ n ∧ x = .int .i64 k ∧ s = .int .i64 (sm ws (fun i => poly a b c (ix xs i)) k) ∧ wr = w1.drewN q) (fun _ x _ => n - (intOf x).toNat)
  case atStart => exact ⟨0, 0, by omega, rfl, rfl, rfl⟩
  case round =>
    obtain ⟨k, q, hk, rfl, rfl, rfl⟩ := hrel
    by_cases hk' : k < n
    · obtain ⟨b1, off1, rfl, hb1, hcell1⟩ := H1.out.ints (by have := HW.out; omega)
      obtain ⟨b2, off2, rfl, hb2, hcell2⟩ := H2.out.ints (by have := HXL.out; omega)
      have y0 := (HB1.out.cell (p := ⟨b1, off1 + k, none⟩) hb1).trans (hcell1 k (by have := HW.out; omega))
      have y1 := (HB1.out.cell (p := ⟨b2, off2 + k, none⟩) hb2).trans (hcell2 k (by have := HXL.out; omega))
      have l1 : b1 < w1.heap.size := by omega
      have l2 : b2 < w1.heap.size := by omega
      obtain ⟨u0, u1⟩ := HX.out k
      obtain ⟨a0, a1⟩ := HA.out
      obtain ⟨b0, b11⟩ := HBb.out
      obtain ⟨c0, c1⟩ := HC.out
      obtain ⟨p0, p1⟩ := mulbd (x := b) (y := ix xs k) (M := 9) (N := 100000) (by omega) (by omega) (by omega) (by omega)
      obtain ⟨q0, q1⟩ := mulbd (x := c) (y := ix xs k) (M := 9) (N := 100000) (by omega) (by omega) (by omega) (by omega)
      obtain ⟨r0, r1⟩ := mulbd (x := c * ix xs k) (y := ix xs k) (M := 900000) (N := 100000) (by omega) (by omega) (by omega) (by omega)
      have hsA := sA_at ws (n := n) (j := k) hk'
      have hS5 := HS.out
      obtain ⟨s0, s1⟩ := mulbd (x := ix ws k) (y := a + b * ix xs k + c * ix xs k * ix xs k) (M := 5000000) (N := 90000900009) (by omega) (by omega) (by omega) (by omega)
      obtain ⟨t0, t1⟩ := HB.out k (by omega)
      have e1 : IntKind.i64.wrap (b * ix xs k) = b * ix xs k := IntWalk.i64_in _ ⟨by omega, by omega⟩
      have e2 : IntKind.i64.wrap (a + b * ix xs k) = a + b * ix xs k := IntWalk.i64_in _ ⟨by omega, by omega⟩
      have e3 : IntKind.i64.wrap (c * ix xs k) = c * ix xs k := IntWalk.i64_in _ ⟨by omega, by omega⟩
      have e4 : IntKind.i64.wrap (c * ix xs k * ix xs k) = c * ix xs k * ix xs k := IntWalk.i64_in _ ⟨by omega, by omega⟩
      have e5 : IntKind.i64.wrap (a + b * ix xs k + c * ix xs k * ix xs k) = a + b * ix xs k + c * ix xs k * ix xs k := IntWalk.i64_in _ ⟨by omega, by omega⟩
      have e6 : IntKind.i64.wrap (ix ws k * (a + b * ix xs k + c * ix xs k * ix xs k)) = ix ws k * (a + b * ix xs k + c * ix xs k * ix xs k) := IntWalk.i64_in _ ⟨by omega, by omega⟩
      have e7 : IntKind.i64.wrap (sm ws (fun i => poly a b c (ix xs i)) k + ix ws k * (a + b * ix xs k + c * ix xs k * ix xs k)) = sm ws (fun i => poly a b c (ix xs i)) k + ix ws k * (a + b * ix xs k + c * ix xs k * ix xs k) := IntWalk.i64_in _ ⟨by omega, by omega⟩
      clear hcell1 hcell2 p0 p1 q0 q1 r0 r1 s0 s1 t0 t1 a0 a1 b0 b11 c0 c1 u0 u1 hsA hS5
      go_wp2
      go_quiet (fail)
      go_wp2
      go_roundw
      case rel => exact ⟨k + 1, q + nq, by omega, by go_num, rfl, by first | rfl | rw [World.drewN_drewN]⟩
      case measure => simp [intOf]; omega
    · obtain rfl : k = n := by omega
      go_wp2
      go_ret
      exact ⟨rfl, below_drewN HB1.out _⟩

end Go.Proofs.Ytdlmdaononclgaa
