import Derived.Test.YtdlmdaononclgaaRefC
import Derived.Test.YtdlmdaononclgaaSane
/- WeighAreas: the walk. -/
namespace Go.Proofs.Ytdlmdaononclgaa
open Go.RowKit
set_option linter.unusedVariables false
set_option linter.unusedSimpArgs false

set_option maxHeartbeats 4000000 in
set_option maxRecDepth 100000 in
theorem weighAreas_walk (xs ys : List Int) (A : Option Addr) (c : Nat) (A2 : Option Addr) (c2 : Nat) (about : Int) (hc : xs.length ≤ c) (hm : c ≤ 17592186043904) (hc2 : ys.length ≤ c2) (hm2 : c2 ≤ 17592186043904) (w : World) (h : RD w w.heap.size A (ints xs)) (h2 : RD w w.heap.size A2 (ints ys)) :
    Calls Try.prog 5 #[.slice A xs.length c, .slice A2 ys.length c2, .int .i64 about] w fun e w' => e = .returned (.bool true) ∧ Below w.heap.size w w' := by
  have hm' : c ≤ 9223372036854775807 := by omega
  have hm2' : c2 ≤ 9223372036854775807 := by omega
  have hk : ∀ W, Below w.heap.size w W → RD W W.heap.size A (ints xs) ∧ RD W W.heap.size A2 (ints ys) := fun W hb => ⟨(h.keep hb (Nat.le_refl _)).more hb.size, (h2.keep hb (Nat.le_refl _)).more hb.size⟩
  obtain ⟨a, e1, ha⟩ : ∃ a e, areaR xs ys = (a, e) := ⟨_, _, rfl⟩
  obtain ⟨m, e2, hmo⟩ : ∃ a e, momR xs ys about = (a, e) := ⟨_, _, rfl⟩
  obtain ⟨p, q, e3, hce⟩ : ∃ p q e, cenR xs ys = (p, q, e) := ⟨_, _, _, rfl⟩
  have P1 : Hid (∀ W, Below w.heap.size w W → Calls Try.prog 20 #[.slice A xs.length c, .slice A2 ys.length c2] W fun e w' => e = .returned (.tuple #[.int .i64 a, .int .i64 e1]) ∧ Below W.heap.size W w') :=
    Lib.hid (fun W hb => by have := Area_any xs ys A c A2 c2 hc hm' hc2 hm2' W (hk W hb).1 (hk W hb).2; rw [ha] at this; exact this)
  have R1 : Hid (∀ W, Below w.heap.size w W → Calls Try.prog 23 #[.slice A xs.length c, .slice A2 ys.length c2] W fun e w' => e = .returned (.tuple #[.int .i64 a, .int .i64 e1]) ∧ Below W.heap.size W w') :=
    Lib.hid (fun W hb => by have := refArea_any xs ys A c A2 c2 hc hm' hc2 hm2' W (hk W hb).1 (hk W hb).2; rw [ha] at this; exact this)
  have P2 : Hid (∀ W, Below w.heap.size w W → Calls Try.prog 24 #[.slice A xs.length c, .slice A2 ys.length c2, .int .i64 about] W fun e w' => e = .returned (.tuple #[.int .i64 m, .int .i64 e2]) ∧ Below W.heap.size W w') :=
    Lib.hid (fun W hb => by have := Moment_any xs ys A c A2 c2 hc hm' hc2 hm2' W (hk W hb).1 (hk W hb).2 about; rw [hmo] at this; exact this)
  have R2 : Hid (∀ W, Below w.heap.size w W → Calls Try.prog 25 #[.slice A xs.length c, .slice A2 ys.length c2, .int .i64 about] W fun e w' => e = .returned (.tuple #[.int .i64 m, .int .i64 e2]) ∧ Below W.heap.size W w') :=
    Lib.hid (fun W hb => by have := refMoment_any xs ys A c A2 c2 hc hm' hc2 hm2' about W (hk W hb).1 (hk W hb).2; rw [hmo] at this; exact this)
  have P3 : Hid (∀ W, Below w.heap.size w W → Calls Try.prog 21 #[.slice A xs.length c, .slice A2 ys.length c2] W fun e w' => e = .returned (.tuple #[.agg #[.int .i64 p, .int .i64 q], .int .i64 e3]) ∧ Below W.heap.size W w') :=
    Lib.hid (fun W hb => by have := Centre_any xs ys A c A2 c2 hc hm' hc2 hm2' W (hk W hb).1 (hk W hb).2; rw [hce] at this; exact this)
  have R3 : Hid (∀ W, Below w.heap.size w W → Calls Try.prog 26 #[.slice A xs.length c, .slice A2 ys.length c2] W fun e w' => e = .returned (.tuple #[.agg #[.int .i64 p, .int .i64 q], .int .i64 e3]) ∧ Below W.heap.size W w') :=
    Lib.hid (fun W hb => by have := refCentre_any xs ys A c A2 c2 hc hm' hc2 hm2' W (hk W hb).1 (hk W hb).2; rw [hce] at this; exact this)
  clear ha hmo hce hk h h2
  go_enter Try.func5, Try.ntmps5
  go_wp2_with fail
  refine (P1.out _ (Below.refl _ _)).mono ?_
  rintro e w1 ⟨rfl, hb1⟩
  have B1 := Lib.hid hb1
  clear hb1
  go_wp2_with fail
  refine (R1.out _ B1.out).mono ?_
  rintro e w2 ⟨rfl, hb2⟩
  have B2 := Lib.hid (below_step hb2 B1.out B1.out.size)
  clear hb2 B1
  go_wp2_with fail
  refine (P2.out _ B2.out).mono ?_
  rintro e w3 ⟨rfl, hb3⟩
  have B3 := Lib.hid (below_step hb3 B2.out B2.out.size)
  clear hb3 B2
  go_wp2_with fail
  refine (R2.out _ B3.out).mono ?_
  rintro e w4 ⟨rfl, hb4⟩
  have B4 := Lib.hid (below_step hb4 B3.out B3.out.size)
  clear hb4 B3
  go_wp2_with fail
  refine (P3.out _ B4.out).mono ?_
  rintro e w5 ⟨rfl, hb5⟩
  have B5 := Lib.hid (below_step hb5 B4.out B4.out.size)
  clear hb5 B4
  go_wp2_with fail
  refine (R3.out _ (B5.out.alloc B5.out.size _)).mono ?_
  rintro e w6 ⟨rfl, hb6⟩
  obtain ⟨k0, k1⟩ := cells2 hb6
  have B6 := Lib.hid (below_step hb6 (B5.out.alloc B5.out.size _) (by rw [World.size_alloc]; have := B5.out.size; omega))
  have K6 : w5.heap.size < w6.heap.size := by have := hb6.size; rw [World.size_alloc] at this; omega
  clear hb6 B5
  go_wp2_with (go_at_call 16; (with_reducible refine (sane_any _).mono ?_); rintro e w7 ⟨rfl, hb7⟩)
  go_ret
  refine ⟨rfl, ?_⟩
  have hb6 := B6.out
  have z6 := hb6.size
  repeat' (first | (with_reducible exact Below.refl _ _) | (with_reducible assumption) | (refine below_step (by assumption) ?_ ?_) | (with_reducible refine below_drewN ?_ _) | (with_reducible refine Below.drew ?_) | (with_reducible refine Below.alloc ?_ ?_ _) | (with_reducible refine Below.setCell ?_ ?_ _) | go_size)

end Go.Proofs.Ytdlmdaononclgaa
