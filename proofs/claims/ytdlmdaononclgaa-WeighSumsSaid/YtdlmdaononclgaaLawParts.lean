import Derived.Test.YtdlmdaononclgaaRefP2
import Derived.Test.YtdlmdaononclgaaSane
/- WeighParts: the walk. -/
namespace Go.Proofs.Ytdlmdaononclgaa
open Go.RowKit
set_option linter.unusedVariables false
set_option linter.unusedSimpArgs false

set_option maxHeartbeats 2000000 in
set_option maxRecDepth 100000 in
theorem weighParts_walk (xs ys : List Int) (A : Option Addr) (c : Nat) (A2 : Option Addr) (c2 : Nat) (hc : xs.length ≤ c) (hm : c ≤ 17592186043904) (hc2 : ys.length ≤ c2) (hm2 : c2 ≤ 17592186043904) (a : Int) (w : World) (h : RD w w.heap.size A (ints xs)) (h2 : RD w w.heap.size A2 (ints ys)) :
    Calls Try.prog 10 #[.slice A xs.length c, .slice A2 ys.length c2, .int .i64 a] w fun e w' => e = .returned (.bool true) ∧ Below w.heap.size w w' := by
  obtain ⟨p1, hp1⟩ : ∃ p, partA xs a = p := ⟨_, rfl⟩
  obtain ⟨p2, hp2⟩ : ∃ p, partB xs a = p := ⟨_, rfl⟩
  obtain ⟨e1, he1⟩ : ∃ p, partE xs a = p := ⟨_, rfl⟩
  obtain ⟨p3, hp3⟩ : ∃ p, joinV xs ys = p := ⟨_, rfl⟩
  obtain ⟨e2, he2⟩ : ∃ p, joinE xs ys = p := ⟨_, rfl⟩
  have C1 : Hid (Calls Try.prog 54 #[.slice A xs.length c, .int .i64 a] w (RetP2 p1 p2 e1 w)) := Lib.hid (by have := Part_any xs a A c hc (by omega) w h; rwa [hp1, hp2, he1] at this)
  have C2 : Hid (∀ W, Below w.heap.size w W → Calls Try.prog 55 #[.slice A xs.length c, .int .i64 a] W (RetP2 p1 p2 e1 W)) := Lib.hid (fun W hB => by have := refPart_any xs a A c hc (by omega) W ((h.keep hB (Nat.le_refl _)).more hB.size); rwa [hp1, hp2, he1] at this)
  have C3 : Hid (∀ W, Below w.heap.size w W → Calls Try.prog 56 #[.slice A xs.length c, .slice A2 ys.length c2] W (RetP1 p3 e2 W)) := Lib.hid (fun W hB => by have := Join_any rfl rfl A c A2 c2 hc (by omega) hc2 (by omega) W ((h.keep hB (Nat.le_refl _)).more hB.size) ((h2.keep hB (Nat.le_refl _)).more hB.size); rwa [hp3, he2] at this)
  have C4 : Hid (∀ W, Below w.heap.size w W → Calls Try.prog 57 #[.slice A xs.length c, .slice A2 ys.length c2] W (RetP1 p3 e2 W)) := Lib.hid (fun W hB => by have := refJoin_any rfl rfl A c A2 c2 hc (by omega) hc2 (by omega) W ((h.keep hB (Nat.le_refl _)).more hB.size) ((h2.keep hB (Nat.le_refl _)).more hB.size); rwa [hp3, he2] at this)
  obtain ⟨n1, hn1⟩ : ∃ n, p1.length = n := ⟨_, rfl⟩
  obtain ⟨n2, hn2⟩ : ∃ n, p2.length = n := ⟨_, rfl⟩
  obtain ⟨n3, hn3⟩ : ∃ n, p3.length = n := ⟨_, rfl⟩
  have N1 := Lib.hid hn1
  have N2 := Lib.hid hn2
  have N3 := Lib.hid hn3
  clear hp1 hp2 he1 hp3 he2 hn1 hn2 hn3 h h2
  go_enter Try.func10, Try.ntmps10
  go_wp2_with fail
  refine C1.out.mono ?_
  rintro e V1 ⟨v1, v2, rfl, o1, o2, hb1⟩
  obtain ⟨A1, k1, rfl, hk1, hkm1, _⟩ := o1.formN N1.out
  obtain ⟨A3, k3, rfl, hk3, hkm3, _⟩ := o2.formN N2.out
  have B1 := Lib.hid hb1
  have O1 := Lib.hid o1
  have O2 := Lib.hid o2
  clear hb1 o1 o2
  go_wp2_with fail
  refine (C2.out _ B1.out).mono ?_
  rintro e V2 ⟨v1, v2, rfl, o1, o2, hb1⟩
  obtain ⟨A4, k4, rfl, hk4, hkm4, _⟩ := o1.formN N1.out
  obtain ⟨A5, k5, rfl, hk5, hkm5, _⟩ := o2.formN N2.out
  have B2 := Lib.hid (below_step hb1 B1.out B1.out.size)
  have O1' := Lib.hid (O1.out.kept hb1 (Nat.le_refl _))
  have O2' := Lib.hid (O2.out.kept hb1 (Nat.le_refl _))
  have O3 := Lib.hid o1
  have O4 := Lib.hid o2
  clear hb1 o1 o2 O1 O2
  go_wp2_with fail
  refine (C3.out _ B2.out).mono ?_
  rintro e V3 ⟨v1, rfl, o1, hb1⟩
  obtain ⟨A6, k6, rfl, hk6, hkm6, _⟩ := o1.formN N3.out
  have B3 := Lib.hid (below_step hb1 B2.out B2.out.size)
  have O1 := Lib.hid (O1'.out.kept hb1 (Nat.le_refl _))
  have O2 := Lib.hid (O2'.out.kept hb1 (Nat.le_refl _))
  have O3' := Lib.hid (O3.out.kept hb1 (Nat.le_refl _))
  have O4' := Lib.hid (O4.out.kept hb1 (Nat.le_refl _))
  have O5 := Lib.hid o1
  clear hb1 o1 O1' O2' O3 O4
  go_wp2_with fail
  refine (C4.out _ B3.out).mono ?_
  rintro e V4 ⟨v1, rfl, o1, hb1⟩
  obtain ⟨A7, k7, rfl, hk7, hkm7, _⟩ := o1.formN N3.out
  have B4 := Lib.hid (below_step hb1 B3.out B3.out.size)
  have R1 := Lib.hid (O1.out.kept hb1 (Nat.le_refl _)).rd
  have R2 := Lib.hid (O2.out.kept hb1 (Nat.le_refl _)).rd
  have R3 := Lib.hid (O3'.out.kept hb1 (Nat.le_refl _)).rd
  have R4 := Lib.hid (O4'.out.kept hb1 (Nat.le_refl _)).rd
  have R5 := Lib.hid (O5.out.kept hb1 (Nat.le_refl _)).rd
  have R6 := Lib.hid o1.rd
  clear hb1 o1 O1 O2 O3' O4' O5 C1 C2 C3 C4
  have S1 : Hid (∀ W, Below V4.heap.size V4 W → Calls Try.prog 15 #[.slice A1 n1 k1, .slice A4 n1 k4] W fun e w' => e = .returned (.bool true) ∧ ∃ k, w' = W.drewN k) := Lib.hid (fun W hB => SameInts_n (decide_eq_true rfl) N1.out N1.out A1 k1 A4 k4 hk1 hkm1 hk4 hkm4 W (R1.out.keep hB (Nat.le_refl _)) (R3.out.keep hB (Nat.le_refl _)))
  have S2 : Hid (∀ W, Below V4.heap.size V4 W → Calls Try.prog 15 #[.slice A3 n2 k3, .slice A5 n2 k5] W fun e w' => e = .returned (.bool true) ∧ ∃ k, w' = W.drewN k) := Lib.hid (fun W hB => SameInts_n (decide_eq_true rfl) N2.out N2.out A3 k3 A5 k5 hk3 hkm3 hk5 hkm5 W (R2.out.keep hB (Nat.le_refl _)) (R4.out.keep hB (Nat.le_refl _)))
  have S3 : Hid (∀ W, Below V4.heap.size V4 W → Calls Try.prog 15 #[.slice A6 n3 k6, .slice A7 n3 k7] W fun e w' => e = .returned (.bool true) ∧ ∃ k, w' = W.drewN k) := Lib.hid (fun W hB => SameInts_n (decide_eq_true rfl) N3.out N3.out A6 k6 A7 k7 hk6 hkm6 hk7 hkm7 W (R5.out.keep hB (Nat.le_refl _)) (R6.out.keep hB (Nat.le_refl _)))
  go_wp2_with fail
  refine (S1.out _ (Below.refl _ _)).mono ?_
  rintro e w1 ⟨rfl, q1, rfl⟩
  go_wp2_with fail
  refine (S2.out _ (below_drewN (Below.refl _ _) _)).mono ?_
  rintro e w1 ⟨rfl, q2, rfl⟩
  go_wp2_with fail
  refine (S3.out _ (below_drewN (Below.refl _ _) _)).mono ?_
  rintro e w1 ⟨rfl, q3, rfl⟩
  go_wp2_with (go_at_call 16; (with_reducible refine (sane_any _).mono ?_); rintro e w8 ⟨rfl, hb8⟩)
  go_ret
  exact ⟨rfl, below_step hb8 (below_drewN B4.out _) B4.out.size⟩

end Go.Proofs.Ytdlmdaononclgaa
