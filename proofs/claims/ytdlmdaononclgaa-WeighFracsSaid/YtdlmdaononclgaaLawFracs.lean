import Derived.Test.YtdlmdaononclgaaSane
import Derived.Test.YtdlmdaononclgaaKept
import Derived.Test.YtdlmdaononclgaaFrac8
/- WeighFracs: the walk. (printed by wip/gen/fracs.py) -/
namespace Go.Proofs.Ytdlmdaononclgaa
open Go.RowKit
set_option linter.unusedVariables false
set_option linter.unusedSimpArgs false

/-- boxes of two cells that lie so. -/
def Boxes (W : World) (l : List (Nat × Value × Value)) : Prop := ∀ x ∈ l, W.cell? ⟨x.1, 0, none⟩ = some x.2.1 ∧ W.cell? ⟨x.1, 1, none⟩ = some x.2.2 ∧ x.1 < W.heap.size
theorem Boxes.keep {W W' : World} {l : List (Nat × Value × Value)} (h : Boxes W l) (hb : Below W.heap.size W W') : Boxes W' l := fun x hx =>
  ⟨cell_later hb (h x hx).1, cell_later hb (h x hx).2.1, Nat.lt_of_lt_of_le (h x hx).2.2 hb.size⟩
theorem Boxes.cons {W : World} {l : List (Nat × Value × Value)} (h : Boxes W l) (a b : Value) (t : TypeId) : Boxes (W.alloc (.cells #[a, b] t)) ((W.heap.size, a, b) :: l) := by
  intro x hx
  rcases List.mem_cons.1 hx with rfl | hx
  · exact ⟨by simp [go_sem], by simp [go_sem], by simp⟩
  · exact (h.keep (Below.alloc (Below.refl _ _) (Nat.le_refl _) _)) x hx
theorem below_ab {W w1 : World} {o : Obj} (hb : Below (W.alloc o).heap.size (W.alloc o) w1) : Below W.heap.size W w1 :=
  below_step hb (Below.alloc (Below.refl _ _) (Nat.le_refl _) _) (by rw [World.size_alloc]; omega)

set_option maxHeartbeats 4000000 in
set_option maxRecDepth 100000 in
theorem weighFracs_walk (an ad bn bd n0 n1 : Int) (a0 : -9223372036854775808 ≤ an) (a1 : an ≤ 9223372036854775807) (a2 : -9223372036854775808 ≤ ad) (a3 : ad ≤ 9223372036854775807) (b0 : -9223372036854775808 ≤ bn) (b1 : bn ≤ 9223372036854775807) (b2 : -9223372036854775808 ≤ bd) (b3 : bd ≤ 9223372036854775807)
    (c0 : -9223372036854775808 ≤ n0) (c1 : n0 ≤ 9223372036854775807) (c2 : -9223372036854775808 ≤ n1) (c3 : n1 ≤ 9223372036854775807) (w : World) :
    Calls Try.prog 8 #[.agg #[.int .i64 an, .int .i64 ad], .agg #[.int .i64 bn, .int .i64 bd], .agg #[.int .i64 n0, .int .i64 n1]] w fun e w' => e = .returned (.bool true) ∧ Below w.heap.size w w' := by
  obtain ⟨x0, y0, e0, h0⟩ : ∃ x y e, mkR n0 n1 = (x, y, e) := ⟨_, _, _, rfl⟩
  have P0 : Hid (∀ W, Calls Try.prog 22 #[.int .i64 n0, .int .i64 n1] W fun e w' => e = .returned (.tuple #[.agg #[.int .i64 x0, .int .i64 y0], .int .i64 e0]) ∧ Below W.heap.size W w') := Lib.hid (fun W => by have := make_any n0 n1 c0 c1 c2 c3 W; rw [h0] at this; exact this)
  have R0 : Hid (∀ W, Calls Try.prog 35 #[.int .i64 n0, .int .i64 n1] W fun e w' => e = .returned (.tuple #[.agg #[.int .i64 x0, .int .i64 y0], .int .i64 e0]) ∧ Below W.heap.size W w') := Lib.hid (fun W => by have := refmake_any n0 n1 c0 c1 c2 c3 W; rw [h0] at this; exact this)
  obtain ⟨x1, y1, e1, h1⟩ : ∃ x y e, bothR an ad bn bd (an * bd + bn * ad) (ad * bd) = (x, y, e) := ⟨_, _, _, rfl⟩
  have P1 : Hid (∀ W, Calls Try.prog 36 #[.agg #[.int .i64 an, .int .i64 ad], .agg #[.int .i64 bn, .int .i64 bd]] W fun e w' => e = .returned (.tuple #[.agg #[.int .i64 x1, .int .i64 y1], .int .i64 e1]) ∧ Below W.heap.size W w') := Lib.hid (fun W => by have := Add_any an ad bn bd a0 a1 a2 a3 b0 b1 b2 b3 W; rw [h1] at this; exact this)
  have R1 : Hid (∀ W, Calls Try.prog 37 #[.agg #[.int .i64 an, .int .i64 ad], .agg #[.int .i64 bn, .int .i64 bd]] W fun e w' => e = .returned (.tuple #[.agg #[.int .i64 x1, .int .i64 y1], .int .i64 e1]) ∧ Below W.heap.size W w') := Lib.hid (fun W => by have := refAdd_any an ad bn bd a0 a1 a2 a3 b0 b1 b2 b3 W; rw [h1] at this; exact this)
  obtain ⟨x2, y2, e2, h2⟩ : ∃ x y e, bothR an ad bn bd (an * bd - bn * ad) (ad * bd) = (x, y, e) := ⟨_, _, _, rfl⟩
  have P2 : Hid (∀ W, Calls Try.prog 38 #[.agg #[.int .i64 an, .int .i64 ad], .agg #[.int .i64 bn, .int .i64 bd]] W fun e w' => e = .returned (.tuple #[.agg #[.int .i64 x2, .int .i64 y2], .int .i64 e2]) ∧ Below W.heap.size W w') := Lib.hid (fun W => by have := Sub_any an ad bn bd a0 a1 a2 a3 b0 b1 b2 b3 W; rw [h2] at this; exact this)
  have R2 : Hid (∀ W, Calls Try.prog 39 #[.agg #[.int .i64 an, .int .i64 ad], .agg #[.int .i64 bn, .int .i64 bd]] W fun e w' => e = .returned (.tuple #[.agg #[.int .i64 x2, .int .i64 y2], .int .i64 e2]) ∧ Below W.heap.size W w') := Lib.hid (fun W => by have := refSub_any an ad bn bd a0 a1 a2 a3 b0 b1 b2 b3 W; rw [h2] at this; exact this)
  obtain ⟨x3, y3, e3, h3⟩ : ∃ x y e, bothR an ad bn bd (an * bn) (ad * bd) = (x, y, e) := ⟨_, _, _, rfl⟩
  have P3 : Hid (∀ W, Calls Try.prog 40 #[.agg #[.int .i64 an, .int .i64 ad], .agg #[.int .i64 bn, .int .i64 bd]] W fun e w' => e = .returned (.tuple #[.agg #[.int .i64 x3, .int .i64 y3], .int .i64 e3]) ∧ Below W.heap.size W w') := Lib.hid (fun W => by have := Mul_any an ad bn bd a0 a1 a2 a3 b0 b1 b2 b3 W; rw [h3] at this; exact this)
  have R3 : Hid (∀ W, Calls Try.prog 41 #[.agg #[.int .i64 an, .int .i64 ad], .agg #[.int .i64 bn, .int .i64 bd]] W fun e w' => e = .returned (.tuple #[.agg #[.int .i64 x3, .int .i64 y3], .int .i64 e3]) ∧ Below W.heap.size W w') := Lib.hid (fun W => by have := refMul_any an ad bn bd a0 a1 a2 a3 b0 b1 b2 b3 W; rw [h3] at this; exact this)
  obtain ⟨x4, y4, e4, h4⟩ : ∃ x y e, bothR an ad bn bd (an * bd) (ad * bn) = (x, y, e) := ⟨_, _, _, rfl⟩
  have P4 : Hid (∀ W, Calls Try.prog 42 #[.agg #[.int .i64 an, .int .i64 ad], .agg #[.int .i64 bn, .int .i64 bd]] W fun e w' => e = .returned (.tuple #[.agg #[.int .i64 x4, .int .i64 y4], .int .i64 e4]) ∧ Below W.heap.size W w') := Lib.hid (fun W => by have := Div_any an ad bn bd a0 a1 a2 a3 b0 b1 b2 b3 W; rw [h4] at this; exact this)
  have R4 : Hid (∀ W, Calls Try.prog 43 #[.agg #[.int .i64 an, .int .i64 ad], .agg #[.int .i64 bn, .int .i64 bd]] W fun e w' => e = .returned (.tuple #[.agg #[.int .i64 x4, .int .i64 y4], .int .i64 e4]) ∧ Below W.heap.size W w') := Lib.hid (fun W => by have := refDiv_any an ad bn bd a0 a1 a2 a3 b0 b1 b2 b3 W; rw [h4] at this; exact this)
  obtain ⟨x5, e5, h5⟩ : ∃ x e, rndR an ad (an / ad) = (x, e) := ⟨_, _, rfl⟩
  have P5 : Hid (∀ W, Calls Try.prog 44 #[.agg #[.int .i64 an, .int .i64 ad]] W fun e w' => e = .returned (.tuple #[.int .i64 x5, .int .i64 e5]) ∧ Below W.heap.size W w') := Lib.hid (fun W => by have := Floor_any an ad a0 a1 a2 a3 W; rw [h5] at this; exact this)
  have R5 : Hid (∀ W, Calls Try.prog 45 #[.agg #[.int .i64 an, .int .i64 ad]] W fun e w' => e = .returned (.tuple #[.int .i64 x5, .int .i64 e5]) ∧ Below W.heap.size W w') := Lib.hid (fun W => by have := refFloor_any an ad a0 a1 a2 a3 W; rw [h5] at this; exact this)
  obtain ⟨x6, e6, h6⟩ : ∃ x e, rndR an ad (-((-an) / ad)) = (x, e) := ⟨_, _, rfl⟩
  have P6 : Hid (∀ W, Calls Try.prog 46 #[.agg #[.int .i64 an, .int .i64 ad]] W fun e w' => e = .returned (.tuple #[.int .i64 x6, .int .i64 e6]) ∧ Below W.heap.size W w') := Lib.hid (fun W => by have := Ceil_any an ad a0 a1 a2 a3 W; rw [h6] at this; exact this)
  have R6 : Hid (∀ W, Calls Try.prog 47 #[.agg #[.int .i64 an, .int .i64 ad]] W fun e w' => e = .returned (.tuple #[.int .i64 x6, .int .i64 e6]) ∧ Below W.heap.size W w') := Lib.hid (fun W => by have := refCeil_any an ad a0 a1 a2 a3 W; rw [h6] at this; exact this)
  obtain ⟨x7, e7, h7⟩ : ∃ x e, rndR an ad ((2 * an + ad) / (2 * ad)) = (x, e) := ⟨_, _, rfl⟩
  have P7 : Hid (∀ W, Calls Try.prog 48 #[.agg #[.int .i64 an, .int .i64 ad]] W fun e w' => e = .returned (.tuple #[.int .i64 x7, .int .i64 e7]) ∧ Below W.heap.size W w') := Lib.hid (fun W => by have := Round_any an ad a0 a1 a2 a3 W; rw [h7] at this; exact this)
  have R7 : Hid (∀ W, Calls Try.prog 49 #[.agg #[.int .i64 an, .int .i64 ad]] W fun e w' => e = .returned (.tuple #[.int .i64 x7, .int .i64 e7]) ∧ Below W.heap.size W w') := Lib.hid (fun W => by have := refRound_any an ad a0 a1 a2 a3 W; rw [h7] at this; exact this)
  have CK : Hid (∀ W, Calls Try.prog 50 #[.agg #[.int .i64 an, .int .i64 ad]] W fun e w' => e = .returned (.int .i64 (if okF an ad = true then 0 else 10)) ∧ Below W.heap.size W w') := Lib.hid (fun W => Check_any an ad a0 a1 a2 a3 W)
  have CR : Hid (∀ W, Calls Try.prog 51 #[.agg #[.int .i64 an, .int .i64 ad]] W fun e w' => e = .returned (.int .i64 (if okF an ad = true then 0 else 10)) ∧ Below W.heap.size W w') := Lib.hid (fun W => refCheck_any an ad a0 a1 a2 a3 W)
  have MK : Hid (∀ W, Calls Try.prog 52 #[.agg #[.int .i64 an, .int .i64 ad], .agg #[.int .i64 bn, .int .i64 bd]] W fun e w' => e = .returned (.int .i64 (cmpR an ad bn bd)) ∧ Below W.heap.size W w') := Lib.hid (fun W => Cmp_any an ad bn bd a0 a1 a2 a3 b0 b1 b2 b3 W)
  have MR : Hid (∀ W, Calls Try.prog 53 #[.agg #[.int .i64 an, .int .i64 ad], .agg #[.int .i64 bn, .int .i64 bd]] W fun e w' => e = .returned (.int .i64 (cmpR an ad bn bd)) ∧ Below W.heap.size W w') := Lib.hid (fun W => refCmp_any an ad bn bd a0 a1 a2 a3 b0 b1 b2 b3 W)
  generalize (if okF an ad = true then (0 : Int) else 10) = ck at CK CR
  generalize cmpR an ad bn bd = cm at MK MR
  clear h0 h1 h2 h3 h4 h5 h6 h7 c0 c1 c2 c3 a0 a1 a2 a3 b0 b1 b2 b3
  go_enter Try.func8, Try.ntmps8
  go_wp2_with fail
  refine (P0.out _).mono ?_
  rintro e w1 ⟨rfl, hb1⟩
  have pa0 : w1.cell? ⟨w.heap.size, 0, none⟩ = some (.int .i64 an) := by rw [hb1.cell (by simp only [World.size_alloc]; omega)]; simp [go_sem]
  have pa1 : w1.cell? ⟨w.heap.size, 1, none⟩ = some (.int .i64 ad) := by rw [hb1.cell (by simp only [World.size_alloc]; omega)]; simp [go_sem]
  have pb0 : w1.cell? ⟨w.heap.size + 1, 0, none⟩ = some (.int .i64 bn) := by rw [hb1.cell (by simp only [World.size_alloc]; omega)]; simp [go_sem]
  have pb1 : w1.cell? ⟨w.heap.size + 1, 1, none⟩ = some (.int .i64 bd) := by rw [hb1.cell (by simp only [World.size_alloc]; omega)]; simp [go_sem]
  have pn0 : w1.cell? ⟨w.heap.size + 1 + 1, 0, none⟩ = some (.int .i64 n0) := by rw [hb1.cell (by simp only [World.size_alloc]; omega)]; simp [go_sem]
  have pn1 : w1.cell? ⟨w.heap.size + 1 + 1, 1, none⟩ = some (.int .i64 n1) := by rw [hb1.cell (by simp only [World.size_alloc]; omega)]; simp [go_sem]
  have B1 : Hid (Below w.heap.size w w1) := Lib.hid (by repeat' (first | (with_reducible exact Below.refl _ _) | (with_reducible assumption) | (refine below_step (by assumption) ?_ ?_) | (with_reducible refine below_drewN ?_ _) | (with_reducible refine Below.drew ?_) | (with_reducible refine Below.alloc ?_ ?_ _) | (with_reducible refine Below.setCell ?_ ?_ _) | go_size))
  have KS : w.heap.size + 1 + 1 < w1.heap.size := by have := hb1.size; simp only [World.size_alloc] at this; omega
  have KT : w.heap.size + 1 < w1.heap.size := by omega
  have KU : w.heap.size < w1.heap.size := by omega
  have BX : Hid (Boxes w1 []) := Lib.hid (fun x hx => by cases hx)
  clear hb1
  go_wp2_with fail
  refine (R0.out _).mono ?_
  rintro e w2 ⟨rfl, hb2⟩
  replace BX : Hid (Boxes w2 _) := Lib.hid ((BX.out.cons (.int .i64 x0) (.int .i64 y0) 40).keep hb2)
  replace hb2 := below_ab hb2
  replace pa0 := cell_later hb2 pa0
  replace pa1 := cell_later hb2 pa1
  replace pb0 := cell_later hb2 pb0
  replace pb1 := cell_later hb2 pb1
  have B2 : Hid (Below w.heap.size w w2) := Lib.hid (below_step hb2 B1.out B1.out.size)
  replace KS : w.heap.size + 1 + 1 < w2.heap.size := by have := hb2.size; omega
  replace KT : w.heap.size + 1 < w2.heap.size := by omega
  replace KU : w.heap.size < w2.heap.size := by omega
  clear hb2 B1 pn0 pn1
  go_wp2_with fail
  refine (P1.out _).mono ?_
  rintro e w3 ⟨rfl, hb3⟩
  replace BX : Hid (Boxes w3 _) := Lib.hid ((BX.out.cons (.int .i64 x0) (.int .i64 y0) 40).keep hb3)
  replace hb3 := below_ab hb3
  replace pa0 := cell_later hb3 pa0
  replace pa1 := cell_later hb3 pa1
  replace pb0 := cell_later hb3 pb0
  replace pb1 := cell_later hb3 pb1
  have B3 : Hid (Below w.heap.size w w3) := Lib.hid (below_step hb3 B2.out B2.out.size)
  replace KS : w.heap.size + 1 + 1 < w3.heap.size := by have := hb3.size; omega
  replace KT : w.heap.size + 1 < w3.heap.size := by omega
  replace KU : w.heap.size < w3.heap.size := by omega
  clear hb3 B2
  go_wp2_with fail
  refine (R1.out _).mono ?_
  rintro e w4 ⟨rfl, hb4⟩
  replace BX : Hid (Boxes w4 _) := Lib.hid ((BX.out.cons (.int .i64 x1) (.int .i64 y1) 40).keep hb4)
  replace hb4 := below_ab hb4
  replace pa0 := cell_later hb4 pa0
  replace pa1 := cell_later hb4 pa1
  replace pb0 := cell_later hb4 pb0
  replace pb1 := cell_later hb4 pb1
  have B4 : Hid (Below w.heap.size w w4) := Lib.hid (below_step hb4 B3.out B3.out.size)
  replace KS : w.heap.size + 1 + 1 < w4.heap.size := by have := hb4.size; omega
  replace KT : w.heap.size + 1 < w4.heap.size := by omega
  replace KU : w.heap.size < w4.heap.size := by omega
  clear hb4 B3
  go_wp2_with fail
  refine (P2.out _).mono ?_
  rintro e w5 ⟨rfl, hb5⟩
  replace BX : Hid (Boxes w5 _) := Lib.hid ((BX.out.cons (.int .i64 x1) (.int .i64 y1) 40).keep hb5)
  replace hb5 := below_ab hb5
  replace pa0 := cell_later hb5 pa0
  replace pa1 := cell_later hb5 pa1
  replace pb0 := cell_later hb5 pb0
  replace pb1 := cell_later hb5 pb1
  have B5 : Hid (Below w.heap.size w w5) := Lib.hid (below_step hb5 B4.out B4.out.size)
  replace KS : w.heap.size + 1 + 1 < w5.heap.size := by have := hb5.size; omega
  replace KT : w.heap.size + 1 < w5.heap.size := by omega
  replace KU : w.heap.size < w5.heap.size := by omega
  clear hb5 B4
  go_wp2_with fail
  refine (R2.out _).mono ?_
  rintro e w6 ⟨rfl, hb6⟩
  replace BX : Hid (Boxes w6 _) := Lib.hid ((BX.out.cons (.int .i64 x2) (.int .i64 y2) 40).keep hb6)
  replace hb6 := below_ab hb6
  replace pa0 := cell_later hb6 pa0
  replace pa1 := cell_later hb6 pa1
  replace pb0 := cell_later hb6 pb0
  replace pb1 := cell_later hb6 pb1
  have B6 : Hid (Below w.heap.size w w6) := Lib.hid (below_step hb6 B5.out B5.out.size)
  replace KS : w.heap.size + 1 + 1 < w6.heap.size := by have := hb6.size; omega
  replace KT : w.heap.size + 1 < w6.heap.size := by omega
  replace KU : w.heap.size < w6.heap.size := by omega
  clear hb6 B5
  go_wp2_with fail
  refine (P3.out _).mono ?_
  rintro e w7 ⟨rfl, hb7⟩
  replace BX : Hid (Boxes w7 _) := Lib.hid ((BX.out.cons (.int .i64 x2) (.int .i64 y2) 40).keep hb7)
  replace hb7 := below_ab hb7
  replace pa0 := cell_later hb7 pa0
  replace pa1 := cell_later hb7 pa1
  replace pb0 := cell_later hb7 pb0
  replace pb1 := cell_later hb7 pb1
  have B7 : Hid (Below w.heap.size w w7) := Lib.hid (below_step hb7 B6.out B6.out.size)
  replace KS : w.heap.size + 1 + 1 < w7.heap.size := by have := hb7.size; omega
  replace KT : w.heap.size + 1 < w7.heap.size := by omega
  replace KU : w.heap.size < w7.heap.size := by omega
  clear hb7 B6
  go_wp2_with fail
  refine (R3.out _).mono ?_
  rintro e w8 ⟨rfl, hb8⟩
  replace BX : Hid (Boxes w8 _) := Lib.hid ((BX.out.cons (.int .i64 x3) (.int .i64 y3) 40).keep hb8)
  replace hb8 := below_ab hb8
  replace pa0 := cell_later hb8 pa0
  replace pa1 := cell_later hb8 pa1
  replace pb0 := cell_later hb8 pb0
  replace pb1 := cell_later hb8 pb1
  have B8 : Hid (Below w.heap.size w w8) := Lib.hid (below_step hb8 B7.out B7.out.size)
  replace KS : w.heap.size + 1 + 1 < w8.heap.size := by have := hb8.size; omega
  replace KT : w.heap.size + 1 < w8.heap.size := by omega
  replace KU : w.heap.size < w8.heap.size := by omega
  clear hb8 B7
  go_wp2_with fail
  refine (P4.out _).mono ?_
  rintro e w9 ⟨rfl, hb9⟩
  replace BX : Hid (Boxes w9 _) := Lib.hid ((BX.out.cons (.int .i64 x3) (.int .i64 y3) 40).keep hb9)
  replace hb9 := below_ab hb9
  replace pa0 := cell_later hb9 pa0
  replace pa1 := cell_later hb9 pa1
  replace pb0 := cell_later hb9 pb0
  replace pb1 := cell_later hb9 pb1
  have B9 : Hid (Below w.heap.size w w9) := Lib.hid (below_step hb9 B8.out B8.out.size)
  replace KS : w.heap.size + 1 + 1 < w9.heap.size := by have := hb9.size; omega
  replace KT : w.heap.size + 1 < w9.heap.size := by omega
  replace KU : w.heap.size < w9.heap.size := by omega
  clear hb9 B8
  go_wp2_with fail
  refine (R4.out _).mono ?_
  rintro e w10 ⟨rfl, hb10⟩
  replace BX : Hid (Boxes w10 _) := Lib.hid ((BX.out.cons (.int .i64 x4) (.int .i64 y4) 40).keep hb10)
  replace hb10 := below_ab hb10
  replace pa0 := cell_later hb10 pa0
  replace pa1 := cell_later hb10 pa1
  replace pb0 := cell_later hb10 pb0
  replace pb1 := cell_later hb10 pb1
  have B10 : Hid (Below w.heap.size w w10) := Lib.hid (below_step hb10 B9.out B9.out.size)
  replace KS : w.heap.size + 1 + 1 < w10.heap.size := by have := hb10.size; omega
  replace KT : w.heap.size + 1 < w10.heap.size := by omega
  replace KU : w.heap.size < w10.heap.size := by omega
  clear hb10 B9
  go_wp2_with fail
  refine (P5.out _).mono ?_
  rintro e w11 ⟨rfl, hb11⟩
  replace BX : Hid (Boxes w11 _) := Lib.hid ((BX.out.cons (.int .i64 x4) (.int .i64 y4) 40).keep hb11)
  replace hb11 := below_ab hb11
  replace pa0 := cell_later hb11 pa0
  replace pa1 := cell_later hb11 pa1
  replace pb0 := cell_later hb11 pb0
  replace pb1 := cell_later hb11 pb1
  have B11 : Hid (Below w.heap.size w w11) := Lib.hid (below_step hb11 B10.out B10.out.size)
  replace KS : w.heap.size + 1 + 1 < w11.heap.size := by have := hb11.size; omega
  replace KT : w.heap.size + 1 < w11.heap.size := by omega
  replace KU : w.heap.size < w11.heap.size := by omega
  clear hb11 B10
  go_wp2_with fail
  refine (R5.out _).mono ?_
  rintro e w12 ⟨rfl, hb12⟩
  replace BX : Hid (Boxes w12 _) := Lib.hid (BX.out.keep hb12)
  replace pa0 := cell_later hb12 pa0
  replace pa1 := cell_later hb12 pa1
  replace pb0 := cell_later hb12 pb0
  replace pb1 := cell_later hb12 pb1
  have B12 : Hid (Below w.heap.size w w12) := Lib.hid (below_step hb12 B11.out B11.out.size)
  replace KS : w.heap.size + 1 + 1 < w12.heap.size := by have := hb12.size; omega
  replace KT : w.heap.size + 1 < w12.heap.size := by omega
  replace KU : w.heap.size < w12.heap.size := by omega
  clear hb12 B11
  go_wp2_with fail
  refine (P6.out _).mono ?_
  rintro e w13 ⟨rfl, hb13⟩
  replace BX : Hid (Boxes w13 _) := Lib.hid (BX.out.keep hb13)
  replace pa0 := cell_later hb13 pa0
  replace pa1 := cell_later hb13 pa1
  replace pb0 := cell_later hb13 pb0
  replace pb1 := cell_later hb13 pb1
  have B13 : Hid (Below w.heap.size w w13) := Lib.hid (below_step hb13 B12.out B12.out.size)
  replace KS : w.heap.size + 1 + 1 < w13.heap.size := by have := hb13.size; omega
  replace KT : w.heap.size + 1 < w13.heap.size := by omega
  replace KU : w.heap.size < w13.heap.size := by omega
  clear hb13 B12
  go_wp2_with fail
  refine (R6.out _).mono ?_
  rintro e w14 ⟨rfl, hb14⟩
  replace BX : Hid (Boxes w14 _) := Lib.hid (BX.out.keep hb14)
  replace pa0 := cell_later hb14 pa0
  replace pa1 := cell_later hb14 pa1
  replace pb0 := cell_later hb14 pb0
  replace pb1 := cell_later hb14 pb1
  have B14 : Hid (Below w.heap.size w w14) := Lib.hid (below_step hb14 B13.out B13.out.size)
  replace KS : w.heap.size + 1 + 1 < w14.heap.size := by have := hb14.size; omega
  replace KT : w.heap.size + 1 < w14.heap.size := by omega
  replace KU : w.heap.size < w14.heap.size := by omega
  clear hb14 B13
  go_wp2_with fail
  refine (P7.out _).mono ?_
  rintro e w15 ⟨rfl, hb15⟩
  replace BX : Hid (Boxes w15 _) := Lib.hid (BX.out.keep hb15)
  replace pa0 := cell_later hb15 pa0
  replace pa1 := cell_later hb15 pa1
  replace pb0 := cell_later hb15 pb0
  replace pb1 := cell_later hb15 pb1
  have B15 : Hid (Below w.heap.size w w15) := Lib.hid (below_step hb15 B14.out B14.out.size)
  replace KS : w.heap.size + 1 + 1 < w15.heap.size := by have := hb15.size; omega
  replace KT : w.heap.size + 1 < w15.heap.size := by omega
  replace KU : w.heap.size < w15.heap.size := by omega
  clear hb15 B14
  go_wp2_with fail
  refine (R7.out _).mono ?_
  rintro e w16 ⟨rfl, hb16⟩
  replace BX : Hid (Boxes w16 _) := Lib.hid (BX.out.keep hb16)
  replace pa0 := cell_later hb16 pa0
  replace pa1 := cell_later hb16 pa1
  replace pb0 := cell_later hb16 pb0
  replace pb1 := cell_later hb16 pb1
  have B16 : Hid (Below w.heap.size w w16) := Lib.hid (below_step hb16 B15.out B15.out.size)
  replace KS : w.heap.size + 1 + 1 < w16.heap.size := by have := hb16.size; omega
  replace KT : w.heap.size + 1 < w16.heap.size := by omega
  replace KU : w.heap.size < w16.heap.size := by omega
  clear hb16 B15
  have q0 := BX.out _ (List.mem_cons_self)
  obtain ⟨r0, s0, t0⟩ := q0
  have q1 := BX.out _ (List.mem_cons_of_mem _ (List.mem_cons_self))
  obtain ⟨r1, s1, t1⟩ := q1
  have q2 := BX.out _ (List.mem_cons_of_mem _ (List.mem_cons_of_mem _ (List.mem_cons_self)))
  obtain ⟨r2, s2, t2⟩ := q2
  have q3 := BX.out _ (List.mem_cons_of_mem _ (List.mem_cons_of_mem _ (List.mem_cons_of_mem _ (List.mem_cons_self))))
  obtain ⟨r3, s3, t3⟩ := q3
  have q4 := BX.out _ (List.mem_cons_of_mem _ (List.mem_cons_of_mem _ (List.mem_cons_of_mem _ (List.mem_cons_of_mem _ (List.mem_cons_self)))))
  obtain ⟨r4, s4, t4⟩ := q4
  have q5 := BX.out _ (List.mem_cons_of_mem _ (List.mem_cons_of_mem _ (List.mem_cons_of_mem _ (List.mem_cons_of_mem _ (List.mem_cons_of_mem _ (List.mem_cons_self))))))
  obtain ⟨r5, s5, t5⟩ := q5
  have q6 := BX.out _ (List.mem_cons_of_mem _ (List.mem_cons_of_mem _ (List.mem_cons_of_mem _ (List.mem_cons_of_mem _ (List.mem_cons_of_mem _ (List.mem_cons_of_mem _ (List.mem_cons_self)))))))
  obtain ⟨r6, s6, t6⟩ := q6
  have q7 := BX.out _ (List.mem_cons_of_mem _ (List.mem_cons_of_mem _ (List.mem_cons_of_mem _ (List.mem_cons_of_mem _ (List.mem_cons_of_mem _ (List.mem_cons_of_mem _ (List.mem_cons_of_mem _ (List.mem_cons_self))))))))
  obtain ⟨r7, s7, t7⟩ := q7
  have q8 := BX.out _ (List.mem_cons_of_mem _ (List.mem_cons_of_mem _ (List.mem_cons_of_mem _ (List.mem_cons_of_mem _ (List.mem_cons_of_mem _ (List.mem_cons_of_mem _ (List.mem_cons_of_mem _ (List.mem_cons_of_mem _ (List.mem_cons_self)))))))))
  obtain ⟨r8, s8, t8⟩ := q8
  have q9 := BX.out _ (List.mem_cons_of_mem _ (List.mem_cons_of_mem _ (List.mem_cons_of_mem _ (List.mem_cons_of_mem _ (List.mem_cons_of_mem _ (List.mem_cons_of_mem _ (List.mem_cons_of_mem _ (List.mem_cons_of_mem _ (List.mem_cons_of_mem _ (List.mem_cons_self))))))))))
  obtain ⟨r9, s9, t9⟩ := q9
  dsimp only at r0 s0 t0 r1 s1 t1 r2 s2 t2 r3 s3 t3 r4 s4 t4 r5 s5 t5 r6 s6 t6 r7 s7 t7 r8 s8 t8 r9 s9 t9
  clear BX
  go_wp2_with fail
  clear r0 s0 t0 r1 s1 t1 r2 s2 t2 r3 s3 t3 r4 s4 t4 r5 s5 t5 r6 s6 t6 r7 s7 t7 r8 s8 t8 r9 s9 t9
  have ka0 := Kd.cell pa0
  have ka1 := Kd.cell pa1
  have kb0 := Kd.cell pb0
  have kb1 := Kd.cell pb1
  clear pa0 pa1 pb0 pb1
  refine region_kept (by kernel_rfl) (by kernel_rfl) ?_
  repeat (go_big_quiet_step ((first | (go_at_call 50; exact kept_call (CK.out _)) | (go_at_call 51; exact kept_call (CR.out _)) | (go_at_call 52; exact kept_call (MK.out _)) | (go_at_call 53; exact kept_call (MR.out _)) | (go_at_call 16; exact kept_call (sane_any _)))))
  refine wpQuiet_nil ?_
  rintro _ ⟨k, rfl⟩
  have hk := below_step k.ok B16.out B16.out.size
  clear ka0 ka1 kb0 kb1
  go_wp2
  go_ret
  exact ⟨rfl, hk⟩

end Go.Proofs.Ytdlmdaononclgaa
