import Derived.Test.YtdlmdaononclgaaDoorVol
import Derived.Test.YtdlmdaononclgaaDoorMA
import Derived.Test.YtdlmdaononclgaaDoorMD
import Derived.Test.YtdlmdaononclgaaDoorMC
/- The examples that each law asks. -/
namespace Go.Proofs.YtdlmdaononclgaaDoor
open Go.RowKit
set_option linter.unusedVariables false
set_option linter.unusedSimpArgs false

theorem make_is {n d a b e0 : Int} (h : mkR n d = (a, b, e0)) (n0 : -9223372036854775808 ≤ n) (n1 : n ≤ 9223372036854775807) (d0 : -9223372036854775808 ≤ d) (d1 : d ≤ 9223372036854775807) (w : World) :
    Calls Tryd.prog 31 #[.int .i64 n, .int .i64 d] w fun e w' => e = .returned (.tuple #[.agg #[.int .i64 a, .int .i64 b], .int .i64 e0]) ∧ Below w.heap.size w w' := by
  have := make_any n d n0 n1 d0 d1 w
  rw [h] at this
  exact this
theorem Round_is {n d a e0 : Int} (h : rndR n d ((2 * n + d) / (2 * d)) = (a, e0)) (a0 : -9223372036854775808 ≤ n) (a1 : n ≤ 9223372036854775807) (a2 : -9223372036854775808 ≤ d) (a3 : d ≤ 9223372036854775807) (w : World) :
    Calls Tryd.prog 32 #[.agg #[.int .i64 n, .int .i64 d]] w fun e w' => e = .returned (.tuple #[.int .i64 a, .int .i64 e0]) ∧ Below w.heap.size w w' := by
  have := Round_any n d a0 a1 a2 a3 w
  rw [h] at this
  exact this
theorem Weights_is {xs ws : List Int} {n m : Nat} (hp : okP 9 100000 xs = true) (hw : weightsZ xs = ws) (hn : xs.length = n) (hm' : ws.length = m) (A : Option Addr) (c : Nat) (hc : n ≤ c) (hm : c ≤ 9223372036854775807) (w : World) (h : RD w w.heap.size A (ints xs)) :
    Calls Tryd.prog 33 #[.slice A n c] w fun e w' => ∃ g, e = .returned (.tuple #[.slice (some ⟨g, 0, none⟩) m m, .int .i64 0]) ∧ w.heap.size ≤ g ∧ Arr w' g ws ∧ Below w.heap.size w w' := by
  subst hn; subst hm'; subst hw
  exact Weights_yes hp A c hc hm w h
theorem Centre_is {xs ys : List Int} {a b e0 : Int} {n m : Nat} (hr : cenR xs ys = (a, b, e0)) (hn : xs.length = n) (hm' : ys.length = m) (A : Option Addr) (c : Nat) (A2 : Option Addr) (c2 : Nat) (hc : n ≤ c) (hm : c ≤ 9223372036854775807) (hc2 : m ≤ c2) (hm2 : c2 ≤ 9223372036854775807) (w : World) (h : RD w w.heap.size A (ints xs)) (h2 : RD w w.heap.size A2 (ints ys)) :
    Calls Tryd.prog 34 #[.slice A n c, .slice A2 m c2] w fun e w' => e = .returned (.tuple #[.agg #[.int .i64 a, .int .i64 b], .int .i64 e0]) ∧ Below w.heap.size w w' := by
  subst hn; subst hm'
  have := Centre_any xs ys A c A2 c2 hc hm hc2 hm2 w h h2
  rw [hr] at this
  exact this
theorem Litres_is {xs zs : List Int} {rs : List (List Int)} {v : Int} {n m k : Nat} (hr : tableB xs zs rs = true) (hl : volZ xs zs rs = v) (hv0 : -9223372036854775807 ≤ v) (hv1 : v ≤ 9223372036854775807) (hn : xs.length = n) (hm : zs.length = m) (hk : rs.length = k) (A1 : Option Addr) (c1 : Nat) (A2 : Option Addr) (c2 : Nat) (A3 : Option Addr) (c3 : Nat) (vs : List Value) (w : World) (h : TD w w.heap.size xs zs rs A1 c1 A2 c2 A3 c3 vs) :
    Calls Tryd.prog 8 #[.agg #[.slice A1 n c1, .slice A2 m c2, .slice A3 k c3]] w fun e w' => e = .returned (.tuple #[.int .i64 (v / 1296000000), .int .i64 0]) ∧ Below w.heap.size w w' := by
  subst hn; subst hm; subst hk; subst hl
  exact Litres_yes hr hv0 hv1 A1 c1 A2 c2 A3 c3 vs w h

theorem cells2 {W w1 : World} {a b : Value} {t : TypeId} (hb : Below (W.alloc (.cells #[a, b] t)).heap.size (W.alloc (.cells #[a, b] t)) w1) : w1.cell? ⟨W.heap.size, 0, none⟩ = some a ∧ w1.cell? ⟨W.heap.size, 1, none⟩ = some b := by
  refine ⟨?_, ?_⟩
  · rw [hb.cell (by simp)]; simp [go_sem]
  · rw [hb.cell (by simp)]; simp [go_sem]

theorem rd_of_heap {w : World} {g : Nat} {cs : List Value} {t : TypeId} {f : Nat × Nat} (h : w.heap[g]? = some (.cells cs.toArray t f)) : RD w (g + 1) (some ⟨g, 0, none⟩) cs :=
  .inr ⟨g, 0, rfl, by omega, fun j v hv => by rw [Nat.zero_add, cell_of_row w g j _ _ _ h, List.getElem?_toArray]; exact hv⟩
theorem rd_new (W : World) (xs : List Int) (g : Nat) (hg : g = W.heap.size) : RD (W.alloc (.cells (ints xs).toArray 3)) (g + 1) (some ⟨g, 0, none⟩) (ints xs) := by
  subst hg; exact (Arr.built W xs).rd

/-- the table of the examples, as it is laid. -/
theorem saneTable (V X : World) (q : Nat) (hq : V.heap.size = q) (hX : X = (((((V.alloc (.cells #[.int .i64 0, .int .i64 1000, .int .i64 2000] 3)).alloc (.cells #[.int .i64 0, .int .i64 1000] 3)).alloc (.cells #[.int .i64 500, .int .i64 500] 3)).alloc (.cells #[.int .i64 500, .int .i64 500] 3)).alloc (.cells #[.int .i64 500, .int .i64 500] 3)).alloc (.cells #[.slice (some ⟨q + 1 + 1, 0, none⟩) 2 2, .slice (some ⟨q + 1 + 1 + 1, 0, none⟩) 2 2, .slice (some ⟨q + 1 + 1 + 1 + 1, 0, none⟩) 2 2] 22)) :
    TD X X.heap.size [0, 1000, 2000] [0, 1000] [[500, 500], [500, 500], [500, 500]] (some ⟨q, 0, none⟩) 3 (some ⟨q + 1, 0, none⟩) 2 (some ⟨q + 1 + 1 + 1 + 1 + 1, 0, none⟩) 3
    [.slice (some ⟨q + 1 + 1, 0, none⟩) 2 2, .slice (some ⟨q + 1 + 1 + 1, 0, none⟩) 2 2, .slice (some ⟨q + 1 + 1 + 1 + 1, 0, none⟩) 2 2] := by
  have hp : ∀ (w : World) (o : Obj) (k : Nat), (w.alloc o).heap[k]? = if k = w.heap.size then some o else w.heap[k]? := fun w o k => by
    show (w.heap.push o)[k]? = _
    rw [Array.getElem?_push]
  have hs : X.heap.size = q + 6 := by rw [hX]; simp only [World.size_alloc, hq]
  have h0 : X.heap[q]? = some (.cells (ints [0, 1000, 2000]).toArray 3 (0, 0)) := by
    rw [hX]; simp only [hp, World.size_alloc, hq]; (repeat' split) <;> first | omega | contradiction | rfl | (exact absurd trivial (by assumption))
  have h1 : X.heap[q + 1]? = some (.cells (ints [0, 1000]).toArray 3 (0, 0)) := by
    rw [hX]; simp only [hp, World.size_alloc, hq]; (repeat' split) <;> first | omega | contradiction | rfl | (exact absurd trivial (by assumption))
  have h2 : X.heap[q + 1 + 1]? = some (.cells (ints [500, 500]).toArray 3 (0, 0)) := by
    rw [hX]; simp only [hp, World.size_alloc, hq]; (repeat' split) <;> first | omega | contradiction | rfl | (exact absurd trivial (by assumption))
  have h3 : X.heap[q + 1 + 1 + 1]? = some (.cells (ints [500, 500]).toArray 3 (0, 0)) := by
    rw [hX]; simp only [hp, World.size_alloc, hq]; (repeat' split) <;> first | omega | contradiction | rfl | (exact absurd trivial (by assumption))
  have h4 : X.heap[q + 1 + 1 + 1 + 1]? = some (.cells (ints [500, 500]).toArray 3 (0, 0)) := by
    rw [hX]; simp only [hp, World.size_alloc, hq]; (repeat' split) <;> first | omega | contradiction | rfl | (exact absurd trivial (by assumption))
  have h5 : X.heap[q + 1 + 1 + 1 + 1 + 1]? = some (.cells [.slice (some ⟨q + 1 + 1, 0, none⟩) 2 2, .slice (some ⟨q + 1 + 1 + 1, 0, none⟩) 2 2, .slice (some ⟨q + 1 + 1 + 1 + 1, 0, none⟩) 2 2].toArray 22 (0, 0)) := by
    rw [hX]; simp only [hp, World.size_alloc, hq]; (repeat' split) <;> first | omega | contradiction | rfl | (exact absurd trivial (by assumption))
  refine ⟨by decide, by omega, (rd_of_heap h0).more (by omega), by decide, by omega, (rd_of_heap h1).more (by omega), by decide, by omega, ⟨rfl, (rd_of_heap h5).more (by omega), fun i hi => ?_⟩⟩
  match i, hi with
  | 0, _ => exact ⟨_, _, rfl, by decide, by omega, (rd_of_heap h2).more (by omega)⟩
  | 1, _ => exact ⟨_, _, rfl, by decide, by omega, (rd_of_heap h3).more (by omega)⟩
  | 2, _ => exact ⟨_, _, rfl, by decide, by omega, (rd_of_heap h4).more (by omega)⟩

set_option maxHeartbeats 2000000 in
set_option maxRecDepth 100000 in
theorem sane_any (w : World) : Calls Tryd.prog 15 #[] w fun e w' => e = .returned (.bool true) ∧ Below w.heap.size w w' := by
  go_enter Tryd.func15, Tryd.ntmps15
  go_wp2_with (go_at_call 31; (refine (make_is (a := -3) (b := 2) (e0 := 0) (by decide) (by omega) (by omega) (by omega) (by omega) _).mono ?_); rintro e w1 ⟨rfl, hb1⟩)
  go_wp2_with (go_at_call 32; (refine (Round_is (a := -1) (e0 := 0) (by decide) (by omega) (by omega) (by omega) (by omega) _).mono ?_); rintro e w2 ⟨rfl, hb2⟩)
  obtain ⟨k0, k1⟩ := cells2 hb2
  have B2 := Lib.hid (below_step hb2 (hb1.alloc hb1.size _) (by simp; have := hb1.size; omega))
  have KK : w1.heap.size < w2.heap.size := by have := hb2.size; simp at this; omega
  clear hb1 hb2
  go_wp2_with (go_at_call 33; (refine (Weights_is (xs := [0, 10, 20, 50, 90]) (ws := [120, 480, 660, 1260, 720]) (n := 5) (m := 5) (by decide) (by decide) rfl rfl _ 5 (by omega) (by omega) _ ((Arr.built _ [0, 10, 20, 50, 90]).rd.more (by simp))).mono ?_); rintro e w3 ⟨g3, rfl, hg3, ha3, hb3⟩)
  have j0 := cell_later (below_step hb3 (Below.alloc (Below.refl _ _) (Nat.le_refl _) _) (by (try simp only [World.size_alloc]); omega)) k0
  have j1 := cell_later (below_step hb3 (Below.alloc (Below.refl _ _) (Nat.le_refl _) _) (by (try simp only [World.size_alloc]); omega)) k1
  have B3 := Lib.hid (below_step hb3 (B2.out.alloc B2.out.size _) (by simp; have := B2.out.size; omega))
  have K3 : w1.heap.size < w3.heap.size := by have := hb3.size; simp at this; omega
  have HA3 := Lib.hid ha3
  have K3' : g3 < w3.heap.size := ha3.lt
  clear hb3 k0 k1 ha3
  go_wp2_with (go_at_call 34; (refine (Centre_is (xs := [0, 10, 20]) (ys := [1, 1, 1]) (a := 10) (b := 1) (e0 := 0) (n := 3) (m := 3) (by decide) rfl rfl _ 3 _ 3 (by omega) (by omega) (by omega) (by omega) _ (((rd_new w3 [0, 10, 20] w3.heap.size rfl).keep (Below.alloc (Below.refl _ _) (Nat.le_refl _) _) (by simp)).more (by simp)) ((rd_new _ [1, 1, 1] _ (by simp)).more (by simp))).mono ?_); rintro e w4 ⟨rfl, hb4⟩)
  have l0 := cell_later (below_step hb4 (((Below.refl _ w3).alloc (Nat.le_refl _) _).alloc (by (try simp only [World.size_alloc]); omega) _) (by (try simp only [World.size_alloc]); omega)) j0
  have l1 := cell_later (below_step hb4 (((Below.refl _ w3).alloc (Nat.le_refl _) _).alloc (by (try simp only [World.size_alloc]); omega) _) (by (try simp only [World.size_alloc]); omega)) j1
  have B34 := below_step hb4 (((Below.refl _ w3).alloc (Nat.le_refl _) _).alloc (by (try simp only [World.size_alloc]); omega) _) (by (try simp only [World.size_alloc]); omega)
  have HA4 := Lib.hid (HA3.out.of_block (B34.block _ K3'))
  have B4 := Lib.hid (below_step B34 B3.out (by have := B3.out.size; omega))
  have K4 : w1.heap.size < w4.heap.size := by have := B34.size; omega
  have K4' : g3 < w4.heap.size := HA4.out.lt
  clear hb4 j0 j1 B34 HA3 hg3 K3 K3' KK B2 B3
  go_wp2_with fail
  refine (Litres_is (xs := [0, 1000, 2000]) (zs := [0, 1000]) (rs := [[500, 500], [500, 500], [500, 500]]) (v := 2592000000000) (n := 3) (m := 2) (k := 3) (by decide) (by decide) (by omega) (by omega) rfl rfl rfl _ 3 _ 2 _ 3 _ _ (((saneTable (w4.alloc (.cells #[.int .i64 10, .int .i64 1] 59)) _ (w4.heap.size + 1) (World.size_alloc _ _) rfl).keep (Below.alloc (Below.refl _ _) (Nat.le_refl _) _) (Nat.le_refl _)).more (by simp))).mono ?_
  rintro e w5 ⟨rfl, hb5⟩
  have hb45 : Below w4.heap.size w4 w5 := by refine below_step hb5 ?_ ?_; (repeat' (first | (with_reducible exact Below.refl _ _) | (with_reducible assumption) | (refine below_step (by assumption) ?_ ?_) | (with_reducible refine below_drewN ?_ _) | (with_reducible refine Below.drew ?_) | (with_reducible refine Below.alloc ?_ ?_ _) | (with_reducible refine Below.setCell ?_ ?_ _) | go_size))
  have m0 : w5.cell? ⟨w4.heap.size, 0, none⟩ = some (.int .i64 10) := by rw [hb5.cell (by simp only [World.size_alloc]; omega)]; simp [go_sem]
  have m1 : w5.cell? ⟨w4.heap.size, 1, none⟩ = some (.int .i64 1) := by rw [hb5.cell (by simp only [World.size_alloc]; omega)]; simp [go_sem]
  have n0 := cell_later hb45 l0
  have n1 := cell_later hb45 l1
  have K5 : w4.heap.size < w5.heap.size := by have := hb5.size; simp only [World.size_alloc] at this; omega
  have HA5 := Lib.hid (HA4.out.of_block (hb45.block _ K4'))
  have K5' : g3 < w5.heap.size := HA5.out.lt
  have K5'' : w1.heap.size < w5.heap.size := by omega
  have B5 := Lib.hid (below_step hb45 B4.out B4.out.size)
  clear hb5 hb45 l0 l1 HA4 B4 K4'
  go_wp2_with fail
  refine (SameInts_is (xs := [120, 480, 660, 1260, 720]) (ys := [120, 480, 660, 1260, 720]) (r := true) (by decide) _ 5 _ 5 (by decide) (by omega) (by decide) (by omega) _ ((HA5.out.of_block (Below.heap_alloc _ _ _ K5')).rd) (rd_new w5 [120, 480, 660, 1260, 720] w5.heap.size rfl)).mono ?_
  rintro e w6 ⟨rfl, q, rfl⟩
  go_wp2
  go_ret
  refine ⟨rfl, ?_⟩
  have B5' := B5.out
  have z5 := B5'.size
  repeat' (first | (with_reducible exact Below.refl _ _) | (with_reducible assumption) | (refine below_step (by assumption) ?_ ?_) | (with_reducible refine below_drewN ?_ _) | (with_reducible refine Below.drew ?_) | (with_reducible refine Below.alloc ?_ ?_ _) | (with_reducible refine Below.setCell ?_ ?_ _) | go_size)

end Go.Proofs.YtdlmdaononclgaaDoor
