import Derived.Test.YtdlmdaononclgaaSane
import Derived.Test.YtdlmdaononclgaaKept
import Derived.Test.YtdlmdaononclgaaFieldsP
import Derived.Test.YtdlmdaononclgaaFrac9
import Derived.Deep.RegionHeld3
import Derived.Deep.Cut
import Derived.Deep.CutRange
import Derived.Outline
/- WeighFields: the walk. -/
namespace Go.Proofs.Ytdlmdaononclgaa
open Go.RowKit
set_option linter.unusedVariables false
set_option linter.unusedSimpArgs false

/-- a box of a fraction, and what lies below. -/
structure FB (W : World) (x y : Int) (p : Nat) (wx : World) : Prop where
  below : Below W.heap.size W wx
  c0 : wx.cell? ⟨p, 0, none⟩ = some (.int .i64 x)
  c1 : wx.cell? ⟨p, 1, none⟩ = some (.int .i64 y)
  lo : W.heap.size ≤ p
  hi : p < wx.heap.size

theorem drew_below {W w' : World} (hb : Below W.drew.heap.size W.drew w') : Below W.heap.size W w' := ⟨hb.os, hb.tape, hb.output, hb.size, hb.block⟩
theorem newbox {W w' : World} {a b : Value} {t : TypeId} (hb : Below (W.alloc (.cells #[a, b] t)).drew.heap.size (W.alloc (.cells #[a, b] t)).drew w') :
    w'.cell? ⟨W.heap.size, 0, none⟩ = some a ∧ w'.cell? ⟨W.heap.size, 1, none⟩ = some b ∧ w'.frozen? ⟨W.heap.size, 0, none⟩ = false ∧ w'.frozen? ⟨W.heap.size, 1, none⟩ = false ∧ W.heap.size ≤ w'.heap.size ∧ W.heap.size < w'.heap.size ∧ Below W.heap.size W w' := by
  have h := drew_below hb
  have hz := h.size
  rw [World.size_alloc] at hz
  have hbk : w'.heap[W.heap.size]? = some (.cells #[a, b] t (0, 0)) := (h.block _ (by rw [World.size_alloc]; omega)).trans (heap_alloc_new W _)
  refine ⟨by rw [cell_of_row w' _ 0 _ _ _ hbk]; rfl, by rw [cell_of_row w' _ 1 _ _ _ hbk]; rfl, by simp [World.frozen?, hbk], by simp [World.frozen?, hbk], by omega, by omega, below_step h (Below.alloc (Below.refl _ _) (Nat.le_refl _) _) (by rw [World.size_alloc]; omega)⟩

theorem FB.of_first {W w' : World} {x y : Int} {t : TypeId} (hb : Below W.drew.heap.size W.drew w') : FB W x y w'.heap.size (w'.alloc (.cells #[.int .i64 x, .int .i64 y] t)) := by
  have h := drew_below hb
  exact ⟨h.alloc h.size _, by simp [go_sem], by simp [go_sem], h.size, by simp⟩
theorem FB.of_second {W w' : World} {a b : Value} {x y : Int} {t : TypeId} (hb : Below (W.alloc (.cells #[a, b] t)).drew.heap.size (W.alloc (.cells #[a, b] t)).drew w') :
    FB W x y W.heap.size ((w'.setCell ⟨W.heap.size, 0, none⟩ (.int .i64 x)).setCell ⟨W.heap.size, 1, none⟩ (.int .i64 y)) := by
  have h := drew_below hb
  have hz := h.size
  rw [World.size_alloc] at hz
  have hbk : w'.heap[W.heap.size]? = some (.cells #[a, b] t (0, 0)) := (h.block _ (by rw [World.size_alloc]; omega)).trans (heap_alloc_new W _)
  have hb2 : ((w'.setCell ⟨W.heap.size, 0, none⟩ (.int .i64 x)).setCell ⟨W.heap.size, 1, none⟩ (.int .i64 y)).heap[W.heap.size]? = some (.cells #[.int .i64 x, .int .i64 y] t (0, 0)) := by
    simp [World.setCell, Array.getElem?_modify, hbk]
  have hB : Below W.heap.size W w' := below_step h (Below.alloc (Below.refl _ _) (Nat.le_refl _) _) (by rw [World.size_alloc]; omega)
  exact ⟨(hB.setCell (Nat.le_refl _) _).setCell (Nat.le_refl _) _, by rw [cell_of_row _ _ 0 _ _ _ hb2]; rfl, by rw [cell_of_row _ _ 1 _ _ _ hb2]; rfl, Nat.le_refl _, by simp [World.setCell]; omega⟩

/-- what holds of the law's arrays. -/
structure LS (w : World) (ns ds l : List Int) (V : World) : Prop where
  nc : ∀ j, j < 3 → V.cell? ⟨w.heap.size, j, none⟩ = some (.int .i64 (ix ns j))
  dc : ∀ j, j < 3 → V.cell? ⟨w.heap.size + 1, j, none⟩ = some (.int .i64 (ix ds j))
  lc : V.heap[w.heap.size + 1 + 1]? = some (.cells (ints l).toArray 65 (0, 0))
  below : Below w.heap.size w V
theorem LS.keep {w : World} {ns ds l : List Int} {V V' : World} (h : LS w ns ds l V) (hb : Below V.heap.size V V') : LS w ns ds l V' :=
  ⟨fun j hj => cell_later hb (h.nc j hj), fun j hj => cell_later hb (h.dc j hj), (hb.block _ (Array.getElem?_eq_some_iff.1 h.lc).1).trans h.lc, below_step hb h.below h.below.size⟩
theorem LS.cell {w : World} {ns ds l : List Int} {V : World} (h : LS w ns ds l V) (j : Nat) (hj : j < l.length) : V.cell? ⟨w.heap.size + 1 + 1, j, none⟩ = some (.int .i64 (ix l j)) := by
  rw [cell_of_row V _ j _ _ _ h.lc, List.getElem?_toArray, ints_get, List.getElem?_eq_getElem hj]
  simp [ix, List.getD, List.getElem?_eq_getElem hj]
theorem LS.free {w : World} {ns ds l : List Int} {V : World} (h : LS w ns ds l V) (j : Nat) : V.frozen? ⟨w.heap.size + 1 + 1, j, none⟩ = false := by
  have := h.lc
  simp [World.frozen?, this]
theorem LS.set {w : World} {ns ds l : List Int} {V : World} (h : LS w ns ds l V) (j : Nat) (x : Int) : LS w ns ds (l.set j x) (V.setCell ⟨w.heap.size + 1 + 1, j, none⟩ (.int .i64 x)) := by
  refine ⟨fun i hi => ?_, fun i hi => ?_, ?_, h.below.setCell (by show w.heap.size ≤ w.heap.size + 1 + 1; omega) _⟩
  · rw [World.cell?_of_block (w := V) (Below.heap_setCell _ _ _ _ (by show w.heap.size ≠ w.heap.size + 1 + 1; omega))]; exact h.nc i hi
  · rw [World.cell?_of_block (w := V) (Below.heap_setCell _ _ _ _ (by show w.heap.size + 1 ≠ w.heap.size + 1 + 1; omega))]; exact h.dc i hi
  · have := h.lc
    simp [World.setCell, Array.getElem?_modify, this, ints, List.map_set]
theorem LS.start {w V : World} {n0 n1 n2 d0 d1 d2 : Int} (h : V = ((w.alloc (.cells #[.int .i64 n0, .int .i64 n1, .int .i64 n2] 53)).alloc (.cells #[.int .i64 d0, .int .i64 d1, .int .i64 d2] 53)).alloc (.cells #[.int .i64 0, .int .i64 0, .int .i64 0, .int .i64 0, .int .i64 0, .int .i64 0] 65)) :
    LS w [n0, n1, n2] [d0, d1, d2] [0, 0, 0, 0, 0, 0] V := by
  subst h
  refine ⟨fun j hj => ?_, fun j hj => ?_, ?_, by repeat' (first | (with_reducible exact Below.refl _ _) | (with_reducible assumption) | (refine below_step (by assumption) ?_ ?_) | (with_reducible refine below_drewN ?_ _) | (with_reducible refine Below.drew ?_) | (with_reducible refine Below.alloc ?_ ?_ _) | (with_reducible refine Below.setCell ?_ ?_ _) | go_size | exact Nat.le_refl _ | exact Nat.le_succ _ | exact Nat.le_of_lt (by assumption))⟩
  · rcases (by omega : j = 0 ∨ j = 1 ∨ j = 2) with rfl | rfl | rfl <;> simp [go_sem] <;> rfl
  · rcases (by omega : j = 0 ∨ j = 1 ∨ j = 2) with rfl | rfl | rfl <;> simp [go_sem] <;> rfl
  · have := heap_alloc_new ((w.alloc (.cells #[.int .i64 n0, .int .i64 n1, .int .i64 n2] 53)).alloc (.cells #[.int .i64 d0, .int .i64 d1, .int .i64 d2] 53)) (.cells #[.int .i64 0, .int .i64 0, .int .i64 0, .int .i64 0, .int .i64 0, .int .i64 0] 65)
    rw [World.size_alloc, World.size_alloc] at this; exact this
theorem mk_err {n d x y e : Int} (h : mkR n d = (x, y, e)) (he : e ≠ 0) : (e = 11 ∧ d = 0) ∨ (e = 4 ∧ d ≠ 0) := by
  have := (mkR_err (n := n) (d := d) (by rw [h]; exact he)).2.2
  rw [h] at this
  exact this
theorem mk_okv {n d x y e : Int} (h : mkR n d = (x, y, e)) (he : e = 0) : okF x y = true := by
  have := (mkR_ok (n := n) (d := d) (by rw [h]; exact he)).1
  rw [h] at this
  exact this
theorem check_ok {n d : Int} (h : okF n d = true) (W : World) : Calls Try.prog 50 #[.agg #[.int .i64 n, .int .i64 d]] W fun e w' => e = .returned (.int .i64 0) ∧ Below W.heap.size W w' := by
  obtain ⟨a0, a1, a2, a3⟩ := okF_bd' h
  have := Check_any n d (by omega) (by omega) (by omega) (by omega) W
  rw [if_pos h] at this
  exact this

theorem below_ab {W w1 : World} {o : Obj} (hb : Below (W.alloc o).heap.size (W.alloc o) w1) : Below W.heap.size W w1 :=
  below_step hb (Below.alloc (Below.refl _ _) (Nat.le_refl _) _) (by rw [World.size_alloc]; omega)
theorem mkR_small (n d : Int) : (-1000000000 ≤ (mkR n d).1 ∧ (mkR n d).1 ≤ 1000000000) ∧ (0 ≤ (mkR n d).2.1 ∧ (mkR n d).2.1 ≤ 1000000000) := by
  by_cases h : (mkR n d).2.2 = 0
  · obtain ⟨a, b, c, d⟩ := okF_bd' (mkR_ok h).1; omega
  · obtain ⟨a, b, _⟩ := mkR_err h; omega
/-- a call that answers a fraction. -/
def CallsF (g : Nat) (an ad bn bd x y e : Int) : Prop := ∀ W, Calls Try.prog g #[.agg #[.int .i64 an, .int .i64 ad], .agg #[.int .i64 bn, .int .i64 bd]] W fun e' w' => e' = .returned (.tuple #[.agg #[.int .i64 x, .int .i64 y], .int .i64 e]) ∧ Below W.heap.size W w'
def CallsC (an ad bn bd c : Int) : Prop := ∀ W, Calls Try.prog 52 #[.agg #[.int .i64 an, .int .i64 ad], .agg #[.int .i64 bn, .int .i64 bd]] W fun e' w' => e' = .returned (.int .i64 c) ∧ Below W.heap.size W w'
def CallsR (g : Nat) (an ad c : Int) : Prop := ∀ W, Calls Try.prog g #[.agg #[.int .i64 an, .int .i64 ad]] W fun e' w' => e' = .returned (.tuple #[.int .i64 c, .int .i64 0]) ∧ Below W.heap.size W w'
/-- all that the law asks of three fractions. -/
structure FFs (an ad bn bd cn cd xn xd f1 pn pd f3 zn zd f5 k1 k2 un ud f6 sn sd g1 tn td g2 vn vd g3 lo hi mid : Int) : Prop where
  A1 : CallsF 36 an ad bn bd xn xd f1
  A2 : CallsF 36 bn bd an ad xn xd f1
  A3 : CallsF 40 an ad bn bd pn pd f3
  A4 : CallsF 40 bn bd an ad pn pd f3
  A5 : CallsF 38 xn xd bn bd zn zd f5
  C1 : CallsC xn xd an ad k1
  C2 : CallsC bn bd 0 1 k2
  A6 : CallsF 42 pn pd bn bd un ud f6
  A7 : CallsF 36 xn xd cn cd sn sd g1
  A8 : CallsF 36 bn bd cn cd tn td g2
  A9 : CallsF 36 an ad tn td vn vd g3
  R1 : CallsR 44 an ad lo
  R2 : CallsR 46 an ad hi
  R3 : CallsR 48 an ad mid
  h5 : f1 = 0 → zn = an ∧ zd = ad ∧ f5 = 0 ∧ k1 = k2
  h6 : f3 = 0 → bn ≠ 0 → un = an ∧ ud = ad ∧ f6 = 0
  h9 : f1 = 0 → g1 = 0 → g2 = 0 → g3 = 0 ∧ sn = vn ∧ sd = vd
  lobd : (-1000000000 ≤ lo ∧ lo ≤ 1000000000) ∧ (-1000000000 ≤ hi ∧ hi ≤ 1000000000) ∧ (-1000000000 ≤ mid ∧ mid ≤ 1000000000)
  l1 : lo * ad ≤ an ∧ an < (lo + 1) * ad ∧ an ≤ hi * ad ∧ (hi - 1) * ad < an
  l2 : (mid = lo ∨ mid = hi) ∧ 2 * (an - mid * ad) < ad ∧ 2 * (mid * ad - an) ≤ ad
theorem ediv_small {n d : Int} (h0 : -1000000000 ≤ n) (h1 : n ≤ 1000000000) (hd : 1 ≤ d) : -1000000000 ≤ n / d ∧ n / d ≤ 1000000000 := by
  obtain ⟨a, b⟩ := floor_at (n := n) (show 0 < d by omega)
  constructor
  · refine Int.not_lt.1 fun h => ?_
    have : (n / d + 1) * d ≤ -1000000000 * d := Int.mul_le_mul_of_nonneg_right (by omega) (by omega)
    have : -1000000000 * d ≤ -1000000000 * 1 := Int.mul_le_mul_of_nonpos_left (by omega) (by omega)
    omega
  · refine Int.not_lt.1 fun h => ?_
    have : 1000000001 * d ≤ n / d * d := Int.mul_le_mul_of_nonneg_right (by omega) (by omega)
    omega
theorem fields_facts {an ad bn bd cn cd : Int} (ha : okF an ad = true) (hb : okF bn bd = true) (hc : okF cn cd = true) :
    ∃ xn xd f1 pn pd f3 zn zd f5 k1 k2 un ud f6 sn sd g1 tn td g2 vn vd g3 lo hi mid : Int, FFs an ad bn bd cn cd xn xd f1 pn pd f3 zn zd f5 k1 k2 un ud f6 sn sd g1 tn td g2 vn vd g3 lo hi mid := by
  obtain ⟨a0, a1, a2, a3⟩ := okF_bd' ha
  obtain ⟨b0, b1, b2, b3⟩ := okF_bd' hb
  obtain ⟨c0, c1, c2, c3⟩ := okF_bd' hc
  have yes : ∀ {an ad bn bd x y : Int}, okF an ad = true → okF bn bd = true → bothR an ad bn bd x y = mkR x y := fun h1 h2 => by simp [bothR, h1, h2]
  obtain ⟨xn, xd, f1, hx⟩ : ∃ x y e, mkR (an * bd + bn * ad) (ad * bd) = (x, y, e) := ⟨_, _, _, rfl⟩
  obtain ⟨pn, pd, f3, hp⟩ : ∃ x y e, mkR (an * bn) (ad * bd) = (x, y, e) := ⟨_, _, _, rfl⟩
  have sx := mkR_small (an * bd + bn * ad) (ad * bd)
  have sp := mkR_small (an * bn) (ad * bd)
  rw [hx] at sx
  rw [hp] at sp
  simp only at sx sp
  obtain ⟨zn, zd, f5, hz⟩ : ∃ x y e, bothR xn xd bn bd (xn * bd - bn * xd) (xd * bd) = (x, y, e) := ⟨_, _, _, rfl⟩
  obtain ⟨un, ud, f6, hu⟩ : ∃ x y e, bothR pn pd bn bd (pn * bd) (pd * bn) = (x, y, e) := ⟨_, _, _, rfl⟩
  obtain ⟨sn, sd, g1, hs⟩ : ∃ x y e, bothR xn xd cn cd (xn * cd + cn * xd) (xd * cd) = (x, y, e) := ⟨_, _, _, rfl⟩
  obtain ⟨tn, td, g2, ht⟩ : ∃ x y e, mkR (bn * cd + cn * bd) (bd * cd) = (x, y, e) := ⟨_, _, _, rfl⟩
  have st := mkR_small (bn * cd + cn * bd) (bd * cd)
  rw [ht] at st
  simp only at st
  obtain ⟨vn, vd, g3, hv⟩ : ∃ x y e, bothR an ad tn td (an * td + tn * ad) (ad * td) = (x, y, e) := ⟨_, _, _, rfl⟩
  have kx : f1 = 0 → okF xn xd = true ∧ xn * (ad * bd) = (an * bd + bn * ad) * xd := fun h => by
    have := mkR_ok (n := an * bd + bn * ad) (d := ad * bd) (by rw [hx]; exact h)
    rw [hx] at this
    exact ⟨this.1, this.2.1⟩
  have kp : f3 = 0 → okF pn pd = true ∧ pn * (ad * bd) = (an * bn) * pd := fun h => by
    have := mkR_ok (n := an * bn) (d := ad * bd) (by rw [hp]; exact h)
    rw [hp] at this
    exact ⟨this.1, this.2.1⟩
  have kt : g2 = 0 → okF tn td = true ∧ tn * (bd * cd) = (bn * cd + cn * bd) * td := fun h => by
    have := mkR_ok (n := bn * cd + cn * bd) (d := bd * cd) (by rw [ht]; exact h)
    rw [ht] at this
    exact ⟨this.1, this.2.1⟩
  have r1 := floor_at (n := an) (show 0 < ad by omega)
  have r2 := floor_at (n := -an) (show 0 < ad by omega)
  have r3 := round_at (n := an) (show 0 < ad by omega)
  have e1 := ediv_small a0 a1 a2
  have e2 := ediv_small (n := -an) (by omega) (by omega) a2
  have rr : ∀ x, rndR an ad x = (x, 0) := fun x => by simp [rndR, ha]
  refine ⟨xn, xd, f1, pn, pd, f3, zn, zd, f5, cmpR xn xd an ad, cmpR bn bd 0 1, un, ud, f6, sn, sd, g1, tn, td, g2, vn, vd, g3, an / ad, -((-an) / ad), (2 * an + ad) / (2 * ad), ⟨?_, ?_, ?_, ?_, ?_, ?_, ?_, ?_, ?_, ?_, ?_, ?_, ?_, ?_, ?_, ?_, ?_, ?_, ?_, ?_⟩⟩
  · intro W; have := Add_any an ad bn bd (by omega) (by omega) (by omega) (by omega) (by omega) (by omega) (by omega) (by omega) W; rw [yes ha hb, hx] at this; exact this
  · intro W; have := Add_any bn bd an ad (by omega) (by omega) (by omega) (by omega) (by omega) (by omega) (by omega) (by omega) W; rw [yes hb ha, show bn * ad + an * bd = an * bd + bn * ad from Int.add_comm _ _, Int.mul_comm bd ad, hx] at this; exact this
  · intro W; have := Mul_any an ad bn bd (by omega) (by omega) (by omega) (by omega) (by omega) (by omega) (by omega) (by omega) W; rw [yes ha hb, hp] at this; exact this
  · intro W; have := Mul_any bn bd an ad (by omega) (by omega) (by omega) (by omega) (by omega) (by omega) (by omega) (by omega) W; rw [yes hb ha, Int.mul_comm bn an, Int.mul_comm bd ad, hp] at this; exact this
  · intro W; have := Sub_any xn xd bn bd (by omega) (by omega) (by omega) (by omega) (by omega) (by omega) (by omega) (by omega) W; rw [hz] at this; exact this
  · intro W; exact Cmp_any xn xd an ad (by omega) (by omega) (by omega) (by omega) (by omega) (by omega) (by omega) (by omega) W
  · intro W; exact Cmp_any bn bd 0 1 (by omega) (by omega) (by omega) (by omega) (by omega) (by omega) (by omega) (by omega) W
  · intro W; have := Div_any pn pd bn bd (by omega) (by omega) (by omega) (by omega) (by omega) (by omega) (by omega) (by omega) W; rw [hu] at this; exact this
  · intro W; have := Add_any xn xd cn cd (by omega) (by omega) (by omega) (by omega) (by omega) (by omega) (by omega) (by omega) W; rw [hs] at this; exact this
  · intro W; have := Add_any bn bd cn cd (by omega) (by omega) (by omega) (by omega) (by omega) (by omega) (by omega) (by omega) W; rw [yes hb hc, ht] at this; exact this
  · intro W; have := Add_any an ad tn td (by omega) (by omega) (by omega) (by omega) (by omega) (by omega) (by omega) (by omega) W; rw [hv] at this; exact this
  · intro W; have := Floor_any an ad (by omega) (by omega) (by omega) (by omega) W; rw [rr] at this; exact this
  · intro W; have := Ceil_any an ad (by omega) (by omega) (by omega) (by omega) W; rw [rr] at this; exact this
  · intro W; have := Round_any an ad (by omega) (by omega) (by omega) (by omega) W; rw [rr] at this; exact this
  · intro h
    obtain ⟨h1, h2⟩ := kx h
    have := sub_back ha hb h1 h2
    rw [yes h1 hb, this] at hz
    simp only [Prod.mk.injEq] at hz
    exact ⟨hz.1.symm, hz.2.1.symm, hz.2.2.symm, cmp_sum ha hb h1 h2⟩
  · intro h h0
    obtain ⟨h1, h2⟩ := kp h
    have := div_back ha hb h1 h0 h2
    rw [yes h1 hb, this] at hu
    simp only [Prod.mk.injEq] at hu
    exact ⟨hu.1.symm, hu.2.1.symm, hu.2.2.symm⟩
  · intro h h' h''
    obtain ⟨h1, h2⟩ := kx h
    obtain ⟨h3, h4⟩ := kt h''
    rw [yes h1 hc] at hs
    have ks := mkR_ok (n := xn * cd + cn * xd) (d := xd * cd) (by rw [hs]; exact h')
    rw [hs] at ks
    have := add_three ha hb hc h1 ks.1 h3 h2 ks.2.1 h4
    rw [yes ha h3, this] at hv
    simp only [Prod.mk.injEq] at hv
    exact ⟨hv.2.2.symm, hv.1, hv.2.1⟩
  · refine ⟨e1, by omega, ?_⟩
    rcases r3.1 with h | h
    · rw [h]; exact e1
    · rw [h]; omega
  · refine ⟨r1.1, r1.2, ?_, ?_⟩
    · have := r2.1; rw [Int.neg_mul]; omega
    · have := r2.2; rw [Int.add_mul] at this; rw [Int.sub_mul, Int.neg_mul]; omega
  · exact ⟨r3.1, r3.2.1, r3.2.2⟩


set_option maxHeartbeats 16000000 in
set_option maxRecDepth 100000 in
theorem weighFields_walk (n0 n1 n2 d0 d1 d2 : Int) (a0 : -9223372036854775808 ≤ n0 ∧ n0 ≤ 9223372036854775807) (a1 : -9223372036854775808 ≤ n1 ∧ n1 ≤ 9223372036854775807) (a2 : -9223372036854775808 ≤ n2 ∧ n2 ≤ 9223372036854775807)
    (b0 : -9223372036854775808 ≤ d0 ∧ d0 ≤ 9223372036854775807) (b1 : -9223372036854775808 ≤ d1 ∧ d1 ≤ 9223372036854775807) (b2 : -9223372036854775808 ≤ d2 ∧ d2 ≤ 9223372036854775807) (w : World) :
    Calls Try.prog 9 #[.agg #[.int .i64 n0, .int .i64 n1, .int .i64 n2], .agg #[.int .i64 d0, .int .i64 d1, .int .i64 d2]] w fun e w' => e = .returned (.bool true) ∧ Below w.heap.size w w' := by
  obtain ⟨x0, y0, e0, h0⟩ : ∃ x y e, mkR n0 d0 = (x, y, e) := ⟨_, _, _, rfl⟩
  have M0 : Hid (∀ W, Calls Try.prog 22 #[.int .i64 n0, .int .i64 d0] W fun e w' => e = .returned (.tuple #[.agg #[.int .i64 x0, .int .i64 y0], .int .i64 e0]) ∧ Below W.heap.size W w') := Lib.hid (fun W => make_is h0 a0.1 a0.2 b0.1 b0.2 W)
  have ER0 := Lib.hid (mk_err h0)
  have OK0 := Lib.hid (mk_okv h0)
  obtain ⟨x1, y1, e1, h1⟩ : ∃ x y e, mkR n1 d1 = (x, y, e) := ⟨_, _, _, rfl⟩
  have M1 : Hid (∀ W, Calls Try.prog 22 #[.int .i64 n1, .int .i64 d1] W fun e w' => e = .returned (.tuple #[.agg #[.int .i64 x1, .int .i64 y1], .int .i64 e1]) ∧ Below W.heap.size W w') := Lib.hid (fun W => make_is h1 a1.1 a1.2 b1.1 b1.2 W)
  have ER1 := Lib.hid (mk_err h1)
  have OK1 := Lib.hid (mk_okv h1)
  obtain ⟨x2, y2, e2, h2⟩ : ∃ x y e, mkR n2 d2 = (x, y, e) := ⟨_, _, _, rfl⟩
  have M2 : Hid (∀ W, Calls Try.prog 22 #[.int .i64 n2, .int .i64 d2] W fun e w' => e = .returned (.tuple #[.agg #[.int .i64 x2, .int .i64 y2], .int .i64 e2]) ∧ Below W.heap.size W w') := Lib.hid (fun W => make_is h2 a2.1 a2.2 b2.1 b2.2 W)
  have ER2 := Lib.hid (mk_err h2)
  have OK2 := Lib.hid (mk_okv h2)
  clear h0 a0 b0 h1 a1 b1 h2 a2 b2
  go_enter Try.func9, Try.ntmps9
  go_wp2
  refine wp_loop_rounds 4 ?_
  rw [rounds_succ]
  go_upto_region 5 with fail
  generalize hW0 : ((w.alloc (.cells #[.int .i64 n0, .int .i64 n1, .int .i64 n2] 53)).alloc (.cells #[.int .i64 d0, .int .i64 d1, .int .i64 d2] 53)).alloc (.cells #[.int .i64 0, .int .i64 0, .int .i64 0, .int .i64 0, .int .i64 0, .int .i64 0] 65) = V0
  have S0 : Hid (LS w [n0, n1, n2] [d0, d1, d2] [0, 0, 0, 0, 0, 0] V0) := Lib.hid (LS.start hW0.symm)
  have z0 : w.heap.size + 1 + 1 < V0.heap.size := by rw [← hW0]; simp
  clear hW0
  have p0 : V0.cell? ⟨w.heap.size, 0, none⟩ = some (.int .i64 n0) := S0.out.nc 0 (by omega)
  have p1 : V0.cell? ⟨w.heap.size + 1, 0, none⟩ = some (.int .i64 d0) := S0.out.dc 0 (by omega)
  go_cut [7, 8] from 39 to 48 (fun s7 s8 wx => ∃ p : Nat, s7 = .pointer (some ⟨p, 0, none⟩) ∧ s8 = .int .i64 e0 ∧ FB V0 x0 y0 p wx)
  case first =>
    go_region_held3 (fun w' => w'.cell? ⟨w.heap.size, 0, none⟩ = some (.int .i64 n0) ∧ w'.cell? ⟨w.heap.size + 1, 0, none⟩ = some (.int .i64 d0)) (exact ⟨cell_later (by repeat' (first | (with_reducible exact Below.refl _ _) | (with_reducible assumption) | (refine below_step (by assumption) ?_ ?_) | (with_reducible refine below_drewN ?_ _) | (with_reducible refine Below.drew ?_) | (with_reducible refine Below.alloc ?_ ?_ _) | (with_reducible refine Below.setCell ?_ ?_ _) | go_size | exact Nat.le_refl _ | exact Nat.le_succ _ | exact Nat.le_of_lt (by assumption))) p0, cell_later (by repeat' (first | (with_reducible exact Below.refl _ _) | (with_reducible assumption) | (refine below_step (by assumption) ?_ ?_) | (with_reducible refine below_drewN ?_ _) | (with_reducible refine Below.drew ?_) | (with_reducible refine Below.alloc ?_ ?_ _) | (with_reducible refine Below.setCell ?_ ?_ _) | go_size | exact Nat.le_refl _ | exact Nat.le_succ _ | exact Nat.le_of_lt (by assumption))) p1⟩) (first | (go_at_call 22; (with_reducible refine (M0.out ((V0.alloc (.cells #[.int .i64 0, .int .i64 0] 40)).drew)).mono ?_); rintro e w' ⟨rfl, hb⟩; obtain ⟨hc0, hc1, hf0, hf1, hz, hq, hbb⟩ := newbox hb) | (go_at_call 22; (with_reducible refine (M0.out V0.drew).mono ?_); rintro e w' ⟨rfl, hb⟩; have hz : V0.heap.size ≤ w'.heap.size := hb.size; have hbb : Below V0.heap.size V0 w' := drew_below hb))
    all_goals go_wp2_with fail
    all_goals go_meet
    all_goals first | exact ⟨_, rfl, rfl, FB.of_first hb⟩ | exact ⟨_, rfl, rfl, FB.of_second hb⟩
  obtain ⟨q0, rfl, rfl, hFB⟩ := hcut
  obtain ⟨U0, rfl⟩ : ∃ U : World, U = wc := ⟨_, rfl⟩
  have T0 := Lib.hid (S0.out.keep hFB.below)
  have r0 := hFB.c0
  have r1 := hFB.c1
  have r2 := hFB.hi
  have rz : w.heap.size + 1 + 1 < U0.heap.size := by have := hFB.below.size; omega
  have rn : q0 ≠ w.heap.size + 1 + 1 := by have := hFB.lo; omega
  have p1' : U0.cell? ⟨w.heap.size + 1, 0, none⟩ = some (.int .i64 d0) := T0.out.dc 0 (by omega)
  have rz1 : w.heap.size + 1 < U0.heap.size := by omega
  clear p0 p1 hFB S0 z0
  by_cases he : e0 = 0
  case neg =>
    have hee : (e0 != 0) = true := by simpa using he
    rcases ER0.out he with ⟨g1, g2⟩ | ⟨g1, g2⟩
    · subst g1; subst g2
      go_wp2_with (go_at_call 16; (with_reducible refine (sane_any _).mono ?_); rintro e w8 ⟨rfl, hb8⟩)
      go_ret
      exact ⟨rfl, below_step hb8 T0.out.below T0.out.below.size⟩
    · subst g1
      have g3 : (d0 == 0) = false := by simpa using g2
      go_wp2_with (go_at_call 16; (with_reducible refine (sane_any _).mono ?_); rintro e w8 ⟨rfl, hb8⟩)
      go_ret
      exact ⟨rfl, below_step hb8 T0.out.below T0.out.below.size⟩
  subst he
  have hok0 := OK0.out rfl
  have CK0 : Hid (∀ W, Calls Try.prog 50 #[.agg #[.int .i64 x0, .int .i64 y0]] W fun e w' => e = .returned (.int .i64 0) ∧ Below W.heap.size W w') := Lib.hid (check_ok hok0)
  have HOK0 := Lib.hid hok0
  clear hok0
  have lc0 := T0.out.cell 0 (by simp)
  have lc1 := T0.out.cell 1 (by simp)
  have lf0 := T0.out.free 0
  have lf1 := T0.out.free 1
  go_wp2_with fail
  refine (CK0.out _).mono ?_
  rintro e V1 ⟨rfl, hbV⟩
  have S1 : Hid (LS w [n0, n1, n2] [d0, d1, d2] [x0, y0, 0, 0, 0, 0] V1) := Lib.hid (((T0.out.set 0 x0).set 1 y0).keep hbV)
  have z1 : w.heap.size + 1 + 1 < V1.heap.size := by have := hbV.size; simp only [World.size_setCell] at this; omega
  clear hbV lc0 lc1 lf0 lf1 r0 r1 r2 rn rz rz1 p1' T0 CK0
  go_wp2
  rw [rounds_succ]
  go_upto_region 5 with fail
  have p0 : V1.cell? ⟨w.heap.size, 1, none⟩ = some (.int .i64 n1) := S1.out.nc 1 (by omega)
  have p1 : V1.cell? ⟨w.heap.size + 1, 1, none⟩ = some (.int .i64 d1) := S1.out.dc 1 (by omega)
  go_cut [7, 8] from 39 to 48 (fun s7 s8 wx => ∃ p : Nat, s7 = .pointer (some ⟨p, 0, none⟩) ∧ s8 = .int .i64 e1 ∧ FB V1 x1 y1 p wx)
  case first =>
    go_region_held3 (fun w' => w'.cell? ⟨w.heap.size, 1, none⟩ = some (.int .i64 n1) ∧ w'.cell? ⟨w.heap.size + 1, 1, none⟩ = some (.int .i64 d1)) (exact ⟨cell_later (by repeat' (first | (with_reducible exact Below.refl _ _) | (with_reducible assumption) | (refine below_step (by assumption) ?_ ?_) | (with_reducible refine below_drewN ?_ _) | (with_reducible refine Below.drew ?_) | (with_reducible refine Below.alloc ?_ ?_ _) | (with_reducible refine Below.setCell ?_ ?_ _) | go_size | exact Nat.le_refl _ | exact Nat.le_succ _ | exact Nat.le_of_lt (by assumption))) p0, cell_later (by repeat' (first | (with_reducible exact Below.refl _ _) | (with_reducible assumption) | (refine below_step (by assumption) ?_ ?_) | (with_reducible refine below_drewN ?_ _) | (with_reducible refine Below.drew ?_) | (with_reducible refine Below.alloc ?_ ?_ _) | (with_reducible refine Below.setCell ?_ ?_ _) | go_size | exact Nat.le_refl _ | exact Nat.le_succ _ | exact Nat.le_of_lt (by assumption))) p1⟩) (first | (go_at_call 22; (with_reducible refine (M1.out ((V1.alloc (.cells #[.int .i64 0, .int .i64 0] 40)).drew)).mono ?_); rintro e w' ⟨rfl, hb⟩; obtain ⟨hc0, hc1, hf0, hf1, hz, hq, hbb⟩ := newbox hb) | (go_at_call 22; (with_reducible refine (M1.out V1.drew).mono ?_); rintro e w' ⟨rfl, hb⟩; have hz : V1.heap.size ≤ w'.heap.size := hb.size; have hbb : Below V1.heap.size V1 w' := drew_below hb))
    all_goals go_wp2_with fail
    all_goals go_meet
    all_goals first | exact ⟨_, rfl, rfl, FB.of_first hb⟩ | exact ⟨_, rfl, rfl, FB.of_second hb⟩
  obtain ⟨q1, rfl, rfl, hFB⟩ := hcut
  obtain ⟨U1, rfl⟩ : ∃ U : World, U = wc := ⟨_, rfl⟩
  have T1 := Lib.hid (S1.out.keep hFB.below)
  have r0 := hFB.c0
  have r1 := hFB.c1
  have r2 := hFB.hi
  have rz : w.heap.size + 1 + 1 < U1.heap.size := by have := hFB.below.size; omega
  have rn : q1 ≠ w.heap.size + 1 + 1 := by have := hFB.lo; omega
  have p1' : U1.cell? ⟨w.heap.size + 1, 1, none⟩ = some (.int .i64 d1) := T1.out.dc 1 (by omega)
  have rz1 : w.heap.size + 1 < U1.heap.size := by omega
  clear p0 p1 hFB S1 z1
  by_cases he : e1 = 0
  case neg =>
    have hee : (e1 != 0) = true := by simpa using he
    rcases ER1.out he with ⟨g1, g2⟩ | ⟨g1, g2⟩
    · subst g1; subst g2
      go_wp2_with (go_at_call 16; (with_reducible refine (sane_any _).mono ?_); rintro e w8 ⟨rfl, hb8⟩)
      go_ret
      exact ⟨rfl, below_step hb8 T1.out.below T1.out.below.size⟩
    · subst g1
      have g3 : (d1 == 0) = false := by simpa using g2
      go_wp2_with (go_at_call 16; (with_reducible refine (sane_any _).mono ?_); rintro e w8 ⟨rfl, hb8⟩)
      go_ret
      exact ⟨rfl, below_step hb8 T1.out.below T1.out.below.size⟩
  subst he
  have hok1 := OK1.out rfl
  have CK1 : Hid (∀ W, Calls Try.prog 50 #[.agg #[.int .i64 x1, .int .i64 y1]] W fun e w' => e = .returned (.int .i64 0) ∧ Below W.heap.size W w') := Lib.hid (check_ok hok1)
  have HOK1 := Lib.hid hok1
  clear hok1
  have lc0 := T1.out.cell 2 (by simp)
  have lc1 := T1.out.cell 3 (by simp)
  have lf0 := T1.out.free 2
  have lf1 := T1.out.free 3
  go_wp2_with fail
  refine (CK1.out _).mono ?_
  rintro e V2 ⟨rfl, hbV⟩
  have S2 : Hid (LS w [n0, n1, n2] [d0, d1, d2] [x0, y0, x1, y1, 0, 0] V2) := Lib.hid (((T1.out.set 2 x1).set 3 y1).keep hbV)
  have z2 : w.heap.size + 1 + 1 < V2.heap.size := by have := hbV.size; simp only [World.size_setCell] at this; omega
  clear hbV lc0 lc1 lf0 lf1 r0 r1 r2 rn rz rz1 p1' T1 CK1
  go_wp2
  rw [rounds_succ]
  go_upto_region 5 with fail
  have p0 : V2.cell? ⟨w.heap.size, 2, none⟩ = some (.int .i64 n2) := S2.out.nc 2 (by omega)
  have p1 : V2.cell? ⟨w.heap.size + 1, 2, none⟩ = some (.int .i64 d2) := S2.out.dc 2 (by omega)
  go_cut [7, 8] from 39 to 48 (fun s7 s8 wx => ∃ p : Nat, s7 = .pointer (some ⟨p, 0, none⟩) ∧ s8 = .int .i64 e2 ∧ FB V2 x2 y2 p wx)
  case first =>
    go_region_held3 (fun w' => w'.cell? ⟨w.heap.size, 2, none⟩ = some (.int .i64 n2) ∧ w'.cell? ⟨w.heap.size + 1, 2, none⟩ = some (.int .i64 d2)) (exact ⟨cell_later (by repeat' (first | (with_reducible exact Below.refl _ _) | (with_reducible assumption) | (refine below_step (by assumption) ?_ ?_) | (with_reducible refine below_drewN ?_ _) | (with_reducible refine Below.drew ?_) | (with_reducible refine Below.alloc ?_ ?_ _) | (with_reducible refine Below.setCell ?_ ?_ _) | go_size | exact Nat.le_refl _ | exact Nat.le_succ _ | exact Nat.le_of_lt (by assumption))) p0, cell_later (by repeat' (first | (with_reducible exact Below.refl _ _) | (with_reducible assumption) | (refine below_step (by assumption) ?_ ?_) | (with_reducible refine below_drewN ?_ _) | (with_reducible refine Below.drew ?_) | (with_reducible refine Below.alloc ?_ ?_ _) | (with_reducible refine Below.setCell ?_ ?_ _) | go_size | exact Nat.le_refl _ | exact Nat.le_succ _ | exact Nat.le_of_lt (by assumption))) p1⟩) (first | (go_at_call 22; (with_reducible refine (M2.out ((V2.alloc (.cells #[.int .i64 0, .int .i64 0] 40)).drew)).mono ?_); rintro e w' ⟨rfl, hb⟩; obtain ⟨hc0, hc1, hf0, hf1, hz, hq, hbb⟩ := newbox hb) | (go_at_call 22; (with_reducible refine (M2.out V2.drew).mono ?_); rintro e w' ⟨rfl, hb⟩; have hz : V2.heap.size ≤ w'.heap.size := hb.size; have hbb : Below V2.heap.size V2 w' := drew_below hb))
    all_goals go_wp2_with fail
    all_goals go_meet
    all_goals first | exact ⟨_, rfl, rfl, FB.of_first hb⟩ | exact ⟨_, rfl, rfl, FB.of_second hb⟩
  obtain ⟨q2, rfl, rfl, hFB⟩ := hcut
  obtain ⟨U2, rfl⟩ : ∃ U : World, U = wc := ⟨_, rfl⟩
  have T2 := Lib.hid (S2.out.keep hFB.below)
  have r0 := hFB.c0
  have r1 := hFB.c1
  have r2 := hFB.hi
  have rz : w.heap.size + 1 + 1 < U2.heap.size := by have := hFB.below.size; omega
  have rn : q2 ≠ w.heap.size + 1 + 1 := by have := hFB.lo; omega
  have p1' : U2.cell? ⟨w.heap.size + 1, 2, none⟩ = some (.int .i64 d2) := T2.out.dc 2 (by omega)
  have rz1 : w.heap.size + 1 < U2.heap.size := by omega
  clear p0 p1 hFB S2 z2
  by_cases he : e2 = 0
  case neg =>
    have hee : (e2 != 0) = true := by simpa using he
    rcases ER2.out he with ⟨g1, g2⟩ | ⟨g1, g2⟩
    · subst g1; subst g2
      go_wp2_with (go_at_call 16; (with_reducible refine (sane_any _).mono ?_); rintro e w8 ⟨rfl, hb8⟩)
      go_ret
      exact ⟨rfl, below_step hb8 T2.out.below T2.out.below.size⟩
    · subst g1
      have g3 : (d2 == 0) = false := by simpa using g2
      go_wp2_with (go_at_call 16; (with_reducible refine (sane_any _).mono ?_); rintro e w8 ⟨rfl, hb8⟩)
      go_ret
      exact ⟨rfl, below_step hb8 T2.out.below T2.out.below.size⟩
  subst he
  have hok2 := OK2.out rfl
  have CK2 : Hid (∀ W, Calls Try.prog 50 #[.agg #[.int .i64 x2, .int .i64 y2]] W fun e w' => e = .returned (.int .i64 0) ∧ Below W.heap.size W w') := Lib.hid (check_ok hok2)
  have HOK2 := Lib.hid hok2
  clear hok2
  have lc0 := T2.out.cell 4 (by simp)
  have lc1 := T2.out.cell 5 (by simp)
  have lf0 := T2.out.free 4
  have lf1 := T2.out.free 5
  go_wp2_with fail
  refine (CK2.out _).mono ?_
  rintro e V3 ⟨rfl, hbV⟩
  have S3 : Hid (LS w [n0, n1, n2] [d0, d1, d2] [x0, y0, x1, y1, x2, y2] V3) := Lib.hid (((T2.out.set 4 x2).set 5 y2).keep hbV)
  have z3 : w.heap.size + 1 + 1 < V3.heap.size := by have := hbV.size; simp only [World.size_setCell] at this; omega
  clear hbV lc0 lc1 lf0 lf1 r0 r1 r2 rn rz rz1 p1' T2 CK2
  go_wp2
  rw [rounds_succ]
  clear OK0 OK1 OK2 ER0 ER1 ER2 M0 M1 M2
  obtain ⟨xn, xd, f1, pn, pd, f3, zn, zd, f5, k1, k2, un, ud, f6, sn, sd, g1, tn, td, g2, vn, vd, g3, lo, hi, mid, HF⟩ := fields_facts HOK0.out HOK1.out HOK2.out
  have LB := Lib.hid HF.lobd
  have lc0 : V3.cell? ⟨w.heap.size + 1 + 1, 0, none⟩ = some (.int .i64 x0) := S3.out.cell 0 (by simp)
  have lc1 : V3.cell? ⟨w.heap.size + 1 + 1, 1, none⟩ = some (.int .i64 y0) := S3.out.cell 1 (by simp)
  have lc2 : V3.cell? ⟨w.heap.size + 1 + 1, 2, none⟩ = some (.int .i64 x1) := S3.out.cell 2 (by simp)
  have lc3 : V3.cell? ⟨w.heap.size + 1 + 1, 3, none⟩ = some (.int .i64 y1) := S3.out.cell 3 (by simp)
  go_wp2_with fail
  refine ((HF.A1) _).mono ?_
  rintro e V4 ⟨rfl, hb⟩
  have hbU : Below V3.heap.size V3 V4 := below_ab (below_ab (hb))
  have ca0 : V4.cell? ⟨V3.heap.size, 0, none⟩ = some (.int .i64 x0) := by rw [hb.cell (by simp only [World.size_alloc]; omega)]; simp [go_sem]
  have ca1 : V4.cell? ⟨V3.heap.size, 1, none⟩ = some (.int .i64 y0) := by rw [hb.cell (by simp only [World.size_alloc]; omega)]; simp [go_sem]
  have ma : V3.heap.size < V4.heap.size := by have := hb.size; simp only [World.size_alloc] at this; omega
  have cb0 : V4.cell? ⟨V3.heap.size + 1, 0, none⟩ = some (.int .i64 x1) := by rw [hb.cell (by simp only [World.size_alloc]; omega)]; simp [go_sem]
  have cb1 : V4.cell? ⟨V3.heap.size + 1, 1, none⟩ = some (.int .i64 y1) := by rw [hb.cell (by simp only [World.size_alloc]; omega)]; simp [go_sem]
  have mb : V3.heap.size + 1 < V4.heap.size := by have := hb.size; simp only [World.size_alloc] at this; omega
  have S4 := Lib.hid (S3.out.keep hbU)
  have z4 : w.heap.size + 1 + 1 < V4.heap.size := by have := hbU.size; omega
  clear hb hbU S3 z3
  clear lc0 lc1 lc2 lc3
  go_wp2_with fail
  refine ((HF.A2) _).mono ?_
  rintro e V5 ⟨rfl, hb⟩
  have hbU : Below V4.heap.size V4 V5 := below_ab (hb)
  replace ca0 := cell_later hbU ca0
  replace ca1 := cell_later hbU ca1
  replace ma : V3.heap.size < V5.heap.size := by have := hbU.size; omega
  replace cb0 := cell_later hbU cb0
  replace cb1 := cell_later hbU cb1
  replace mb : V3.heap.size + 1 < V5.heap.size := by have := hbU.size; omega
  have cx0 : V5.cell? ⟨V4.heap.size, 0, none⟩ = some (.int .i64 xn) := by rw [hb.cell (by simp only [World.size_alloc]; omega)]; simp [go_sem]
  have cx1 : V5.cell? ⟨V4.heap.size, 1, none⟩ = some (.int .i64 xd) := by rw [hb.cell (by simp only [World.size_alloc]; omega)]; simp [go_sem]
  have mx : V4.heap.size < V5.heap.size := by have := hb.size; simp only [World.size_alloc] at this; omega
  have S5 := Lib.hid (S4.out.keep hbU)
  have z5 : w.heap.size + 1 + 1 < V5.heap.size := by have := hbU.size; omega
  clear hb hbU S4 z4
  go_wp2_with fail
  refine ((HF.A3) _).mono ?_
  rintro e V6 ⟨rfl, hb⟩
  have hbU : Below V5.heap.size V5 V6 := below_ab (hb)
  replace ca0 := cell_later hbU ca0
  replace ca1 := cell_later hbU ca1
  replace ma : V3.heap.size < V6.heap.size := by have := hbU.size; omega
  replace cb0 := cell_later hbU cb0
  replace cb1 := cell_later hbU cb1
  replace mb : V3.heap.size + 1 < V6.heap.size := by have := hbU.size; omega
  replace cx0 := cell_later hbU cx0
  replace cx1 := cell_later hbU cx1
  replace mx : V4.heap.size < V6.heap.size := by have := hbU.size; omega
  have cX0 : V6.cell? ⟨V5.heap.size, 0, none⟩ = some (.int .i64 xn) := by rw [hb.cell (by simp only [World.size_alloc]; omega)]; simp [go_sem]
  have cX1 : V6.cell? ⟨V5.heap.size, 1, none⟩ = some (.int .i64 xd) := by rw [hb.cell (by simp only [World.size_alloc]; omega)]; simp [go_sem]
  have mX : V5.heap.size < V6.heap.size := by have := hb.size; simp only [World.size_alloc] at this; omega
  have S6 := Lib.hid (S5.out.keep hbU)
  have z6 : w.heap.size + 1 + 1 < V6.heap.size := by have := hbU.size; omega
  clear hb hbU S5 z5
  go_wp2_with fail
  refine ((HF.A4) _).mono ?_
  rintro e V7 ⟨rfl, hb⟩
  have hbU : Below V6.heap.size V6 V7 := below_ab (hb)
  replace ca0 := cell_later hbU ca0
  replace ca1 := cell_later hbU ca1
  replace ma : V3.heap.size < V7.heap.size := by have := hbU.size; omega
  replace cb0 := cell_later hbU cb0
  replace cb1 := cell_later hbU cb1
  replace mb : V3.heap.size + 1 < V7.heap.size := by have := hbU.size; omega
  replace cx0 := cell_later hbU cx0
  replace cx1 := cell_later hbU cx1
  replace mx : V4.heap.size < V7.heap.size := by have := hbU.size; omega
  replace cX0 := cell_later hbU cX0
  replace cX1 := cell_later hbU cX1
  replace mX : V5.heap.size < V7.heap.size := by have := hbU.size; omega
  have cp0 : V7.cell? ⟨V6.heap.size, 0, none⟩ = some (.int .i64 pn) := by rw [hb.cell (by simp only [World.size_alloc]; omega)]; simp [go_sem]
  have cp1 : V7.cell? ⟨V6.heap.size, 1, none⟩ = some (.int .i64 pd) := by rw [hb.cell (by simp only [World.size_alloc]; omega)]; simp [go_sem]
  have mp : V6.heap.size < V7.heap.size := by have := hb.size; simp only [World.size_alloc] at this; omega
  have S7 := Lib.hid (S6.out.keep hbU)
  have z7 : w.heap.size + 1 + 1 < V7.heap.size := by have := hbU.size; omega
  clear hb hbU S6 z6
  go_wp2_with fail
  refine ((HF.A5) _).mono ?_
  rintro e V8 ⟨rfl, hb⟩
  have hbU : Below V7.heap.size V7 V8 := below_ab (hb)
  replace ca0 := cell_later hbU ca0
  replace ca1 := cell_later hbU ca1
  replace ma : V3.heap.size < V8.heap.size := by have := hbU.size; omega
  replace cb0 := cell_later hbU cb0
  replace cb1 := cell_later hbU cb1
  replace mb : V3.heap.size + 1 < V8.heap.size := by have := hbU.size; omega
  replace cx0 := cell_later hbU cx0
  replace cx1 := cell_later hbU cx1
  replace mx : V4.heap.size < V8.heap.size := by have := hbU.size; omega
  replace cX0 := cell_later hbU cX0
  replace cX1 := cell_later hbU cX1
  replace mX : V5.heap.size < V8.heap.size := by have := hbU.size; omega
  replace cp0 := cell_later hbU cp0
  replace cp1 := cell_later hbU cp1
  replace mp : V6.heap.size < V8.heap.size := by have := hbU.size; omega
  have cP0 : V8.cell? ⟨V7.heap.size, 0, none⟩ = some (.int .i64 pn) := by rw [hb.cell (by simp only [World.size_alloc]; omega)]; simp [go_sem]
  have cP1 : V8.cell? ⟨V7.heap.size, 1, none⟩ = some (.int .i64 pd) := by rw [hb.cell (by simp only [World.size_alloc]; omega)]; simp [go_sem]
  have mP : V7.heap.size < V8.heap.size := by have := hb.size; simp only [World.size_alloc] at this; omega
  have S8 := Lib.hid (S7.out.keep hbU)
  have z8 : w.heap.size + 1 + 1 < V8.heap.size := by have := hbU.size; omega
  clear hb hbU S7 z7
  go_upto_region 20 with fail
  generalize hW : V8.alloc (.cells #[.int .i64 zn, .int .i64 zd] 40) = Wz
  have hbU : Below V8.heap.size V8 Wz := by rw [← hW]; repeat' (first | (with_reducible exact Below.refl _ _) | (with_reducible assumption) | (refine below_step (by assumption) ?_ ?_) | (with_reducible refine below_drewN ?_ _) | (with_reducible refine Below.drew ?_) | (with_reducible refine Below.alloc ?_ ?_ _) | (with_reducible refine Below.setCell ?_ ?_ _) | go_size | exact Nat.le_refl _ | exact Nat.le_succ _ | exact Nat.le_of_lt (by assumption))
  have hsz : V8.heap.size + 1 = Wz.heap.size := by rw [← hW]; simp
  replace ca0 := cell_later hbU ca0
  replace ca1 := cell_later hbU ca1
  replace ma : V3.heap.size < Wz.heap.size := by have := hbU.size; omega
  replace cb0 := cell_later hbU cb0
  replace cb1 := cell_later hbU cb1
  replace mb : V3.heap.size + 1 < Wz.heap.size := by have := hbU.size; omega
  replace cx0 := cell_later hbU cx0
  replace cx1 := cell_later hbU cx1
  replace mx : V4.heap.size < Wz.heap.size := by have := hbU.size; omega
  replace cX0 := cell_later hbU cX0
  replace cX1 := cell_later hbU cX1
  replace mX : V5.heap.size < Wz.heap.size := by have := hbU.size; omega
  replace cp0 := cell_later hbU cp0
  replace cp1 := cell_later hbU cp1
  replace mp : V6.heap.size < Wz.heap.size := by have := hbU.size; omega
  replace cP0 := cell_later hbU cP0
  replace cP1 := cell_later hbU cP1
  replace mP : V7.heap.size < Wz.heap.size := by have := hbU.size; omega
  have cz0 : Wz.cell? ⟨V8.heap.size, 0, none⟩ = some (.int .i64 zn) := by rw [← hW]; simp [go_sem]
  have cz1 : Wz.cell? ⟨V8.heap.size, 1, none⟩ = some (.int .i64 zd) := by rw [← hW]; simp [go_sem]
  have mz : V8.heap.size < Wz.heap.size := by omega
  have S9 := Lib.hid (S8.out.keep hbU)
  have z9 : w.heap.size + 1 + 1 < Wz.heap.size := by have := hbU.size; omega
  clear hW hbU hsz S8 z8
  clear cX0 cX1 mX
  clear cP0 cP1 mP
  go_cut [138] from 119 to 137 (fun s138 wx => s138 = .bool false ∧ Bl Wz wx)
  case first =>
    by_cases hf1 : f1 = 0
    · obtain ⟨g1z, g2z, g3z, g4z⟩ := HF.h5 hf1
      subst hf1 g1z g2z g3z g4z
      have Kcz0 := Kd.cell cz0
      have Kcz1 := Kd.cell cz1
      have Kca0 := Kd.cell ca0
      have Kca1 := Kd.cell ca1
      have Kcx0 := Kd.cell cx0
      have Kcx1 := Kd.cell cx1
      have Kcb0 := Kd.cell cb0
      have Kcb1 := Kd.cell cb1
      have HC1 := Lib.hid HF.C1
      have HC2 := Lib.hid HF.C2
      clear cz0 cz1 ca0 ca1 cx0 cx1 cb0 cb1 HF
      refine region_kept (by kernel_rfl) (by kernel_rfl) ?_
      iterate 13 (go_big_quiet_step (fail))
      go_big_quiet_step ((go_at_call 52; exact kept_call (HC1.out _)))
      repeat (go_big_quiet_step ((go_at_call 52; exact kept_call (HC2.out _))))
      refine wpQuiet_nil ?_
      rintro _ ⟨k, rfl⟩
      go_wp2_with fail
      go_meet
      exact ⟨rfl, k.ok⟩
    · have ef : (f1 == 0) = false := by simpa using hf1
      clear HF hf1
      go_quiet (fail)
      go_wp2_with fail
      go_meet
      exact ⟨rfl, Below.drewN' (Below.refl _ _) _⟩
  obtain ⟨rfl, hbl⟩ := hcut
  obtain ⟨Wy, rfl⟩ : ∃ U : World, U = wc := ⟨_, rfl⟩
  replace hbl : Below Wz.heap.size Wz Wy := hbl
  replace ca0 := cell_later hbl ca0
  replace ca1 := cell_later hbl ca1
  replace ma : V3.heap.size < Wy.heap.size := by have := (hbl).size; omega
  replace cb0 := cell_later hbl cb0
  replace cb1 := cell_later hbl cb1
  replace mb : V3.heap.size + 1 < Wy.heap.size := by have := (hbl).size; omega
  replace cx0 := cell_later hbl cx0
  replace cx1 := cell_later hbl cx1
  replace mx : V4.heap.size < Wy.heap.size := by have := (hbl).size; omega
  replace cp0 := cell_later hbl cp0
  replace cp1 := cell_later hbl cp1
  replace mp : V6.heap.size < Wy.heap.size := by have := (hbl).size; omega
  replace cz0 := cell_later hbl cz0
  replace cz1 := cell_later hbl cz1
  replace mz : V8.heap.size < Wy.heap.size := by have := (hbl).size; omega
  have S10 := Lib.hid (S9.out.keep hbl)
  have z10 : w.heap.size + 1 + 1 < Wy.heap.size := by have := (hbl).size; omega
  clear S9 z9
  clear hbl
  clear cz0 cz1 mz
  go_wp2_with fail
  refine ((HF.A6) _).mono ?_
  rintro e V11 ⟨rfl, hb⟩
  have hbU : Below Wy.heap.size Wy V11 := hb
  replace ca0 := cell_later hbU ca0
  replace ca1 := cell_later hbU ca1
  replace ma : V3.heap.size < V11.heap.size := by have := hbU.size; omega
  replace cb0 := cell_later hbU cb0
  replace cb1 := cell_later hbU cb1
  replace mb : V3.heap.size + 1 < V11.heap.size := by have := hbU.size; omega
  replace cx0 := cell_later hbU cx0
  replace cx1 := cell_later hbU cx1
  replace mx : V4.heap.size < V11.heap.size := by have := hbU.size; omega
  replace cp0 := cell_later hbU cp0
  replace cp1 := cell_later hbU cp1
  replace mp : V6.heap.size < V11.heap.size := by have := hbU.size; omega
  have S11 := Lib.hid (S10.out.keep hbU)
  have z11 : w.heap.size + 1 + 1 < V11.heap.size := by have := hbU.size; omega
  clear hb hbU S10 z10
  go_upto_region 23 with fail
  generalize hW : V11.alloc (.cells #[.int .i64 un, .int .i64 ud] 40) = Wu
  have hbU : Below V11.heap.size V11 Wu := by rw [← hW]; repeat' (first | (with_reducible exact Below.refl _ _) | (with_reducible assumption) | (refine below_step (by assumption) ?_ ?_) | (with_reducible refine below_drewN ?_ _) | (with_reducible refine Below.drew ?_) | (with_reducible refine Below.alloc ?_ ?_ _) | (with_reducible refine Below.setCell ?_ ?_ _) | go_size | exact Nat.le_refl _ | exact Nat.le_succ _ | exact Nat.le_of_lt (by assumption))
  have hsz : V11.heap.size + 1 = Wu.heap.size := by rw [← hW]; simp
  replace ca0 := cell_later hbU ca0
  replace ca1 := cell_later hbU ca1
  replace ma : V3.heap.size < Wu.heap.size := by have := hbU.size; omega
  replace cb0 := cell_later hbU cb0
  replace cb1 := cell_later hbU cb1
  replace mb : V3.heap.size + 1 < Wu.heap.size := by have := hbU.size; omega
  replace cx0 := cell_later hbU cx0
  replace cx1 := cell_later hbU cx1
  replace mx : V4.heap.size < Wu.heap.size := by have := hbU.size; omega
  replace cp0 := cell_later hbU cp0
  replace cp1 := cell_later hbU cp1
  replace mp : V6.heap.size < Wu.heap.size := by have := hbU.size; omega
  have cu0 : Wu.cell? ⟨V11.heap.size, 0, none⟩ = some (.int .i64 un) := by rw [← hW]; simp [go_sem]
  have cu1 : Wu.cell? ⟨V11.heap.size, 1, none⟩ = some (.int .i64 ud) := by rw [← hW]; simp [go_sem]
  have mu : V11.heap.size < Wu.heap.size := by omega
  have S12 := Lib.hid (S11.out.keep hbU)
  have z12 : w.heap.size + 1 + 1 < Wu.heap.size := by have := hbU.size; omega
  clear hW hbU hsz S11 z11
  clear cp0 cp1 mp
  go_cut [160] from 145 to 159 (fun s160 wx => s160 = .bool false ∧ wx = Wu)
  case first =>
    by_cases hf3 : f3 = 0
    · by_cases hb0 : x1 = 0
      · have eb : (x1 != 0) = false := by simpa using hb0
        subst hf3
        clear HF
        go_wp2_with fail
        go_meet
        exact ⟨rfl, rfl⟩
      · obtain ⟨g1z, g2z, g3z⟩ := HF.h6 hf3 hb0
        subst hf3 g1z g2z g3z
        have eb : (x1 != 0) = true := by simpa using hb0
        clear HF
        go_wp2_with fail
        go_meet
        exact ⟨rfl, rfl⟩
    · have ef : (f3 == 0) = false := by simpa using hf3
      clear HF hf3
      go_wp2_with fail
      go_meet
      exact ⟨rfl, rfl⟩
  obtain ⟨rfl, rfl⟩ := hcut
  clear cu0 cu1 mu
  have lc4 : wc.cell? ⟨w.heap.size + 1 + 1, 4, none⟩ = some (.int .i64 x2) := S12.out.cell 4 (by simp)
  have lc5 : wc.cell? ⟨w.heap.size + 1 + 1, 5, none⟩ = some (.int .i64 y2) := S12.out.cell 5 (by simp)
  go_wp2_with fail
  refine ((HF.A7) _).mono ?_
  rintro e V13 ⟨rfl, hb⟩
  have hbU : Below wc.heap.size wc V13 := hb
  replace ca0 := cell_later hbU ca0
  replace ca1 := cell_later hbU ca1
  replace ma : V3.heap.size < V13.heap.size := by have := hbU.size; omega
  replace cb0 := cell_later hbU cb0
  replace cb1 := cell_later hbU cb1
  replace mb : V3.heap.size + 1 < V13.heap.size := by have := hbU.size; omega
  replace cx0 := cell_later hbU cx0
  replace cx1 := cell_later hbU cx1
  replace mx : V4.heap.size < V13.heap.size := by have := hbU.size; omega
  have S13 := Lib.hid (S12.out.keep hbU)
  have z13 : w.heap.size + 1 + 1 < V13.heap.size := by have := hbU.size; omega
  clear hb hbU S12 z12
  clear lc4 lc5
  have lc4 : V13.cell? ⟨w.heap.size + 1 + 1, 4, none⟩ = some (.int .i64 x2) := S13.out.cell 4 (by simp)
  have lc5 : V13.cell? ⟨w.heap.size + 1 + 1, 5, none⟩ = some (.int .i64 y2) := S13.out.cell 5 (by simp)
  go_wp2_with fail
  refine ((HF.A8) _).mono ?_
  rintro e V14 ⟨rfl, hb⟩
  have hbU : Below V13.heap.size V13 V14 := below_ab (hb)
  replace ca0 := cell_later hbU ca0
  replace ca1 := cell_later hbU ca1
  replace ma : V3.heap.size < V14.heap.size := by have := hbU.size; omega
  replace cb0 := cell_later hbU cb0
  replace cb1 := cell_later hbU cb1
  replace mb : V3.heap.size + 1 < V14.heap.size := by have := hbU.size; omega
  replace cx0 := cell_later hbU cx0
  replace cx1 := cell_later hbU cx1
  replace mx : V4.heap.size < V14.heap.size := by have := hbU.size; omega
  have cs0 : V14.cell? ⟨V13.heap.size, 0, none⟩ = some (.int .i64 sn) := by rw [hb.cell (by simp only [World.size_alloc]; omega)]; simp [go_sem]
  have cs1 : V14.cell? ⟨V13.heap.size, 1, none⟩ = some (.int .i64 sd) := by rw [hb.cell (by simp only [World.size_alloc]; omega)]; simp [go_sem]
  have ms : V13.heap.size < V14.heap.size := by have := hb.size; simp only [World.size_alloc] at this; omega
  have S14 := Lib.hid (S13.out.keep hbU)
  have z14 : w.heap.size + 1 + 1 < V14.heap.size := by have := hbU.size; omega
  clear hb hbU S13 z13
  clear lc4 lc5
  go_wp2_with fail
  refine ((HF.A9) _).mono ?_
  rintro e V15 ⟨rfl, hb⟩
  have hbU : Below V14.heap.size V14 V15 := below_ab (hb)
  replace ca0 := cell_later hbU ca0
  replace ca1 := cell_later hbU ca1
  replace ma : V3.heap.size < V15.heap.size := by have := hbU.size; omega
  replace cb0 := cell_later hbU cb0
  replace cb1 := cell_later hbU cb1
  replace mb : V3.heap.size + 1 < V15.heap.size := by have := hbU.size; omega
  replace cx0 := cell_later hbU cx0
  replace cx1 := cell_later hbU cx1
  replace mx : V4.heap.size < V15.heap.size := by have := hbU.size; omega
  replace cs0 := cell_later hbU cs0
  replace cs1 := cell_later hbU cs1
  replace ms : V13.heap.size < V15.heap.size := by have := hbU.size; omega
  have ct0 : V15.cell? ⟨V14.heap.size, 0, none⟩ = some (.int .i64 tn) := by rw [hb.cell (by simp only [World.size_alloc]; omega)]; simp [go_sem]
  have ct1 : V15.cell? ⟨V14.heap.size, 1, none⟩ = some (.int .i64 td) := by rw [hb.cell (by simp only [World.size_alloc]; omega)]; simp [go_sem]
  have mt : V14.heap.size < V15.heap.size := by have := hb.size; simp only [World.size_alloc] at this; omega
  have S15 := Lib.hid (S14.out.keep hbU)
  have z15 : w.heap.size + 1 + 1 < V15.heap.size := by have := hbU.size; omega
  clear hb hbU S14 z14
  go_upto_region 28 with fail
  generalize hW : V15.alloc (.cells #[.int .i64 vn, .int .i64 vd] 40) = Wv
  have hbU : Below V15.heap.size V15 Wv := by rw [← hW]; repeat' (first | (with_reducible exact Below.refl _ _) | (with_reducible assumption) | (refine below_step (by assumption) ?_ ?_) | (with_reducible refine below_drewN ?_ _) | (with_reducible refine Below.drew ?_) | (with_reducible refine Below.alloc ?_ ?_ _) | (with_reducible refine Below.setCell ?_ ?_ _) | go_size | exact Nat.le_refl _ | exact Nat.le_succ _ | exact Nat.le_of_lt (by assumption))
  have hsz : V15.heap.size + 1 = Wv.heap.size := by rw [← hW]; simp
  replace ca0 := cell_later hbU ca0
  replace ca1 := cell_later hbU ca1
  replace ma : V3.heap.size < Wv.heap.size := by have := hbU.size; omega
  replace cb0 := cell_later hbU cb0
  replace cb1 := cell_later hbU cb1
  replace mb : V3.heap.size + 1 < Wv.heap.size := by have := hbU.size; omega
  replace cx0 := cell_later hbU cx0
  replace cx1 := cell_later hbU cx1
  replace mx : V4.heap.size < Wv.heap.size := by have := hbU.size; omega
  replace cs0 := cell_later hbU cs0
  replace cs1 := cell_later hbU cs1
  replace ms : V13.heap.size < Wv.heap.size := by have := hbU.size; omega
  replace ct0 := cell_later hbU ct0
  replace ct1 := cell_later hbU ct1
  replace mt : V14.heap.size < Wv.heap.size := by have := hbU.size; omega
  have cv0 : Wv.cell? ⟨V15.heap.size, 0, none⟩ = some (.int .i64 vn) := by rw [← hW]; simp [go_sem]
  have cv1 : Wv.cell? ⟨V15.heap.size, 1, none⟩ = some (.int .i64 vd) := by rw [← hW]; simp [go_sem]
  have mv : V15.heap.size < Wv.heap.size := by omega
  have S16 := Lib.hid (S15.out.keep hbU)
  have z16 : w.heap.size + 1 + 1 < Wv.heap.size := by have := hbU.size; omega
  clear hW hbU hsz S15 z15
  clear cb0 cb1 mb
  clear cx0 cx1 mx
  clear ct0 ct1 mt
  go_cut [199] from 181 to 198 (fun s199 wx => s199 = .bool false ∧ wx = Wv)
  case first =>
    by_cases hf1 : f1 = 0
    · by_cases hg1 : g1 = 0
      · by_cases hg2 : g2 = 0
        · obtain ⟨g1z, g2z, g3z⟩ := HF.h9 hf1 hg1 hg2
          subst hf1 hg1 hg2 g1z g2z g3z
          clear HF
          go_wp2_with fail
          go_meet
          exact ⟨rfl, rfl⟩
        · have ef : (g2 == 0) = false := by simpa using hg2
          subst hf1 hg1
          clear HF hg2
          go_wp2_with fail
          go_meet
          exact ⟨rfl, rfl⟩
      · have ef : (g1 == 0) = false := by simpa using hg1
        subst hf1
        clear HF hg1
        go_wp2_with fail
        go_meet
        exact ⟨rfl, rfl⟩
    · have ef : (f1 == 0) = false := by simpa using hf1
      clear HF hf1
      go_wp2_with fail
      go_meet
      exact ⟨rfl, rfl⟩
  obtain ⟨rfl, rfl⟩ := hcut
  clear cs0 cs1 ms
  clear cv0 cv1 mv
  obtain ⟨Wf, rfl⟩ : ∃ U : World, U = wc := ⟨_, rfl⟩
  go_wp2_with fail
  refine ((HF.R1) _).mono ?_
  rintro e V17 ⟨rfl, hb⟩
  have hbU : Below Wf.heap.size Wf V17 := hb
  replace ca0 := cell_later hbU ca0
  replace ca1 := cell_later hbU ca1
  replace ma : V3.heap.size < V17.heap.size := by have := hbU.size; omega
  have S17 := Lib.hid (S16.out.keep hbU)
  have z17 : w.heap.size + 1 + 1 < V17.heap.size := by have := hbU.size; omega
  clear hb hbU S16 z16
  go_wp2_with fail
  refine ((HF.R2) _).mono ?_
  rintro e V18 ⟨rfl, hb⟩
  have hbU : Below V17.heap.size V17 V18 := hb
  replace ca0 := cell_later hbU ca0
  replace ca1 := cell_later hbU ca1
  replace ma : V3.heap.size < V18.heap.size := by have := hbU.size; omega
  have S18 := Lib.hid (S17.out.keep hbU)
  have z18 : w.heap.size + 1 + 1 < V18.heap.size := by have := hbU.size; omega
  clear hb hbU S17 z17
  go_wp2_with fail
  refine ((HF.R3) _).mono ?_
  rintro e V19 ⟨rfl, hb⟩
  have hbU : Below V18.heap.size V18 V19 := hb
  replace ca0 := cell_later hbU ca0
  replace ca1 := cell_later hbU ca1
  replace ma : V3.heap.size < V19.heap.size := by have := hbU.size; omega
  have S19 := Lib.hid (S18.out.keep hbU)
  have z19 : w.heap.size + 1 + 1 < V19.heap.size := by have := hbU.size; omega
  clear hb hbU S18 z18
  obtain ⟨⟨lb0, lb1⟩, ⟨hb0, hb1⟩, ⟨mb0, mb1⟩⟩ := HF.lobd
  obtain ⟨l1, l2, l3, l4⟩ := HF.l1
  obtain ⟨l5, l6, l7⟩ := HF.l2
  obtain ⟨u0, u1, u2, u3⟩ := okF_bd' HOK0.out
  have v1 := mulbd (x := lo) (y := y0) (M := 1000000000) (N := 1000000000) (by omega) (by omega) (by omega) (by omega)
  have v2 := mulbd (x := lo + 1) (y := y0) (M := 1000000001) (N := 1000000000) (by omega) (by omega) (by omega) (by omega)
  have v3 := mulbd (x := hi) (y := y0) (M := 1000000000) (N := 1000000000) (by omega) (by omega) (by omega) (by omega)
  have v4 := mulbd (x := hi - 1) (y := y0) (M := 1000000001) (N := 1000000000) (by omega) (by omega) (by omega) (by omega)
  have v5 := mulbd (x := mid) (y := y0) (M := 1000000000) (N := 1000000000) (by omega) (by omega) (by omega) (by omega)
  obtain ⟨v10, v11⟩ := v1
  obtain ⟨v20, v21⟩ := v2
  obtain ⟨v30, v31⟩ := v3
  obtain ⟨v40, v41⟩ := v4
  obtain ⟨v50, v51⟩ := v5
  have dd1 : decide (x0 < lo * y0) = false := decide_eq_false (by omega)
  have dd2 : decide ((lo + 1) * y0 ≤ x0) = false := decide_eq_false (by omega)
  have dd3 : decide (hi * y0 < x0) = false := decide_eq_false (by omega)
  have dd4 : decide (x0 ≤ (hi - 1) * y0) = false := decide_eq_false (by omega)
  have dd5 : decide (2 * (x0 - mid * y0) < y0) = true := decide_eq_true (by omega)
  have dd6 : decide (2 * (mid * y0 - x0) ≤ y0) = true := decide_eq_true (by omega)
  have ew1 : IntKind.i64.wrap (lo * y0) = lo * y0 := IntWalk.i64_in _ ⟨by omega, by omega⟩
  have ew2 : IntKind.i64.wrap (lo + 1) = lo + 1 := IntWalk.i64_in _ ⟨by omega, by omega⟩
  have ew3 : IntKind.i64.wrap ((lo + 1) * y0) = (lo + 1) * y0 := IntWalk.i64_in _ ⟨by omega, by omega⟩
  have ew4 : IntKind.i64.wrap (hi * y0) = hi * y0 := IntWalk.i64_in _ ⟨by omega, by omega⟩
  have ew5 : IntKind.i64.wrap (hi - 1) = hi - 1 := IntWalk.i64_in _ ⟨by omega, by omega⟩
  have ew6 : IntKind.i64.wrap ((hi - 1) * y0) = (hi - 1) * y0 := IntWalk.i64_in _ ⟨by omega, by omega⟩
  have ew7 : IntKind.i64.wrap (mid * y0) = mid * y0 := IntWalk.i64_in _ ⟨by omega, by omega⟩
  have ew8 : IntKind.i64.wrap (x0 - mid * y0) = x0 - mid * y0 := IntWalk.i64_in _ ⟨by omega, by omega⟩
  have ew9 : IntKind.i64.wrap (2 * (x0 - mid * y0)) = 2 * (x0 - mid * y0) := IntWalk.i64_in _ ⟨by omega, by omega⟩
  have ew10 : IntKind.i64.wrap (mid * y0 - x0) = mid * y0 - x0 := IntWalk.i64_in _ ⟨by omega, by omega⟩
  have ew11 : IntKind.i64.wrap (2 * (mid * y0 - x0)) = 2 * (mid * y0 - x0) := IntWalk.i64_in _ ⟨by omega, by omega⟩
  clear v10 v11 v20 v21 v30 v31 v40 v41 v50 v51 lb0 lb1 hb0 hb1 mb0 mb1 u0 u1 u2 u3 HF LB l1 l2 l3 l4 l6 l7
  go_upto_region 35 with fail
  by_cases hml : mid = lo
  · subst hml
    go_wp2_with (go_at_call 16; (with_reducible refine (sane_any _).mono ?_); rintro e w8 ⟨rfl, hb8⟩)
    go_ret
    exact ⟨rfl, below_step hb8 S19.out.below S19.out.below.size⟩
  · have hmh : mid = hi := l5.resolve_left hml
    have em : (mid == lo) = false := by simpa using hml
    have em2 : (hi == lo) = false := by rw [← hmh]; exact em
    subst hmh
    go_wp2_with (go_at_call 16; (with_reducible refine (sane_any _).mono ?_); rintro e w8 ⟨rfl, hb8⟩)
    go_ret
    exact ⟨rfl, below_step hb8 S19.out.below S19.out.below.size⟩

end Go.Proofs.Ytdlmdaononclgaa
