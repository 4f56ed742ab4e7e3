import Derived.Test.YtdlmdaononclgaaPl
import Derived.Test.YtdlmdaononclgaaSane
/- WeighScales: the walk. -/
namespace Go.Proofs.Ytdlmdaononclgaa
open Go.RowKit
set_option linter.unusedVariables false
set_option linter.unusedSimpArgs false

/-- an own slice at a written length. -/
theorem OwnI.formN {w : World} {base : Nat} {v : Value} {xs : List Int} (h : OwnI w base v xs) {n : Nat} (hn : xs.length = n) :
    ∃ A cap, v = .slice A n cap ∧ n ≤ cap ∧ cap ≤ 9223372036854775807 ∧ RD w w.heap.size A (ints xs) := by
  subst hn
  obtain ⟨A, cap, h1, h2, h3, h4, _⟩ := h.form
  exact ⟨A, cap, h1, h2, h3, h4⟩
/-- two slices of the call's own, in blocks apart. -/
structure Own2 (w : World) (base : Nat) (v1 : Value) (l1 : List Int) (v2 : Value) (l2 : List Int) : Prop where
  o1 : OwnI w base v1 l1
  o2 : OwnI w base v2 l2
  ne : ∀ b, v1.ownBlock = some b → v2.ownBlock ≠ some b
theorem Own2.kept {w w' : World} {base : Nat} {v1 v2 : Value} {l1 l2 : List Int} (h : Own2 w base v1 l1 v2 l2) {B : Nat} (hb : Below B w w') (hB : w.heap.size ≤ B) : Own2 w' base v1 l1 v2 l2 :=
  ⟨h.o1.kept hb hB, h.o2.kept hb hB, h.ne⟩
theorem OwnI.lt {w : World} {base : Nat} {v : Value} {xs : List Int} (h : OwnI w base v xs) : ∀ b, v.ownBlock = some b → base ≤ b ∧ b < w.heap.size := by
  obtain ⟨_, _, _, _, _, _, _, hb⟩ := h.form
  exact hb
theorem Own2.app1 {w w' : World} {base : Nat} {v1 v2 v1' : Value} {l1 l2 l1' : List Int} (h : Own2 w base v1 l1 v2 l2) (ho : OwnI w' base v1' l1') (hg : w.grownBy w' v1.ownBlock) (hv : v1'.ownBlock = v1.ownBlock ∨ v1'.ownBlock = some w.heap.size) :
    Own2 w' base v1' l1' v2 l2 := by
  refine ⟨ho, h.o2.of_block (fun b hb => hg.block b (h.o2.lt b hb).2 (fun e => h.ne b e.symm hb)), fun b hb hb2 => ?_⟩
  rcases hv with e | e
  · exact h.ne b (e ▸ hb) hb2
  · rw [e] at hb
    have := (h.o2.lt b hb2).2
    simp only [Option.some.injEq] at hb
    omega
theorem Own2.app2 {w w' : World} {base : Nat} {v1 v2 v2' : Value} {l1 l2 l2' : List Int} (h : Own2 w base v1 l1 v2 l2) (ho : OwnI w' base v2' l2') (hg : w.grownBy w' v2.ownBlock) (hv : v2'.ownBlock = v2.ownBlock ∨ v2'.ownBlock = some w.heap.size) :
    Own2 w' base v1 l1 v2' l2' := by
  refine ⟨h.o1.of_block (fun b hb => hg.block b (h.o1.lt b hb).2 (fun e => h.ne b hb e.symm)), ho, fun b hb hb2 => ?_⟩
  rcases hv with e | e
  · exact h.ne b hb (e ▸ hb2)
  · rw [e] at hb2
    have := (h.o1.lt b hb).2
    simp only [Option.some.injEq] at hb2
    omega
theorem app_below0 {w0 wr w1 : World} {base : Nat} {v : Value} {xs : List Int} {o : Obj} (hB : Below base w0 wr) (ho : OwnI wr base v xs) (hg : (wr.alloc o).grownBy w1 v.ownBlock) (hbs : base ≤ wr.heap.size := by omega) : Below base w0 w1 := by
  obtain ⟨A, cap, rfl, _, _, _, _, h⟩ := ho.form
  exact (hB.alloc hbs o).grown hg (by simp; omega) (fun k e => (h k e).1)
theorem SameInts_n {xs ys : List Int} {r : Bool} {n m : Nat} (hr : decide (xs = ys) = r) (hx : xs.length = n) (hy : ys.length = m) (A : Option Addr) (c : Nat) (A2 : Option Addr) (c2 : Nat) (hc : n ≤ c) (hm : c ≤ 9223372036854775807) (hc2 : m ≤ c2) (hm2 : c2 ≤ 9223372036854775807) (w : World) {B B2 : Nat} (h : RD w B A (ints xs)) (h2 : RD w B2 A2 (ints ys)) :
    Calls Try.prog 15 #[.slice A n c, .slice A2 m c2] w fun e w' => e = .returned (.bool r) ∧ ∃ k, w' = w.drewN k := by
  subst hx; subst hy; exact SameInts_is hr A c A2 c2 hc hm hc2 hm2 w h h2
theorem take_map_snoc {g : Int → Int} {ps : List Int} {k : Nat} (h : k < ps.length) : (ps.take (k + 1)).map g = (ps.take k).map g ++ [g (ix ps k)] := by
  rw [List.take_succ_eq_append_getElem h, List.map_append]
  simp [ix, List.getD, List.getElem?_eq_getElem h]

set_option maxHeartbeats 4000000 in
set_option maxRecDepth 100000 in
theorem weighScales_walk (xs : List Int) (A : Option Addr) (c : Nat) (b0 n0 : Int) (hc : xs.length ≤ c) (hm : c ≤ 17592186043904) (bd : ∀ j, -9223372036854775808 ≤ ix xs j ∧ ix xs j ≤ 9223372036854775807)
    (c0 : -9223372036854775808 ≤ b0) (c1 : b0 ≤ 9223372036854775807) (c2 : -9223372036854775808 ≤ n0) (c3 : n0 ≤ 9223372036854775807) (w : World) (h : RD w w.heap.size A (ints xs)) :
    Calls Try.prog 3 #[.slice A xs.length c, .int .i64 b0, .int .i64 n0] w fun e w' => e = .returned (.bool true) ∧ Below w.heap.size w w' := by
  obtain ⟨bb, hbb⟩ : ∃ a, b0 % 50000 = a := ⟨_, rfl⟩
  obtain ⟨n1, hn1⟩ : ∃ a, n0 % 9 = a := ⟨_, rfl⟩
  have q0 : 0 ≤ bb ∧ bb < 50000 := by omega
  have q1 : 0 ≤ n1 ∧ n1 ≤ 8 := by omega
  obtain ⟨q00, q01⟩ := q0
  obtain ⟨q10, q11⟩ := q1
  obtain ⟨n, hn⟩ : ∃ a, 1 + n1 = a := ⟨_, rfl⟩
  have r0 : 1 ≤ n := by omega
  have r1 : n ≤ 9 := by omega
  have HBB := Lib.hid hbb
  have HN1 := Lib.hid hn1
  have HPL := Lib.hid (Places_any xs A c 9 400 (by omega) (by omega) (by omega) (by omega) hc hm w h bd)
  clear hbb hn1 h bd
  go_enter Try.func3, Try.ntmps3
  go_wp2_with fail
  refine HPL.out.mono ?_
  rintro e w1 ⟨ps, v, rfl, hown, hpl, hl2, hb1⟩
  obtain ⟨A1, k1, rfl, hk1, hkm1, hrd1⟩ := hown.formN rfl
  have hl9 : ps.length ≤ 9 := by have := hpl.many; omega
  have hpb : ∀ j, j < ps.length → 0 ≤ ix ps j ∧ ix ps j ≤ 9649 := fun j hj => by
    have := hpl.bd (by omega) j hj
    omega
  have HPB := Lib.hid hpb
  have HPP := Lib.hid hpl
  have HB1 := Lib.hid hb1
  have HR1 := Lib.hid hrd1
  clear hown hpl hb1 hpb hrd1
  go_wp2_with (first | (go_at_call 13; (with_reducible refine (mod_is HBB.out c0 c1 (by omega) (by omega) _).mono ?_); rintro e w' ⟨rfl, rfl⟩) | (go_at_call 13; (with_reducible refine (mod_is HN1.out c2 c3 (by omega) (by omega) _).mono ?_); rintro e w' ⟨rfl, rfl⟩))
  go_loopw [7, 8, 9] (fun v1 v2 x wr => ∃ k : Nat, k ≤ ps.length ∧ x = .int .i64 k ∧ Own2 wr w1.heap.size v1 ((ps.take k).map (· + bb)) v2 ((ps.take k).map (· * n)) ∧ Below w1.heap.size w1 wr) (fun _ _ x _ => ps.length - (intOf x).toNat)
  case atStart => exact ⟨0, by omega, rfl, ⟨OwnI.nil _ _, OwnI.nil _ _, fun b hb => by cases hb⟩, Below.refl _ _⟩
  case round =>
    obtain ⟨k, hk, rfl, hown, hbl⟩ := hrel
    by_cases hk' : k < ps.length
    · obtain ⟨g1, o1, rfl, hg1, hcell⟩ := HR1.out.ints (by omega)
      have hcell0 := hcell k hk'
      have y0 := (hbl.cell (p := ⟨g1, o1 + k, none⟩) hg1).trans hcell0
      obtain ⟨p0, p1⟩ := HPB.out k hk'
      have hmul : 0 ≤ ix ps k * n ∧ ix ps k * n ≤ 9649 * 9 := ⟨Int.mul_nonneg p0 (by omega), Int.mul_le_mul p1 r1 (by omega) (by omega)⟩
      obtain ⟨hmul0, hmul1⟩ := hmul
      have hs := hbl.size
      have HO := Lib.hid hown
      have HB := Lib.hid hbl
      clear hown hbl hcell
      have hlm1 : ((ps.take k).map (· + bb)).length ≤ 1000000 := by simp; omega
      have hlm2 : ((ps.take k).map (· * n)).length ≤ 1000000 := by simp; omega
      go_wp2_with (first | (at_builtin; refine wpList_app2 rfl _ _ rfl w1.heap.size u7 _ rfl (HO.out.o1.kept (by repeat' (first | (with_reducible exact Below.refl _ _) | (with_reducible assumption) | (refine below_step (by assumption) ?_ ?_) | (with_reducible refine below_drewN ?_ _) | (with_reducible refine Below.drew ?_) | (with_reducible refine Below.alloc ?_ ?_ _) | (with_reducible refine Below.setCell ?_ ?_ _) | go_size)) (Nat.le_refl _)) wr.heap.size 1 _ rfl (cell_new1 _ _ _) hlm1 (by simp; omega) ?_; intro v1' W1 hown1 hgrow1 hvb1; have HB1' := Lib.hid (app_below0 HB.out HO.out.o1 hgrow1); have hsz1 : w1.heap.size ≤ W1.heap.size := HB1'.out.size; have HO1 := Lib.hid ((HO.out.kept (B := wr.heap.size) (Below.alloc (Below.refl _ _) (Nat.le_refl _) _) (Nat.le_refl _)).app1 hown1 hgrow1 hvb1); have y0' := (HB1'.out.cell (p := ⟨g1, o1 + k, none⟩) hg1).trans hcell0; clear hown1 hgrow1 hvb1 y0) | (at_builtin; refine wpList_app2 rfl _ _ rfl w1.heap.size u8 _ rfl (HO1.out.o2.kept (by repeat' (first | (with_reducible exact Below.refl _ _) | (with_reducible assumption) | (refine below_step (by assumption) ?_ ?_) | (with_reducible refine below_drewN ?_ _) | (with_reducible refine Below.drew ?_) | (with_reducible refine Below.alloc ?_ ?_ _) | (with_reducible refine Below.setCell ?_ ?_ _) | go_size)) (Nat.le_refl _)) W1.heap.size 1 _ rfl (cell_new1 _ _ _) hlm2 (by simp; have := HB1'.out.size; omega) ?_; intro v2' W2 hown2 hgrow2 hvb2; have HB2' := Lib.hid (app_below0 HB1'.out HO1.out.o2 hgrow2); have HO2 := Lib.hid ((HO1.out.kept (B := W1.heap.size) (Below.alloc (Below.refl _ _) (Nat.le_refl _) _) (Nat.le_refl _)).app2 hown2 hgrow2 hvb2); clear hown2 hgrow2 hvb2))
      exact ⟨⟨k + 1, by omega, by go_num, by rw [take_map_snoc hk', take_map_snoc hk']; exact HO2.out, HB2'.out⟩, by simp [intOf]; omega⟩
    · obtain rfl : k = ps.length := by omega
      rw [List.take_length] at hown
      have hok : okP 9 100000 ps = true := okP_mk (HPP.out.okP hl2 (by omega) (by omega))
      have hpo := okP_true hok
      obtain ⟨A2, k2, rfl, hk2, hkm2, hrd2⟩ := hown.o1.formN (n := ps.length) (by simp)
      obtain ⟨A3, k3, rfl, hk3, hkm3, hrd3⟩ := hown.o2.formN (n := ps.length) (by simp)
      have hok2 : okP 9 100000 (ps.map (· + bb)) = true := okP_mk ⟨by simpa using hl2, by simp; omega, by rw [ix_map (by omega)]; have := (HPB.out 0 (by omega)).1; omega, by rw [List.length_map, ix_map (by omega)]; have := (HPB.out (ps.length - 1) (by omega)).2; omega, fun j hj => by
        rw [List.length_map] at hj; rw [ix_map (by omega), ix_map (by omega)]; have := hpo.inc j (by omega); omega⟩
      have hok3 : okP 9 100000 (ps.map (· * n)) = true := okP_mk ⟨by simpa using hl2, by simp; omega, by rw [ix_map (by omega)]; exact Int.mul_nonneg (HPB.out 0 (by omega)).1 (by omega), by
        rw [List.length_map, ix_map (by omega)]
        have a := HPB.out (ps.length - 1) (by omega)
        have := Int.mul_le_mul a.2 r1 (by omega) (by omega)
        omega, fun j hj => by
        rw [List.length_map] at hj; rw [ix_map (by omega), ix_map (by omega)]; exact Int.mul_lt_mul_of_pos_right (hpo.inc j (by omega)) (by omega)⟩
      have hw2 : weightsZ (ps.map (· + bb)) = weightsZ ps := weightsZ_move (by simp) (fun j hj => dx_move ps bb hj)
      have hw3 : weightsZ (ps.map (· * n)) = (weightsZ ps).map (n * ·) := weightsZ_scale (by omega) (by simp) (fun j hj => dx_stretch ps n hj)
      have hwl : (weightsZ ps).length = ps.length := wtAcc_length ps _
      have HW1 : Hid (∀ W, Below w1.heap.size w1 W → Calls Try.prog 14 #[.slice A1 ps.length k1] W fun e w' => ∃ g, e = .returned (.tuple #[.slice (some ⟨g, 0, none⟩) ps.length ps.length, .int .i64 0]) ∧ W.heap.size ≤ g ∧ Arr w' g (weightsZ ps) ∧ Below W.heap.size W w') :=
        Lib.hid (fun W hb => Weights_is hok rfl rfl hwl A1 k1 hk1 hkm1 W ((HR1.out.keep hb (Nat.le_refl _)).more hb.size))
      have HW2 : Hid (∀ W, Below wr.heap.size wr W → Calls Try.prog 14 #[.slice A2 ps.length k2] W fun e w' => ∃ g, e = .returned (.tuple #[.slice (some ⟨g, 0, none⟩) ps.length ps.length, .int .i64 0]) ∧ W.heap.size ≤ g ∧ Arr w' g (weightsZ ps) ∧ Below W.heap.size W w') :=
        Lib.hid (fun W hb => Weights_is hok2 hw2 (by simp) hwl A2 k2 hk2 hkm2 W ((hrd2.keep hb (Nat.le_refl _)).more hb.size))
      have HW3 : Hid (∀ W, Below wr.heap.size wr W → Calls Try.prog 14 #[.slice A3 ps.length k3] W fun e w' => ∃ g, e = .returned (.tuple #[.slice (some ⟨g, 0, none⟩) ps.length ps.length, .int .i64 0]) ∧ W.heap.size ≤ g ∧ Arr w' g ((weightsZ ps).map (n * ·)) ∧ Below W.heap.size W w') :=
        Lib.hid (fun W hb => Weights_is hok3 hw3 (by simp) (by simp [hwl]) A3 k3 hk3 hkm3 W ((hrd3.keep hb (Nat.le_refl _)).more hb.size))
      have HBL := Lib.hid hbl
      have hwb : ∀ j, -180000000 ≤ ix (weightsZ ps) j ∧ ix (weightsZ ps) j ≤ 180000000 := weightsZ_bd hpo (by omega)
      have HWB := Lib.hid hwb
      have HWL := Lib.hid hwl
      clear hok hpo hok2 hok3 hw2 hw3 hwl hrd2 hrd3 hown hbl hwb
      go_wp2_with fail
      refine (HW1.out _ HBL.out).mono ?_
      rintro e w2 ⟨g2, rfl, hg2, ha2, hb2⟩
      go_wp2_with fail
      refine (HW2.out _ hb2).mono ?_
      rintro e w3 ⟨g3, rfl, hg3, ha3, hb3⟩
      have HB3 := Lib.hid (below_step hb3 hb2 hb2.size)
      have HA2 := Lib.hid (ha2.of_block (hb3.block _ ha2.lt))
      clear hb2 hb3
      go_wp2_with fail
      refine (HW3.out _ HB3.out).mono ?_
      rintro e w4 ⟨g4, rfl, hg4, ha4, hb4⟩
      have HB4 := Lib.hid (below_step (below_step (below_step hb4 HB3.out HB3.out.size) HBL.out HBL.out.size) HB1.out HB1.out.size)
      have HA2' := Lib.hid (HA2.out.of_block (hb4.block _ HA2.out.lt))
      have HA3 := Lib.hid (ha3.of_block (hb4.block _ ha3.lt))
      have HA4 := Lib.hid ha4
      clear hb4 HB3 HA2 ha2 ha3 ha4 hg2 hg3 hg4
      go_wp2_with fail
      refine (SameInts_n (xs := weightsZ ps) (ys := weightsZ ps) (r := true) (decide_eq_true rfl) HWL.out HWL.out _ ps.length _ ps.length (Nat.le_refl _) (by omega) (Nat.le_refl _) (by omega) _ HA2'.out.rd HA3.out.rd).mono ?_
      rintro e w5 ⟨rfl, q5, rfl⟩
      clear HA3
      go_wp2_with fail
      go_loopw [16] (fun x wr' => ∃ k q : Nat, k ≤ ps.length ∧ x = .int .i64 k ∧ wr' = w4.drewN q) (fun x _ => ps.length - (intOf x).toNat)
      case atStart => exact ⟨0, q5, by omega, rfl, rfl⟩
      case round =>
        obtain ⟨k, q, hk, rfl, rfl⟩ := hrel
        by_cases hkl : k < ps.length
        · have y2 := HA2'.out.cell (j := k) (by rw [HWL.out]; exact hkl)
          have y4 := HA4.out.cell (j := k) (by rw [List.length_map, HWL.out]; exact hkl)
          rw [ix_map (by rw [HWL.out]; exact hkl)] at y4
          obtain ⟨p0, p1⟩ := HWB.out k
          have hmul := mulbd (x := n) (y := ix (weightsZ ps) k) (M := 9) (N := 180000000) (by omega) (by omega) (by omega) (by omega)
          obtain ⟨hmul0, hmul1⟩ := hmul
          have e1 : IntKind.i64.wrap (n * ix (weightsZ ps) k) = n * ix (weightsZ ps) k := IntWalk.i64_in _ ⟨by omega, by omega⟩
          go_wp2
          go_quiet (fail)
          go_wp2
          go_roundw
          case rel => exact ⟨k + 1, q + nq, by omega, by go_num, by first | rfl | rw [World.drewN_drewN]⟩
          case measure => simp [intOf]; omega
        · go_wp2_with (go_at_call 16; (with_reducible refine (sane_any _).mono ?_); rintro e w6 ⟨rfl, hb6⟩)
          go_ret
          exact ⟨rfl, below_step hb6 (below_drewN HB4.out _) HB4.out.size⟩

end Go.Proofs.Ytdlmdaononclgaa
