import Derived.Test.YtdlmdaononclgaaAppN
import Derived.Test.YtdlmdaononclgaaPartP
import Derived.Test.YtdlmdaononclgaaRo
import Derived.Lib.AppendZerosOnto
import Derived.Lib.SliceRun
import Derived.WalkSpells
import Derived.Outline
/- slices.Equal at groups; slices.Clone, Grow, Concat at ints. -/
namespace Go.Proofs.Ytdlmdaononclgaa
open Go.RowKit
set_option linter.unusedVariables false
set_option linter.unusedSimpArgs false

def sameE (gs bs : List (Int × Int)) : Bool := decide (gs = bs)
theorem EqualG_any (gs bs : List (Int × Int)) (A : Option Addr) (c : Nat) (A2 : Option Addr) (c2 : Nat) (hc : gs.length ≤ c) (hm : c ≤ 9223372036854775807) (hc2 : bs.length ≤ c2) (hm2 : c2 ≤ 9223372036854775807)
    (w : World) {B B2 : Nat} (h : GD w B A gs) (h2 : GD w B2 A2 bs) :
    Calls Try.prog 109 #[.slice A gs.length c, .slice A2 bs.length c2] w fun e w' => e = .returned (.bool (sameE gs bs)) ∧ ∃ k, w' = w.drewN k := by
  have H1 := Lib.hid h
  have H2 := Lib.hid h2
  clear h h2
  by_cases hl : gs.length = bs.length
  · have e1 : (((gs.length : Int) != (bs.length : Int)) = false) := ibne_false (by omega)
    have e2 : (gs.length != bs.length) = false := by simp [hl]
    have HL := Lib.hid hl
    clear hl
    go_enter Try.func109, Try.ntmps109
    go_wp2
    go_loopw [13] (fun v wr => ∃ k q : Nat, k ≤ gs.length ∧ v = .int .i64 k ∧ wr = w.drewN q ∧ ∀ j, j < k → gx gs j = gx bs j) (fun v _ => gs.length - (intOf v).toNat)
    case atStart => exact ⟨0, 0, by omega, rfl, rfl, fun j hj => by omega⟩
    case round =>
      obtain ⟨k, q, hk, rfl, rfl, hlt⟩ := hrel
      have HLT := Lib.hid hlt; clear hlt
      by_cases hk' : k < gs.length
      · obtain ⟨b, off, rfl, hb, hcell⟩ := H1.out.at (by omega)
        obtain ⟨b2, off2, rfl, hb2, hcell2⟩ := H2.out.at (by have := HL.out; omega)
        have hky : k < bs.length := by have := HL.out; omega
        obtain ⟨y0, y1⟩ := hcell k hk'
        obtain ⟨z0, z1⟩ := hcell2 k hky
        clear hcell hcell2
        by_cases he : (gx gs k).1 = (gx bs k).1
        · by_cases hf : (gx gs k).2 = (gx bs k).2
          · rw [← he] at z0
            rw [← hf] at z1
            have HE := Lib.hid he
            have HF := Lib.hid hf
            clear he hf
            go_wp2
            go_quiet (fail)
            go_wp2
            go_roundw
            case rel => exact ⟨k + 1, q + nq, by omega, by go_num, by first | rfl | rw [World.drewN_drewN], fun j hj => (by rcases (by omega : j < k ∨ j = k) with h | rfl; exact HLT.out j h; exact Prod.ext HE.out HF.out)⟩
            case measure => simp [intOf]; omega
          · rw [← he] at z0
            have df : ((gx gs k).2 == (gx bs k).2) = false := by simpa using hf
            have HE := Lib.hid he
            have HF := Lib.hid hf
            clear he hf
            go_wp2
            go_quiet (fail)
            go_wp2
            go_ret
            exact ⟨ret_bool (decide_eq_false (fun e => HF.out (by rw [e]))).symm, q + nq, by first | rfl | rw [World.drewN_drewN]⟩
        · have dd : ((gx gs k).1 == (gx bs k).1) = false := by simpa using he
          have HE := Lib.hid he
          clear he
          go_wp2
          go_quiet (fail)
          go_wp2
          go_ret
          exact ⟨ret_bool (decide_eq_false (fun e => HE.out (by rw [e]))).symm, q + nq, by first | rfl | rw [World.drewN_drewN]⟩
      · go_wp2
        go_ret
        exact ⟨ret_bool (decide_eq_true (gx_ext HL.out (fun j hj => HLT.out j (by omega)))).symm, q, rfl⟩
  · have e1 : (((gs.length : Int) != (bs.length : Int)) = true) := ibne_true (by omega)
    have e2 : (gs.length != bs.length) = true := by simpa using hl
    have HL := Lib.hid hl
    clear hl
    go_enter Try.func109, Try.ntmps109
    go_wp2
    go_ret
    exact ⟨ret_bool (decide_eq_false (fun e => HL.out (by rw [e]))).symm, 0, rfl⟩

/-- what a call hands back: ints of its own. -/
def RetI (xs : List Int) (w : World) (e : Ending) (w' : World) : Prop := ∃ v, e = .returned v ∧ OwnI w' w.heap.size v xs ∧ Below w.heap.size w w'

set_option maxHeartbeats 1000000 in
theorem Clone_any (xs : List Int) (b off n c : Nat) (hn : xs.length = n) (h9 : n ≤ 1000) (w : World) (hc : ∀ j, j < n → w.cell? ⟨b, off + j, none⟩ = some (.int .i64 (ix xs j))) (hb : b < w.heap.size) :
    Calls Try.prog 92 #[.slice (some ⟨b, off, none⟩) n c] w (RetI xs w) := by
  have HC := Lib.hid (fun (W : World) (hB : Below w.heap.size w W) j (hj : j < n) => cell_later hB (hc j hj))
  have HN := Lib.hid hn
  clear hc hn
  have hnil := Lib.run_eql_slice_nil (P := Try.prog) w 22 3 (some ⟨b, off, none⟩) n c 0 0 Try.underlying22
  go_enter Try.func92, Try.ntmps92
  go_wp2_with (at_builtin; refine wpList_appN rfl _ _ rfl w.heap.size (.slice (some ⟨w.heap.size, 0, none⟩) 0 0) [] rfl (ownI_nil0 w _ (Nat.le_refl _)) b off _ _ xs HN.out rfl (HC.out _ (Below.alloc (Below.refl _ _) (Nat.le_refl _) _)) (by simp only [List.length_nil]; omega) (by simp) ?_; intro v3 W3 ho3 hg3)
  go_ret
  exact ⟨v3, rfl, ho3, appN_below (Below.refl _ _) hg3⟩

theorem Grow_nil (n : Nat) (h0 : 0 < n) (h9 : n ≤ 1000) (w : World) :
    Calls Try.prog 110 #[.slice none 0 0, .int .i64 n] w (RetI [] w) := by
  obtain ⟨i0, hi, hz0, hz1, hz2⟩ := info_parts infoInt
  have hrz : ∀ ty, (Builtin.append_ #[22, 3] ty #[.slice none 0 0, .int .i64 (n : Int)]).run Try.prog w =
      .ok (.slice (some ⟨w.heap.size, 0, none⟩) n (grownCap w n 0 3)) (w.drew.alloc (.cells (Builtin.zeroCells (Value.int .i64 0).cells n ++ Builtin.zeroCells (Value.int .i64 0).cells (grownCap w n 0 3 - n)) 3)) := fun ty => by
    have h := Lib.run_append_grow_zeros w 22 3 ty 3 i0 (.int .i64 0) .i64 .i64 Try.underlying22 Try.underlying3 hi hz0 none 0 0 [] (by rw [hz1]; exact run_firstCells_none w.drew 1 0 0 0) n h0 (by rw [hz1]; omega) (by omega) (by omega) (by rw [hz2]; omega)
      (by rw [hz2]; exact growslice_fits (bytes := 8) (by omega) (by omega))
    simpa using h
  have hG1 : n ≤ grownCap w n 0 3 := grownCap_ge w _ _ _
  have hG2 := grownCap_le_maxLen w n 0 3 (by unfold maxLen; omega)
  unfold maxLen at hG2
  obtain ⟨G, hG⟩ : ∃ G, grownCap w n 0 3 = G := ⟨_, rfl⟩
  rw [hG] at hrz hG1 hG2
  clear hG hi hz0 hz1 hz2
  have hp : (0 : Int) < (n : Int) := by omega
  go_enter Try.func110, Try.ntmps110
  go_wp2_with (at_builtin; refine Lib.wpList_append_run _ rfl _ _ _ _ rfl _ _ rfl rfl _ _ (hrz _) ?_)
  go_ret
  exact ⟨_, rfl, ⟨rfl, .inr ⟨w.heap.size, G, _, rfl, Nat.le_refl _, heap_alloc_new w.drew _, Nat.zero_le _, by unfold maxLen; omega, by simp [size_zeroCells, Value.cells]; omega, rfl⟩⟩, by repeat' (first | (with_reducible exact Below.refl _ _) | (with_reducible assumption) | (refine below_step (by assumption) ?_ ?_) | (with_reducible refine below_drewN ?_ _) | (with_reducible refine Below.drew ?_) | (with_reducible refine Below.alloc ?_ ?_ _) | (with_reducible refine Below.setCell ?_ ?_ _) | go_size)⟩

theorem appN_grown {w0 wr w1 : World} {v : Value} {xs : List Int} (hB : Below w0.heap.size w0 wr) (ho : OwnI wr w0.heap.size v xs) (hg : wr.grownBy w1 v.ownBlock) : Below w0.heap.size w0 w1 :=
  hB.grown hg hB.size (fun k e => (ho.at_block e).1)
theorem cell_grown {w0 wr w1 : World} {v u : Value} {xs : List Int} {q j : Nat} (ho : OwnI wr w0.heap.size v xs) (hg : wr.grownBy w1 v.ownBlock) (hc : wr.cell? ⟨q, j, none⟩ = some u) (hq : q < w0.heap.size) : w1.cell? ⟨q, j, none⟩ = some u := by
  have hlt : q < wr.heap.size := by
    refine Decidable.byContradiction fun h => ?_
    unfold World.cell? at hc
    rw [Array.getElem?_eq_none (show wr.heap.size ≤ (Addr.mk q j none).block by show wr.heap.size ≤ q; omega)] at hc
    simp at hc
  rw [World.cell?_of_block (w := wr) (hg.block q hlt (fun e => by have := (ho.at_block e.symm).1; omega))]
  exact hc
/-- two lists, one behind the other. -/
theorem Concat_any (xs ys : List Int) (b1 o1 n1 c1 b2 o2 n2 c2 q : Nat) (hn1 : xs.length = n1) (hn2 : ys.length = n2) (h0 : 0 < n1) (h1 : n1 ≤ 9) (h2 : n2 ≤ 9) (w : World) (hx : ∀ j, j < n1 → w.cell? ⟨b1, o1 + j, none⟩ = some (.int .i64 (ix xs j))) (hy : ∀ j, j < n2 → w.cell? ⟨b2, o2 + j, none⟩ = some (.int .i64 (ix ys j)))
    (hq0 : w.cell? ⟨q, 0, none⟩ = some (.slice (some ⟨b1, o1, none⟩) n1 c1)) (hq1 : w.cell? ⟨q, 1, none⟩ = some (.slice (some ⟨b2, o2, none⟩) n2 c2)) (hqz : q < w.heap.size) (hb1 : b1 < w.heap.size) (hb2 : b2 < w.heap.size) :
    Calls Try.prog 94 #[.slice (some ⟨q, 0, none⟩) 2 2] w (RetI (xs ++ ys) w) := by
  have HX := Lib.hid (fun (W : World) (hB : Below w.heap.size w W) j (hj : j < n1) => cell_later hB (hx j hj))
  have HY := Lib.hid (fun (W : World) (hB : Below w.heap.size w W) j (hj : j < n2) => cell_later hB (hy j hj))
  have H1 := Lib.hid hn1
  have H2 := Lib.hid hn2
  clear hx hy hn1 hn2
  go_enter Try.func94, Try.ntmps94
  go_wp2
  refine wp_loop_rounds 3 ?_
  rw [rounds_succ]
  go_wp2
  rw [rounds_succ]
  go_wp2
  rw [rounds_succ]
  go_wp2_with fail
  refine (Grow_nil (n1 + n2) (by omega) (by omega) w).mono ?_
  rintro e W1 ⟨v1, rfl, ho1, hb1'⟩
  obtain ⟨A1, k1, rfl, hk1, hkm1, _⟩ := ho1.formN rfl
  have r0 := cell_later hb1' hq0
  have r1 := cell_later hb1' hq1
  have HO1 := Lib.hid ho1
  have HB1 := Lib.hid hb1'
  clear ho1 hb1' hq0 hq1
  go_wp2
  refine wp_loop_rounds 3 ?_
  rw [rounds_succ]
  go_wp2_with (at_builtin; refine wpList_appN rfl _ _ rfl w.heap.size _ [] rfl HO1.out b1 o1 _ _ xs H1.out rfl (HX.out _ HB1.out) (by simp only [List.length_nil]; omega) (by have := HB1.out.size; omega) ?_; intro v2 W2 ho2 hg2; obtain ⟨A2, k2, rfl, hk2, hkm2, _⟩ := ho2.formN (n := n1) (by rw [List.nil_append]; exact H1.out); have HB2 := Lib.hid (appN_grown HB1.out HO1.out hg2); have HO2 := Lib.hid ho2; have s1 : W2.cell? ⟨q, 1, none⟩ = some (.slice (some ⟨b2, o2, none⟩) n2 c2) := (cell_grown HO1.out hg2 r1 hqz); clear ho2 hg2)
  rw [rounds_succ]
  go_wp2_with (at_builtin; refine wpList_appN rfl _ _ rfl w.heap.size _ ([] ++ xs) rfl HO2.out b2 o2 _ _ ys H2.out rfl (HY.out _ HB2.out) (by rw [List.nil_append]; have := H1.out; omega) (by have := HB2.out.size; omega) ?_; intro v3 W3 ho3 hg3; have HB3 := Lib.hid (appN_grown HB2.out HO2.out hg3); have HO3 := Lib.hid ho3; clear ho3 hg3)
  rw [rounds_succ]
  go_wp2
  go_ret
  exact ⟨_, rfl, by simpa using HO3.out, HB3.out⟩

end Go.Proofs.Ytdlmdaononclgaa
