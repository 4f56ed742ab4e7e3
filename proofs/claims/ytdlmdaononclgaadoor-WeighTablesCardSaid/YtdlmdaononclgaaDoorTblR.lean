import Derived.Test.YtdlmdaononclgaaDoorMD
import Derived.Test.YtdlmdaononclgaaDoorVol
import Derived.Test.YtdlmdaononclgaaDoorMB
import Derived.Outline
/- The reference's isTable and CheckTable; the program's CheckTable. -/
namespace Go.Proofs.YtdlmdaononclgaaDoor
open Go.RowKit
set_option linter.unusedVariables false
set_option linter.unusedSimpArgs false

theorem bneN_false {a b : Nat} (h : a = b) : (((a : Int) != (b : Int)) = false) := by simp [h]
theorem bneN_true {a b : Nat} (h : ¬ a = b) : (((a : Int) != (b : Int)) = true) := by simp; omega
theorem refisTable_is {xs zs : List Int} {r : Bool} (hr : gridB xs zs = r) (A : Option Addr) (c : Nat) (A2 : Option Addr) (c2 : Nat) (hc : xs.length ≤ c) (hm : c ≤ 9223372036854775807) (hc2 : zs.length ≤ c2) (hm2 : c2 ≤ 9223372036854775807) (w : World) {B B2 : Nat} (h : RD w B A (ints xs)) (h2 : RD w B2 A2 (ints zs)) :
    Calls Tryd.prog 18 #[.slice A xs.length c, .slice A2 zs.length c2] w fun e w' => e = .returned (.bool r) ∧ ∃ k, w' = w.drewN k := by
  obtain ⟨p1, h1⟩ : ∃ p, okP 9 100000 xs = p := ⟨_, rfl⟩
  obtain ⟨p2, h3⟩ : ∃ p, okP 7 15000 zs = p := ⟨_, rfl⟩
  have C1 := Lib.hid (rising_is h1 A c w hc hm h)
  have C2 : Hid (∀ k, Calls Tryd.prog 37 #[.slice A2 zs.length c2, .int .i64 7, .int .i64 15000] (w.drewN k) fun e w' => e = .returned (.bool p2) ∧ ∃ q, w' = (w.drewN k).drewN q) := Lib.hid (fun k => rising_is h3 A2 c2 _ hc2 hm2 (h2.keep (below_drewN (Below.refl _ _) k) (Nat.le_refl _) : RD (w.drewN k) B2 A2 (ints zs)))
  have hb : (p1 && p2) = r := by rw [← hr, ← h1, ← h3]; rfl
  clear h1 h3 h h2 hr
  cases p1
  · obtain rfl : r = false := by simpa using hb.symm
    clear hb
    go_enter Tryd.func18, Tryd.ntmps18
    go_wp2_with (go_at_call 37; (with_reducible refine C1.out.mono ?_); rintro e w' ⟨rfl, k1, rfl⟩)
    go_ret
    exact ⟨rfl, k1, rfl⟩
  · obtain rfl : r = p2 := by simpa using hb.symm
    clear hb
    go_enter Tryd.func18, Tryd.ntmps18
    go_wp2_with fail
    refine C1.out.mono ?_
    rintro e w' ⟨rfl, k1, rfl⟩
    go_wp2_with fail
    refine (C2.out k1).mono ?_
    rintro e w' ⟨rfl, k2, rfl⟩
    go_wp2
    go_ret
    exact ⟨rfl, k1 + k2, by first | rfl | rw [World.drewN_drewN]⟩

/-- what CheckTable answers. -/
def tabE (xs zs : List Int) (rs : List (List Int)) : Int := if tableB xs zs rs = true then 0 else 13
theorem tabE_grid {xs zs : List Int} {rs : List (List Int)} (h : gridB xs zs = false) : tabE xs zs rs = 13 := by unfold tabE tableB; rw [h]; rfl
theorem tabE_len {xs zs : List Int} {rs : List (List Int)} (h : rs.length ≠ xs.length) : tabE xs zs rs = 13 := by
  have : tableB xs zs rs = false := by unfold tableB; rw [decide_eq_false h]; simp
  unfold tabE; rw [this]; rfl
theorem tabE_row {xs zs : List Int} {rs : List (List Int)} {i : Nat} (hi : i < rs.length) (h : rowBad zs.length (rx rs i) = true) : tabE xs zs rs = 13 := by
  have : tableB xs zs rs = false := by unfold tableB; rw [anyR_yes i hi h]; simp
  unfold tabE; rw [this]; rfl
theorem tabE_yes {xs zs : List Int} {rs : List (List Int)} (h1 : gridB xs zs = true) (h2 : rs.length = xs.length) (h : ∀ i, i < rs.length → rowBad zs.length (rx rs i) = false) : tabE xs zs rs = 0 := by
  have : tableB xs zs rs = true := by unfold tableB; rw [h1, decide_eq_true h2, anyR_no h]; rfl
  unfold tabE; rw [if_pos this]
theorem CheckTable_any {xs zs : List Int} {rs : List (List Int)} (A1 : Option Addr) (c1 : Nat) (A2 : Option Addr) (c2 : Nat) (A3 : Option Addr) (c3 : Nat) (vs : List Value) (w : World) (h : TD w w.heap.size xs zs rs A1 c1 A2 c2 A3 c3 vs) :
    Calls Tryd.prog 13 #[.agg #[.slice A1 xs.length c1, .slice A2 zs.length c2, .slice A3 rs.length c3]] w fun e w' => e = .returned (.int .i64 (tabE xs zs rs)) ∧ Below w.heap.size w w' := by
  obtain ⟨r, hr⟩ : ∃ r, tableB xs zs rs = r := ⟨_, rfl⟩
  have C : Hid (∀ W, Below w.heap.size w W → Calls Tryd.prog 20 #[.agg #[.slice A1 xs.length c1, .slice A2 zs.length c2, .slice A3 rs.length c3]] W fun e w' => e = .returned (.bool r) ∧ Below W.heap.size W w') := Lib.hid (fun W hB => isTable_is hr A1 c1 A2 c2 A3 c3 vs W ((h.keep hB (Nat.le_refl _)).more hB.size))
  unfold tabE
  rw [hr]
  clear h hr
  cases r
  all_goals
    go_enter Tryd.func13, Tryd.ntmps13
    go_wp2_with (go_at_call 20; (with_reducible refine (C.out _ (Below.alloc (Below.refl _ _) (Nat.le_refl _) _)).mono ?_); rintro e w1 ⟨rfl, hb1⟩)
    go_ret
    exact ⟨rfl, below_step hb1 (Below.alloc (Below.refl _ _) (Nat.le_refl _) _) (by simp)⟩

theorem badH_no {n : Int} (h : badH n = false) : ¬ n < 0 ∧ ¬ 20000 < n := by
  simp only [badH, within, Bool.not_eq_false', Bool.and_eq_true, decide_eq_true_eq] at h; omega
theorem badH_yes {n : Int} (h : badH n = true) : n < 0 ∨ (¬ n < 0 ∧ 20000 < n) := by
  simp only [badH, within, Bool.not_eq_true', Bool.and_eq_false_iff, decide_eq_false_iff_not] at h; omega
theorem rowBad_len {m : Nat} {l : List Int} (h : l.length ≠ m) : rowBad m l = true := by unfold rowBad; rw [decide_eq_false h]; rfl
theorem rowBad_at {m : Nat} {l : List Int} {j : Nat} (hj : j < l.length) (h : badH (ix l j) = true) : rowBad m l = true := by unfold rowBad; rw [anyB_yes j hj h]; simp
theorem rowBad_ok {m : Nat} {l : List Int} (hl : l.length = m) (h : ∀ j, j < l.length → badH (ix l j) = false) : rowBad m l = false := by unfold rowBad; rw [decide_eq_true hl, anyB_no h]; rfl

set_option maxHeartbeats 2000000 in
set_option maxRecDepth 10000 in
theorem refCheckTable_any {xs zs : List Int} {rs : List (List Int)} (A1 : Option Addr) (c1 : Nat) (A2 : Option Addr) (c2 : Nat) (A3 : Option Addr) (c3 : Nat) (vs : List Value) (w : World) (h : TD w w.heap.size xs zs rs A1 c1 A2 c2 A3 c3 vs) :
    Calls Tryd.prog 14 #[.agg #[.slice A1 xs.length c1, .slice A2 zs.length c2, .slice A3 rs.length c3]] w fun e w' => e = .returned (.int .i64 (tabE xs zs rs)) ∧ Below w.heap.size w w' := by
  obtain ⟨r, hr⟩ : ∃ r, gridB xs zs = r := ⟨_, rfl⟩
  have C : Hid (∀ W, Below w.heap.size w W → Calls Tryd.prog 18 #[.slice A1 xs.length c1, .slice A2 zs.length c2] W fun e w' => e = .returned (.bool r) ∧ ∃ k, w' = W.drewN k) := Lib.hid (fun W hB => refisTable_is hr A1 c1 A2 c2 h.hc1 h.hm1 h.hc2 h.hm2 W (h.rd1.keep hB (Nat.le_refl _)) (h.rd2.keep hB (Nat.le_refl _)))
  have HR := Lib.hid hr
  have HT := Lib.hid h
  have hc3 := h.hc3
  have hm3 := h.hm3
  have hc2 := h.hc2
  have hm2 := h.hm2
  clear h hr
  cases r
  · have e := tabE_grid (rs := rs) HR.out
    rw [e]
    clear e
    go_enter Tryd.func14, Tryd.ntmps14
    go_wp2_with (go_at_call 18; (with_reducible refine (C.out _ (Below.alloc (Below.refl _ _) (Nat.le_refl _) _)).mono ?_); rintro e w1 ⟨rfl, k1, rfl⟩)
    go_ret
    exact ⟨rfl, by repeat' (first | (with_reducible exact Below.refl _ _) | (with_reducible assumption) | (refine below_step (by assumption) ?_ ?_) | (with_reducible refine below_drewN ?_ _) | (with_reducible refine Below.drew ?_) | (with_reducible refine Below.alloc ?_ ?_ _) | (with_reducible refine Below.setCell ?_ ?_ _) | go_size)⟩
  · by_cases hl : rs.length = xs.length
    · have e1 := bneN_false hl
      have HL := Lib.hid hl
      have hz2 : 2 ≤ zs.length := by
        have := HR.out
        simp only [gridB, Bool.and_eq_true] at this
        exact (okP_true this.2).two
      clear hl
      go_enter Tryd.func14, Tryd.ntmps14
      go_wp2_with (go_at_call 18; (with_reducible refine (C.out _ (Below.alloc (Below.refl _ _) (Nat.le_refl _) _)).mono ?_); rintro e w1 ⟨rfl, k1, rfl⟩)
      generalize hW : (w.alloc (.cells #[.slice A1 xs.length c1, .slice A2 zs.length c2, .slice A3 rs.length c3] 25)).drewN k1 = W1
      have hB : Below w.heap.size w W1 := by rw [← hW]; repeat' (first | (with_reducible exact Below.refl _ _) | (with_reducible assumption) | (refine below_step (by assumption) ?_ ?_) | (with_reducible refine below_drewN ?_ _) | (with_reducible refine Below.drew ?_) | (with_reducible refine Below.alloc ?_ ?_ _) | (with_reducible refine Below.setCell ?_ ?_ _) | go_size)
      have d1 : W1.cell? ⟨w.heap.size, 1, none⟩ = some (.slice A2 zs.length c2) := by rw [← hW]; simp [go_sem]
      have d2 : W1.cell? ⟨w.heap.size, 2, none⟩ = some (.slice A3 rs.length c3) := by rw [← hW]; simp [go_sem]
      have HB := Lib.hid hB
      clear hW hB e1 C
      go_loopw [3] (fun x wr => ∃ k q : Nat, k ≤ rs.length ∧ x = .int .i64 k ∧ wr = W1.drewN q ∧ ∀ i, i < k → rowBad zs.length (rx rs i) = false) (fun x _ => rs.length - (intOf x).toNat)
      case atStart => exact ⟨0, 0, by omega, rfl, rfl, fun i hi => by omega⟩
      case round =>
        obtain ⟨k, q, hk, rfl, rfl, hok⟩ := hrel
        have OK := Lib.hid hok
        clear hok
        by_cases hk' : k < rs.length
        · obtain ⟨b3, o3, rfl, hb3, hc3'⟩ := HT.out.rd3.cells (by omega)
          obtain ⟨Ai, ci, hv, hci, hmi, hri⟩ := HT.out.rd3.each k hk'
          have x3 := cell_later HB.out (hc3' k hk')
          rw [hv] at x3
          have HRI := Lib.hid hri
          clear hc3' hv hri
          by_cases hrl : (rx rs k).length = zs.length
          · have e2 := bneN_false hrl
            rw [hrl] at x3 hci e2
            have HRL := Lib.hid hrl
            clear hrl
            obtain ⟨bi, oi, rfl, hbi, hcl⟩ := HRI.out.ints (by have := HRL.out; omega)
            have HCL := Lib.hid hcl
            clear hcl
            go_wp2
            go_quiet (fail)
            go_wp2
            obtain ⟨wo, hwo⟩ : ∃ wo : World, wo = W1.drewN (q + nq) := ⟨_, rfl⟩
            go_loopw [4] (fun x wr => ∃ j : Nat, j ≤ zs.length ∧ x = .int .i64 j ∧ wr = W1.drewN (q + nq) ∧ ∀ i, i < j → badH (ix (rx rs k) i) = false) (fun x _ => zs.length - (intOf x).toNat)
            case atStart => exact ⟨0, by omega, rfl, by first | rfl | rw [World.drewN_drewN], fun i hi => by omega⟩
            case round =>
              obtain ⟨j, hj, rfl, rfl, hok⟩ := hrel
              have OKJ := Lib.hid hok
              clear hok
              by_cases hj' : j < zs.length
              · have y3 := cell_later HB.out (HCL.out j (by have := HRL.out; omega))
                cases hbad : badH (ix (rx rs k) j) with
                | false =>
                  obtain ⟨f1, f2⟩ := badH_no hbad
                  have HBD := Lib.hid hbad
                  clear hbad
                  go_wp2
                  go_roundw
                  case rel => exact ⟨j + 1, by omega, by go_num, by first | trivial | rfl, fun i hi => (by rcases (by omega : i < j ∨ i = j) with h | rfl; exact OKJ.out i h; exact HBD.out)⟩
                  case measure => simp [intOf]; omega
                | true =>
                  have e3 := tabE_row (xs := xs) hk' (rowBad_at (m := zs.length) (j := j) (by have := HRL.out; omega) hbad)
                  have E3 := Lib.hid e3
                  rcases badH_yes hbad with f1 | ⟨f1, f2⟩
                  · clear hbad e3
                    go_wp2
                    go_ret
                    exact ⟨by first | (rw [E3.out]; done) | (rw [E3.out]; rfl) | simp [E3.out], below_drewN HB.out _⟩
                  · clear hbad e3
                    go_wp2
                    go_ret
                    exact ⟨by first | (rw [E3.out]; done) | (rw [E3.out]; rfl) | simp [E3.out], below_drewN HB.out _⟩
              · obtain rfl : j = zs.length := by omega
                have hrow := rowBad_ok (m := zs.length) (l := rx rs k) HRL.out (fun i hi => OKJ.out i (by have := HRL.out; omega))
                have HROW := Lib.hid hrow
                clear hrow
                go_wp2
                go_roundw
                case rel => exact ⟨k + 1, q + nq, by omega, by go_num, rfl, fun i hi => (by rcases (by omega : i < k ∨ i = k) with h | rfl; exact OK.out i h; exact HROW.out)⟩
                case measure => simp [intOf]; omega
          · have e2 := bneN_true hrl
            have e3 := tabE_row (xs := xs) hk' (rowBad_len hrl)
            have E3 := Lib.hid e3
            obtain ⟨li, hli⟩ : ∃ l, (rx rs k).length = l := ⟨_, rfl⟩
            rw [hli] at x3 e2
            clear e3 hrl hli
            go_wp2
            go_quiet (fail)
            go_wp2
            go_ret
            exact ⟨by first | (rw [E3.out]; done) | (rw [E3.out]; rfl) | simp [E3.out], below_drewN (below_drewN HB.out _) _⟩
        · obtain rfl : k = rs.length := by omega
          have e3 := tabE_yes (xs := xs) (zs := zs) (rs := rs) HR.out HL.out (fun i hi => OK.out i hi)
          have E3 := Lib.hid e3
          clear e3
          go_wp2
          go_ret
          exact ⟨by first | (rw [E3.out]; done) | (rw [E3.out]; rfl) | simp [E3.out], below_drewN HB.out _⟩
    · have e := tabE_len (zs := zs) hl
      rw [e]
      have e1 := bneN_true hl
      clear e hl
      go_enter Tryd.func14, Tryd.ntmps14
      go_wp2_with (go_at_call 18; (with_reducible refine (C.out _ (Below.alloc (Below.refl _ _) (Nat.le_refl _) _)).mono ?_); rintro e w1 ⟨rfl, k1, rfl⟩)
      go_ret
      exact ⟨rfl, by repeat' (first | (with_reducible exact Below.refl _ _) | (with_reducible assumption) | (refine below_step (by assumption) ?_ ?_) | (with_reducible refine below_drewN ?_ _) | (with_reducible refine Below.drew ?_) | (with_reducible refine Below.alloc ?_ ?_ _) | (with_reducible refine Below.setCell ?_ ?_ _) | go_size)⟩

end Go.Proofs.YtdlmdaononclgaaDoor
