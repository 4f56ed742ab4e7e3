import Derived.Test.YtdlmdaononclgaaRefW
import Derived.Test.YtdlmdaononclgaaMD
import Derived.Test.YtdlmdaononclgaaMB
/- The reference: checkOrdinates, Area, Moment, Centre, Weights, Groups. -/
namespace Go.Proofs.Ytdlmdaononclgaa
open Go.RowKit
set_option linter.unusedVariables false
set_option linter.unusedSimpArgs false

set_option maxHeartbeats 1000000 in
theorem refcheckOrd_any (xs ys : List Int) (A : Option Addr) (c : Nat) (A2 : Option Addr) (c2 : Nat) (hc : xs.length ≤ c) (hm : c ≤ 9223372036854775807) (hc2 : ys.length ≤ c2) (hm2 : c2 ≤ 9223372036854775807) (w : World) {B B2 : Nat} (h : RD w B A (ints xs)) (h2 : RD w B2 A2 (ints ys)) :
    Calls Try.prog 69 #[.slice A xs.length c, .slice A2 ys.length c2] w fun e w' => e = .returned (.int .i64 (ordE xs ys)) ∧ ∃ k, w' = w.drewN k := by
  cases hp : okP 9 100000 xs with
  | false =>
    have hr : ordE xs ys = 12 := by simp [ordE, hp]
    rw [hr]
    go_enter Try.func69, Try.ntmps69
    go_wp2_with (go_at_call 32; (with_reducible refine (refCheckPlaces_no hp A c _ hc hm h).mono ?_); rintro e w' ⟨rfl, k0, rfl⟩)
    go_ret
    exact ⟨rfl, k0, rfl⟩
  | true =>
    by_cases hl : ys.length = xs.length
    · have e1 : (((ys.length : Int) != (xs.length : Int)) = false) := by simp [hl]
      have e2 : (ys.length != xs.length) = false := by simp [hl]
      have HL := Lib.hid hl
      have H2 := Lib.hid h2
      clear hl h2
      go_enter Try.func69, Try.ntmps69
      go_wp2_with (go_at_call 32; (with_reducible refine (refCheckPlaces_yes hp A c _ hc hm h).mono ?_); rintro e w' ⟨rfl, k0, rfl⟩)
      go_loopw [5] (fun x wr => ∃ k q : Nat, k ≤ ys.length ∧ x = .int .i64 k ∧ wr = w.drewN q ∧ ∀ j : Nat, j < k → badO (ix ys j) = false) (fun x _ => ys.length - (intOf x).toNat)
      case atStart => exact ⟨0, k0, by omega, rfl, rfl, fun j hj => by omega⟩
      case round =>
        obtain ⟨k, q, hk, rfl, rfl, hlt⟩ := hrel
        have HLT := Lib.hid hlt
        clear hlt
        by_cases hk' : k < ys.length
        · obtain ⟨b2, off2, rfl, hb2, hcell2⟩ := H2.out.ints (by omega)
          have y0 := hcell2 k hk'
          clear hcell2
          by_cases c0 : ix ys k < -20000
          · have d0 : decide (ix ys k < -20000) = true := decide_eq_true c0
            have hbad : badO (ix ys k) = true := by simp only [badO, within_no (show ¬ (-20000 ≤ ix ys k ∧ ix ys k ≤ 20000) by omega)]; rfl
            have hr : ordE xs ys = 1 := by simp [ordE, hp, HL.out, anyB_yes k hk' hbad]
            have HR := Lib.hid hr
            clear hr hbad
            go_wp2
            go_ret
            exact ⟨by rw [HR.out]; rfl, q, rfl⟩
          · have d0 : decide (ix ys k < -20000) = false := decide_eq_false c0
            by_cases c1 : 20000 < ix ys k
            · have d1 : decide (20000 < ix ys k) = true := decide_eq_true c1
              have hbad : badO (ix ys k) = true := by simp only [badO, within_no (show ¬ (-20000 ≤ ix ys k ∧ ix ys k ≤ 20000) by omega)]; rfl
              have hr : ordE xs ys = 1 := by simp [ordE, hp, HL.out, anyB_yes k hk' hbad]
              have HR := Lib.hid hr
              clear hr hbad
              go_wp2
              go_ret
              exact ⟨by rw [HR.out]; rfl, q, rfl⟩
            · have d1 : decide (20000 < ix ys k) = false := decide_eq_false c1
              have hok : badO (ix ys k) = false := by simp only [badO, within_mk (show -20000 ≤ ix ys k by omega) (show ix ys k ≤ 20000 by omega)]; rfl
              have HOK := Lib.hid hok
              clear hok
              go_wp2
              exact ⟨⟨k + 1, q, by omega, by go_num, rfl, fun j hj => (by rcases (by omega : j < k ∨ j = k) with h | rfl; exact HLT.out j h; exact HOK.out)⟩, by simp [intOf]; omega⟩
        · have hr : ordE xs ys = 0 := by simp [ordE, hp, HL.out, anyB_no (fun j hj => HLT.out j (by omega))]
          have HR := Lib.hid hr
          clear hr
          go_wp2
          go_ret
          exact ⟨by rw [HR.out]; rfl, q, rfl⟩
    · have hr : ordE xs ys = 1 := by simp [ordE, hp, hl]
      rw [hr]
      have e1 := neq_beq hl
      have e2 : (ys.length != xs.length) = true := by simpa using hl
      have HL := Lib.hid hl
      clear hl hr
      go_enter Try.func69, Try.ntmps69
      go_wp2_with (go_at_call 32; (with_reducible refine (refCheckPlaces_yes hp A c _ hc hm h).mono ?_); rintro e w' ⟨rfl, k0, rfl⟩)
      go_ret
      exact ⟨rfl, k0, rfl⟩
theorem refcheckOrd_is {xs ys : List Int} {r : Int} (hr : ordE xs ys = r) (A : Option Addr) (c : Nat) (A2 : Option Addr) (c2 : Nat) (hc : xs.length ≤ c) (hm : c ≤ 9223372036854775807) (hc2 : ys.length ≤ c2) (hm2 : c2 ≤ 9223372036854775807) (w : World) {B B2 : Nat} (h : RD w B A (ints xs)) (h2 : RD w B2 A2 (ints ys)) :
    Calls Try.prog 69 #[.slice A xs.length c, .slice A2 ys.length c2] w fun e w' => e = .returned (.int .i64 r) ∧ ∃ k, w' = w.drewN k := by
  subst hr; exact refcheckOrd_any xs ys A c A2 c2 hc hm hc2 hm2 w h h2

/-- the sum of the first k weights times ordinates times distances, in the reference's order. -/
theorem dotK_mom (ws xs ys : List Int) (about : Int) (n : Nat) : ∀ k, k ≤ n → dotK ws (momL xs ys about n) (k + 1) = dotK ws (momL xs ys about n) k + ix ws k * ix (momL xs ys about n) k := fun _ _ => rfl

section
variable (xs ys : List Int) (A : Option Addr) (c : Nat) (A2 : Option Addr) (c2 : Nat) (hc : xs.length ≤ c) (hm : c ≤ 9223372036854775807) (hc2 : ys.length ≤ c2) (hm2 : c2 ≤ 9223372036854775807)
include hc hm hc2 hm2

set_option maxHeartbeats 1000000 in
theorem refArea_any (w : World) (h : RD w w.heap.size A (ints xs)) (h2 : RD w w.heap.size A2 (ints ys)) :
    Calls Try.prog 23 #[.slice A xs.length c, .slice A2 ys.length c2] w fun e w' => e = .returned (.tuple #[.int .i64 (areaR xs ys).1, .int .i64 (areaR xs ys).2]) ∧ Below w.heap.size w w' := by
  rcases ordE_cases xs ys with he | he | he
  · obtain ⟨hP, hl, hy⟩ := ordE_zero he
    have hr : areaR xs ys = (dotK (weightsZ xs) ys xs.length, 0) := by simp only [areaR, he, if_true]
    have HR := Lib.hid hr
    have HE := Lib.hid he
    have HL := Lib.hid hl
    have HW := Lib.hid (weightsZ_length xs)
    have hp := fun k => mulbd (weightsZ_bd hP (by omega) k) (hy k) (by omega) (by omega)
    have hd := dotK_bd (ws := weightsZ xs) (ys := ys) (M := 180000000 * 20000) (by omega) hp
    have HPB := Lib.hid hp
    have HDB := Lib.hid hd
    have hn9 := hP.many
    have H1 := Lib.hid h
    have H2 := Lib.hid h2
    have hwl : (weightsZ xs).length ≤ 9 := by rw [weightsZ_length]; omega
    clear hr he hl hp hd hy h h2
    go_enter Try.func23, Try.ntmps23
    go_wp2_with (first | (go_at_call 69; (with_reducible refine (refcheckOrd_is HE.out A c A2 c2 hc hm hc2 hm2 _ H1.out H2.out).mono ?_); rintro e w' ⟨rfl, k0, rfl⟩))
    refine (refweights_any xs A c hP hc hm (w.drewN k0) (H1.out.keep (Below.drewN' (Below.refl _ _) k0) (Nat.le_refl _))).mono ?_
    rintro e w1 ⟨g, rfl, hg, har, hb1⟩
    have hb1' : Below w.heap.size w w1 := below_step hb1 (Below.drewN' (Below.refl _ _) k0) (Nat.le_refl _)
    have HAR := Lib.hid har
    have HB1 := Lib.hid hb1'
    clear har hb1 hb1' hg
    go_wp2
    go_loopw [8, 9] (fun s x wr => ∃ k q : Nat, k ≤ (weightsZ xs).length ∧ x = .int .i64 k ∧ s = .int .i64 (dotK (weightsZ xs) ys k) ∧ wr = w1.drewN q) (fun _ x _ => (weightsZ xs).length - (intOf x).toNat)
    case atStart => exact ⟨0, 0, by omega, rfl, rfl, rfl⟩
    case round =>
      obtain ⟨k, q, hk, rfl, rfl, rfl⟩ := hrel
      by_cases hk' : k < (weightsZ xs).length
      · have hky : k < ys.length := by have := HW.out; have := HL.out; omega
        obtain ⟨b2, off2, rfl, hb2, hcell2⟩ := H2.out.ints (by omega)
        have y0 := HAR.out.cell hk'
        have y1 := (HB1.out.cell (p := ⟨b2, off2 + k, none⟩) hb2).trans (hcell2 k hky)
        obtain ⟨p0, p1⟩ := HPB.out k
        obtain ⟨q0, q1⟩ := HDB.out k
        have q2 : -32400000000000 ≤ dotK (weightsZ xs) ys k := by omega
        have q3 : dotK (weightsZ xs) ys k ≤ 32400000000000 := by omega
        have ew : IntKind.i64.wrap (ix (weightsZ xs) k * ix ys k) = ix (weightsZ xs) k * ix ys k := IntWalk.i64_in _ ⟨by omega, by omega⟩
        have ew2 : IntKind.i64.wrap (dotK (weightsZ xs) ys k + ix (weightsZ xs) k * ix ys k) = dotK (weightsZ xs) ys k + ix (weightsZ xs) k * ix ys k := IntWalk.i64_in _ ⟨by omega, by omega⟩
        clear hcell2 q0 q1
        go_wp2
        go_quiet (fail)
        go_wp2
        go_roundw
        case rel => exact ⟨k + 1, q + nq, by omega, by go_num, rfl, by first | rfl | rw [World.drewN_drewN]⟩
        case measure => simp [intOf]; omega
      · have e : k = xs.length := by have := HW.out; omega
        have E := Lib.hid e
        clear e
        go_wp2
        go_ret2
        rw [HR.out, ← E.out]
        exact ⟨rfl, below_drewN HB1.out _⟩
  · have hr : areaR xs ys = (0, 1) := by simp [areaR, he]
    have HR := Lib.hid hr
    have HE := Lib.hid he
    clear hr he
    go_enter Try.func23, Try.ntmps23
    go_wp2_with (first | (go_at_call 69; (with_reducible refine (refcheckOrd_is HE.out A c A2 c2 hc hm hc2 hm2 _ h h2).mono ?_); rintro e w' ⟨rfl, k0, rfl⟩))
    go_ret2
    rw [HR.out]
    exact ⟨rfl, Below.drewN' (Below.refl _ _) k0⟩
  · have hr : areaR xs ys = (0, 12) := by simp [areaR, he]
    have HR := Lib.hid hr
    have HE := Lib.hid he
    clear hr he
    go_enter Try.func23, Try.ntmps23
    go_wp2_with (first | (go_at_call 69; (with_reducible refine (refcheckOrd_is HE.out A c A2 c2 hc hm hc2 hm2 _ h h2).mono ?_); rintro e w' ⟨rfl, k0, rfl⟩))
    go_ret2
    rw [HR.out]
    exact ⟨rfl, Below.drewN' (Below.refl _ _) k0⟩
theorem refArea_is {a e0 : Int} (hr : areaR xs ys = (a, e0)) (w : World) {B : Nat} (hB : B ≤ w.heap.size) (h : RD w B A (ints xs)) (h2 : RD w B A2 (ints ys)) : Calls Try.prog 23 #[.slice A xs.length c, .slice A2 ys.length c2] w fun e w' => e = .returned (.tuple #[.int .i64 a, .int .i64 e0]) ∧ Below w.heap.size w w' := by
  have := refArea_any xs ys A c A2 c2 hc hm hc2 hm2 w (h.more hB) (h2.more hB)
  rw [hr] at this
  exact this

set_option maxHeartbeats 2000000 in
theorem refMoment_any (about : Int) (w : World) (h : RD w w.heap.size A (ints xs)) (h2 : RD w w.heap.size A2 (ints ys)) :
    Calls Try.prog 25 #[.slice A xs.length c, .slice A2 ys.length c2, .int .i64 about] w fun e w' => e = .returned (.tuple #[.int .i64 (momR xs ys about).1, .int .i64 (momR xs ys about).2]) ∧ Below w.heap.size w w' := by
  rcases ordE_cases xs ys with he | he | he
  · obtain ⟨hP, hl, hy⟩ := ordE_zero he
    have HE := Lib.hid he
    have HL := Lib.hid hl
    have H1 := Lib.hid h
    have H2 := Lib.hid h2
    by_cases hab : 0 ≤ about ∧ about ≤ 100000
    · obtain ⟨ab0, ab1⟩ := hab
      have hr : momR xs ys about = (dotK (weightsZ xs) (momL xs ys about xs.length) xs.length, 0) := by simp only [momR, he, if_true, within_mk ab0 ab1]
      have HR := Lib.hid hr
      have HW := Lib.hid (weightsZ_length xs)
      have hwb := weightsZ_bd hP (by omega : (100000 : Int) ≤ 100000)
      have HWB := Lib.hid hwb
      have HY := Lib.hid hy
      have hn9 := hP.many
      have hlx : ∀ k, k < xs.length → 0 ≤ ix xs k ∧ ix xs k ≤ 100000 := fun k hk => ⟨hP.lo k hk, hP.hi' k hk⟩
      have HLX := Lib.hid hlx
      have hq : ∀ j, -2000000000 ≤ ix (momL xs ys about xs.length) j ∧ ix (momL xs ys about xs.length) j ≤ 2000000000 := fun j => by
        by_cases hj : j < xs.length
        · rw [momL_ix _ _ _ _ _ hj]
          have a := hP.lo j hj
          have b := hP.hi' j hj
          have := mulbd (M := 20000) (N := 100000) (hy j) (show -100000 ≤ ix xs j - about ∧ ix xs j - about ≤ 100000 by omega) (by omega) (by omega)
          omega
        · rw [ix_out (by rw [momL_length]; omega)]; omega
      have hp := fun k => mulbd (hwb k) (hq k) (by omega) (by omega)
      have hd := dotK_bd (ws := weightsZ xs) (ys := momL xs ys about xs.length) (M := 180000000 * 2000000000) (by omega) hp
      have HPB := Lib.hid hp
      have HDB := Lib.hid hd
      have d0 : decide (about < 0) = false := decide_eq_false (by omega)
      have d1 : decide (100000 < about) = false := decide_eq_false (by omega)
      have hwl : (weightsZ xs).length ≤ 9 := by rw [weightsZ_length]; omega
      clear hr he hl hp hd hy h h2 hq hwb hlx
      go_enter Try.func25, Try.ntmps25
      go_wp2_with (first | (go_at_call 69; (with_reducible refine (refcheckOrd_is HE.out A c A2 c2 hc hm hc2 hm2 _ H1.out H2.out).mono ?_); rintro e w' ⟨rfl, k0, rfl⟩))
      refine (refweights_any xs A c hP hc hm (w.drewN k0) (H1.out.keep (Below.drewN' (Below.refl _ _) k0) (Nat.le_refl _))).mono ?_
      rintro e w1 ⟨g, rfl, hg, har, hb1⟩
      have hb1' : Below w.heap.size w w1 := below_step hb1 (Below.drewN' (Below.refl _ _) k0) (Nat.le_refl _)
      have HAR := Lib.hid har
      have HB1 := Lib.hid hb1'
      clear har hb1 hb1' hg
      go_wp2
      go_loopw [10, 11] (fun s x wr => ∃ k q : Nat, k ≤ (weightsZ xs).length ∧ x = .int .i64 k ∧ s = .int .i64 (dotK (weightsZ xs) (momL xs ys about xs.length) k) ∧ wr = w1.drewN q) (fun _ x _ => (weightsZ xs).length - (intOf x).toNat)
      case atStart => exact ⟨0, 0, by omega, rfl, rfl, rfl⟩
      case round =>
        obtain ⟨k, q, hk, rfl, rfl, rfl⟩ := hrel
        by_cases hk' : k < (weightsZ xs).length
        · have hkx : k < xs.length := by have := HW.out; omega
          have hky : k < ys.length := by have := HL.out; omega
          obtain ⟨b2, off2, rfl, hb2, hcell2⟩ := H2.out.ints (by omega)
          obtain ⟨b1, off1, rfl, hb1, hcell1⟩ := H1.out.ints (by omega)
          have y0 := HAR.out.cell hk'
          have y1 := (HB1.out.cell (p := ⟨b2, off2 + k, none⟩) hb2).trans (hcell2 k hky)
          have y2 := (HB1.out.cell (p := ⟨b1, off1 + k, none⟩) hb1).trans (hcell1 k hkx)
          obtain ⟨x0, x1⟩ := HLX.out k hkx
          obtain ⟨p0, p1⟩ := HPB.out k
          obtain ⟨q0, q1⟩ := HDB.out k
          have r0 := mulbd (M := 180000000) (N := 20000) (HWB.out k) (HY.out k) (by omega) (by omega)
          obtain ⟨r0, r1⟩ := r0
          have q2 : -3240000000000000000 ≤ dotK (weightsZ xs) (momL xs ys about xs.length) k := by omega
          have q3 : dotK (weightsZ xs) (momL xs ys about xs.length) k ≤ 3240000000000000000 := by omega
          have em : ix (weightsZ xs) k * ix ys k * (ix xs k - about) = ix (weightsZ xs) k * ix (momL xs ys about xs.length) k := by rw [momL_ix _ _ _ _ _ hkx, Int.mul_assoc]
          have ed : IntKind.i64.wrap (ix xs k - about) = ix xs k - about := IntWalk.i64_in _ ⟨by omega, by omega⟩
          have ew0 : IntKind.i64.wrap (ix (weightsZ xs) k * ix ys k) = ix (weightsZ xs) k * ix ys k := IntWalk.i64_in _ ⟨by omega, by omega⟩
          have ew : IntKind.i64.wrap (ix (weightsZ xs) k * ix ys k * (ix xs k - about)) = ix (weightsZ xs) k * ix (momL xs ys about xs.length) k := by rw [em]; exact IntWalk.i64_in _ ⟨by omega, by omega⟩
          have ew2 : IntKind.i64.wrap (dotK (weightsZ xs) (momL xs ys about xs.length) k + ix (weightsZ xs) k * ix (momL xs ys about xs.length) k) = dotK (weightsZ xs) (momL xs ys about xs.length) k + ix (weightsZ xs) k * ix (momL xs ys about xs.length) k := IntWalk.i64_in _ ⟨by omega, by omega⟩
          clear hcell2 hcell1 q0 q1 em
          go_wp2
          go_quiet (fail)
          go_wp2
          go_roundw
          case rel => exact ⟨k + 1, q + nq, by omega, by go_num, rfl, by first | rfl | rw [World.drewN_drewN]⟩
          case measure => simp [intOf]; omega
        · have e : k = xs.length := by have := HW.out; omega
          have E := Lib.hid e
          clear e
          go_wp2
          go_ret2
          rw [HR.out]
          exact ⟨by rw [E.out]; rfl, below_drewN HB1.out _⟩
    · have hr : momR xs ys about = (0, 1) := by simp [momR, he, within_no hab]
      have HR := Lib.hid hr
      clear hr he hl hy h h2
      by_cases ha0 : about < 0
      · have d0 : decide (about < 0) = true := decide_eq_true ha0
        clear hab
        go_enter Try.func25, Try.ntmps25
        go_wp2_with (first | (go_at_call 69; (with_reducible refine (refcheckOrd_is HE.out A c A2 c2 hc hm hc2 hm2 _ H1.out H2.out).mono ?_); rintro e w' ⟨rfl, k0, rfl⟩))
        go_ret2
        rw [HR.out]
        exact ⟨rfl, Below.drewN' (Below.refl _ _) k0⟩
      · have d0 : decide (about < 0) = false := decide_eq_false ha0
        have ha1 : 100000 < about := by omega
        have d1 : decide (100000 < about) = true := decide_eq_true ha1
        clear hab
        go_enter Try.func25, Try.ntmps25
        go_wp2_with (first | (go_at_call 69; (with_reducible refine (refcheckOrd_is HE.out A c A2 c2 hc hm hc2 hm2 _ H1.out H2.out).mono ?_); rintro e w' ⟨rfl, k0, rfl⟩))
        go_ret2
        rw [HR.out]
        exact ⟨rfl, Below.drewN' (Below.refl _ _) k0⟩
  · have hr : momR xs ys about = (0, 1) := by simp [momR, he]
    have HR := Lib.hid hr
    have HE := Lib.hid he
    clear hr he
    go_enter Try.func25, Try.ntmps25
    go_wp2_with (first | (go_at_call 69; (with_reducible refine (refcheckOrd_is HE.out A c A2 c2 hc hm hc2 hm2 _ h h2).mono ?_); rintro e w' ⟨rfl, k0, rfl⟩))
    go_ret2
    rw [HR.out]
    exact ⟨rfl, Below.drewN' (Below.refl _ _) k0⟩
  · have hr : momR xs ys about = (0, 12) := by simp [momR, he]
    have HR := Lib.hid hr
    have HE := Lib.hid he
    clear hr he
    go_enter Try.func25, Try.ntmps25
    go_wp2_with (first | (go_at_call 69; (with_reducible refine (refcheckOrd_is HE.out A c A2 c2 hc hm hc2 hm2 _ h h2).mono ?_); rintro e w' ⟨rfl, k0, rfl⟩))
    go_ret2
    rw [HR.out]
    exact ⟨rfl, Below.drewN' (Below.refl _ _) k0⟩
end

end Go.Proofs.Ytdlmdaononclgaa
