import Derived.Test.YtdlmdaononclgaaDoorWt3
import Derived.Test.YtdlmdaononclgaaDoorMC
/- area and moment; Weights. -/
namespace Go.Proofs.YtdlmdaononclgaaDoor
open Go.RowKit
set_option linter.unusedVariables false
set_option linter.unusedSimpArgs false

/-- the sum of the first k products. -/
def dotK (ws ys : List Int) : Nat → Int
  | 0 => 0
  | k + 1 => dotK ws ys k + ix ws k * ix ys k
theorem mulbd {x y M N : Int} (a : -M ≤ x ∧ x ≤ M) (b : -N ≤ y ∧ y ≤ N) (hM : 0 ≤ M) (hN : 0 ≤ N) : -(M * N) ≤ x * y ∧ x * y ≤ M * N := by
  have h : (x * y).natAbs ≤ M.natAbs * N.natAbs := by rw [Int.natAbs_mul]; exact Nat.mul_le_mul (by omega) (by omega)
  have e : ((M.natAbs * N.natAbs : Nat) : Int) = M * N := by rw [Int.natCast_mul]; congr 1 <;> omega
  omega
theorem dotK_bd {ws ys : List Int} {M : Int} (hM : 0 ≤ M) (h : ∀ k, -M ≤ ix ws k * ix ys k ∧ ix ws k * ix ys k ≤ M) : ∀ k : Nat, -(M * k) ≤ dotK ws ys k ∧ dotK ws ys k ≤ M * k
  | 0 => by simp [dotK]
  | k + 1 => by
    have a := dotK_bd hM h k
    have b := h k
    rw [dotK, show ((k + 1 : Nat) : Int) = (k : Int) + 1 by omega, Int.mul_add]
    omega

theorem weightsZ_length (xs : List Int) : (weightsZ xs).length = xs.length := wtAcc_length xs _
theorem weightsZ_bd {most : Int} {xs : List Int} (hP : OkP 9 most xs) (hm : most ≤ 100000) (j : Nat) : -180000000 ≤ ix (weightsZ xs) j ∧ ix (weightsZ xs) j ≤ 180000000 := by
  have a := wtAcc_bd hP hm _ (Nat.le_refl _) j
  have b := groups_length xs
  have c := hP.many
  unfold weightsZ
  omega

set_option maxHeartbeats 1000000 in
theorem area_any (xs ys : List Int) (A : Option Addr) (c : Nat) (A2 : Option Addr) (c2 : Nat) (hP : OkP 9 100000 xs) (hc : xs.length ≤ c) (hm : c ≤ 9223372036854775807) (w : World) (h : RD w w.heap.size A (ints xs))
    (hl : ys.length = xs.length) (hc2 : ys.length ≤ c2) (hy : ∀ j, -2000000000 ≤ ix ys j ∧ ix ys j ≤ 2000000000) (h2 : RD w w.heap.size A2 (ints ys)) :
    Calls Tryd.prog 69 #[.slice A xs.length c, .slice A2 ys.length c2] w fun e w' => e = .returned (.int .i64 (dotK (weightsZ xs) ys xs.length)) ∧ Below w.heap.size w w' := by
  have HL := Lib.hid hl
  have hn9 := hP.many
  have hn2 := hP.two
  have hp := fun k => mulbd (weightsZ_bd hP (by omega) k) (hy k) (by omega) (by omega)
  have hd := dotK_bd (ws := weightsZ xs) (ys := ys) (M := 180000000 * 2000000000) (by omega) hp
  have HPB := Lib.hid hp
  have HDB := Lib.hid hd
  have HW := Lib.hid (weightsZ_length xs)
  have hle : xs.length ≤ ys.length := by omega
  clear hl hp hd hy
  go_enter Tryd.func69, Tryd.ntmps69
  go_wp2_with (go_at_call 36; (with_reducible refine (weights_any xs A c hP hc hm _ h).mono ?_); rintro e w1 ⟨g, rfl, hg, har, hb1⟩)
  have hwl : (weightsZ xs).length ≤ 9 := by have := HW.out; omega
  have HAR := Lib.hid har
  have HB1 := Lib.hid hb1
  clear har hb1
  go_wp2
  go_loop [5, 11] (fun s x => ∃ k : Nat, k ≤ (weightsZ xs).length ∧ x = .int .i64 k ∧ s = .int .i64 (dotK (weightsZ xs) ys k)) (fun _ x => (weightsZ xs).length - (intOf x).toNat)
  case atStart => exact ⟨0, by omega, rfl, rfl⟩
  case round =>
    obtain ⟨k, hk, rfl, rfl⟩ := hrel
    by_cases hk' : k < (weightsZ xs).length
    · have hky : k < ys.length := by have := HW.out; omega
      obtain ⟨b2, off2, rfl, hb2, hcell2⟩ := h2.ints (by omega)
      have y0 := HAR.out.cell hk'
      have y1 := (HB1.out.cell (p := ⟨b2, off2 + k, none⟩) hb2).trans (hcell2 k hky)
      obtain ⟨p0, p1⟩ := HPB.out k
      obtain ⟨q0, q1⟩ := HDB.out k
      have q2 : -3240000000000000000 ≤ dotK (weightsZ xs) ys k := by omega
      have q3 : dotK (weightsZ xs) ys k ≤ 3240000000000000000 := by omega
      clear hcell2 h h2 q0 q1
      go_wp2
      go_round
      case rel => exact ⟨k + 1, by omega, by go_num, rfl⟩
      case measure => simp [intOf]; omega
    · go_wp2
      go_ret
      have e : k = xs.length := by have := HW.out; omega
      exact ⟨by rw [← e]; rfl, HB1.out⟩

end Go.Proofs.YtdlmdaononclgaaDoor

/- moment. -/
namespace Go.Proofs.YtdlmdaononclgaaDoor
open Go.RowKit
set_option linter.unusedVariables false
set_option linter.unusedSimpArgs false

/-- ordinates times distances: the first k. -/
def momL (xs ys : List Int) (about : Int) (k : Nat) : List Int := (List.range k).map fun j => ix ys j * (ix xs j - about)
theorem momL_length (xs ys : List Int) (about : Int) (k : Nat) : (momL xs ys about k).length = k := by simp [momL]
theorem momL_succ (xs ys : List Int) (about : Int) (k : Nat) : momL xs ys about (k + 1) = momL xs ys about k ++ [ix ys k * (ix xs k - about)] := by simp [momL, List.range_succ]
theorem momL_ix (xs ys : List Int) (about : Int) (k j : Nat) (h : j < k) : ix (momL xs ys about k) j = ix ys j * (ix xs j - about) := by
  simp [ix, momL, List.getD, h]

set_option maxHeartbeats 1000000 in
theorem moment_any (xs ys : List Int) (A : Option Addr) (c : Nat) (A2 : Option Addr) (c2 : Nat) (about : Int) (hP : OkP 9 100000 xs) (hc : xs.length ≤ c) (hm : c ≤ 9223372036854775807) (w : World) (h : RD w w.heap.size A (ints xs))
    (hl : ys.length = xs.length) (hc2 : ys.length ≤ c2) (hy : ∀ j, -20000 ≤ ix ys j ∧ ix ys j ≤ 20000) (h2 : RD w w.heap.size A2 (ints ys)) (ab0 : 0 ≤ about) (ab1 : about ≤ 100000) :
    Calls Tryd.prog 56 #[.slice A xs.length c, .slice A2 ys.length c2, .int .i64 about] w fun e w' => e = .returned (.int .i64 (dotK (weightsZ xs) (momL xs ys about xs.length) xs.length)) ∧ Below w.heap.size w w' := by
  have HL := Lib.hid hl
  have hn9 := hP.many
  have hn2 := hP.two
  have hy9 : ys.length ≤ 9 := by omega
  have HY := Lib.hid hy
  have hpb : ∀ k, k < xs.length → -2000000000 ≤ ix ys k * (ix xs k - about) ∧ ix ys k * (ix xs k - about) ≤ 2000000000 := fun k hk => by
    have a := hP.lo k hk
    have b := hP.hi' k hk
    have := mulbd (M := 20000) (N := 100000) (hy k) (show -100000 ≤ ix xs k - about ∧ ix xs k - about ≤ 100000 by omega) (by omega) (by omega)
    omega
  have HPB := Lib.hid hpb
  have hlx : ∀ k, k < xs.length → 0 ≤ ix xs k ∧ ix xs k ≤ 100000 := fun k hk => ⟨hP.lo k hk, hP.hi' k hk⟩
  have HLX := Lib.hid hlx
  have H1 := Lib.hid h
  have H2 := Lib.hid h2
  clear hl hy hpb hlx h h2
  go_enter Tryd.func56, Tryd.ntmps56
  go_wp2
  go_loopw [7, 12] (fun v x wr => ∃ k : Nat, k ≤ ys.length ∧ x = .int .i64 k ∧ OwnI wr w.heap.size v (momL xs ys about k) ∧ Below w.heap.size w wr) (fun _ x _ => ys.length - (intOf x).toNat)
  case atStart => exact ⟨0, by omega, rfl, OwnI.nil _ _, Below.refl _ _⟩
  case round =>
    obtain ⟨k, hk, rfl, hown, hbl⟩ := hrel
    by_cases hk' : k < ys.length
    · have hkx : k < xs.length := by have := HL.out; omega
      obtain ⟨b2, off2, rfl, hb2, hcell2⟩ := H2.out.ints (by omega)
      obtain ⟨b1, off1, rfl, hb1, hcell1⟩ := H1.out.ints (by omega)
      have y0 := (hbl.cell (p := ⟨b1, off1 + k, none⟩) hb1).trans (hcell1 k hkx)
      have y1 := (hbl.cell (p := ⟨b2, off2 + k, none⟩) hb2).trans (hcell2 k hk')
      obtain ⟨p0, p1⟩ := HPB.out k hkx
      obtain ⟨q0, q1⟩ := HLX.out k hkx
      have hs := hbl.size
      have HO := Lib.hid hown
      have HB := Lib.hid hbl
      have hml : (momL xs ys about k).length ≤ 1000000 := by rw [momL_length]; omega
      clear hcell2 hcell1 hown hbl
      go_wp2_with (at_builtin; refine wpList_app1 rfl _ _ rfl w.heap.size _ _ rfl (HO.out.kept (by repeat' (first | (with_reducible exact Below.refl _ _) | (with_reducible assumption) | (refine below_step (by assumption) ?_ ?_) | (with_reducible refine below_drewN ?_ _) | (with_reducible refine Below.drew ?_) | (with_reducible refine Below.alloc ?_ ?_ _) | (with_reducible refine Below.setCell ?_ ?_ _) | go_size)) (Nat.le_refl _)) wr.heap.size 1 _ rfl (cell_new1 _ _ _) hml (by simp; omega) ?_; intro v' w1 hown' hgrow; replace hgrow := app_below HB.out HO.out hgrow)
      exact ⟨⟨k + 1, by omega, by go_num, by rw [momL_succ]; exact hown', hgrow⟩, by simp [intOf]; omega⟩
    · obtain ⟨A3, c3, rfl, hc3, hm3, hrd, hbase, _⟩ := hown.form
      have ek : k = xs.length := by have := HL.out; omega
      subst ek
      have hy2 : ∀ j, -2000000000 ≤ ix (momL xs ys about xs.length) j ∧ ix (momL xs ys about xs.length) j ≤ 2000000000 := fun j => by
        by_cases hj : j < xs.length
        · rw [momL_ix _ _ _ _ _ hj]; exact HPB.out j hj
        · rw [ix_out (by rw [momL_length]; omega)]; omega
      have har := area_any xs (momL xs ys about xs.length) A c A3 c3 hP hc hm wr ((H1.out.keep hbl (Nat.le_refl _)).more hbl.size) (momL_length _ _ _ _) hc3 hy2 hrd
      have HA := Lib.hid har
      have HB := Lib.hid hbl
      clear har hy2 hrd hown hbase hbl
      go_wp2_with (go_at_call 69; (with_reducible refine HA.out.mono ?_); rintro e w1 ⟨rfl, hb1⟩)
      go_ret
      exact ⟨rfl, below_step hb1 HB.out HB.out.size⟩

end Go.Proofs.YtdlmdaononclgaaDoor

/- checkOrdinates, Weights, Area, Moment, Centre. -/
namespace Go.Proofs.YtdlmdaononclgaaDoor
open Go.RowKit
set_option linter.unusedVariables false
set_option linter.unusedSimpArgs false

/-- outside of -20000 .. 20000. -/
def badO (n : Int) : Bool := !within n (-20000) 20000
/-- the error of positions and ordinates. -/
def ordE (xs ys : List Int) : Int := if okP 9 100000 xs = true then (if ys.length = xs.length then (if anyB badO ys = true then 1 else 0) else 1) else 12

theorem badO_pred : Pred 75 badO := by
  intro x W
  cases h : within x (-20000) 20000 with
  | false =>
    go_enter Tryd.func75, Tryd.ntmps75
    go_wp2_with (go_at_call 44; (with_reducible refine (isWithin_is h _).mono ?_); rintro e w' ⟨rfl, rfl⟩)
    go_ret
    exact ⟨ret_bool (by simp [badO, h]), rfl⟩
  | true =>
    go_enter Tryd.func75, Tryd.ntmps75
    go_wp2_with (go_at_call 44; (with_reducible refine (isWithin_is h _).mono ?_); rintro e w' ⟨rfl, rfl⟩)
    go_ret
    exact ⟨ret_bool (by simp [badO, h]), rfl⟩

theorem neq_beq {n m : Nat} (h : n ≠ m) : (((n : Int) != (m : Int)) = true) := by simp [bne_iff_ne]; omega

set_option maxHeartbeats 1000000 in
theorem checkOrd_any (xs ys : List Int) (A : Option Addr) (c : Nat) (A2 : Option Addr) (c2 : Nat) (hc : xs.length ≤ c) (hm : c ≤ 9223372036854775807) (hc2 : ys.length ≤ c2) (hm2 : c2 ≤ 9223372036854775807) (w : World) {B B2 : Nat} (h : RD w B A (ints xs)) (h2 : RD w B2 A2 (ints ys)) :
    Calls Tryd.prog 68 #[.slice A xs.length c, .slice A2 ys.length c2] w fun e w' => e = .returned (.int .i64 (ordE xs ys)) ∧ w = w' := by
  have eg : ∀ args w, (callFunc 75 args).run Tryd.prog w = .ok (.enter 75 args) w := enters_of Tryd.func75 (by kernel_rfl) rfl
  have EG := Lib.hid eg
  clear eg
  cases hp : okP 9 100000 xs with
  | false =>
    have hr : ordE xs ys = 12 := by simp [ordE, hp]
    rw [hr]
    go_enter Tryd.func68, Tryd.ntmps68
    go_wp2_with (go_at_call 54; (with_reducible refine (CheckPlaces_no hp A c _ hc hm h).mono ?_); rintro e w' ⟨rfl, rfl⟩)
    go_ret
    exact ⟨rfl, rfl⟩
  | true =>
    by_cases hl : ys.length = xs.length
    · cases ha : anyB badO ys with
      | true =>
        have hr : ordE xs ys = 1 := by simp [ordE, hp, hl, ha]
        rw [hr]
        have e1 : (((ys.length : Int) != (xs.length : Int)) = false) := by simp [hl]
        have HL := Lib.hid hl
        clear hl hr
        go_enter Tryd.func68, Tryd.ntmps68
        go_wp2_with (first | (go_at_call 54; (with_reducible refine (CheckPlaces_yes hp A c _ hc hm h).mono ?_); rintro e w' ⟨rfl, rfl⟩) | (go_at_call 42; (with_reducible refine (ContainsFunc_is _ EG.out badO_pred ha A2 c2 _ hc2 hm2 h2).mono ?_); rintro e w' ⟨rfl, rfl⟩))
        go_ret
        exact ⟨rfl, rfl⟩
      | false =>
        have hr : ordE xs ys = 0 := by simp [ordE, hp, hl, ha]
        rw [hr]
        have e1 : (((ys.length : Int) != (xs.length : Int)) = false) := by simp [hl]
        have HL := Lib.hid hl
        clear hl hr
        go_enter Tryd.func68, Tryd.ntmps68
        go_wp2_with (first | (go_at_call 54; (with_reducible refine (CheckPlaces_yes hp A c _ hc hm h).mono ?_); rintro e w' ⟨rfl, rfl⟩) | (go_at_call 42; (with_reducible refine (ContainsFunc_is _ EG.out badO_pred ha A2 c2 _ hc2 hm2 h2).mono ?_); rintro e w' ⟨rfl, rfl⟩))
        go_ret
        exact ⟨rfl, rfl⟩
    · have hr : ordE xs ys = 1 := by simp [ordE, hp, hl]
      rw [hr]
      have e1 := neq_beq hl
      have HL := Lib.hid hl
      clear hl hr
      go_enter Tryd.func68, Tryd.ntmps68
      go_wp2_with (first | (go_at_call 54; (with_reducible refine (CheckPlaces_yes hp A c _ hc hm h).mono ?_); rintro e w' ⟨rfl, rfl⟩))
      go_ret
      exact ⟨rfl, rfl⟩

end Go.Proofs.YtdlmdaononclgaaDoor

/- Weights, Area, Moment, Centre. -/
namespace Go.Proofs.YtdlmdaononclgaaDoor
open Go.RowKit
set_option linter.unusedVariables false
set_option linter.unusedSimpArgs false

theorem checkOrd_is {xs ys : List Int} {r : Int} (hr : ordE xs ys = r) (A : Option Addr) (c : Nat) (A2 : Option Addr) (c2 : Nat) (hc : xs.length ≤ c) (hm : c ≤ 9223372036854775807) (hc2 : ys.length ≤ c2) (hm2 : c2 ≤ 9223372036854775807) (w : World) {B B2 : Nat} (h : RD w B A (ints xs)) (h2 : RD w B2 A2 (ints ys)) :
    Calls Tryd.prog 68 #[.slice A xs.length c, .slice A2 ys.length c2] w fun e w' => e = .returned (.int .i64 r) ∧ w = w' := by
  subst hr; exact checkOrd_any xs ys A c A2 c2 hc hm hc2 hm2 w h h2

theorem ordE_cases (xs ys : List Int) : ordE xs ys = 0 ∨ ordE xs ys = 1 ∨ ordE xs ys = 12 := by
  unfold ordE; (repeat' split) <;> simp
theorem ordE_zero {xs ys : List Int} (h : ordE xs ys = 0) : OkP 9 100000 xs ∧ ys.length = xs.length ∧ ∀ j, -20000 ≤ ix ys j ∧ ix ys j ≤ 20000 := by
  unfold ordE at h
  split at h
  · rename_i hp
    split at h
    · rename_i hl
      split at h
      · cases h
      · rename_i ha
        refine ⟨okP_true hp, hl, fun j => ?_⟩
        by_cases hj : j < ys.length
        · cases hb : badO (ix ys j) with
          | true => exact absurd (anyB_yes j hj hb) ha
          | false =>
            simp only [badO, Bool.not_eq_false'] at hb
            exact within_true hb
        · rw [ix_out (by omega)]; omega
    · cases h
  · cases h

/-- what Area answers. -/
def areaR (xs ys : List Int) : Int × Int := if ordE xs ys = 0 then (dotK (weightsZ xs) ys xs.length, 0) else (0, ordE xs ys)
def momR (xs ys : List Int) (about : Int) : Int × Int := if ordE xs ys = 0 then (if within about 0 100000 = true then (dotK (weightsZ xs) (momL xs ys about xs.length) xs.length, 0) else (0, 1)) else (0, ordE xs ys)
def cenR (xs ys : List Int) : Int × Int × Int :=
  if ordE xs ys = 0 then (if dotK (weightsZ xs) ys xs.length = 0 then (0, 0, 3) else mkR (dotK (weightsZ xs) (momL xs ys 0 xs.length) xs.length) (dotK (weightsZ xs) ys xs.length)) else (0, 0, ordE xs ys)

theorem area_bd {xs ys : List Int} (h : ordE xs ys = 0) : -32400000000000 ≤ dotK (weightsZ xs) ys xs.length ∧ dotK (weightsZ xs) ys xs.length ≤ 32400000000000 := by
  obtain ⟨hP, hl, hy⟩ := ordE_zero h
  have := dotK_bd (ws := weightsZ xs) (ys := ys) (M := 180000000 * 20000) (by omega) (fun k => mulbd (weightsZ_bd hP (by omega) k) (hy k) (by omega) (by omega)) xs.length
  have := hP.many
  omega
theorem mom_bd {xs ys : List Int} {about : Int} (h : ordE xs ys = 0) (ab0 : 0 ≤ about) (ab1 : about ≤ 100000) : -3240000000000000000 ≤ dotK (weightsZ xs) (momL xs ys about xs.length) xs.length ∧ dotK (weightsZ xs) (momL xs ys about xs.length) xs.length ≤ 3240000000000000000 := by
  obtain ⟨hP, hl, hy⟩ := ordE_zero h
  have hq : ∀ j, -2000000000 ≤ ix (momL xs ys about xs.length) j ∧ ix (momL xs ys about xs.length) j ≤ 2000000000 := fun j => by
    by_cases hj : j < xs.length
    · rw [momL_ix _ _ _ _ _ hj]
      have a := hP.lo j hj
      have b := hP.hi' j hj
      have := mulbd (M := 20000) (N := 100000) (hy j) (show -100000 ≤ ix xs j - about ∧ ix xs j - about ≤ 100000 by omega) (by omega) (by omega)
      omega
    · rw [ix_out (by rw [momL_length]; omega)]; omega
  have := dotK_bd (ws := weightsZ xs) (ys := momL xs ys about xs.length) (M := 180000000 * 2000000000) (by omega) (fun k => mulbd (weightsZ_bd hP (by omega) k) (hq k) (by omega) (by omega)) xs.length
  have := hP.many
  omega

section
variable (xs ys : List Int) (A : Option Addr) (c : Nat) (A2 : Option Addr) (c2 : Nat) (hc : xs.length ≤ c) (hm : c ≤ 9223372036854775807) (hc2 : ys.length ≤ c2) (hm2 : c2 ≤ 9223372036854775807) (w : World) (h : RD w w.heap.size A (ints xs)) (h2 : RD w w.heap.size A2 (ints ys))
include hc hm hc2 hm2 h h2

set_option maxHeartbeats 1000000 in
theorem Area_any : Calls Tryd.prog 55 #[.slice A xs.length c, .slice A2 ys.length c2] w fun e w' => e = .returned (.tuple #[.int .i64 (areaR xs ys).1, .int .i64 (areaR xs ys).2]) ∧ Below w.heap.size w w' := by
  rcases ordE_cases xs ys with he | he | he
  · obtain ⟨hP, hl, hy⟩ := ordE_zero he
    have HA := Lib.hid (area_any xs ys A c A2 c2 hP hc hm w h hl hc2 (fun j => by have := hy j; omega) h2)
    have HR : Hid (areaR xs ys = (dotK (weightsZ xs) ys xs.length, 0)) := by show _ = _; simp only [areaR, he, if_true]
    have HE := Lib.hid he
    clear hy hl he
    go_enter Tryd.func55, Tryd.ntmps55
    go_wp2_with (first | (go_at_call 68; (with_reducible refine (checkOrd_is HE.out A c A2 c2 hc hm hc2 hm2 _ h h2).mono ?_); rintro e w' ⟨rfl, rfl⟩) | (go_at_call 69; (with_reducible refine (HA.out).mono ?_); rintro e w1 ⟨rfl, hb1⟩; obtain ⟨hc1, hf1⟩ := bcell hb1; have hz1 := hb1.size; (try simp only [World.size_alloc, World.size_setCell, World.size_drew, hsz_drewN] at hz1)))
    go_ret2
    rw [HR.out]
    exact ⟨rfl, hb1⟩
  · have HR : Hid (areaR xs ys = (0, 1)) := by show _ = _; simp [areaR, he]
    have HE := Lib.hid he
    clear he
    go_enter Tryd.func55, Tryd.ntmps55
    go_wp2_with (first | (go_at_call 68; (with_reducible refine (checkOrd_is HE.out A c A2 c2 hc hm hc2 hm2 _ h h2).mono ?_); rintro e w' ⟨rfl, rfl⟩))
    go_ret2
    rw [HR.out]
    exact ⟨rfl, Below.refl _ _⟩
  · have HR : Hid (areaR xs ys = (0, 12)) := by show _ = _; simp [areaR, he]
    have HE := Lib.hid he
    clear he
    go_enter Tryd.func55, Tryd.ntmps55
    go_wp2_with (first | (go_at_call 68; (with_reducible refine (checkOrd_is HE.out A c A2 c2 hc hm hc2 hm2 _ h h2).mono ?_); rintro e w' ⟨rfl, rfl⟩))
    go_ret2
    rw [HR.out]
    exact ⟨rfl, Below.refl _ _⟩

end

/-- what Weights hands back. -/
def WtPost (xs : List Int) (w : World) (e : Ending) (w' : World) : Prop :=
  (okP 9 100000 xs = true ∧ ∃ g, e = .returned (.tuple #[.slice (some ⟨g, 0, none⟩) (weightsZ xs).length (weightsZ xs).length, .int .i64 0]) ∧ w.heap.size ≤ g ∧ Arr w' g (weightsZ xs) ∧ Below w.heap.size w w') ∨
  (okP 9 100000 xs = false ∧ e = .returned (.tuple #[.slice none 0 0, .int .i64 12]) ∧ w = w')

set_option maxHeartbeats 1000000 in
theorem Weights_yes {xs : List Int} (hp : okP 9 100000 xs = true) (A : Option Addr) (c : Nat) (hc : xs.length ≤ c) (hm : c ≤ 9223372036854775807) (w : World) (h : RD w w.heap.size A (ints xs)) :
    Calls Tryd.prog 33 #[.slice A xs.length c] w fun e w' => ∃ g, e = .returned (.tuple #[.slice (some ⟨g, 0, none⟩) (weightsZ xs).length (weightsZ xs).length, .int .i64 0]) ∧ w.heap.size ≤ g ∧ Arr w' g (weightsZ xs) ∧ Below w.heap.size w w' := by
  have HA := Lib.hid (weights_any xs A c (okP_true hp) hc hm w h)
  go_enter Tryd.func33, Tryd.ntmps33
  go_wp2_with (first | (go_at_call 54; (with_reducible refine (CheckPlaces_yes hp A c _ hc hm h).mono ?_); rintro e w' ⟨rfl, rfl⟩) | (go_at_call 36; (with_reducible refine HA.out.mono ?_); rintro e w1 ⟨g, rfl, hg, har, hb1⟩))
  go_ret2
  exact ⟨g, rfl, hg, har, hb1⟩
theorem Weights_no {xs : List Int} (hp : okP 9 100000 xs = false) (A : Option Addr) (c : Nat) (hc : xs.length ≤ c) (hm : c ≤ 9223372036854775807) (w : World) (h : RD w w.heap.size A (ints xs)) :
    Calls Tryd.prog 33 #[.slice A xs.length c] w fun e w' => e = .returned (.tuple #[.slice none 0 0, .int .i64 12]) ∧ w = w' := by
  go_enter Tryd.func33, Tryd.ntmps33
  go_wp2_with (first | (go_at_call 54; (with_reducible refine (CheckPlaces_no hp A c _ hc hm h).mono ?_); rintro e w' ⟨rfl, rfl⟩))
  go_ret2
  exact ⟨rfl, rfl⟩

end Go.Proofs.YtdlmdaononclgaaDoor

/- Centre. -/
namespace Go.Proofs.YtdlmdaononclgaaDoor
open Go.RowKit
set_option linter.unusedVariables false
set_option linter.unusedSimpArgs false

section
variable (xs ys : List Int) (A : Option Addr) (c : Nat) (A2 : Option Addr) (c2 : Nat) (hc : xs.length ≤ c) (hm : c ≤ 9223372036854775807) (hc2 : ys.length ≤ c2) (hm2 : c2 ≤ 9223372036854775807)
include hc hm hc2 hm2

theorem Area_is {a e0 : Int} (hr : areaR xs ys = (a, e0)) (w : World) {B : Nat} (hB : B ≤ w.heap.size) (h : RD w B A (ints xs)) (h2 : RD w B A2 (ints ys)) : Calls Tryd.prog 55 #[.slice A xs.length c, .slice A2 ys.length c2] w fun e w' => e = .returned (.tuple #[.int .i64 a, .int .i64 e0]) ∧ Below w.heap.size w w' := by
  have := Area_any xs ys A c A2 c2 hc hm hc2 hm2 w (h.more hB) (h2.more hB)
  rw [hr] at this
  exact this

set_option maxHeartbeats 2000000 in
theorem Centre_any (w : World) (h : RD w w.heap.size A (ints xs)) (h2 : RD w w.heap.size A2 (ints ys)) : Calls Tryd.prog 34 #[.slice A xs.length c, .slice A2 ys.length c2] w fun e w' => e = .returned (.tuple #[.agg #[.int .i64 (cenR xs ys).1, .int .i64 (cenR xs ys).2.1], .int .i64 (cenR xs ys).2.2]) ∧ Below w.heap.size w w' := by
  have hk : ∀ W, Below w.heap.size w W → RD W w.heap.size A (ints xs) ∧ RD W w.heap.size A2 (ints ys) := fun W hb => ⟨h.keep hb (Nat.le_refl _), h2.keep hb (Nat.le_refl _)⟩
  have HK := Lib.hid hk
  clear hk h h2
  rcases ordE_cases xs ys with he | he | he
  · obtain ⟨hP, hl, hy⟩ := ordE_zero he
    by_cases hz : dotK (weightsZ xs) ys xs.length = 0
    · have hr : areaR xs ys = (0, 0) := by simp [areaR, he, hz]
      have HR : Hid (cenR xs ys = (0, 0, 3)) := by show _ = _; simp [cenR, he, hz]
      have HQ := Lib.hid hr
      clear hr he hy hl hz
      go_enter Tryd.func34, Tryd.ntmps34
      go_wp2_with (first | (go_at_call 55; refine (Area_is xs ys A c A2 c2 hc hm hc2 hm2 HQ.out _ (by simp) (HK.out _ (by repeat' (first | (with_reducible exact Below.refl _ _) | (with_reducible assumption) | (refine below_step (by assumption) ?_ ?_) | (with_reducible refine below_drewN ?_ _) | (with_reducible refine Below.drew ?_) | (with_reducible refine Below.alloc ?_ ?_ _) | (with_reducible refine Below.setCell ?_ ?_ _) | go_size))).1 (HK.out _ (by repeat' (first | (with_reducible exact Below.refl _ _) | (with_reducible assumption) | (refine below_step (by assumption) ?_ ?_) | (with_reducible refine below_drewN ?_ _) | (with_reducible refine Below.drew ?_) | (with_reducible refine Below.alloc ?_ ?_ _) | (with_reducible refine Below.setCell ?_ ?_ _) | go_size))).2).mono ?_; rintro e w1 ⟨rfl, hb1⟩; obtain ⟨hc1, hf1⟩ := bcell hb1; have hz1 := hb1.size; simp only [World.size_alloc] at hz1; have z0 : w.heap.size < w1.heap.size := (by omega)))
      refine bodyPost_ret (by simp [results, Tryd.results34, go_sem, *]; try rfl) rfl ⟨?_, ?_⟩
      · rw [HR.out]
      · repeat' (first | (with_reducible exact Below.refl _ _) | (with_reducible assumption) | (refine below_step (by assumption) ?_ ?_) | (with_reducible refine below_drewN ?_ _) | (with_reducible refine Below.drew ?_) | (with_reducible refine Below.alloc ?_ ?_ _) | (with_reducible refine Below.setCell ?_ ?_ _) | go_size)
    · obtain ⟨a, ha⟩ : ∃ a, dotK (weightsZ xs) ys xs.length = a := ⟨_, rfl⟩
      obtain ⟨b0, b1⟩ := area_bd he
      obtain ⟨m0, m1⟩ := mom_bd (about := 0) he (by omega) (by omega)
      rw [ha] at b0 b1 hz
      have hr : areaR xs ys = (a, 0) := by simp [areaR, he, ha]
      have HR : Hid (cenR xs ys = mkR (dotK (weightsZ xs) (momL xs ys 0 xs.length) xs.length) a) := by show _ = _; simp [cenR, he, ha, hz]
      have HQ := Lib.hid hr
      have hmo : ∀ W, Below w.heap.size w W → Calls Tryd.prog 56 #[.slice A xs.length c, .slice A2 ys.length c2, .int .i64 0] W fun e w' => e = .returned (.int .i64 (dotK (weightsZ xs) (momL xs ys 0 xs.length) xs.length)) ∧ Below W.heap.size W w' := fun W hb =>
        moment_any xs ys A c A2 c2 0 hP hc hm W ((HK.out W hb).1.more hb.size) hl hc2 hy ((HK.out W hb).2.more hb.size) (by omega) (by omega)
      have HM := Lib.hid hmo
      have ez : (a == 0) = false := by simpa using hz
      have HZ := Lib.hid hz
      clear hr he hy hl hmo ha hz
      go_enter Tryd.func34, Tryd.ntmps34
      go_wp2_with (first | (go_at_call 55; refine (Area_is xs ys A c A2 c2 hc hm hc2 hm2 HQ.out _ (by simp) (HK.out _ (by repeat' (first | (with_reducible exact Below.refl _ _) | (with_reducible assumption) | (refine below_step (by assumption) ?_ ?_) | (with_reducible refine below_drewN ?_ _) | (with_reducible refine Below.drew ?_) | (with_reducible refine Below.alloc ?_ ?_ _) | (with_reducible refine Below.setCell ?_ ?_ _) | go_size))).1 (HK.out _ (by repeat' (first | (with_reducible exact Below.refl _ _) | (with_reducible assumption) | (refine below_step (by assumption) ?_ ?_) | (with_reducible refine below_drewN ?_ _) | (with_reducible refine Below.drew ?_) | (with_reducible refine Below.alloc ?_ ?_ _) | (with_reducible refine Below.setCell ?_ ?_ _) | go_size))).2).mono ?_; rintro e w1 ⟨rfl, hb1⟩; obtain ⟨hc1, hf1⟩ := bcell hb1; have hz1 := hb1.size; simp only [World.size_alloc] at hz1; have z0 : w.heap.size < w1.heap.size := (by omega)) | (go_at_call 56; refine (HM.out _ (by repeat' (first | (with_reducible exact Below.refl _ _) | (with_reducible assumption) | (refine below_step (by assumption) ?_ ?_) | (with_reducible refine below_drewN ?_ _) | (with_reducible refine Below.drew ?_) | (with_reducible refine Below.alloc ?_ ?_ _) | (with_reducible refine Below.setCell ?_ ?_ _) | go_size))).mono ?_; rintro e w2 ⟨rfl, hb2⟩; obtain ⟨hc2', hf2'⟩ := bcell hb2; have hz2 := hb2.size; have z1 : w.heap.size < w2.heap.size := (by omega)) | (go_at_call 31; refine (make_any _ _ (by omega) (by omega) (by omega) (by omega) _).mono ?_; rintro e w3 ⟨rfl, hb3⟩; obtain ⟨hc3', hf3'⟩ := bcell hb3; have hz3 := hb3.size; have z2 : w.heap.size < w3.heap.size := (by omega)))
      refine bodyPost_ret (by simp [results, Tryd.results34, go_sem, *]; try rfl) rfl ⟨?_, ?_⟩
      · rw [HR.out]
      · repeat' (first | (with_reducible exact Below.refl _ _) | (with_reducible assumption) | (refine below_step (by assumption) ?_ ?_) | (with_reducible refine below_drewN ?_ _) | (with_reducible refine Below.drew ?_) | (with_reducible refine Below.alloc ?_ ?_ _) | (with_reducible refine Below.setCell ?_ ?_ _) | go_size)
  · have hr : areaR xs ys = (0, 1) := by simp [areaR, he]
    have HR : Hid (cenR xs ys = (0, 0, 1)) := by show _ = _; simp [cenR, he]
    have HQ := Lib.hid hr
    clear hr he
    go_enter Tryd.func34, Tryd.ntmps34
    go_wp2_with (first | (go_at_call 55; refine (Area_is xs ys A c A2 c2 hc hm hc2 hm2 HQ.out _ (by simp) (HK.out _ (by repeat' (first | (with_reducible exact Below.refl _ _) | (with_reducible assumption) | (refine below_step (by assumption) ?_ ?_) | (with_reducible refine below_drewN ?_ _) | (with_reducible refine Below.drew ?_) | (with_reducible refine Below.alloc ?_ ?_ _) | (with_reducible refine Below.setCell ?_ ?_ _) | go_size))).1 (HK.out _ (by repeat' (first | (with_reducible exact Below.refl _ _) | (with_reducible assumption) | (refine below_step (by assumption) ?_ ?_) | (with_reducible refine below_drewN ?_ _) | (with_reducible refine Below.drew ?_) | (with_reducible refine Below.alloc ?_ ?_ _) | (with_reducible refine Below.setCell ?_ ?_ _) | go_size))).2).mono ?_; rintro e w1 ⟨rfl, hb1⟩; obtain ⟨hc1, hf1⟩ := bcell hb1; have hz1 := hb1.size; simp only [World.size_alloc] at hz1; have z0 : w.heap.size < w1.heap.size := (by omega)))
    refine bodyPost_ret (by simp [results, Tryd.results34, go_sem, *]; try rfl) rfl ⟨?_, ?_⟩
    · rw [HR.out]
    · repeat' (first | (with_reducible exact Below.refl _ _) | (with_reducible assumption) | (refine below_step (by assumption) ?_ ?_) | (with_reducible refine below_drewN ?_ _) | (with_reducible refine Below.drew ?_) | (with_reducible refine Below.alloc ?_ ?_ _) | (with_reducible refine Below.setCell ?_ ?_ _) | go_size)
  · have hr : areaR xs ys = (0, 12) := by simp [areaR, he]
    have HR : Hid (cenR xs ys = (0, 0, 12)) := by show _ = _; simp [cenR, he]
    have HQ := Lib.hid hr
    clear hr he
    go_enter Tryd.func34, Tryd.ntmps34
    go_wp2_with (first | (go_at_call 55; refine (Area_is xs ys A c A2 c2 hc hm hc2 hm2 HQ.out _ (by simp) (HK.out _ (by repeat' (first | (with_reducible exact Below.refl _ _) | (with_reducible assumption) | (refine below_step (by assumption) ?_ ?_) | (with_reducible refine below_drewN ?_ _) | (with_reducible refine Below.drew ?_) | (with_reducible refine Below.alloc ?_ ?_ _) | (with_reducible refine Below.setCell ?_ ?_ _) | go_size))).1 (HK.out _ (by repeat' (first | (with_reducible exact Below.refl _ _) | (with_reducible assumption) | (refine below_step (by assumption) ?_ ?_) | (with_reducible refine below_drewN ?_ _) | (with_reducible refine Below.drew ?_) | (with_reducible refine Below.alloc ?_ ?_ _) | (with_reducible refine Below.setCell ?_ ?_ _) | go_size))).2).mono ?_; rintro e w1 ⟨rfl, hb1⟩; obtain ⟨hc1, hf1⟩ := bcell hb1; have hz1 := hb1.size; simp only [World.size_alloc] at hz1; have z0 : w.heap.size < w1.heap.size := (by omega)))
    refine bodyPost_ret (by simp [results, Tryd.results34, go_sem, *]; try rfl) rfl ⟨?_, ?_⟩
    · rw [HR.out]
    · repeat' (first | (with_reducible exact Below.refl _ _) | (with_reducible assumption) | (refine below_step (by assumption) ?_ ?_) | (with_reducible refine below_drewN ?_ _) | (with_reducible refine Below.drew ?_) | (with_reducible refine Below.alloc ?_ ?_ _) | (with_reducible refine Below.setCell ?_ ?_ _) | go_size)
end

end Go.Proofs.YtdlmdaononclgaaDoor

/- isGrid and isTable. -/
namespace Go.Proofs.YtdlmdaononclgaaDoor
open Go.RowKit
set_option linter.unusedVariables false
set_option linter.unusedSimpArgs false

/-- outside of 0 .. 20000. -/
def badH (n : Int) : Bool := !within n 0 20000
theorem badH_pred : Pred 43 badH := by
  intro x W
  cases h : within x 0 20000 with
  | false =>
    go_enter Tryd.func43, Tryd.ntmps43
    go_wp2_with (go_at_call 44; (with_reducible refine (isWithin_is h _).mono ?_); rintro e w' ⟨rfl, rfl⟩)
    go_ret
    exact ⟨ret_bool (by simp [badH, h]), rfl⟩
  | true =>
    go_enter Tryd.func43, Tryd.ntmps43
    go_wp2_with (go_at_call 44; (with_reducible refine (isWithin_is h _).mono ?_); rintro e w' ⟨rfl, rfl⟩)
    go_ret
    exact ⟨ret_bool (by simp [badH, h]), rfl⟩

/-- are these the positions of a table? -/
def gridB (xs zs : List Int) : Bool := okP 9 100000 xs && okP 7 15000 zs
theorem isGrid_is {xs zs : List Int} {r : Bool} (hr : gridB xs zs = r) (A : Option Addr) (c : Nat) (A2 : Option Addr) (c2 : Nat) (hc : xs.length ≤ c) (hm : c ≤ 9223372036854775807) (hc2 : zs.length ≤ c2) (hm2 : c2 ≤ 9223372036854775807) (w : World) {B B2 : Nat} (h : RD w B A (ints xs)) (h2 : RD w B2 A2 (ints zs)) :
    Calls Tryd.prog 16 #[.slice A xs.length c, .slice A2 zs.length c2] w fun e w' => e = .returned (.bool r) ∧ w = w' := by
  cases h1 : okP 9 100000 xs with
  | false =>
    have e : r = false := by rw [← hr, gridB, h1]; rfl
    subst e
    clear hr
    go_enter Tryd.func16, Tryd.ntmps16
    go_wp2_with (go_at_call 35; (with_reducible refine (arePlaces_is h1 A c _ hc hm h).mono ?_); rintro e w' ⟨rfl, rfl⟩)
    go_ret
    exact ⟨rfl, rfl⟩
  | true =>
    have e : okP 7 15000 zs = r := by rw [← hr, gridB, h1]; rfl
    clear hr
    go_enter Tryd.func16, Tryd.ntmps16
    go_wp2_with (first | (go_at_call 35; (with_reducible refine (arePlaces_is h1 A c _ hc hm h).mono ?_); rintro e w' ⟨rfl, rfl⟩) | (go_at_call 35; (with_reducible refine (arePlaces_is e A2 c2 _ hc2 hm2 h2).mono ?_); rintro e w' ⟨rfl, rfl⟩))
    go_ret
    exact ⟨rfl, rfl⟩

/-- is a row of another length, or has it a wrong half? -/
def rowBad (m : Nat) (l : List Int) : Bool := !decide (l.length = m) || anyB badH l
/-- a table's box. -/
structure TBox (w : World) (q : Nat) (s1 s2 s3 : Value) : Prop where
  c0 : w.cell? ⟨q, 0, none⟩ = some s1
  c1 : w.cell? ⟨q, 1, none⟩ = some s2
  c2 : w.cell? ⟨q, 2, none⟩ = some s3
/-- a predicate on rows, in one world. -/
def PredR (g : Nat) (q : Nat) (p : List Int → Bool) (w : World) (B : Nat) : Prop :=
  ∀ (v : Value) (l : List Int) (b : Bool), p l = b → SL w B v l → Calls Tryd.prog g #[v, .pointer (some ⟨q, 0, none⟩)] w fun e w' => e = .returned (.bool b) ∧ w = w'

theorem PredR.at {g q : Nat} {p : List Int → Bool} {w : World} {B : Nat} (h : PredR g q p w B) {v : Value} {l : List Int} {b : Bool} (hq : p l = b) (hs : SL w B v l) :
    Calls Tryd.prog g #[v, .pointer (some ⟨q, 0, none⟩)] w fun e w' => e = .returned (.bool b) ∧ w = w' := h v l b hq hs

theorem rowBad_pred (q : Nat) (zs : List Int) (A2 : Option Addr) (c2 : Nat) (w : World) (B : Nat) (hq : w.cell? ⟨q, 1, none⟩ = some (.slice A2 zs.length c2)) : PredR 41 q (rowBad zs.length) w B := by
  rintro v l b hb ⟨A, c, rfl, hc, hm, h⟩
  have eg : ∀ args w, (callFunc 43 args).run Tryd.prog w = .ok (.enter 43 args) w := enters_of Tryd.func43 (by kernel_rfl) rfl
  have EG := Lib.hid eg
  clear eg
  by_cases hl : l.length = zs.length
  · have hr : anyB badH l = b := by rw [← hb, rowBad]; simp [hl]
    have e1 : (((l.length : Int) != (zs.length : Int)) = false) := by simp [hl]
    have HL := Lib.hid hl
    clear hl hb
    go_enter Tryd.func41, Tryd.ntmps41
    go_wp2_with (go_at_call 42; (with_reducible refine (ContainsFunc_is _ EG.out badH_pred hr A c _ hc hm h).mono ?_); rintro e w' ⟨rfl, rfl⟩)
    go_ret
    exact ⟨rfl, rfl⟩
  · have e : b = true := by rw [← hb, rowBad]; simp [hl]
    subst e
    have e1 := neq_beq hl
    have HL := Lib.hid hl
    clear hl hb
    go_enter Tryd.func41, Tryd.ntmps41
    go_wp2_with fail
    go_ret
    exact ⟨rfl, rfl⟩

/-- does p hold of some row? -/
def anyR (p : List Int → Bool) (rs : List (List Int)) : Bool := rs.any p
theorem anyR_no {p : List Int → Bool} {rs : List (List Int)} (h : ∀ j, j < rs.length → p (rx rs j) = false) : anyR p rs = false := by
  rw [anyR, List.any_eq_false]
  intro x hx
  obtain ⟨j, hj, rfl⟩ := List.getElem_of_mem hx
  have := h j hj
  simp only [rx, List.getD, List.getElem?_eq_getElem hj, Option.getD_some] at this
  simp [this]
theorem anyR_yes {p : List Int → Bool} {rs : List (List Int)} (j : Nat) (hj : j < rs.length) (h : p (rx rs j) = true) : anyR p rs = true := by
  rw [anyR, List.any_eq_true]
  refine ⟨rs[j], List.getElem_mem hj, ?_⟩
  simpa only [rx, List.getD, List.getElem?_eq_getElem hj, Option.getD_some] using h

def IdxPostR (p : List Int → Bool) (rs : List (List Int)) (w : World) (e : Ending) (w' : World) : Prop :=
  ∃ i : Int, e = .returned (.int .i64 i) ∧ w = w' ∧ decide (0 ≤ i) = anyR p rs

set_option maxHeartbeats 1000000 in
theorem IndexFuncR_any (g q : Nat) (eg : ∀ args w, (callFunc g args).run Tryd.prog w = .ok (.enter g args) w) (p : List Int → Bool) (w : World) {B : Nat} (hp : PredR g q p w B) (rs : List (List Int)) (vs : List Value) (A : Option Addr) (c : Nat) (hc : rs.length ≤ c) (hm : c ≤ 9223372036854775807) (h : RR w B A vs rs) :
    Calls Tryd.prog 61 #[.slice A rs.length c, .func (.func g) #[] #[.pointer (some ⟨q, 0, none⟩)]] w (IdxPostR p rs w) := by
  have HP := Lib.hid hp; clear hp
  have HR := Lib.hid h; clear h
  go_enter Tryd.func61, Tryd.ntmps61
  go_wp2
  go_loop [8] (fun x => ∃ k : Nat, k ≤ rs.length ∧ x = .int .i64 k ∧ ∀ j : Nat, j < k → p (rx rs j) = false) (fun x => rs.length - (intOf x).toNat)
  case atStart => exact ⟨0, by omega, rfl, fun j hj => by omega⟩
  case round =>
    obtain ⟨k, hk, rfl, hlt⟩ := hrel
    have HL := Lib.hid hlt; clear hlt
    by_cases hk' : k < rs.length
    · obtain ⟨b, off, rfl, hb, hcell⟩ := HR.out.cells (by omega)
      have y0 := hcell k (by omega)
      have hsl := HR.out.each k hk'
      have HS := Lib.hid hsl
      clear hcell hsl
      cases hq : p (rx rs k) with
      | true =>
        have HQ := Lib.hid hq
        go_wp2_with (go_at_fn g; (with_reducible refine (PredR.at HP.out HQ.out HS.out).mono ?_); rintro e w' ⟨rfl, rfl⟩)
        go_ret
        exact ⟨k, rfl, rfl, by rw [anyR_yes k hk' HQ.out]; exact decide_eq_true (by omega)⟩
      | false =>
        have HQ := Lib.hid hq
        go_wp2_with (go_at_fn g; (with_reducible refine (PredR.at HP.out HQ.out HS.out).mono ?_); rintro e w' ⟨rfl, rfl⟩)
        go_round
        case rel => exact ⟨k + 1, by omega, by go_num, fun j hj => (by rcases (by omega : j < k ∨ j = k) with h | rfl; exact HL.out j h; exact HQ.out)⟩
        case measure => simp [intOf]; omega
    · go_wp2
      go_ret
      exact ⟨-1, rfl, rfl, by rw [anyR_no (fun j hj => HL.out j (by omega))]; rfl⟩

theorem ContainsFuncR_is (g q : Nat) (eg : ∀ args w, (callFunc g args).run Tryd.prog w = .ok (.enter g args) w) {p : List Int → Bool} (w : World) {B : Nat} (hp : PredR g q p w B) {rs : List (List Int)} {r : Bool} (hr : anyR p rs = r) (vs : List Value) (A : Option Addr) (c : Nat) (hc : rs.length ≤ c) (hm : c ≤ 9223372036854775807) (h : RR w B A vs rs) :
    Calls Tryd.prog 40 #[.slice A rs.length c, .func (.func g) #[] #[.pointer (some ⟨q, 0, none⟩)]] w fun e w' => e = .returned (.bool r) ∧ w = w' := by
  have H := Lib.hid (IndexFuncR_any g q eg p w hp rs vs A c hc hm h)
  have HR := Lib.hid hr; clear hr hp h
  go_enter Tryd.func40, Tryd.ntmps40
  go_wp2_with (go_at_call 61; (with_reducible refine H.out.mono ?_); rintro e w' ⟨i, rfl, rfl, hi⟩; have HI := Lib.hid hi; clear hi)
  go_ret
  exact ⟨ret_bool (HI.out.trans HR.out), rfl⟩

/-- is it a valid table? -/
def tableB (xs zs : List Int) (rs : List (List Int)) : Bool := gridB xs zs && (decide (rs.length = xs.length) && !anyR (rowBad zs.length) rs)

/-- a table's parts as data: stations, waters, halves. -/
structure TD (w : World) (B : Nat) (xs zs : List Int) (rs : List (List Int)) (A1 : Option Addr) (c1 : Nat) (A2 : Option Addr) (c2 : Nat) (A3 : Option Addr) (c3 : Nat) (vs : List Value) : Prop where
  hc1 : xs.length ≤ c1
  hm1 : c1 ≤ 9223372036854775807
  rd1 : RD w B A1 (ints xs)
  hc2 : zs.length ≤ c2
  hm2 : c2 ≤ 9223372036854775807
  rd2 : RD w B A2 (ints zs)
  hc3 : rs.length ≤ c3
  hm3 : c3 ≤ 9223372036854775807
  rd3 : RR w B A3 vs rs
theorem TD.keep {w w' : World} {B B' : Nat} {xs zs : List Int} {rs : List (List Int)} {A1 A2 A3 : Option Addr} {c1 c2 c3 : Nat} {vs : List Value} (h : TD w B xs zs rs A1 c1 A2 c2 A3 c3 vs) (hb : Below B' w w') (hB : B ≤ B') : TD w' B xs zs rs A1 c1 A2 c2 A3 c3 vs :=
  ⟨h.hc1, h.hm1, h.rd1.keep hb hB, h.hc2, h.hm2, h.rd2.keep hb hB, h.hc3, h.hm3, h.rd3.keep hb hB⟩
theorem TD.more {w : World} {B B' : Nat} {xs zs : List Int} {rs : List (List Int)} {A1 A2 A3 : Option Addr} {c1 c2 c3 : Nat} {vs : List Value} (h : TD w B xs zs rs A1 c1 A2 c2 A3 c3 vs) (hB : B ≤ B') : TD w B' xs zs rs A1 c1 A2 c2 A3 c3 vs :=
  ⟨h.hc1, h.hm1, h.rd1.more hB, h.hc2, h.hm2, h.rd2.more hB, h.hc3, h.hm3, h.rd3.more hB⟩

set_option maxHeartbeats 1000000 in
theorem isTable_is {xs zs : List Int} {rs : List (List Int)} {r : Bool} (hr : tableB xs zs rs = r) (A1 : Option Addr) (c1 : Nat) (A2 : Option Addr) (c2 : Nat) (A3 : Option Addr) (c3 : Nat) (vs : List Value) (w : World) (h : TD w w.heap.size xs zs rs A1 c1 A2 c2 A3 c3 vs) :
    Calls Tryd.prog 20 #[.agg #[.slice A1 xs.length c1, .slice A2 zs.length c2, .slice A3 rs.length c3]] w fun e w' => e = .returned (.bool r) ∧ Below w.heap.size w w' := by
  have eg : ∀ args w, (callFunc 41 args).run Tryd.prog w = .ok (.enter 41 args) w := enters_of Tryd.func41 (by kernel_rfl) rfl
  have hmf : ∀ (fn : Fn) (first cap : Array Value) (w : World), (Instr.makeFunc fn first cap).run Tryd.prog w = .ok (.func fn first cap) w := fun _ _ _ _ => rfl
  have EG := Lib.hid eg
  have H := Lib.hid h
  clear eg h
  cases hg : gridB xs zs with
  | false =>
    have e : r = false := by rw [← hr, tableB, hg]; rfl
    subst e
    have HG := Lib.hid hg
    clear hr hg
    go_enter Tryd.func20, Tryd.ntmps20
    go_wp2_with (go_at_call 16; (with_reducible refine (isGrid_is HG.out A1 c1 A2 c2 H.out.hc1 H.out.hm1 H.out.hc2 H.out.hm2 _ (H.out.rd1.keep (by repeat' (first | (with_reducible exact Below.refl _ _) | (with_reducible assumption) | (refine below_step (by assumption) ?_ ?_) | (with_reducible refine below_drewN ?_ _) | (with_reducible refine Below.drew ?_) | (with_reducible refine Below.alloc ?_ ?_ _) | (with_reducible refine Below.setCell ?_ ?_ _) | go_size)) (Nat.le_refl _)) (H.out.rd2.keep (by repeat' (first | (with_reducible exact Below.refl _ _) | (with_reducible assumption) | (refine below_step (by assumption) ?_ ?_) | (with_reducible refine below_drewN ?_ _) | (with_reducible refine Below.drew ?_) | (with_reducible refine Below.alloc ?_ ?_ _) | (with_reducible refine Below.setCell ?_ ?_ _) | go_size)) (Nat.le_refl _))).mono ?_); rintro e w' ⟨rfl, rfl⟩)
    go_ret
    refine ⟨rfl, ?_⟩
    repeat' (first | (with_reducible exact Below.refl _ _) | (with_reducible assumption) | (refine below_step (by assumption) ?_ ?_) | (with_reducible refine below_drewN ?_ _) | (with_reducible refine Below.drew ?_) | (with_reducible refine Below.alloc ?_ ?_ _) | (with_reducible refine Below.setCell ?_ ?_ _) | go_size)
  | true =>
    have HG := Lib.hid hg
    by_cases hl : rs.length = xs.length
    · cases ha : anyR (rowBad zs.length) rs with
      | true =>
        have e : r = false := by rw [← hr, tableB, ha]; simp
        subst e
        have e1 : (((rs.length : Int) == (xs.length : Int)) = true) := by simp [hl]
        have HL := Lib.hid hl
        have HA := Lib.hid ha
        clear hr hg hl ha
        go_enter Tryd.func20, Tryd.ntmps20
        go_wp2_with (first | (go_at_call 16; (with_reducible refine (isGrid_is HG.out A1 c1 A2 c2 H.out.hc1 H.out.hm1 H.out.hc2 H.out.hm2 _ (H.out.rd1.keep (by repeat' (first | (with_reducible exact Below.refl _ _) | (with_reducible assumption) | (refine below_step (by assumption) ?_ ?_) | (with_reducible refine below_drewN ?_ _) | (with_reducible refine Below.drew ?_) | (with_reducible refine Below.alloc ?_ ?_ _) | (with_reducible refine Below.setCell ?_ ?_ _) | go_size)) (Nat.le_refl _)) (H.out.rd2.keep (by repeat' (first | (with_reducible exact Below.refl _ _) | (with_reducible assumption) | (refine below_step (by assumption) ?_ ?_) | (with_reducible refine below_drewN ?_ _) | (with_reducible refine Below.drew ?_) | (with_reducible refine Below.alloc ?_ ?_ _) | (with_reducible refine Below.setCell ?_ ?_ _) | go_size)) (Nat.le_refl _))).mono ?_); rintro e w' ⟨rfl, rfl⟩) | (go_at_call 40; (with_reducible refine (ContainsFuncR_is _ w.heap.size EG.out _ (rowBad_pred w.heap.size zs A2 c2 _ w.heap.size (by simp [go_sem])) HA.out vs A3 c3 H.out.hc3 H.out.hm3 (H.out.rd3.keep (by repeat' (first | (with_reducible exact Below.refl _ _) | (with_reducible assumption) | (refine below_step (by assumption) ?_ ?_) | (with_reducible refine below_drewN ?_ _) | (with_reducible refine Below.drew ?_) | (with_reducible refine Below.alloc ?_ ?_ _) | (with_reducible refine Below.setCell ?_ ?_ _) | go_size)) (Nat.le_refl _))).mono ?_); rintro e w' ⟨rfl, rfl⟩))
        go_ret
        refine ⟨rfl, ?_⟩
        repeat' (first | (with_reducible exact Below.refl _ _) | (with_reducible assumption) | (refine below_step (by assumption) ?_ ?_) | (with_reducible refine below_drewN ?_ _) | (with_reducible refine Below.drew ?_) | (with_reducible refine Below.alloc ?_ ?_ _) | (with_reducible refine Below.setCell ?_ ?_ _) | go_size)
      | false =>
        have e : r = true := by rw [← hr, tableB, ha, hg]; simp [hl]
        subst e
        have e1 : (((rs.length : Int) == (xs.length : Int)) = true) := by simp [hl]
        have HL := Lib.hid hl
        have HA := Lib.hid ha
        clear hr hg hl ha
        go_enter Tryd.func20, Tryd.ntmps20
        go_wp2_with (first | (go_at_call 16; (with_reducible refine (isGrid_is HG.out A1 c1 A2 c2 H.out.hc1 H.out.hm1 H.out.hc2 H.out.hm2 _ (H.out.rd1.keep (by repeat' (first | (with_reducible exact Below.refl _ _) | (with_reducible assumption) | (refine below_step (by assumption) ?_ ?_) | (with_reducible refine below_drewN ?_ _) | (with_reducible refine Below.drew ?_) | (with_reducible refine Below.alloc ?_ ?_ _) | (with_reducible refine Below.setCell ?_ ?_ _) | go_size)) (Nat.le_refl _)) (H.out.rd2.keep (by repeat' (first | (with_reducible exact Below.refl _ _) | (with_reducible assumption) | (refine below_step (by assumption) ?_ ?_) | (with_reducible refine below_drewN ?_ _) | (with_reducible refine Below.drew ?_) | (with_reducible refine Below.alloc ?_ ?_ _) | (with_reducible refine Below.setCell ?_ ?_ _) | go_size)) (Nat.le_refl _))).mono ?_); rintro e w' ⟨rfl, rfl⟩) | (go_at_call 40; (with_reducible refine (ContainsFuncR_is _ w.heap.size EG.out _ (rowBad_pred w.heap.size zs A2 c2 _ w.heap.size (by simp [go_sem])) HA.out vs A3 c3 H.out.hc3 H.out.hm3 (H.out.rd3.keep (by repeat' (first | (with_reducible exact Below.refl _ _) | (with_reducible assumption) | (refine below_step (by assumption) ?_ ?_) | (with_reducible refine below_drewN ?_ _) | (with_reducible refine Below.drew ?_) | (with_reducible refine Below.alloc ?_ ?_ _) | (with_reducible refine Below.setCell ?_ ?_ _) | go_size)) (Nat.le_refl _))).mono ?_); rintro e w' ⟨rfl, rfl⟩))
        go_ret
        refine ⟨rfl, ?_⟩
        repeat' (first | (with_reducible exact Below.refl _ _) | (with_reducible assumption) | (refine below_step (by assumption) ?_ ?_) | (with_reducible refine below_drewN ?_ _) | (with_reducible refine Below.drew ?_) | (with_reducible refine Below.alloc ?_ ?_ _) | (with_reducible refine Below.setCell ?_ ?_ _) | go_size)
    · have e : r = false := by rw [← hr, tableB]; simp [hl]
      subst e
      have e1 : (((rs.length : Int) == (xs.length : Int)) = false) := by simp; omega
      have HL := Lib.hid hl
      clear hr hg hl
      go_enter Tryd.func20, Tryd.ntmps20
      go_wp2_with (go_at_call 16; (with_reducible refine (isGrid_is HG.out A1 c1 A2 c2 H.out.hc1 H.out.hm1 H.out.hc2 H.out.hm2 _ (H.out.rd1.keep (by repeat' (first | (with_reducible exact Below.refl _ _) | (with_reducible assumption) | (refine below_step (by assumption) ?_ ?_) | (with_reducible refine below_drewN ?_ _) | (with_reducible refine Below.drew ?_) | (with_reducible refine Below.alloc ?_ ?_ _) | (with_reducible refine Below.setCell ?_ ?_ _) | go_size)) (Nat.le_refl _)) (H.out.rd2.keep (by repeat' (first | (with_reducible exact Below.refl _ _) | (with_reducible assumption) | (refine below_step (by assumption) ?_ ?_) | (with_reducible refine below_drewN ?_ _) | (with_reducible refine Below.drew ?_) | (with_reducible refine Below.alloc ?_ ?_ _) | (with_reducible refine Below.setCell ?_ ?_ _) | go_size)) (Nat.le_refl _))).mono ?_); rintro e w' ⟨rfl, rfl⟩)
      go_ret
      refine ⟨rfl, ?_⟩
      repeat' (first | (with_reducible exact Below.refl _ _) | (with_reducible assumption) | (refine below_step (by assumption) ?_ ?_) | (with_reducible refine below_drewN ?_ _) | (with_reducible refine Below.drew ?_) | (with_reducible refine Below.alloc ?_ ?_ _) | (with_reducible refine Below.setCell ?_ ?_ _) | go_size)

end Go.Proofs.YtdlmdaononclgaaDoor
