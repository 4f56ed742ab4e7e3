import Derived.Test.YtdlmdaononclgaaArea2
/- Weights, Area, Moment, Centre. -/
namespace Go.Proofs.Ytdlmdaononclgaa
open Go.RowKit
set_option linter.unusedVariables false
set_option linter.unusedSimpArgs false

theorem checkOrd_is {xs ys : List Int} {r : Int} (hr : ordE xs ys = r) (A : Option Addr) (c : Nat) (A2 : Option Addr) (c2 : Nat) (hc : xs.length ≤ c) (hm : c ≤ 9223372036854775807) (hc2 : ys.length ≤ c2) (hm2 : c2 ≤ 9223372036854775807) (w : World) {B B2 : Nat} (h : RD w B A (ints xs)) (h2 : RD w B2 A2 (ints ys)) :
    Calls Try.prog 64 #[.slice A xs.length c, .slice A2 ys.length c2] w fun e w' => e = .returned (.int .i64 r) ∧ w = w' := by
  subst hr; exact checkOrd_any xs ys A c A2 c2 hc hm hc2 hm2 w h h2

theorem ordE_cases (xs ys : List Int) : ordE xs ys = 0 ∨ ordE xs ys = 1 ∨ ordE xs ys = 12 := by
  unfold ordE; (repeat' split) <;> simp
theorem ordE_zero {xs ys : List Int} (h : ordE xs ys = 0) : OkP 9 100000 xs ∧ ys.length = xs.length ∧ ∀ j, -20000 ≤ ix ys j ∧ ix ys j ≤ 20000 := by
  unfold ordE at h
  split at h
  · rename_i hp
    split at h
    · rename_i hl
      split at h
      · cases h
      · rename_i ha
        refine ⟨okP_true hp, hl, fun j => ?_⟩
        by_cases hj : j < ys.length
        · cases hb : badO (ix ys j) with
          | true => exact absurd (anyB_yes j hj hb) ha
          | false =>
            simp only [badO, Bool.not_eq_false'] at hb
            exact within_true hb
        · rw [ix_out (by omega)]; omega
    · cases h
  · cases h

/-- what Area answers. -/
def areaR (xs ys : List Int) : Int × Int := if ordE xs ys = 0 then (dotK (weightsZ xs) ys xs.length, 0) else (0, ordE xs ys)
def momR (xs ys : List Int) (about : Int) : Int × Int := if ordE xs ys = 0 then (if within about 0 100000 = true then (dotK (weightsZ xs) (momL xs ys about xs.length) xs.length, 0) else (0, 1)) else (0, ordE xs ys)
def cenR (xs ys : List Int) : Int × Int × Int :=
  if ordE xs ys = 0 then (if dotK (weightsZ xs) ys xs.length = 0 then (0, 0, 3) else mkR (dotK (weightsZ xs) (momL xs ys 0 xs.length) xs.length) (dotK (weightsZ xs) ys xs.length)) else (0, 0, ordE xs ys)

theorem area_bd {xs ys : List Int} (h : ordE xs ys = 0) : -32400000000000 ≤ dotK (weightsZ xs) ys xs.length ∧ dotK (weightsZ xs) ys xs.length ≤ 32400000000000 := by
  obtain ⟨hP, hl, hy⟩ := ordE_zero h
  have := dotK_bd (ws := weightsZ xs) (ys := ys) (M := 180000000 * 20000) (by omega) (fun k => mulbd (weightsZ_bd hP (by omega) k) (hy k) (by omega) (by omega)) xs.length
  have := hP.many
  omega
theorem mom_bd {xs ys : List Int} {about : Int} (h : ordE xs ys = 0) (ab0 : 0 ≤ about) (ab1 : about ≤ 100000) : -3240000000000000000 ≤ dotK (weightsZ xs) (momL xs ys about xs.length) xs.length ∧ dotK (weightsZ xs) (momL xs ys about xs.length) xs.length ≤ 3240000000000000000 := by
  obtain ⟨hP, hl, hy⟩ := ordE_zero h
  have hq : ∀ j, -2000000000 ≤ ix (momL xs ys about xs.length) j ∧ ix (momL xs ys about xs.length) j ≤ 2000000000 := fun j => by
    by_cases hj : j < xs.length
    · rw [momL_ix _ _ _ _ _ hj]
      have a := hP.lo j hj
      have b := hP.hi' j hj
      have := mulbd (M := 20000) (N := 100000) (hy j) (show -100000 ≤ ix xs j - about ∧ ix xs j - about ≤ 100000 by omega) (by omega) (by omega)
      omega
    · rw [ix_out (by rw [momL_length]; omega)]; omega
  have := dotK_bd (ws := weightsZ xs) (ys := momL xs ys about xs.length) (M := 180000000 * 2000000000) (by omega) (fun k => mulbd (weightsZ_bd hP (by omega) k) (hq k) (by omega) (by omega)) xs.length
  have := hP.many
  omega

section
variable (xs ys : List Int) (A : Option Addr) (c : Nat) (A2 : Option Addr) (c2 : Nat) (hc : xs.length ≤ c) (hm : c ≤ 9223372036854775807) (hc2 : ys.length ≤ c2) (hm2 : c2 ≤ 9223372036854775807) (w : World) (h : RD w w.heap.size A (ints xs)) (h2 : RD w w.heap.size A2 (ints ys))
include hc hm hc2 hm2 h h2

set_option maxHeartbeats 1000000 in
theorem Area_any : Calls Try.prog 20 #[.slice A xs.length c, .slice A2 ys.length c2] w fun e w' => e = .returned (.tuple #[.int .i64 (areaR xs ys).1, .int .i64 (areaR xs ys).2]) ∧ Below w.heap.size w w' := by
  rcases ordE_cases xs ys with he | he | he
  · obtain ⟨hP, hl, hy⟩ := ordE_zero he
    have HA := Lib.hid (area_any xs ys A c A2 c2 hP hc hm w h hl hc2 (fun j => by have := hy j; omega) h2)
    have HR : Hid (areaR xs ys = (dotK (weightsZ xs) ys xs.length, 0)) := by show _ = _; simp only [areaR, he, if_true]
    have HE := Lib.hid he
    clear hy hl he
    go_enter Try.func20, Try.ntmps20
    go_wp2_with (first | (go_at_call 64; (with_reducible refine (checkOrd_is HE.out A c A2 c2 hc hm hc2 hm2 _ h h2).mono ?_); rintro e w' ⟨rfl, rfl⟩) | (go_at_call 65; (with_reducible refine (HA.out).mono ?_); rintro e w1 ⟨rfl, hb1⟩; obtain ⟨hc1, hf1⟩ := bcell hb1; have hz1 := hb1.size; (try simp only [World.size_alloc, World.size_setCell, World.size_drew, hsz_drewN] at hz1)))
    go_ret2
    rw [HR.out]
    exact ⟨rfl, hb1⟩
  · have HR : Hid (areaR xs ys = (0, 1)) := by show _ = _; simp [areaR, he]
    have HE := Lib.hid he
    clear he
    go_enter Try.func20, Try.ntmps20
    go_wp2_with (first | (go_at_call 64; (with_reducible refine (checkOrd_is HE.out A c A2 c2 hc hm hc2 hm2 _ h h2).mono ?_); rintro e w' ⟨rfl, rfl⟩))
    go_ret2
    rw [HR.out]
    exact ⟨rfl, Below.refl _ _⟩
  · have HR : Hid (areaR xs ys = (0, 12)) := by show _ = _; simp [areaR, he]
    have HE := Lib.hid he
    clear he
    go_enter Try.func20, Try.ntmps20
    go_wp2_with (first | (go_at_call 64; (with_reducible refine (checkOrd_is HE.out A c A2 c2 hc hm hc2 hm2 _ h h2).mono ?_); rintro e w' ⟨rfl, rfl⟩))
    go_ret2
    rw [HR.out]
    exact ⟨rfl, Below.refl _ _⟩

set_option maxHeartbeats 1000000 in
theorem Moment_any (about : Int) : Calls Try.prog 24 #[.slice A xs.length c, .slice A2 ys.length c2, .int .i64 about] w fun e w' => e = .returned (.tuple #[.int .i64 (momR xs ys about).1, .int .i64 (momR xs ys about).2]) ∧ Below w.heap.size w w' := by
  rcases ordE_cases xs ys with he | he | he
  · cases hw : within about 0 100000 with
    | true =>
      obtain ⟨ab0, ab1⟩ := within_true hw
      obtain ⟨hP, hl, hy⟩ := ordE_zero he
      have HA := Lib.hid (moment_any xs ys A c A2 c2 about hP hc hm w h hl hc2 hy h2 ab0 ab1)
      have HR : Hid (momR xs ys about = (dotK (weightsZ xs) (momL xs ys about xs.length) xs.length, 0)) := by show _ = _; simp only [momR, he, hw, if_true]
      have HE := Lib.hid he
      clear hy hl he
      go_enter Try.func24, Try.ntmps24
      go_wp2_with (first | (go_at_call 64; (with_reducible refine (checkOrd_is HE.out A c A2 c2 hc hm hc2 hm2 _ h h2).mono ?_); rintro e w' ⟨rfl, rfl⟩) | (go_at_call 71; (with_reducible refine (isWithin_is hw _).mono ?_); rintro e w' ⟨rfl, rfl⟩) | (go_at_call 66; (with_reducible refine (HA.out).mono ?_); rintro e w1 ⟨rfl, hb1⟩; obtain ⟨hc1, hf1⟩ := bcell hb1; have hz1 := hb1.size; (try simp only [World.size_alloc, World.size_setCell, World.size_drew, hsz_drewN] at hz1)))
      go_ret2
      rw [HR.out]
      exact ⟨rfl, hb1⟩
    | false =>
      have HR : Hid (momR xs ys about = (0, 1)) := by show _ = _; simp [momR, he, hw]
      have HE := Lib.hid he
      clear he
      go_enter Try.func24, Try.ntmps24
      go_wp2_with (first | (go_at_call 64; (with_reducible refine (checkOrd_is HE.out A c A2 c2 hc hm hc2 hm2 _ h h2).mono ?_); rintro e w' ⟨rfl, rfl⟩) | (go_at_call 71; (with_reducible refine (isWithin_is hw _).mono ?_); rintro e w' ⟨rfl, rfl⟩))
      go_ret2
      rw [HR.out]
      exact ⟨rfl, Below.refl _ _⟩
  · have HR : Hid (momR xs ys about = (0, 1)) := by show _ = _; simp [momR, he]
    have HE := Lib.hid he
    clear he
    go_enter Try.func24, Try.ntmps24
    go_wp2_with (first | (go_at_call 64; (with_reducible refine (checkOrd_is HE.out A c A2 c2 hc hm hc2 hm2 _ h h2).mono ?_); rintro e w' ⟨rfl, rfl⟩))
    go_ret2
    rw [HR.out]
    exact ⟨rfl, Below.refl _ _⟩
  · have HR : Hid (momR xs ys about = (0, 12)) := by show _ = _; simp [momR, he]
    have HE := Lib.hid he
    clear he
    go_enter Try.func24, Try.ntmps24
    go_wp2_with (first | (go_at_call 64; (with_reducible refine (checkOrd_is HE.out A c A2 c2 hc hm hc2 hm2 _ h h2).mono ?_); rintro e w' ⟨rfl, rfl⟩))
    go_ret2
    rw [HR.out]
    exact ⟨rfl, Below.refl _ _⟩

end

/-- what Weights hands back. -/
def WtPost (xs : List Int) (w : World) (e : Ending) (w' : World) : Prop :=
  (okP 9 100000 xs = true ∧ ∃ g, e = .returned (.tuple #[.slice (some ⟨g, 0, none⟩) (weightsZ xs).length (weightsZ xs).length, .int .i64 0]) ∧ w.heap.size ≤ g ∧ Arr w' g (weightsZ xs) ∧ Below w.heap.size w w') ∨
  (okP 9 100000 xs = false ∧ e = .returned (.tuple #[.slice none 0 0, .int .i64 12]) ∧ w = w')

set_option maxHeartbeats 1000000 in
theorem Weights_yes {xs : List Int} (hp : okP 9 100000 xs = true) (A : Option Addr) (c : Nat) (hc : xs.length ≤ c) (hm : c ≤ 9223372036854775807) (w : World) (h : RD w w.heap.size A (ints xs)) :
    Calls Try.prog 14 #[.slice A xs.length c] w fun e w' => ∃ g, e = .returned (.tuple #[.slice (some ⟨g, 0, none⟩) (weightsZ xs).length (weightsZ xs).length, .int .i64 0]) ∧ w.heap.size ≤ g ∧ Arr w' g (weightsZ xs) ∧ Below w.heap.size w w' := by
  have HA := Lib.hid (weights_any xs A c (okP_true hp) hc hm w h)
  go_enter Try.func14, Try.ntmps14
  go_wp2_with (first | (go_at_call 31; (with_reducible refine (CheckPlaces_yes hp A c _ hc hm h).mono ?_); rintro e w' ⟨rfl, rfl⟩) | (go_at_call 59; (with_reducible refine HA.out.mono ?_); rintro e w1 ⟨g, rfl, hg, har, hb1⟩))
  go_ret2
  exact ⟨g, rfl, hg, har, hb1⟩
theorem Weights_no {xs : List Int} (hp : okP 9 100000 xs = false) (A : Option Addr) (c : Nat) (hc : xs.length ≤ c) (hm : c ≤ 9223372036854775807) (w : World) (h : RD w w.heap.size A (ints xs)) :
    Calls Try.prog 14 #[.slice A xs.length c] w fun e w' => e = .returned (.tuple #[.slice none 0 0, .int .i64 12]) ∧ w = w' := by
  go_enter Try.func14, Try.ntmps14
  go_wp2_with (first | (go_at_call 31; (with_reducible refine (CheckPlaces_no hp A c _ hc hm h).mono ?_); rintro e w' ⟨rfl, rfl⟩))
  go_ret2
  exact ⟨rfl, rfl⟩

end Go.Proofs.Ytdlmdaononclgaa
